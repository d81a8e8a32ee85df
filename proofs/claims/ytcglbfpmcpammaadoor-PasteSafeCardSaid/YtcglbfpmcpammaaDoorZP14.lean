/- P: texts run together by shake.py: Gclavierref02a UtT UtU UtW RdB UtX. -/
import Derived.ArgAppend
import Derived.Below
import Derived.BigQuiet
import Derived.Deep.AppendLies
import Derived.Deep.CutBlock
import Derived.Deep.DeepCutAuto
import Derived.Deep.Draws
import Derived.Deep.LoopGhost
import Derived.Deep.OwnRows
import Derived.Deep.Quiet
import Derived.Deep.QuietTactic
import Derived.Deep.RegionHeld3
import Derived.KernelRfl
import Derived.Laws.AppendOwn
import Derived.Laws.AppendOwnNone
import Derived.Laws.BitsLemmas
import Derived.Laws.BytesArg
import Derived.Laws.Concat
import Derived.Laws.CopyRow
import Derived.Laws.IdiomCopy
import Derived.Laws.IdiomStrings
import Derived.Laws.MakeOwn
import Derived.Laws.OwnMore
import Derived.Laws.Rows
import Derived.Laws.Slices
import Derived.Laws.StructEq
import Derived.Laws.Tables
import Derived.Lib.AppendIntMem
import Derived.Lib.AppendStr
import Derived.Lib.ConvBytes
import Derived.Lib.Hide
import Derived.Lib.ItoaLen
import Derived.Lib.ItoaNum
import Derived.Lib.LaidTab
import Derived.Lib.OthersKept
import Derived.Lib.TrimU
import Derived.MapKept
import Derived.Maps.AppendAt
import Derived.Orders
import Derived.OrdersHeld
import Derived.OrdersIn
import Derived.OwnWalk
import Derived.RangeFuncCalls
import Derived.RangeFuncNested
import Derived.RangeFuncWrites
import Derived.RowKit
import Derived.RowKit3
import Derived.Shelf.Bytes.SlEqualAll
import Derived.Shelf.Bytes.SlSearch0
import Derived.Shelf.Bytes.SlSmallAll
import Derived.Shelf.Bytes.Small
import Derived.Shelf.LaysM
import Derived.Shelf.Slices.Empties2
import Derived.Shelf.Slices.Equal
import Derived.Shelf.Small.Strs
import Derived.Shelf.Small.Utf8
import Derived.Shelf.Strconv.Itoa0
import Derived.Shelf.Strconv.Itoa1
import Derived.Shelf.Strconv.Itoa2
import Derived.Shelf.Strconv.Itoa3
import Derived.Shelf.Strings.Builder1
import Derived.Shelf.Strings.Builder2
import Derived.Shelf.Strings.Builder2Cap
import Derived.Shelf.Strings.BuilderCap
import Derived.Shelf.Strings.BuilderF
import Derived.Shelf.Strings.BuilderK
import Derived.Shelf.Strings.OnBuilder
import Derived.Shelf.Strings.Runes
import Derived.Shelf.Strings.Search1
import Derived.Still
import Derived.Tactics
import Derived.TacticsIn
import Derived.Test.YtcglbfpmcpammaaDoorProg
import Derived.WalkKit
import Derived.WideLaws
import Derived.Test.YtcglbfpmcpammaaDoorZP1
import Derived.Test.YtcglbfpmcpammaaDoorZP2
section
namespace Go.Proofs.YtcglbfpmcpammaaDoor.G
open Go.RowKit Go.Proofs.YtcglbfpmcpammaaDoorW.PrintWords Go.Proofs.YtcglbfpmcpammaaDoorW.PrintLast Go.Proofs.YtcglbfpmcpammaaDoorW.PrintMore
attribute [local go_sem] max2_int min2_int max_two min_two max_three min_three max_four min_four
set_option linter.unusedVariables false
set_option linter.unusedSimpArgs false
def clavierref02_guess.f (l0 : List Int) (a1 : Int) : Option (Int) := if a1 = 1 then (if 0 < (l0.length : Int) then (some (wrap64 (rd l0 0))) else (none)) else (if a1 = 2 then (if 0 < (l0.length : Int) then (if 1 < (l0.length : Int) then (some (((((rd l0 0) - 192) % 256) * 64) + (((rd l0 1) - 128) % 256))) else (none)) else (none)) else (if a1 = 3 then (if 0 < (l0.length : Int) then (if 1 < (l0.length : Int) then (if 2 < (l0.length : Int) then (some ((((((rd l0 0) - 224) % 256) * 4096) + ((((rd l0 1) - 128) % 256) * 64)) + (((rd l0 2) - 128) % 256))) else (none)) else (none)) else (none)) else (if 0 < (l0.length : Int) then (if 1 < (l0.length : Int) then (if 2 < (l0.length : Int) then (if 3 < (l0.length : Int) then (some (((((((rd l0 0) - 240) % 256) * 262144) + ((((rd l0 1) - 128) % 256) * 4096)) + ((((rd l0 2) - 128) % 256) * 64)) + (((rd l0 3) - 128) % 256))) else (none)) else (none)) else (none)) else (none))))
set_option maxHeartbeats 8000000 in
set_option maxRecDepth 100000 in
theorem clavierref02_guess.calls (A0 : Option Addr) (c0 : Nat) (l0 : List Int) (a1 : Int) (r : Int) (w : World) (hr0 : Kd.C (Kd.int .u8) w A0 l0.length l0) (hc0 : l0.length ≤ c0) (h : clavierref02_guess.f l0 a1 = some r) :
    Calls Tryd.prog 34 #[.slice A0 l0.length c0, .int .i64 a1] w fun e w' => e = .returned (.int .i64 r) ∧ Drawn0 w w' := by
  have HR0 := Aside0.mk hr0
  have HC0 := Aside0.mk hc0
  clear hr0 hc0
  have H : (if a1 = 1 then (if 0 < (l0.length : Int) then (some (wrap64 (rd l0 0))) else (none)) else (if a1 = 2 then (if 0 < (l0.length : Int) then (if 1 < (l0.length : Int) then (some (((((rd l0 0) - 192) % 256) * 64) + (((rd l0 1) - 128) % 256))) else (none)) else (none)) else (if a1 = 3 then (if 0 < (l0.length : Int) then (if 1 < (l0.length : Int) then (if 2 < (l0.length : Int) then (some ((((((rd l0 0) - 224) % 256) * 4096) + ((((rd l0 1) - 128) % 256) * 64)) + (((rd l0 2) - 128) % 256))) else (none)) else (none)) else (none)) else (if 0 < (l0.length : Int) then (if 1 < (l0.length : Int) then (if 2 < (l0.length : Int) then (if 3 < (l0.length : Int) then (some (((((((rd l0 0) - 240) % 256) * 262144) + ((((rd l0 1) - 128) % 256) * 4096)) + ((((rd l0 2) - 128) % 256) * 64)) + (((rd l0 3) - 128) % 256))) else (none)) else (none)) else (none)) else (none))))) = some r := h
  clear h
  by_cases c3 : a1 = 1
  · rw [if_pos c3] at H
    have c3b0 : (a1 == 1) = true := beq_iff_eq.mpr c3
    have c3b1 : (a1 != 1) = false := bne_eq_false_iff_eq.mpr c3
    clear c3
    by_cases c4 : 0 < (l0.length : Int)
    · rw [if_pos c4] at H
      have c4b0 : decide (0 < (l0.length : Int)) = true := decide_eq_true c4
      have c4b1 : decide (0 < l0.length) = true := decide_eq_true (by omega)
      clear c4
      obtain rfl := Option.some.inj H
      have p230 : 0 ≤ (0 : Int) := (by omega)
      have q230 : 0 < (l0.length : Int) := of_decide_eq_true (by first | (with_reducible assumption) | assumption)
      obtain ⟨ad230, e230, hx230_0⟩ := Kd.at_int HR0.out 0 p230 q230
      cases e230
      have qi230 : (0 < l0.length) = True := eq_true (by omega)
      (try rw [show ((0 : Int)).toNat = 0 from rfl] at hx230_0)
      (try rw [Addr.add_zero'] at hx230_0)
      replace p230 := eq_true p230
      replace q230 := eq_true q230
      go_enter Tryd.func34, Tryd.ntmps34
      go_wp2
      repeat (go_quiet (fail); try go_wp2)
      go_ret
      exact ⟨by first | rfl | (simp; done) | (simp [*]; done), by repeat (first | exact Drawn0.refl _ | apply Drawn0.step)⟩
    · rw [if_neg c4] at H
      exact absurd H (by simp)
  · rw [if_neg c3] at H
    have c3b0 : (a1 == 1) = false := beq_eq_false_iff_ne.mpr c3
    have c3b1 : (a1 != 1) = true := bne_iff_ne.mpr c3
    by_cases c5 : a1 = 2
    · rw [if_pos c5] at H
      have c5b0 : (a1 == 2) = true := beq_iff_eq.mpr c5
      have c5b1 : (a1 != 2) = false := bne_eq_false_iff_eq.mpr c5
      clear c5
      by_cases c6 : 0 < (l0.length : Int)
      · rw [if_pos c6] at H
        have c6b0 : decide (0 < (l0.length : Int)) = true := decide_eq_true c6
        have c6b1 : decide (0 < l0.length) = true := decide_eq_true (by omega)
        clear c6
        by_cases c7 : 1 < (l0.length : Int)
        · rw [if_pos c7] at H
          have c7b0 : decide (1 < (l0.length : Int)) = true := decide_eq_true c7
          have c7b1 : decide (1 < l0.length) = true := decide_eq_true (by omega)
          clear c7
          obtain rfl := Option.some.inj H
          have p231 : 0 ≤ (0 : Int) := (by omega)
          have q231 : 0 < (l0.length : Int) := of_decide_eq_true (by first | (with_reducible assumption) | assumption)
          obtain ⟨ad231, e231, hx231_0⟩ := Kd.at_int HR0.out 0 p231 q231
          cases e231
          have qi231 : (0 < l0.length) = True := eq_true (by omega)
          (try rw [show ((0 : Int)).toNat = 0 from rfl] at hx231_0)
          (try rw [Addr.add_zero'] at hx231_0)
          replace p231 := eq_true p231
          replace q231 := eq_true q231
          have p232 : 0 ≤ (1 : Int) := (by omega)
          have q232 : 1 < (l0.length : Int) := of_decide_eq_true (by first | (with_reducible assumption) | assumption)
          obtain ⟨ad232, e232, hx232_0⟩ := Kd.at_int HR0.out 1 p232 q232
          obtain rfl : ad231 = ad232 := (by injection e232)
          (try simp only [show (1 : Int).toNat = 1 from rfl, Nat.reduceMul, Nat.reduceEqDiff, Go.Addr.add, ↓reduceIte] at hx232_0)
          have qi232 : (1 < l0.length) = True := eq_true (by omega)
          (try rw [show ((1 : Int)).toNat = 1 from rfl] at hx232_0)
          replace p232 := eq_true p232
          replace q232 := eq_true q232
          go_enter Tryd.func34, Tryd.ntmps34
          go_wp2
          repeat (go_quiet (fail); try go_wp2)
          go_ret
          exact ⟨by first | rfl | (simp; done) | (simp [*]; done), by repeat (first | exact Drawn0.refl _ | apply Drawn0.step)⟩
        · rw [if_neg c7] at H
          exact absurd H (by simp)
      · rw [if_neg c6] at H
        exact absurd H (by simp)
    · rw [if_neg c5] at H
      have c5b0 : (a1 == 2) = false := beq_eq_false_iff_ne.mpr c5
      have c5b1 : (a1 != 2) = true := bne_iff_ne.mpr c5
      by_cases c8 : a1 = 3
      · rw [if_pos c8] at H
        have c8b0 : (a1 == 3) = true := beq_iff_eq.mpr c8
        have c8b1 : (a1 != 3) = false := bne_eq_false_iff_eq.mpr c8
        clear c8
        by_cases c9 : 0 < (l0.length : Int)
        · rw [if_pos c9] at H
          have c9b0 : decide (0 < (l0.length : Int)) = true := decide_eq_true c9
          have c9b1 : decide (0 < l0.length) = true := decide_eq_true (by omega)
          clear c9
          by_cases c10 : 1 < (l0.length : Int)
          · rw [if_pos c10] at H
            have c10b0 : decide (1 < (l0.length : Int)) = true := decide_eq_true c10
            have c10b1 : decide (1 < l0.length) = true := decide_eq_true (by omega)
            clear c10
            by_cases c11 : 2 < (l0.length : Int)
            · rw [if_pos c11] at H
              have c11b0 : decide (2 < (l0.length : Int)) = true := decide_eq_true c11
              have c11b1 : decide (2 < l0.length) = true := decide_eq_true (by omega)
              clear c11
              obtain rfl := Option.some.inj H
              have p233 : 0 ≤ (0 : Int) := (by omega)
              have q233 : 0 < (l0.length : Int) := of_decide_eq_true (by first | (with_reducible assumption) | assumption)
              obtain ⟨ad233, e233, hx233_0⟩ := Kd.at_int HR0.out 0 p233 q233
              cases e233
              have qi233 : (0 < l0.length) = True := eq_true (by omega)
              (try rw [show ((0 : Int)).toNat = 0 from rfl] at hx233_0)
              (try rw [Addr.add_zero'] at hx233_0)
              replace p233 := eq_true p233
              replace q233 := eq_true q233
              have p234 : 0 ≤ (1 : Int) := (by omega)
              have q234 : 1 < (l0.length : Int) := of_decide_eq_true (by first | (with_reducible assumption) | assumption)
              obtain ⟨ad234, e234, hx234_0⟩ := Kd.at_int HR0.out 1 p234 q234
              obtain rfl : ad233 = ad234 := (by injection e234)
              (try simp only [show (1 : Int).toNat = 1 from rfl, Nat.reduceMul, Nat.reduceEqDiff, Go.Addr.add, ↓reduceIte] at hx234_0)
              have qi234 : (1 < l0.length) = True := eq_true (by omega)
              (try rw [show ((1 : Int)).toNat = 1 from rfl] at hx234_0)
              replace p234 := eq_true p234
              replace q234 := eq_true q234
              have p235 : 0 ≤ (2 : Int) := (by omega)
              have q235 : 2 < (l0.length : Int) := of_decide_eq_true (by first | (with_reducible assumption) | assumption)
              obtain ⟨ad235, e235, hx235_0⟩ := Kd.at_int HR0.out 2 p235 q235
              obtain rfl : ad233 = ad235 := (by injection e235)
              (try simp only [show (2 : Int).toNat = 2 from rfl, Nat.reduceMul, Nat.reduceEqDiff, Go.Addr.add, ↓reduceIte] at hx235_0)
              have qi235 : (2 < l0.length) = True := eq_true (by omega)
              (try rw [show ((2 : Int)).toNat = 2 from rfl] at hx235_0)
              replace p235 := eq_true p235
              replace q235 := eq_true q235
              go_enter Tryd.func34, Tryd.ntmps34
              go_wp2
              repeat (go_quiet (fail); try go_wp2)
              go_ret
              exact ⟨by first | rfl | (simp; done) | (simp [*]; done), by repeat (first | exact Drawn0.refl _ | apply Drawn0.step)⟩
            · rw [if_neg c11] at H
              exact absurd H (by simp)
          · rw [if_neg c10] at H
            exact absurd H (by simp)
        · rw [if_neg c9] at H
          exact absurd H (by simp)
      · rw [if_neg c8] at H
        have c8b0 : (a1 == 3) = false := beq_eq_false_iff_ne.mpr c8
        have c8b1 : (a1 != 3) = true := bne_iff_ne.mpr c8
        by_cases c12 : 0 < (l0.length : Int)
        · rw [if_pos c12] at H
          have c12b0 : decide (0 < (l0.length : Int)) = true := decide_eq_true c12
          have c12b1 : decide (0 < l0.length) = true := decide_eq_true (by omega)
          clear c12
          by_cases c13 : 1 < (l0.length : Int)
          · rw [if_pos c13] at H
            have c13b0 : decide (1 < (l0.length : Int)) = true := decide_eq_true c13
            have c13b1 : decide (1 < l0.length) = true := decide_eq_true (by omega)
            clear c13
            by_cases c14 : 2 < (l0.length : Int)
            · rw [if_pos c14] at H
              have c14b0 : decide (2 < (l0.length : Int)) = true := decide_eq_true c14
              have c14b1 : decide (2 < l0.length) = true := decide_eq_true (by omega)
              clear c14
              by_cases c15 : 3 < (l0.length : Int)
              · rw [if_pos c15] at H
                have c15b0 : decide (3 < (l0.length : Int)) = true := decide_eq_true c15
                have c15b1 : decide (3 < l0.length) = true := decide_eq_true (by omega)
                clear c15
                obtain rfl := Option.some.inj H
                have p236 : 0 ≤ (0 : Int) := (by omega)
                have q236 : 0 < (l0.length : Int) := of_decide_eq_true (by first | (with_reducible assumption) | assumption)
                obtain ⟨ad236, e236, hx236_0⟩ := Kd.at_int HR0.out 0 p236 q236
                cases e236
                have qi236 : (0 < l0.length) = True := eq_true (by omega)
                (try rw [show ((0 : Int)).toNat = 0 from rfl] at hx236_0)
                (try rw [Addr.add_zero'] at hx236_0)
                replace p236 := eq_true p236
                replace q236 := eq_true q236
                have p237 : 0 ≤ (1 : Int) := (by omega)
                have q237 : 1 < (l0.length : Int) := of_decide_eq_true (by first | (with_reducible assumption) | assumption)
                obtain ⟨ad237, e237, hx237_0⟩ := Kd.at_int HR0.out 1 p237 q237
                obtain rfl : ad236 = ad237 := (by injection e237)
                (try simp only [show (1 : Int).toNat = 1 from rfl, Nat.reduceMul, Nat.reduceEqDiff, Go.Addr.add, ↓reduceIte] at hx237_0)
                have qi237 : (1 < l0.length) = True := eq_true (by omega)
                (try rw [show ((1 : Int)).toNat = 1 from rfl] at hx237_0)
                replace p237 := eq_true p237
                replace q237 := eq_true q237
                have p238 : 0 ≤ (2 : Int) := (by omega)
                have q238 : 2 < (l0.length : Int) := of_decide_eq_true (by first | (with_reducible assumption) | assumption)
                obtain ⟨ad238, e238, hx238_0⟩ := Kd.at_int HR0.out 2 p238 q238
                obtain rfl : ad236 = ad238 := (by injection e238)
                (try simp only [show (2 : Int).toNat = 2 from rfl, Nat.reduceMul, Nat.reduceEqDiff, Go.Addr.add, ↓reduceIte] at hx238_0)
                have qi238 : (2 < l0.length) = True := eq_true (by omega)
                (try rw [show ((2 : Int)).toNat = 2 from rfl] at hx238_0)
                replace p238 := eq_true p238
                replace q238 := eq_true q238
                have p239 : 0 ≤ (3 : Int) := (by omega)
                have q239 : 3 < (l0.length : Int) := of_decide_eq_true (by first | (with_reducible assumption) | assumption)
                obtain ⟨ad239, e239, hx239_0⟩ := Kd.at_int HR0.out 3 p239 q239
                obtain rfl : ad236 = ad239 := (by injection e239)
                (try simp only [show (3 : Int).toNat = 3 from rfl, Nat.reduceMul, Nat.reduceEqDiff, Go.Addr.add, ↓reduceIte] at hx239_0)
                have qi239 : (3 < l0.length) = True := eq_true (by omega)
                (try rw [show ((3 : Int)).toNat = 3 from rfl] at hx239_0)
                replace p239 := eq_true p239
                replace q239 := eq_true q239
                go_enter Tryd.func34, Tryd.ntmps34
                go_wp2
                repeat (go_quiet (fail); try go_wp2)
                go_ret
                exact ⟨by first | rfl | (simp; done) | (simp [*]; done), by repeat (first | exact Drawn0.refl _ | apply Drawn0.step)⟩
              · rw [if_neg c15] at H
                exact absurd H (by simp)
            · rw [if_neg c14] at H
              exact absurd H (by simp)
          · rw [if_neg c13] at H
            exact absurd H (by simp)
        · rw [if_neg c12] at H
          exact absurd H (by simp)
def clavierref02_Is.f (a0 : Int) : Option (Bool) := if a0 ≥ 0 then (if a0 ≤ 1114111 then (if a0 < 55296 then (some true) else (some (decide (a0 > 57343)))) else (some false)) else (some false)
set_option maxHeartbeats 8000000 in
set_option maxRecDepth 100000 in
theorem clavierref02_Is.calls (a0 : Int) (r : Bool) (w : World) (h : clavierref02_Is.f a0 = some r) :
    Calls Tryd.prog 44 #[.int .i64 a0] w fun e w' => e = .returned (.bool r) ∧ Drawn0 w w' := by
  have H : (if a0 ≥ 0 then (if a0 ≤ 1114111 then (if a0 < 55296 then (some true) else (some (decide (a0 > 57343)))) else (some false)) else (some false)) = some r := h
  clear h
  by_cases c2 : a0 ≥ 0
  · rw [if_pos c2] at H
    have c2b0 : decide (0 ≤ a0) = true := decide_eq_true c2
    clear c2
    by_cases c3 : a0 ≤ 1114111
    · rw [if_pos c3] at H
      have c3b0 : decide (a0 ≤ 1114111) = true := decide_eq_true c3
      clear c3
      by_cases c4 : a0 < 55296
      · rw [if_pos c4] at H
        have c4b0 : decide (a0 < 55296) = true := decide_eq_true c4
        clear c4
        obtain rfl := Option.some.inj H
        go_enter Tryd.func44, Tryd.ntmps44
        go_wp2
        go_ret
        exact ⟨by first | rfl | (simp; done) | (simp [*]; done), by repeat (first | exact Drawn0.refl _ | apply Drawn0.step)⟩
      · rw [if_neg c4] at H
        have c4b0 : decide (a0 < 55296) = false := decide_eq_false c4
        clear c4
        obtain rfl := Option.some.inj H
        go_enter Tryd.func44, Tryd.ntmps44
        go_wp2
        go_ret
        exact ⟨by first | rfl | (simp; done) | (simp [*]; done), by repeat (first | exact Drawn0.refl _ | apply Drawn0.step)⟩
    · rw [if_neg c3] at H
      have c3b0 : decide (a0 ≤ 1114111) = false := decide_eq_false c3
      clear c3
      obtain rfl := Option.some.inj H
      go_enter Tryd.func44, Tryd.ntmps44
      go_wp2
      go_ret
      exact ⟨by first | rfl | (simp; done) | (simp [*]; done), by repeat (first | exact Drawn0.refl _ | apply Drawn0.step)⟩
  · rw [if_neg c2] at H
    have c2b0 : decide (0 ≤ a0) = false := decide_eq_false c2
    clear c2
    obtain rfl := Option.some.inj H
    go_enter Tryd.func44, Tryd.ntmps44
    go_wp2
    go_ret
    exact ⟨by first | rfl | (simp; done) | (simp [*]; done), by repeat (first | exact Drawn0.refl _ | apply Drawn0.step)⟩
def clavierref02_Put.f (a0 : Int) : Option (List Int) := (clavierref02_Is.f a0).bind fun t240 => (if t240 = true then (if a0 < 128 then (some (([(a0) % 256] : List Int))) else (if a0 < 2048 then (some (([(wrap64 (192 + (wrap64 (Int.tdiv a0 64)))) % 256, (wrap64 (128 + (Int.tmod a0 64))) % 256] : List Int))) else (if a0 < 65536 then (some (([(wrap64 (224 + (wrap64 (Int.tdiv a0 4096)))) % 256, (wrap64 (128 + (Int.tmod (wrap64 (Int.tdiv a0 64)) 64))) % 256, (wrap64 (128 + (Int.tmod a0 64))) % 256] : List Int))) else (some (([(wrap64 (240 + (wrap64 (Int.tdiv a0 262144)))) % 256, (wrap64 (128 + (Int.tmod (wrap64 (Int.tdiv a0 4096)) 64))) % 256, (wrap64 (128 + (Int.tmod (wrap64 (Int.tdiv a0 64)) 64))) % 256, (wrap64 (128 + (Int.tmod a0 64))) % 256] : List Int)))))) else (some ([] : List Int)))
set_option maxHeartbeats 8000000 in
set_option maxRecDepth 100000 in
theorem clavierref02_Put.calls (a0 : Int) (r : List Int) (w : World) (h : clavierref02_Put.f a0 = some r) :
    Calls Tryd.prog 35 #[.int .i64 a0] w fun e w' => ∃ v0_ : Value, e = .returned (v0_) ∧ Kd.R (Kd.int .u8) 5 w' w.heap.size (fun _ => True) v0_ r ∧ Below w.heap.size w w' := by
  have HB := Aside0.mk (Below.refl w.heap.size w)
  have H : ((clavierref02_Is.f a0).bind fun t240 => (if t240 = true then (if a0 < 128 then (some (([(a0) % 256] : List Int))) else (if a0 < 2048 then (some (([(wrap64 (192 + (wrap64 (Int.tdiv a0 64)))) % 256, (wrap64 (128 + (Int.tmod a0 64))) % 256] : List Int))) else (if a0 < 65536 then (some (([(wrap64 (224 + (wrap64 (Int.tdiv a0 4096)))) % 256, (wrap64 (128 + (Int.tmod (wrap64 (Int.tdiv a0 64)) 64))) % 256, (wrap64 (128 + (Int.tmod a0 64))) % 256] : List Int))) else (some (([(wrap64 (240 + (wrap64 (Int.tdiv a0 262144)))) % 256, (wrap64 (128 + (Int.tmod (wrap64 (Int.tdiv a0 4096)) 64))) % 256, (wrap64 (128 + (Int.tmod (wrap64 (Int.tdiv a0 64)) 64))) % 256, (wrap64 (128 + (Int.tmod a0 64))) % 256] : List Int)))))) else (some ([] : List Int)))) = some r := h
  clear h
  replace H := Option.bind_eq_some_iff.mp H
  obtain ⟨t240, A20, H⟩ := H
  replace H : (if t240 = true then (if a0 < 128 then (some (([(a0) % 256] : List Int))) else (if a0 < 2048 then (some (([(wrap64 (192 + (wrap64 (Int.tdiv a0 64)))) % 256, (wrap64 (128 + (Int.tmod a0 64))) % 256] : List Int))) else (if a0 < 65536 then (some (([(wrap64 (224 + (wrap64 (Int.tdiv a0 4096)))) % 256, (wrap64 (128 + (Int.tmod (wrap64 (Int.tdiv a0 64)) 64))) % 256, (wrap64 (128 + (Int.tmod a0 64))) % 256] : List Int))) else (some (([(wrap64 (240 + (wrap64 (Int.tdiv a0 262144)))) % 256, (wrap64 (128 + (Int.tmod (wrap64 (Int.tdiv a0 4096)) 64))) % 256, (wrap64 (128 + (Int.tmod (wrap64 (Int.tdiv a0 64)) 64))) % 256, (wrap64 (128 + (Int.tmod a0 64))) % 256] : List Int)))))) else (some ([] : List Int))) = some r := H
  have A2 := Aside0.mk A20
  clear A20
  by_cases c3 : t240 = true
  · subst c3
    have H1 : (if a0 < 128 then (some (([(a0) % 256] : List Int))) else (if a0 < 2048 then (some (([(wrap64 (192 + (wrap64 (Int.tdiv a0 64)))) % 256, (wrap64 (128 + (Int.tmod a0 64))) % 256] : List Int))) else (if a0 < 65536 then (some (([(wrap64 (224 + (wrap64 (Int.tdiv a0 4096)))) % 256, (wrap64 (128 + (Int.tmod (wrap64 (Int.tdiv a0 64)) 64))) % 256, (wrap64 (128 + (Int.tmod a0 64))) % 256] : List Int))) else (some (([(wrap64 (240 + (wrap64 (Int.tdiv a0 262144)))) % 256, (wrap64 (128 + (Int.tmod (wrap64 (Int.tdiv a0 4096)) 64))) % 256, (wrap64 (128 + (Int.tmod (wrap64 (Int.tdiv a0 64)) 64))) % 256, (wrap64 (128 + (Int.tmod a0 64))) % 256] : List Int)))))) = some r := by rw [if_pos rfl] at H; exact H
    clear H
    have H := H1
    clear H1
    by_cases c4 : a0 < 128
    · rw [if_pos c4] at H
      have c4b0 : decide (a0 < 128) = true := decide_eq_true c4
      clear c4
      obtain ⟨y241, hy241⟩ : ∃ y_ : List Int, y_ = (([(a0) % 256] : List Int)) := ⟨_, rfl⟩
      replace H : (some y241) = some r := by first | (rw [hy241]; with_reducible exact H) | (have H2_ := (Option.bind_some _ _).symm.trans H; rw [hy241]; with_reducible exact H2_) | (have H2_ := (Option.bind_some _ _).symm.trans H; with_reducible exact H2_) | with_reducible exact H | (rw [hy241]; exact H) | exact H
      have Ny241 := Aside0.mk hy241
      clear hy241
      obtain rfl := Option.some.inj H
      go_enter Tryd.func35, Tryd.ntmps35
      go_wp2_with (first | ((with_reducible refine gate_callee (f := 44) rfl ?_); refine goesL_ (some 4) rfl rfl Tryd.func44 (by kernel_rfl) rfl #[.int .i64 a0] rfl (by (try simp only [List.map_toArray, List.map_cons, List.map_nil]); first | done | rfl | (simp only [List.length_drop, List.length_take]; rfl)) ?_; (with_reducible refine (clavierref02_Is.calls a0 true _ A2.out).mono ?_); rintro e w' ⟨rfl, ⟨nd, rfl⟩⟩; refine ⟨_, rfl, ?_⟩) | ((with_reducible refine gate_dst (N := 10) rfl ?_); refine Kd.R_lit (Kd.int .u8) _ 5 ?hg (N := 10) ?hd (xs := ([(a0) % 256] : List Int)) (inner := [.int .u8 ((a0) % 256)]) (ok := fun _ => True) (okp := fun _ => True) ?hr ?hp (fun _ hk => hk) trivial (Below.refl _ _) (Nat.le_refl _) (by simp) ?_; (case hd => rfl); (case hg => rfl); (case hr => first | (go_simp; done) | (go_simp; rfl)); (case hp => exact (Reps.one (show Kd.M (Kd.int .u8) _ _ _ ((a0) % 256) [.int .u8 ((a0) % 256)] from rfl) (Reps.none _ _))); intro v242 w5 ho6 hb hg_ hnew_; clear hg_ hnew_; (first | rw [← Ny241.out] at ho6 | (simp only [Int.reduceToNat] at ho6; rw [← Ny241.out] at ho6)); have n0_ := Aside0.mk (Kd.R_lower ho6 (below_size (by repeat (first | (with_reducible first | exact HB.out | apply below_alloc | apply pw_below_drewN | apply below_drew1) | exact HB.out)))); have n1_ := Aside0.mk (below_step (by repeat (first | (with_reducible first | exact HB.out | apply below_alloc | apply pw_below_drewN | apply below_drew1) | exact HB.out)) hb); clear HB; have HO243 := n0_; have HB := n1_; clear n0_ n1_; clear hb ho6))
      go_ret
      exact ⟨_, by first | rfl | (simp [errW_none, errW_some] <;> rfl) | (simp [*, errW_none, errW_some] <;> rfl), by (with_reducible repeat (first | apply Kd.R_alloc | apply Kd.R_drewN | apply Kd.R_drew)); exact HO243.out, by repeat (first | (with_reducible first | exact HB.out | apply below_alloc | apply pw_below_drewN | apply below_drew1) | exact HB.out)⟩
    · rw [if_neg c4] at H
      have c4b0 : decide (a0 < 128) = false := decide_eq_false c4
      clear c4
      by_cases c7 : a0 < 2048
      · rw [if_pos c7] at H
        have c7b0 : decide (a0 < 2048) = true := decide_eq_true c7
        clear c7
        obtain ⟨y244, hy244⟩ : ∃ y_ : List Int, y_ = (([(wrap64 (192 + (wrap64 (Int.tdiv a0 64)))) % 256, (wrap64 (128 + (Int.tmod a0 64))) % 256] : List Int)) := ⟨_, rfl⟩
        replace H : (some y244) = some r := by first | (rw [hy244]; with_reducible exact H) | (have H2_ := (Option.bind_some _ _).symm.trans H; rw [hy244]; with_reducible exact H2_) | (have H2_ := (Option.bind_some _ _).symm.trans H; with_reducible exact H2_) | with_reducible exact H | (rw [hy244]; exact H) | exact H
        have Ny244 := Aside0.mk hy244
        clear hy244
        obtain rfl := Option.some.inj H
        go_enter Tryd.func35, Tryd.ntmps35
        go_wp2_with (first | ((with_reducible refine gate_callee (f := 44) rfl ?_); refine goesL_ (some 4) rfl rfl Tryd.func44 (by kernel_rfl) rfl #[.int .i64 a0] rfl (by (try simp only [List.map_toArray, List.map_cons, List.map_nil]); first | done | rfl | (simp only [List.length_drop, List.length_take]; rfl)) ?_; (with_reducible refine (clavierref02_Is.calls a0 true _ A2.out).mono ?_); rintro e w' ⟨rfl, ⟨nd, rfl⟩⟩; refine ⟨_, rfl, ?_⟩) | ((with_reducible refine gate_dst (N := 21) rfl ?_); refine Kd.R_lit (Kd.int .u8) _ 5 ?hg (N := 21) ?hd (xs := ([(wrap64 (192 + (wrap64 (Int.tdiv a0 64)))) % 256, (wrap64 (128 + (Int.tmod a0 64))) % 256] : List Int)) (inner := [.int .u8 ((wrap64 (192 + (wrap64 (Int.tdiv a0 64)))) % 256), .int .u8 ((wrap64 (128 + (Int.tmod a0 64))) % 256)]) (ok := fun _ => True) (okp := fun _ => True) ?hr ?hp (fun _ hk => hk) trivial (Below.refl _ _) (Nat.le_refl _) (by simp) ?_; (case hd => rfl); (case hg => rfl); (case hr => first | (go_simp; done) | (go_simp; rfl)); (case hp => exact (Reps.one (show Kd.M (Kd.int .u8) _ _ _ ((wrap64 (192 + (wrap64 (Int.tdiv a0 64)))) % 256) [.int .u8 ((wrap64 (192 + (wrap64 (Int.tdiv a0 64)))) % 256)] from rfl) (Reps.one (show Kd.M (Kd.int .u8) _ _ _ ((wrap64 (128 + (Int.tmod a0 64))) % 256) [.int .u8 ((wrap64 (128 + (Int.tmod a0 64))) % 256)] from rfl) (Reps.none _ _)))); intro v245 w8 ho9 hb hg_ hnew_; clear hg_ hnew_; (first | rw [← Ny244.out] at ho9 | (simp only [Int.reduceToNat] at ho9; rw [← Ny244.out] at ho9)); have n0_ := Aside0.mk (Kd.R_lower ho9 (below_size (by repeat (first | (with_reducible first | exact HB.out | apply below_alloc | apply pw_below_drewN | apply below_drew1) | exact HB.out)))); have n1_ := Aside0.mk (below_step (by repeat (first | (with_reducible first | exact HB.out | apply below_alloc | apply pw_below_drewN | apply below_drew1) | exact HB.out)) hb); clear HB; have HO246 := n0_; have HB := n1_; clear n0_ n1_; clear hb ho9))
        go_ret
        exact ⟨_, by first | rfl | (simp [errW_none, errW_some] <;> rfl) | (simp [*, errW_none, errW_some] <;> rfl), by (with_reducible repeat (first | apply Kd.R_alloc | apply Kd.R_drewN | apply Kd.R_drew)); exact HO246.out, by repeat (first | (with_reducible first | exact HB.out | apply below_alloc | apply pw_below_drewN | apply below_drew1) | exact HB.out)⟩
      · rw [if_neg c7] at H
        have c7b0 : decide (a0 < 2048) = false := decide_eq_false c7
        clear c7
        by_cases c10 : a0 < 65536
        · rw [if_pos c10] at H
          have c10b0 : decide (a0 < 65536) = true := decide_eq_true c10
          clear c10
          obtain ⟨y247, hy247⟩ : ∃ y_ : List Int, y_ = (([(wrap64 (224 + (wrap64 (Int.tdiv a0 4096)))) % 256, (wrap64 (128 + (Int.tmod (wrap64 (Int.tdiv a0 64)) 64))) % 256, (wrap64 (128 + (Int.tmod a0 64))) % 256] : List Int)) := ⟨_, rfl⟩
          replace H : (some y247) = some r := by first | (rw [hy247]; with_reducible exact H) | (have H2_ := (Option.bind_some _ _).symm.trans H; rw [hy247]; with_reducible exact H2_) | (have H2_ := (Option.bind_some _ _).symm.trans H; with_reducible exact H2_) | with_reducible exact H | (rw [hy247]; exact H) | exact H
          have Ny247 := Aside0.mk hy247
          clear hy247
          obtain rfl := Option.some.inj H
          go_enter Tryd.func35, Tryd.ntmps35
          go_wp2_with (first | ((with_reducible refine gate_callee (f := 44) rfl ?_); refine goesL_ (some 4) rfl rfl Tryd.func44 (by kernel_rfl) rfl #[.int .i64 a0] rfl (by (try simp only [List.map_toArray, List.map_cons, List.map_nil]); first | done | rfl | (simp only [List.length_drop, List.length_take]; rfl)) ?_; (with_reducible refine (clavierref02_Is.calls a0 true _ A2.out).mono ?_); rintro e w' ⟨rfl, ⟨nd, rfl⟩⟩; refine ⟨_, rfl, ?_⟩) | ((with_reducible refine gate_dst (N := 37) rfl ?_); refine Kd.R_lit (Kd.int .u8) _ 5 ?hg (N := 37) ?hd (xs := ([(wrap64 (224 + (wrap64 (Int.tdiv a0 4096)))) % 256, (wrap64 (128 + (Int.tmod (wrap64 (Int.tdiv a0 64)) 64))) % 256, (wrap64 (128 + (Int.tmod a0 64))) % 256] : List Int)) (inner := [.int .u8 ((wrap64 (224 + (wrap64 (Int.tdiv a0 4096)))) % 256), .int .u8 ((wrap64 (128 + (Int.tmod (wrap64 (Int.tdiv a0 64)) 64))) % 256), .int .u8 ((wrap64 (128 + (Int.tmod a0 64))) % 256)]) (ok := fun _ => True) (okp := fun _ => True) ?hr ?hp (fun _ hk => hk) trivial (Below.refl _ _) (Nat.le_refl _) (by simp) ?_; (case hd => rfl); (case hg => rfl); (case hr => first | (go_simp; done) | (go_simp; rfl)); (case hp => exact (Reps.one (show Kd.M (Kd.int .u8) _ _ _ ((wrap64 (224 + (wrap64 (Int.tdiv a0 4096)))) % 256) [.int .u8 ((wrap64 (224 + (wrap64 (Int.tdiv a0 4096)))) % 256)] from rfl) (Reps.one (show Kd.M (Kd.int .u8) _ _ _ ((wrap64 (128 + (Int.tmod (wrap64 (Int.tdiv a0 64)) 64))) % 256) [.int .u8 ((wrap64 (128 + (Int.tmod (wrap64 (Int.tdiv a0 64)) 64))) % 256)] from rfl) (Reps.one (show Kd.M (Kd.int .u8) _ _ _ ((wrap64 (128 + (Int.tmod a0 64))) % 256) [.int .u8 ((wrap64 (128 + (Int.tmod a0 64))) % 256)] from rfl) (Reps.none _ _))))); intro v248 w11 ho12 hb hg_ hnew_; clear hg_ hnew_; (first | rw [← Ny247.out] at ho12 | (simp only [Int.reduceToNat] at ho12; rw [← Ny247.out] at ho12)); have n0_ := Aside0.mk (Kd.R_lower ho12 (below_size (by repeat (first | (with_reducible first | exact HB.out | apply below_alloc | apply pw_below_drewN | apply below_drew1) | exact HB.out)))); have n1_ := Aside0.mk (below_step (by repeat (first | (with_reducible first | exact HB.out | apply below_alloc | apply pw_below_drewN | apply below_drew1) | exact HB.out)) hb); clear HB; have HO249 := n0_; have HB := n1_; clear n0_ n1_; clear hb ho12))
          go_ret
          exact ⟨_, by first | rfl | (simp [errW_none, errW_some] <;> rfl) | (simp [*, errW_none, errW_some] <;> rfl), by (with_reducible repeat (first | apply Kd.R_alloc | apply Kd.R_drewN | apply Kd.R_drew)); exact HO249.out, by repeat (first | (with_reducible first | exact HB.out | apply below_alloc | apply pw_below_drewN | apply below_drew1) | exact HB.out)⟩
        · rw [if_neg c10] at H
          have c10b0 : decide (a0 < 65536) = false := decide_eq_false c10
          clear c10
          obtain ⟨y250, hy250⟩ : ∃ y_ : List Int, y_ = (([(wrap64 (240 + (wrap64 (Int.tdiv a0 262144)))) % 256, (wrap64 (128 + (Int.tmod (wrap64 (Int.tdiv a0 4096)) 64))) % 256, (wrap64 (128 + (Int.tmod (wrap64 (Int.tdiv a0 64)) 64))) % 256, (wrap64 (128 + (Int.tmod a0 64))) % 256] : List Int)) := ⟨_, rfl⟩
          replace H : (some y250) = some r := by first | (rw [hy250]; with_reducible exact H) | (have H2_ := (Option.bind_some _ _).symm.trans H; rw [hy250]; with_reducible exact H2_) | (have H2_ := (Option.bind_some _ _).symm.trans H; with_reducible exact H2_) | with_reducible exact H | (rw [hy250]; exact H) | exact H
          have Ny250 := Aside0.mk hy250
          clear hy250
          obtain rfl := Option.some.inj H
          go_enter Tryd.func35, Tryd.ntmps35
          go_wp2_with (first | ((with_reducible refine gate_callee (f := 44) rfl ?_); refine goesL_ (some 4) rfl rfl Tryd.func44 (by kernel_rfl) rfl #[.int .i64 a0] rfl (by (try simp only [List.map_toArray, List.map_cons, List.map_nil]); first | done | rfl | (simp only [List.length_drop, List.length_take]; rfl)) ?_; (with_reducible refine (clavierref02_Is.calls a0 true _ A2.out).mono ?_); rintro e w' ⟨rfl, ⟨nd, rfl⟩⟩; refine ⟨_, rfl, ?_⟩) | ((with_reducible refine gate_dst (N := 56) rfl ?_); refine Kd.R_lit (Kd.int .u8) _ 5 ?hg (N := 56) ?hd (xs := ([(wrap64 (240 + (wrap64 (Int.tdiv a0 262144)))) % 256, (wrap64 (128 + (Int.tmod (wrap64 (Int.tdiv a0 4096)) 64))) % 256, (wrap64 (128 + (Int.tmod (wrap64 (Int.tdiv a0 64)) 64))) % 256, (wrap64 (128 + (Int.tmod a0 64))) % 256] : List Int)) (inner := [.int .u8 ((wrap64 (240 + (wrap64 (Int.tdiv a0 262144)))) % 256), .int .u8 ((wrap64 (128 + (Int.tmod (wrap64 (Int.tdiv a0 4096)) 64))) % 256), .int .u8 ((wrap64 (128 + (Int.tmod (wrap64 (Int.tdiv a0 64)) 64))) % 256), .int .u8 ((wrap64 (128 + (Int.tmod a0 64))) % 256)]) (ok := fun _ => True) (okp := fun _ => True) ?hr ?hp (fun _ hk => hk) trivial (Below.refl _ _) (Nat.le_refl _) (by simp) ?_; (case hd => rfl); (case hg => rfl); (case hr => first | (go_simp; done) | (go_simp; rfl)); (case hp => exact (Reps.one (show Kd.M (Kd.int .u8) _ _ _ ((wrap64 (240 + (wrap64 (Int.tdiv a0 262144)))) % 256) [.int .u8 ((wrap64 (240 + (wrap64 (Int.tdiv a0 262144)))) % 256)] from rfl) (Reps.one (show Kd.M (Kd.int .u8) _ _ _ ((wrap64 (128 + (Int.tmod (wrap64 (Int.tdiv a0 4096)) 64))) % 256) [.int .u8 ((wrap64 (128 + (Int.tmod (wrap64 (Int.tdiv a0 4096)) 64))) % 256)] from rfl) (Reps.one (show Kd.M (Kd.int .u8) _ _ _ ((wrap64 (128 + (Int.tmod (wrap64 (Int.tdiv a0 64)) 64))) % 256) [.int .u8 ((wrap64 (128 + (Int.tmod (wrap64 (Int.tdiv a0 64)) 64))) % 256)] from rfl) (Reps.one (show Kd.M (Kd.int .u8) _ _ _ ((wrap64 (128 + (Int.tmod a0 64))) % 256) [.int .u8 ((wrap64 (128 + (Int.tmod a0 64))) % 256)] from rfl) (Reps.none _ _)))))); intro v251 w13 ho14 hb hg_ hnew_; clear hg_ hnew_; (first | rw [← Ny250.out] at ho14 | (simp only [Int.reduceToNat] at ho14; rw [← Ny250.out] at ho14)); have n0_ := Aside0.mk (Kd.R_lower ho14 (below_size (by repeat (first | (with_reducible first | exact HB.out | apply below_alloc | apply pw_below_drewN | apply below_drew1) | exact HB.out)))); have n1_ := Aside0.mk (below_step (by repeat (first | (with_reducible first | exact HB.out | apply below_alloc | apply pw_below_drewN | apply below_drew1) | exact HB.out)) hb); clear HB; have HO252 := n0_; have HB := n1_; clear n0_ n1_; clear hb ho14))
          go_ret
          exact ⟨_, by first | rfl | (simp [errW_none, errW_some] <;> rfl) | (simp [*, errW_none, errW_some] <;> rfl), by (with_reducible repeat (first | apply Kd.R_alloc | apply Kd.R_drewN | apply Kd.R_drew)); exact HO252.out, by repeat (first | (with_reducible first | exact HB.out | apply below_alloc | apply pw_below_drewN | apply below_drew1) | exact HB.out)⟩
  · replace c3 := Bool.eq_false_iff.mpr c3
    subst c3
    have H1 : (some ([] : List Int)) = some r := by rw [if_neg (show ¬ (false = true) by decide)] at H; exact H
    clear H
    have H := H1
    clear H1
    obtain rfl := Option.some.inj H
    go_enter Tryd.func35, Tryd.ntmps35
    go_wp2_with (first | ((with_reducible refine gate_callee (f := 44) rfl ?_); refine goesL_ (some 4) rfl rfl Tryd.func44 (by kernel_rfl) rfl #[.int .i64 a0] rfl (by (try simp only [List.map_toArray, List.map_cons, List.map_nil]); first | done | rfl | (simp only [List.length_drop, List.length_take]; rfl)) ?_; (with_reducible refine (clavierref02_Is.calls a0 false _ A2.out).mono ?_); rintro e w' ⟨rfl, ⟨nd, rfl⟩⟩; refine ⟨_, rfl, ?_⟩))
    go_ret
    exact ⟨_, by first | rfl | (simp [errW_none, errW_some] <;> rfl) | (simp [*, errW_none, errW_some] <;> rfl), by first | exact Kd.R_nil _ _ _ _ _ | exact Kd.N_nil _ _ _ _ _ | exact Kd.V_nil _ _ _ _ _ | exact Kd.Q_nil _ _ _ _ _ | exact Kd.S_nil _ _ _ _ _, by repeat (first | (with_reducible first | exact HB.out | apply below_alloc | apply pw_below_drewN | apply below_drew1) | exact HB.out)⟩
end Go.Proofs.YtcglbfpmcpammaaDoor.G
end
section
namespace Go.Proofs.YtcglbfpmcpammaaDoor
set_option linter.unusedVariables false
set_option linter.unusedSimpArgs false
open Go.RowKit Kit G
theorem is02 (y : Nat) : clavierref02_Is.f (y : Int) = some (isU (y : Int)) := by
  unfold clavierref02_Is.f isU
  by_cases h1 : (y : Int) ≥ 0 <;> by_cases h2 : (y : Int) ≤ 1114111 <;> by_cases h3 : (y : Int) < 55296 <;> simp [h1, h2, h3]
theorem w64n {z : Int} (h0 : 0 ≤ z) (h1 : z < 1000000000000) : wrap64 z = z := by unfold wrap64; omega
theorem put02 (y : Nat) : clavierref02_Put.f (y : Int) = some (natsB (putU y)) := by
  have hi := isU_nat y
  unfold clavierref02_Put.f putU
  rw [is02, Option.bind_some]
  cases hu : isU (y : Int) with
  | false => rw [if_neg (by decide), if_pos rfl]; rfl
  | true =>
    have hy := hi.1 hu
    have n0 : ∀ a : Nat, a < 256 → ((UInt8.ofNat a).toNat : Int) = (a : Int) := fun a h => by rw [UInt8.toNat_ofNat', Nat.mod_eq_of_lt h]
    have d1 : ∀ c : Int, 0 < c → Int.tdiv (y : Int) c = (y : Int) / c := fun c hc => Int.tdiv_eq_ediv_of_nonneg (by omega)
    rw [if_pos rfl, if_neg (show ¬ (true = false) by decide)]
    by_cases h1 : y ≤ 127
    · rw [if_pos (by omega), if_pos h1]
      simp only [natsB, List.map_cons, List.map_nil]
      rw [n0 _ (by omega), Int.emod_eq_of_lt (by omega) (by omega)]
    rw [if_neg (by omega), if_neg h1]
    have t1 : Int.tmod (y : Int) 64 = ((y % 64 : Nat) : Int) := by rw [Int.tmod_eq_emod_of_nonneg (by omega)]; omega
    have q1 : Int.tdiv (y : Int) 64 = ((y / 64 : Nat) : Int) := by rw [d1 64 (by decide)]; omega
    have q2 : Int.tdiv (y : Int) 4096 = ((y / 4096 : Nat) : Int) := by rw [d1 4096 (by decide)]; omega
    have q3 : Int.tdiv (y : Int) 262144 = ((y / 262144 : Nat) : Int) := by rw [d1 262144 (by decide)]; omega
    have t2 : Int.tmod ((y / 64 : Nat) : Int) 64 = ((y / 64 % 64 : Nat) : Int) := by rw [Int.tmod_eq_emod_of_nonneg (by omega)]; omega
    have t3 : Int.tmod ((y / 4096 : Nat) : Int) 64 = ((y / 4096 % 64 : Nat) : Int) := by rw [Int.tmod_eq_emod_of_nonneg (by omega)]; omega
    have w1 : ∀ z : Nat, z ≤ 1114111 → wrap64 ((z : Nat) : Int) = (z : Int) := fun z h => w64n (by omega) (by omega)
    have w2 : ∀ (c z : Nat), c ≤ 300 → z ≤ 1114111 → wrap64 ((c : Int) + ((z : Nat) : Int)) = ((c + z : Nat) : Int) := fun c z hc h => by rw [w64n (by omega) (by omega)]; omega
    have m1 : ∀ z : Nat, z < 256 → ((z : Nat) : Int) % 256 = (z : Int) := fun z h => Int.emod_eq_of_lt (by omega) (by omega)
    have e128 := fun z h => w2 128 z (by decide) h
    have e192 := fun z h => w2 192 z (by decide) h
    have e224 := fun z h => w2 224 z (by decide) h
    have e240 := fun z h => w2 240 z (by decide) h
    by_cases h2 : y ≤ 2047
    · rw [if_pos (by omega), if_pos h2, t1, q1, w1 _ (by omega)]
      simp only [natsB, List.map_cons, List.map_nil]
      rw [n0 _ (by omega), n0 _ (by omega)]
      rw [show (192 : Int) = ((192 : Nat) : Int) from rfl, show (128 : Int) = ((128 : Nat) : Int) from rfl, w2 192 _ (by decide) (by omega), w2 128 _ (by decide) (by omega), m1 _ (by omega), m1 _ (by omega)]
    rw [if_neg (by omega), if_neg h2]
    by_cases h3 : y ≤ 65535
    · rw [if_pos (by omega), if_pos h3, t1, q1, q2, w1 _ (by omega), w1 _ (by omega), t2]
      simp only [natsB, List.map_cons, List.map_nil]
      rw [n0 _ (by omega), n0 _ (by omega), n0 _ (by omega)]
      rw [show (224 : Int) = ((224 : Nat) : Int) from rfl, show (128 : Int) = ((128 : Nat) : Int) from rfl, w2 224 _ (by decide) (by omega), w2 128 _ (by decide) (by omega), w2 128 _ (by decide) (by omega), m1 _ (by omega), m1 _ (by omega), m1 _ (by omega)]
    · rw [if_neg (by omega), if_neg h3, t1, q1, q2, q3, w1 _ (by omega), w1 _ (by omega), w1 _ (by omega), t2, t3]
      simp only [natsB, List.map_cons, List.map_nil]
      rw [n0 _ (by omega), n0 _ (by omega), n0 _ (by omega), n0 _ (by omega)]
      rw [show (240 : Int) = ((240 : Nat) : Int) from rfl, show (128 : Int) = ((128 : Nat) : Int) from rfl, w2 240 _ (by decide) (by omega), w2 128 _ (by decide) (by omega), w2 128 _ (by decide) (by omega), w2 128 _ (by decide) (by omega), m1 _ (by omega), m1 _ (by omega), m1 _ (by omega), m1 _ (by omega)]
end Go.Proofs.YtcglbfpmcpammaaDoor
end
section
namespace Go.Proofs.YtcglbfpmcpammaaDoor
set_option linter.unusedVariables false
set_option linter.unusedSimpArgs false
open Go.RowKit Kit G Go.Proofs.YtcglbfpmcpammaaDoorW.PrintWords Go.Proofs.YtcglbfpmcpammaaDoorW.PrintLast Go.Proofs.YtcglbfpmcpammaaDoorW.PrintMore
theorem guess02 (l : List UInt8) (n : Nat) (h1 : 1 ≤ n) (h4 : n ≤ 4) (hl : n ≤ l.length) : clavierref02_guess.f (natsB l) (n : Int) = some (guessU l n : Int) := by
  have hn : ((natsB l).length : Int) = l.length := by rw [natsB_length]
  have b0 := bU_lt l 0
  have b1 := bU_lt l 1
  have b2 := bU_lt l 2
  have b3 := bU_lt l 3
  have r0 := rd_bU l 0
  have r1 := rd_bU l 1
  have r2 := rd_bU l 2
  have r3 := rd_bU l 3
  unfold clavierref02_guess.f guessU
  rw [hn]
  by_cases c1 : n = 1
  · subst c1
    rw [if_pos (by omega), if_pos (by omega), if_pos rfl, show (0 : Int) = ((0 : Nat) : Int) from rfl, r0 (by omega), w64n (by omega) (by omega)]
  by_cases c2 : n = 2
  · subst c2
    rw [if_neg (by omega), if_pos (by omega), if_pos (by omega), if_pos (by omega), if_neg (by omega), if_pos rfl]
    rw [show rd (natsB l) 0 = (bU l 0 : Int) from r0 (by omega), show rd (natsB l) 1 = (bU l 1 : Int) from r1 (by omega)]
    congr 1
    omega
  by_cases c3 : n = 3
  · subst c3
    rw [if_neg (by omega), if_neg (by omega), if_pos (by omega), if_pos (by omega), if_pos (by omega), if_pos (by omega), if_neg (by omega), if_neg (by omega), if_pos rfl]
    rw [show rd (natsB l) 0 = (bU l 0 : Int) from r0 (by omega), show rd (natsB l) 1 = (bU l 1 : Int) from r1 (by omega), show rd (natsB l) 2 = (bU l 2 : Int) from r2 (by omega)]
    congr 1
    omega
  · obtain rfl : n = 4 := by omega
    rw [if_neg (by omega), if_neg (by omega), if_neg (by omega), if_pos (by omega), if_pos (by omega), if_pos (by omega), if_pos (by omega), if_neg (by omega), if_neg (by omega), if_neg (by omega)]
    rw [show rd (natsB l) 0 = (bU l 0 : Int) from r0 (by omega), show rd (natsB l) 1 = (bU l 1 : Int) from r1 (by omega), show rd (natsB l) 2 = (bU l 2 : Int) from r2 (by omega), show rd (natsB l) 3 = (bU l 3 : Int) from r3 (by omega)]
    congr 1
    omega
end Go.Proofs.YtcglbfpmcpammaaDoor
end
section
namespace Go.Proofs.YtcglbfpmcpammaaDoor
set_option linter.unusedVariables false
set_option linter.unusedSimpArgs false
open Go.RowKit Kit G Go.Proofs.YtcglbfpmcpammaaDoorW.PrintWords
theorem refPut_calls (y : Nat) (w : World) : Calls Tryd.prog 35 #[.int .i64 (y : Int)] w fun e w' => (∃ v, e = .returned v ∧ ∃ A c, v = .slice A (putU y).length c ∧ (putU y).length ≤ c ∧ Reads w' A ((putU y).map byV)) ∧ Below w.heap.size w w' := by
  refine (clavierref02_Put.calls (y : Int) (natsB (putU y)) w (put02 y)).mono fun e w' ⟨v, h1, h2, h3⟩ => ⟨⟨v, h1, R_row h2⟩, h3⟩
end Go.Proofs.YtcglbfpmcpammaaDoor
end
section
namespace Go.Proofs.YtcglbfpmcpammaaDoor
set_option linter.unusedVariables false
set_option linter.unusedSimpArgs false
open Go.RowKit Kit
def fRd (l : List UInt8) : Fact := fun v w => ∃ p c, v = .slice p l.length c ∧ Reads w p (l.map byV)
theorem Stays.fRd (l : List UInt8) : Stays (fRd l) := fun v w w' h hb => by
  obtain ⟨p, c, h1, h2⟩ := h
  exact ⟨p, c, h1, h2.below hb⟩
end Go.Proofs.YtcglbfpmcpammaaDoor
end
section
namespace Go.Proofs.YtcglbfpmcpammaaDoor
set_option linter.unusedVariables false
set_option linter.unusedSimpArgs false
open Go.RowKit Kit G Go.Proofs.YtcglbfpmcpammaaDoorW.PrintWords
attribute [local irreducible] wpList Calls wpQuiet
theorem refGuess_calls (A : Option Addr) (c : Nat) (l : List UInt8) (n : Nat) (h1 : 1 ≤ n) (h4 : n ≤ 4) (hl : n ≤ l.length) (hc : l.length ≤ c) (h63 : l.length ≤ 4611686018427387904) (w : World) (hr : Reads w A (l.map byV)) : Calls Tryd.prog 34 #[.slice A l.length c, .int .i64 (n : Int)] w fun e w' => e = .returned (.int .i64 (guessU l n : Int)) ∧ Below w.heap.size w w' := by
  have h := clavierref02_guess.calls A c (natsB l) (n : Int) (guessU l n : Int) w (C_bytes hr h63) (by rw [natsB_length]; exact hc) (guess02 l n h1 h4 hl)
  rw [natsB_length] at h
  exact h.mono fun e w' ⟨a, b⟩ => ⟨a, b.below⟩
theorem takeU_at {l : List UInt8} {n : Nat} (h1 : 1 ≤ n) (h4 : n ≤ 4) (hf : fitsU l n = true) (hno : ∀ m, 1 ≤ m → m < n → fitsU l m = false) : takeU l = (guessU l n, n) := takeU_of h1 h4 hf hno
set_option maxRecDepth 100000 in
set_option maxHeartbeats 4000000 in
theorem refTake_calls (A : Option Addr) (c : Nat) (l : List UInt8) (hc : l.length ≤ c) (h63 : l.length ≤ 4611686018427387904) (w : World) (hr : Reads w A (l.map byV)) : Calls Tryd.prog 22 #[.slice A l.length c] w fun e w' => e = .returned (.tuple #[.int .i64 ((takeU l).1 : Int), .int .i64 ((takeU l).2 : Int)]) ∧ Below w.heap.size w w' := by
  have HO := Mine.start w
  have HR := Lib.hid hr
  clear hr
  go_enter Tryd.func22, Tryd.ntmps22
  go_wp2
  go_loopw [4] (fun i wr => ∃ n : Nat, 1 ≤ n ∧ n ≤ 5 ∧ i = .int .i64 n ∧ (∀ m, 1 ≤ m → m < n → fitsU l m = false) ∧ Mine w wr []) (fun i _ => 5 - (intOf i).toNat)
  case atStart => exact ⟨1, by omega, by omega, rfl, fun m h1 h2 => by omega, HO⟩
  case round =>
    obtain ⟨n, h1, h5, rfl, hno, HO2⟩ := hrel
    clear HO
    have HO := HO2
    clear HO2
    by_cases hgo : n ≤ 4 ∧ n ≤ l.length
    · obtain ⟨h4, hl⟩ := hgo
      have hG := fun W (hb : Below w.heap.size w W) => refGuess_calls A c l n h1 h4 hl hc h63 W (HR.out.below hb)
      obtain ⟨A0, o0, rfl⟩ : ∃ b0 o0, A = some ⟨b0, o0, none⟩ := by
        obtain ⟨b0, o0, he, _⟩ := HR.out 0 (byV (l[0]'(by omega))) (by rw [List.getElem?_map, List.getElem?_eq_getElem (by omega)]; rfl)
        exact ⟨_, _, he⟩
      have HG := Lib.hid hG
      have d1 : decide ((n : Int) ≤ 4) = true := decide_eq_true (by omega)
      have d2 : decide ((n : Int) ≤ (l.length : Int)) = true := decide_eq_true (by omega)
      have d3 : decide (n ≤ l.length) = true := decide_eq_true hl
      have d4 : decide ((n : Int) ≤ (c : Int)) = true := decide_eq_true (by omega)
      have d5 : decide (n ≤ c) = true := decide_eq_true (by omega)
      have d6 : ¬ c < n := by omega
      have hR2 : ∀ W, Below w.heap.size w W → Reads W (some ⟨A0, o0, none⟩) ((l.take n).map byV) := fun W hb k x hk => (HR.out.below hb) k x (by
        rw [List.map_take, List.getElem?_take] at hk
        split at hk
        · exact hk
        · cases hk)
      have HR2 := Lib.hid hR2
      have hlt : (l.take n).length = n := by simp; omega
      have HLT := Lib.hid hlt
      have HNO := Lib.hid hno
      have HCC := Lib.hid (show 1 ≤ n ∧ n ≤ 4 ∧ n ≤ l.length ∧ l.length ≤ c from ⟨h1, h4, hl, hc⟩)
      have hfit : fitsU l n = decide (putU (guessU l n) = l.take n) := by unfold fitsU; rw [d3, Bool.true_and]
      obtain ⟨y, hy⟩ : ∃ y, guessU l n = y := ⟨_, rfl⟩
      rw [hy] at hfit
      have HY := Lib.hid hy
      rw [hy] at hG
      have HG := Lib.hid hG
      clear hG hR2 hno hy hlt
      by_cases hpn : (putU y).length = n
      · have HFIT := Lib.hid hfit
        have HPN := Lib.hid hpn
        have e1 : (((putU y).length : Int) == (n : Int)) = true := by rw [hpn]; simp
        have hn2 : decide (putU y = l.take n) = false → ∀ m, 1 ≤ m → m < n + 1 → fitsU l m = false := fun hb m h1' h4' => by
          by_cases hm : m < n
          · exact HNO.out m h1' hm
          · obtain rfl : m = n := by omega
            rw [HFIT.out]; exact hb
        have ht2 : decide (putU y = l.take n) = true → takeU l = (y, n) := fun hb => by rw [← HY.out]; exact takeU_at h1 h4 (by rw [HFIT.out]; exact hb) HNO.out
        have HN2 := Lib.hid hn2
        have HT2 := Lib.hid ht2
        clear hfit hpn h1 h4 hl hc h63 hn2 ht2
        obtain ⟨b, hb⟩ : ∃ b, decide (putU y = l.take n) = b := ⟨_, rfl⟩
        have HB := Lib.hid hb
        clear hb
        go_wp2_with (go_at_call 34; refine (HG.out _ HO.below).mono ?_; rintro eN wN ⟨rfl, hbN⟩; have HON := HO.call hbN; clear HO hbN; have HO := HON; clear HON)
        refine region_law 15 [fIs (.int .i64 (y : Int)), fRd (putU y), fIs (.int .i64 ((putU y).length : Int)), fIs (.int .i64 (n : Int)), fIs (.bool true), fIs (.bool true), fIs (.int .i64 (y : Int)), fRd (putU y), fIs (.string ⟨(putU y).toArray⟩), fIs (.slice (some ⟨A0, o0, none⟩) l.length c), fIs (.int .i64 (n : Int)), fIs (.slice (some ⟨A0, o0, none⟩) n c), fIs (.string ⟨(l.take n).toArray⟩), fIs (.bool b), fIs (.bool b)] HO (by kernel_rfl) (by kernel_rfl) (by decide) (by kernel_rfl)
          (stays_cons (Stays.fIs _) (stays_cons (Stays.fRd _) (stays_cons (Stays.fIs _) (stays_cons (Stays.fIs _) (stays_cons (Stays.fIs _) (stays_cons (Stays.fIs _) (stays_cons (Stays.fIs _) (stays_cons (Stays.fRd _) (stays_cons (Stays.fIs _) (stays_cons (Stays.fIs _) (stays_cons (Stays.fIs _) (stays_cons (Stays.fIs _) (stays_cons (Stays.fIs _) (stays_cons (Stays.fIs _) (stays_cons (Stays.fIs _) stays_nil))))))))))))))) ?_
        intro vals A hA
        simp [fillL, dstOf, List.range, List.range.loop, Act.put] at hA
        subst hA
        refine ⟨⟨?_, ?_, ?_, ?_, ?_, ?_, ?_, ?_, ?_, ?_, ?_, ?_, ?_, ?_, ?_, trivial⟩, ?_⟩
        all_goals intro W hd hM hb0
        case refine_1 =>
          skip
          exact st_val rfl (by simp only [execOp]; first | (go_simp; done) | (go_simp; rfl)) rfl
        case refine_2 =>
          have v0 : vals 0 = .int .i64 (y : Int) := hd 0 (by kernel_rfl)
          rw [v0]
          exact st_call rfl (by simp only [execOp]; first | (go_simp; done) | (go_simp; rfl)) (refPut_calls y W) (by rintro e w' ⟨⟨v, rfl, A, cP, rfl, _, hr⟩, hb⟩; exact ⟨_, rfl, hb, A, cP, rfl, hr⟩)
        case refine_3 =>
          skip
          obtain ⟨pA, cA, eA, hrA⟩ : fRd (putU y) (vals 1) W := hd 1 (by kernel_rfl)
          rw [eA]
          exact st_val rfl (by simp only [execOp]; first | (go_simp; done) | (go_simp; rfl)) rfl
        case refine_4 =>
          skip
          exact st_val rfl (by simp only [execOp]; first | (go_simp; done) | (go_simp; rfl)) rfl
        case refine_5 =>
          have v2 : vals 2 = .int .i64 ((putU y).length : Int) := hd 2 (by kernel_rfl)
          have v3 : vals 3 = .int .i64 (n : Int) := hd 3 (by kernel_rfl)
          rw [v2, v3]
          exact st_val rfl (by simp only [execOp]; first | (go_simp; done) | (go_simp; rfl)) rfl
        case refine_6 =>
          have v4 : vals 4 = .bool true := hd 4 (by kernel_rfl)
          rw [v4]
          exact st_val rfl (by simp only [execOp]; first | (go_simp; done) | (go_simp; rfl)) rfl
        case refine_7 =>
          have v5 : vals 5 = .bool true := hd 5 (by kernel_rfl)
          rw [v5]
          exact st_val rfl (by simp only [execOp]; first | (go_simp; done) | (go_simp; rfl)) rfl
        case refine_8 =>
          have v5 : vals 5 = .bool true := hd 5 (by kernel_rfl)
          have v6 : vals 6 = .int .i64 (y : Int) := hd 6 (by kernel_rfl)
          rw [v5, v6]
          exact st_call rfl (by simp only [execOp]; first | (go_simp; done) | (go_simp; rfl)) (refPut_calls y W) (by rintro e w' ⟨⟨v, rfl, A, cP, rfl, _, hr⟩, hb⟩; exact ⟨_, rfl, hb, A, cP, rfl, hr⟩)
        case refine_9 =>
          have v5 : vals 5 = .bool true := hd 5 (by kernel_rfl)
          rw [v5]
          obtain ⟨pA, cA, eA, hrA⟩ : fRd (putU y) (vals 7) W := hd 7 (by kernel_rfl)
          rw [eA]
          have hcv := run_str_of (P := Tryd.prog) (src := 24) (dst := 9) Tryd.underlying24 Tryd.underlying5 Tryd.underlying9 (c := cA) hrA rfl
          exact st_val rfl (by simp only [execOp]; first | (go_simp; done) | (go_simp; rfl)) rfl
        case refine_10 =>
          have v5 : vals 5 = .bool true := hd 5 (by kernel_rfl)
          rw [v5]
          exact st_val rfl (by simp only [execOp]; first | (go_simp; done) | (go_simp; rfl)) rfl
        case refine_11 =>
          have v5 : vals 5 = .bool true := hd 5 (by kernel_rfl)
          rw [v5]
          exact st_val rfl (by simp only [execOp]; first | (go_simp; done) | (go_simp; rfl)) rfl
        case refine_12 =>
          have v5 : vals 5 = .bool true := hd 5 (by kernel_rfl)
          have v9 : vals 9 = .slice (some ⟨A0, o0, none⟩) l.length c := hd 9 (by kernel_rfl)
          have v10 : vals 10 = .int .i64 (n : Int) := hd 10 (by kernel_rfl)
          rw [v5, v9, v10]
          exact st_val rfl (by simp only [execOp]; first | (go_simp; done) | (go_simp; rfl)) rfl
        case refine_13 =>
          have v5 : vals 5 = .bool true := hd 5 (by kernel_rfl)
          have v11 : vals 11 = .slice (some ⟨A0, o0, none⟩) n c := hd 11 (by kernel_rfl)
          rw [v5, v11]
          have hcv := run_str_of (P := Tryd.prog) (src := 24) (dst := 9) Tryd.underlying24 Tryd.underlying5 Tryd.underlying9 (c := c) (HR2.out W hM.below) HLT.out
          exact st_val rfl (by simp only [execOp]; first | (go_simp; done) | (go_simp; rfl)) rfl
        case refine_14 =>
          have v5 : vals 5 = .bool true := hd 5 (by kernel_rfl)
          have v8 : vals 8 = .string ⟨(putU y).toArray⟩ := hd 8 (by kernel_rfl)
          have v12 : vals 12 = .string ⟨(l.take n).toArray⟩ := hd 12 (by kernel_rfl)
          rw [v5, v8, v12]
          have hse := beqD (putU y) (l.take n)
          rw [HB.out] at hse
          exact st_val rfl (by simp only [execOp]; first | (go_simp; done) | (go_simp; rfl)) rfl
        case refine_15 =>
          have v5 : vals 5 = .bool true := hd 5 (by kernel_rfl)
          have v13 : vals 13 = .bool b := hd 13 (by kernel_rfl)
          rw [v5, v13]
          exact st_val rfl (by simp only [execOp]; first | (go_simp; done) | (go_simp; rfl)) rfl
        case refine_16 =>
          have v14 : vals 14 = .bool b := hd 14 (by omega)
          rw [v14]
          simp only [List.drop_succ_cons, List.drop_zero]
          have HO := hM
          clear hM hd
          cases b
          · go_wp2
            go_roundw
            case rel => exact ⟨n + 1, by omega, by have := HCC.out; omega, by go_num, HN2.out HB.out, HO⟩
            case measure => have := HCC.out; simp [intOf]; try omega
          · go_wp2
            refine bodyPost_ret (results_tmp2 rfl _ _ _) rfl ?_
            exact ⟨by rw [HT2.out HB.out]; rfl, HO.below⟩
      · have e1 : (((putU y).length : Int) == (n : Int)) = false := beq_eq_false_iff_ne.2 (by omega)
        have hf : fitsU l n = false := by
          rw [hfit]
          refine decide_eq_false fun e => hpn ?_
          rw [e]; exact HLT.out
        have hn2 : ∀ m, 1 ≤ m → m < n + 1 → fitsU l m = false := fun m h1' h4' => by
          by_cases hm : m < n
          · exact HNO.out m h1' hm
          · obtain rfl : m = n := by omega
            exact hf
        have HN2 := Lib.hid hn2
        clear hfit hpn h1 h4 hl hc h63 hn2 hf
        go_wp2_with (go_at_call 34; refine (HG.out _ HO.below).mono ?_; rintro eN wN ⟨rfl, hbN⟩; have HON := HO.call hbN; clear HO hbN; have HO := HON; clear HON)
        refine region_law 15 [fIs (.int .i64 (y : Int)), fRd (putU y), fIs (.int .i64 ((putU y).length : Int)), fIs (.int .i64 (n : Int)), fIs (.bool false), fIs (.bool false), fIs (undef), fIs (undef), fIs (undef), fIs (undef), fIs (undef), fIs (undef), fIs (undef), fIs (undef), fIs (.bool false)] HO (by kernel_rfl) (by kernel_rfl) (by decide) (by kernel_rfl)
          (stays_cons (Stays.fIs _) (stays_cons (Stays.fRd _) (stays_cons (Stays.fIs _) (stays_cons (Stays.fIs _) (stays_cons (Stays.fIs _) (stays_cons (Stays.fIs _) (stays_cons (Stays.fIs _) (stays_cons (Stays.fIs _) (stays_cons (Stays.fIs _) (stays_cons (Stays.fIs _) (stays_cons (Stays.fIs _) (stays_cons (Stays.fIs _) (stays_cons (Stays.fIs _) (stays_cons (Stays.fIs _) (stays_cons (Stays.fIs _) stays_nil))))))))))))))) ?_
        intro vals A hA
        simp [fillL, dstOf, List.range, List.range.loop, Act.put] at hA
        subst hA
        refine ⟨⟨?_, ?_, ?_, ?_, ?_, ?_, ?_, ?_, ?_, ?_, ?_, ?_, ?_, ?_, ?_, trivial⟩, ?_⟩
        all_goals intro W hd hM hb0
        case refine_1 =>
          skip
          exact st_val rfl (by simp only [execOp]; first | (go_simp; done) | (go_simp; rfl)) rfl
        case refine_2 =>
          have v0 : vals 0 = .int .i64 (y : Int) := hd 0 (by kernel_rfl)
          rw [v0]
          exact st_call rfl (by simp only [execOp]; first | (go_simp; done) | (go_simp; rfl)) (refPut_calls y W) (by rintro e w' ⟨⟨v, rfl, A, cP, rfl, _, hr⟩, hb⟩; exact ⟨_, rfl, hb, A, cP, rfl, hr⟩)
        case refine_3 =>
          skip
          obtain ⟨pA, cA, eA, hrA⟩ : fRd (putU y) (vals 1) W := hd 1 (by kernel_rfl)
          rw [eA]
          exact st_val rfl (by simp only [execOp]; first | (go_simp; done) | (go_simp; rfl)) rfl
        case refine_4 =>
          skip
          exact st_val rfl (by simp only [execOp]; first | (go_simp; done) | (go_simp; rfl)) rfl
        case refine_5 =>
          have v2 : vals 2 = .int .i64 ((putU y).length : Int) := hd 2 (by kernel_rfl)
          have v3 : vals 3 = .int .i64 (n : Int) := hd 3 (by kernel_rfl)
          rw [v2, v3]
          exact st_val rfl (by simp only [execOp]; first | (go_simp; done) | (go_simp; rfl)) rfl
        case refine_6 =>
          have v4 : vals 4 = .bool false := hd 4 (by kernel_rfl)
          rw [v4]
          exact st_val rfl (by simp only [execOp]; first | (go_simp; done) | (go_simp; rfl)) rfl
        case refine_7 =>
          have v5 : vals 5 = .bool false := hd 5 (by kernel_rfl)
          rw [v5]
          exact st_pass rfl rfl
        case refine_8 =>
          have v5 : vals 5 = .bool false := hd 5 (by kernel_rfl)
          rw [v5]
          exact st_pass rfl rfl
        case refine_9 =>
          have v5 : vals 5 = .bool false := hd 5 (by kernel_rfl)
          rw [v5]
          exact st_pass rfl rfl
        case refine_10 =>
          have v5 : vals 5 = .bool false := hd 5 (by kernel_rfl)
          rw [v5]
          exact st_pass rfl rfl
        case refine_11 =>
          have v5 : vals 5 = .bool false := hd 5 (by kernel_rfl)
          rw [v5]
          exact st_pass rfl rfl
        case refine_12 =>
          have v5 : vals 5 = .bool false := hd 5 (by kernel_rfl)
          rw [v5]
          exact st_pass rfl rfl
        case refine_13 =>
          have v5 : vals 5 = .bool false := hd 5 (by kernel_rfl)
          rw [v5]
          exact st_pass rfl rfl
        case refine_14 =>
          have v5 : vals 5 = .bool false := hd 5 (by kernel_rfl)
          rw [v5]
          exact st_pass rfl rfl
        case refine_15 =>
          have v5 : vals 5 = .bool false := hd 5 (by kernel_rfl)
          rw [v5]
          exact st_val rfl (by simp only [execOp]; first | (go_simp; done) | (go_simp; rfl)) rfl
        case refine_16 =>
          have v14 : vals 14 = .bool false := hd 14 (by omega)
          rw [v14]
          simp only [List.drop_succ_cons, List.drop_zero]
          have HO := hM
          clear hM hd
          go_wp2
          go_roundw
          case rel => exact ⟨n + 1, by omega, by have := HCC.out; omega, by go_num, HN2.out, HO⟩
          case measure => have := HCC.out; simp [intOf]; try omega
    · have htk : takeU l = (0, 0) := by
        have f : ∀ m, 1 ≤ m → m ≤ 4 → fitsU l m = false := fun m h1' h4' => by
          by_cases hm : m < n
          · exact hno m h1' hm
          · unfold fitsU
            rw [decide_eq_false (show ¬ m ≤ l.length by omega), Bool.false_and]
        unfold takeU
        rw [f 1 (by omega) (by omega), f 2 (by omega) (by omega), f 3 (by omega) (by omega), f 4 (by omega) (by omega)]
        rfl
      have HT := Lib.hid htk
      clear hno htk
      by_cases h4 : n ≤ 4
      · have d1 : decide ((n : Int) ≤ 4) = true := decide_eq_true (by omega)
        have d2 : decide ((n : Int) ≤ (l.length : Int)) = false := decide_eq_false (by omega)
        have d3 : decide (n ≤ l.length) = false := decide_eq_false (by omega)
        clear hgo
        go_wp2
        refine bodyPost_ret (results_tmp2 rfl _ _ _) rfl ?_
        exact ⟨by rw [HT.out]; rfl, HO.below⟩
      · have d1 : decide ((n : Int) ≤ 4) = false := decide_eq_false (by omega)
        clear hgo
        go_wp2
        refine bodyPost_ret (results_tmp2 rfl _ _ _) rfl ?_
        exact ⟨by rw [HT.out]; rfl, HO.below⟩
end Go.Proofs.YtcglbfpmcpammaaDoor
end
