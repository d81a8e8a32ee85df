/- S: texts run together by shake.py: Gclavierref18a1. -/
import Derived.ArgAppend
import Derived.Below
import Derived.BigQuiet
import Derived.Deep.AppendLies
import Derived.Deep.CutBlock
import Derived.Deep.DeepCutAuto
import Derived.Deep.Draws
import Derived.Deep.LoopGhost
import Derived.Deep.OwnRows
import Derived.Deep.Quiet
import Derived.Deep.QuietTactic
import Derived.Deep.RegionHeld3
import Derived.KernelRfl
import Derived.Laws.AppendOwn
import Derived.Laws.AppendOwnNone
import Derived.Laws.BitsLemmas
import Derived.Laws.BytesArg
import Derived.Laws.Concat
import Derived.Laws.CopyRow
import Derived.Laws.IdiomCopy
import Derived.Laws.IdiomStrings
import Derived.Laws.MakeOwn
import Derived.Laws.OwnMore
import Derived.Laws.Rows
import Derived.Laws.Slices
import Derived.Laws.StructEq
import Derived.Lib.AppendIntMem
import Derived.Lib.AppendStr
import Derived.Lib.ConvBytes
import Derived.Lib.Hide
import Derived.Lib.ItoaLen
import Derived.Lib.ItoaNum
import Derived.Lib.LaidTab
import Derived.MapKept
import Derived.Maps.AppendAt
import Derived.Orders
import Derived.OrdersHeld
import Derived.Outline
import Derived.OwnWalk
import Derived.RowKit
import Derived.RowKit3
import Derived.Shelf.LaysM
import Derived.Shelf.Strconv.Itoa0
import Derived.Shelf.Strconv.Itoa1
import Derived.Shelf.Strconv.Itoa2
import Derived.Shelf.Strconv.Itoa3
import Derived.Shelf.Strings.Builder1
import Derived.Shelf.Strings.Builder2
import Derived.Shelf.Strings.Builder2Cap
import Derived.Shelf.Strings.BuilderCap
import Derived.Shelf.Strings.BuilderF
import Derived.Shelf.Strings.BuilderK
import Derived.Shelf.Strings.OnBuilder
import Derived.Still
import Derived.Tactics
import Derived.Test.YtbaigfoioiklkaaDoorProg
import Derived.WalkKit
import Derived.WalkLawsBesides
import Derived.WalkSpells
import Derived.WideLaws
import Derived.Test.YtbaigfoioiklkaaDoorZS1
import Derived.Test.YtbaigfoioiklkaaDoorZS2
import Derived.Test.YtbaigfoioiklkaaDoorZS7
import Derived.Test.YtbaigfoioiklkaaDoorZS9
import Derived.Test.YtbaigfoioiklkaaDoorZS11
section
namespace Go.Proofs.YtbaigfoioiklkaaDoor.G
open Go.RowKit Go.Proofs.YtbaigfoioiklkaaDoorW.PrintWords Go.Proofs.YtbaigfoioiklkaaDoorW.PrintLast Go.Proofs.YtbaigfoioiklkaaDoorW.PrintMore
attribute [local go_sem] max2_int min2_int max_two min_two max_three min_three max_four min_four
set_option linter.unusedVariables false
set_option linter.unusedSimpArgs false
def clavierref18_parted.j0 : Nat → List Int → Bool → Option (Int)
  | 0, _, _ => none
  | k + 1, x0, x17 => if x17 = true then (if 2 < (x0.length : Int) then (some (rd x0 2)) else (none)) else (if (x0.length : Int) = 6 then (if 1 < (x0.length : Int) then (if (rd x0 1) = 2 then (if 3 < (x0.length : Int) then ((clavierref18_within.f (rd x0 3)).bind fun t310 => (if t310 = true then (if 4 < (x0.length : Int) then ((clavierref18_within.f (rd x0 4)).bind fun t312 => (if t312 = true then (if 5 < (x0.length : Int) then ((clavierref18_within.f (rd x0 5)).bind fun t314 => (if t314 = true then (some (wrap64 ((wrap64 ((wrap64 (256 + (wrap64 (65536 * (rd x0 3))))) + (wrap64 (256 * (rd x0 4))))) + (rd x0 5)))) else (some (-2)))) else (none)) else (some (-2)))) else (none)) else (some (-2)))) else (none)) else (some (-2))) else (none)) else (some (-2)))
def clavierref18_parted.f (k : Nat) (l0 : List Int) : Option (Int) := if (l0.length : Int) = 3 then (if 1 < (l0.length : Int) then (if (rd l0 1) = 5 then (if 2 < (l0.length : Int) then ((clavierref18_within.f (rd l0 2)).bind fun t306 => (clavierref18_parted.j0 k l0 t306)) else (none)) else (clavierref18_parted.j0 k l0 false)) else (none)) else (clavierref18_parted.j0 k l0 false)
theorem clavierref18_parted.mono_l : ∀ k, (∀ y0 y1, LeO (clavierref18_parted.j0 k y0 y1) (clavierref18_parted.j0 (k + 1) y0 y1))
  | 0 => fun _ _ r h => by simp [clavierref18_parted.j0] at h
  | k + 1 => by
    have ih0 := clavierref18_parted.mono_l k
    · intro y0 y1
      unfold clavierref18_parted.j0
      repeat' first
      | (with_reducible exact ih0 _ _)
      | (with_reducible exact LeO.refl _)
      | (with_reducible exact LeO.none _)
      | (with_reducible refine LeO.ite ?_ ?_)
      | (with_reducible refine LeO.bind ?_ (fun _ => ?_))
      | exact ih0 _ _
      | exact LeO.none _
      | refine LeO.ite ?_ ?_
      | refine LeO.bind ?_ (fun _ => ?_)
theorem clavierref18_parted.mono : ∀ a0 k, LeO (clavierref18_parted.f k a0) (clavierref18_parted.f (k + 1) a0) := by
  intro a0 k
  have ih0 := clavierref18_parted.mono_l k
  unfold clavierref18_parted.f
  repeat' first
      | (with_reducible exact ih0 _ _)
      | (with_reducible exact LeO.refl _)
      | (with_reducible exact LeO.none _)
      | (with_reducible refine LeO.ite ?_ ?_)
      | (with_reducible refine LeO.bind ?_ (fun _ => ?_))
      | exact ih0 _ _
      | exact LeO.none _
      | refine LeO.ite ?_ ?_
      | refine LeO.bind ?_ (fun _ => ?_)
set_option maxHeartbeats 8000000 in
set_option maxRecDepth 100000 in
theorem clavierref18_parted.calls (k : Nat) (A0 : Option Addr) (c0 : Nat) (l0 : List Int) (r : Int) (w : World) (hr0 : Kd.C (Kd.int .i64) w A0 l0.length l0) (hc0 : l0.length ≤ c0) (h : clavierref18_parted.f k l0 = some r) :
    Calls Tryd.prog 51 #[.slice A0 l0.length c0] w fun e w' => e = .returned (.int .i64 r) ∧ Drawn0 w w' := by
  have HR0 := Aside0.mk hr0
  have HC0 := Aside0.mk hc0
  clear hr0 hc0
  have H : (if (l0.length : Int) = 3 then (if 1 < (l0.length : Int) then (if (rd l0 1) = 5 then (if 2 < (l0.length : Int) then ((clavierref18_within.f (rd l0 2)).bind fun t306 => (clavierref18_parted.j0 k l0 t306)) else (none)) else (clavierref18_parted.j0 k l0 false)) else (none)) else (clavierref18_parted.j0 k l0 false)) = some r := h
  clear h
  have HC2 := Aside0.mk H
  clear H
  go_enter Tryd.func51, Tryd.ntmps51
  go_upto_region 1 with (fail)
  repeat (go_quiet (fail); go_upto_region 1 with (fail))
  go_cut [17] (fun v17 wc => ∃ (kq : Nat) (x17_1 : Bool), v17 = .bool x17_1 ∧ Aside0 (clavierref18_parted.j0 kq l0 x17_1 = some r) ∧ Aside0 (kq ≤ k) ∧ Drawn0 w wc)
  case first =>
    have H := HC2.out
    clear HC2
    by_cases c3 : (l0.length : Int) = 3
    · rw [if_pos c3] at H
      have c3b0 : ((l0.length : Int) == 3) = true := beq_iff_eq.mpr c3
      have c3b1 : ((l0.length : Int) != 3) = false := bne_eq_false_iff_eq.mpr c3
      clear c3
      (first | rw [c3b0] | (simp only [i64_w, i32_w]; rw [c3b0]) | skip)
      by_cases c4 : 1 < (l0.length : Int)
      · rw [if_pos c4] at H
        have c4b0 : decide (1 < (l0.length : Int)) = true := decide_eq_true c4
        have c4b1 : decide (1 < l0.length) = true := decide_eq_true (by omega)
        clear c4
        by_cases c5 : (rd l0 1) = 5
        · rw [if_pos c5] at H
          have c5b0 : ((rd l0 1) == 5) = true := beq_iff_eq.mpr c5
          have c5b1 : ((rd l0 1) != 5) = false := bne_eq_false_iff_eq.mpr c5
          clear c5
          by_cases c6 : 2 < (l0.length : Int)
          · rw [if_pos c6] at H
            have c6b0 : decide (2 < (l0.length : Int)) = true := decide_eq_true c6
            have c6b1 : decide (2 < l0.length) = true := decide_eq_true (by omega)
            clear c6
            replace H := Option.bind_eq_some_iff.mp H
            obtain ⟨t306, A70, H⟩ := H
            replace H : (clavierref18_parted.j0 k l0 t306) = some r := H
            have A7 := Aside0.mk A70
            clear A70
            have H' := Aside0.mk H
            clear H
            have p304 : 0 ≤ (1 : Int) := (by omega)
            have q304 : 1 < (l0.length : Int) := of_decide_eq_true (by first | (with_reducible assumption) | assumption)
            obtain ⟨ad304, e304, hx304_0⟩ := Kd.at_int HR0.out 1 p304 q304
            cases e304
            (try simp only [show (1 : Int).toNat = 1 from rfl, Nat.reduceMul, Nat.reduceEqDiff, Go.Addr.add, ↓reduceIte] at hx304_0)
            have qi304 : (1 < l0.length) = True := eq_true (by omega)
            (try rw [show ((1 : Int)).toNat = 1 from rfl] at hx304_0)
            replace p304 := eq_true p304
            replace q304 := eq_true q304
            have p305 : 0 ≤ (2 : Int) := (by omega)
            have q305 : 2 < (l0.length : Int) := of_decide_eq_true (by first | (with_reducible assumption) | assumption)
            obtain ⟨ad305, e305, hx305_0⟩ := Kd.at_int HR0.out 2 p305 q305
            obtain rfl : ad304 = ad305 := (by injection e305)
            (try simp only [show (2 : Int).toNat = 2 from rfl, Nat.reduceMul, Nat.reduceEqDiff, Go.Addr.add, ↓reduceIte] at hx305_0)
            have qi305 : (2 < l0.length) = True := eq_true (by omega)
            (try rw [show ((2 : Int)).toNat = 2 from rfl] at hx305_0)
            replace p305 := eq_true p305
            replace q305 := eq_true q305
            go_wp2_with (first | (go_at_call 56; (with_reducible refine (clavierref18_within.calls (rd l0 2) t306 _ A7.out).mono ?_); rintro e w' ⟨rfl, ⟨nd, rfl⟩⟩; (try first | exact ⟨rfl, _, World.drewN_drewN _ _ _⟩ | exact ⟨rfl, _, Eq.trans (World.drewN_drewN _ _ _) (congrArg (World.drewN _) (Nat.add_assoc _ _ _))⟩)))
            repeat (go_quiet (first | (go_at_call 56; (with_reducible refine (clavierref18_within.calls (rd l0 2) t306 _ A7.out).mono ?_); rintro e w' ⟨rfl, ⟨nd, rfl⟩⟩; (try first | exact ⟨rfl, _, World.drewN_drewN _ _ _⟩ | exact ⟨rfl, _, Eq.trans (World.drewN_drewN _ _ _) (congrArg (World.drewN _) (Nat.add_assoc _ _ _))⟩))); try go_wp2_with (first | (go_at_call 56; (with_reducible refine (clavierref18_within.calls (rd l0 2) t306 _ A7.out).mono ?_); rintro e w' ⟨rfl, ⟨nd, rfl⟩⟩; (try first | exact ⟨rfl, _, World.drewN_drewN _ _ _⟩ | exact ⟨rfl, _, Eq.trans (World.drewN_drewN _ _ _) (congrArg (World.drewN _) (Nat.add_assoc _ _ _))⟩))))
            go_meet
            case rel => exact ⟨_, (t306), (by first | rfl | (simp; done) | (simp [*]; done)), H', ⟨by first | omega | exact Nat.le_refl _⟩, by repeat (first | exact Drawn0.refl _ | apply Drawn0.step)⟩
          · rw [if_neg c6] at H
            exact absurd H (by simp)
        · rw [if_neg c5] at H
          have c5b0 : ((rd l0 1) == 5) = false := beq_eq_false_iff_ne.mpr c5
          have c5b1 : ((rd l0 1) != 5) = true := bne_iff_ne.mpr c5
          have H' := Aside0.mk H
          clear H
          have p304 : 0 ≤ (1 : Int) := (by omega)
          have q304 : 1 < (l0.length : Int) := of_decide_eq_true (by first | (with_reducible assumption) | assumption)
          obtain ⟨ad304, e304, hx304_0⟩ := Kd.at_int HR0.out 1 p304 q304
          cases e304
          (try simp only [show (1 : Int).toNat = 1 from rfl, Nat.reduceMul, Nat.reduceEqDiff, Go.Addr.add, ↓reduceIte] at hx304_0)
          have qi304 : (1 < l0.length) = True := eq_true (by omega)
          (try rw [show ((1 : Int)).toNat = 1 from rfl] at hx304_0)
          replace p304 := eq_true p304
          replace q304 := eq_true q304
          go_wp2
          repeat (go_quiet (fail); try go_wp2)
          go_meet
          case rel => exact ⟨_, (false), (by first | rfl | (simp; done) | (simp [*]; done)), H', ⟨by first | omega | exact Nat.le_refl _⟩, by repeat (first | exact Drawn0.refl _ | apply Drawn0.step)⟩
      · rw [if_neg c4] at H
        exact absurd H (by simp)
    · rw [if_neg c3] at H
      have c3b0 : ((l0.length : Int) == 3) = false := beq_eq_false_iff_ne.mpr c3
      have c3b1 : ((l0.length : Int) != 3) = true := bne_iff_ne.mpr c3
      (first | rw [c3b0] | (simp only [i64_w, i32_w]; rw [c3b0]) | skip)
      have H' := Aside0.mk H
      clear H
      go_wp2
      repeat (go_quiet (fail); try go_wp2)
      go_meet
      case rel => exact ⟨_, (false), (by first | rfl | (simp; done) | (simp [*]; done)), H', ⟨by first | omega | exact Nat.le_refl _⟩, by repeat (first | exact Drawn0.refl _ | apply Drawn0.step)⟩
  case rest =>
    clear HC2
    try clear p2
    try clear c3
    try clear c3b0
    try clear c3b1
    try clear p3
    try clear q3
    try clear hx3
    try clear qi3
    try clear c4
    try clear c4b0
    try clear c4b1
    try clear c5
    try clear c5b0
    try clear c5b1
    try clear c6
    try clear c6b0
    try clear c6b1
    try clear hx304_0
    try clear hx305_0
    try clear p304
    try clear p305
    try clear q304
    try clear q305
    obtain ⟨kq, x17_1, rfl, HA, HJ1, ⟨mc1, rfl⟩⟩ := hcut
    cases kq with
    | zero => exact absurd HA.out (by simp [clavierref18_parted.j0])
    | succ kj1 =>
      have H := HA.out
      clear HA
      simp only [clavierref18_parted.j0] at H
      by_cases c8 : x17_1 = true
      · subst c8
        have H1 : (if 2 < (l0.length : Int) then (some (rd l0 2)) else (none)) = some r := by rw [if_pos rfl] at H; exact H
        clear H
        have H := H1
        clear H1
        by_cases c9 : 2 < (l0.length : Int)
        · rw [if_pos c9] at H
          have c9b0 : decide (2 < (l0.length : Int)) = true := decide_eq_true c9
          have c9b1 : decide (2 < l0.length) = true := decide_eq_true (by omega)
          clear c9
          obtain rfl := Option.some.inj H
          have p307 : 0 ≤ (2 : Int) := (by omega)
          have q307 : 2 < (l0.length : Int) := of_decide_eq_true (by first | (with_reducible assumption) | assumption)
          obtain ⟨ad307, e307, hx307_0⟩ := Kd.at_int HR0.out 2 p307 q307
          cases e307
          (try simp only [show (2 : Int).toNat = 2 from rfl, Nat.reduceMul, Nat.reduceEqDiff, Go.Addr.add, ↓reduceIte] at hx307_0)
          have qi307 : (2 < l0.length) = True := eq_true (by omega)
          (try rw [show ((2 : Int)).toNat = 2 from rfl] at hx307_0)
          replace p307 := eq_true p307
          replace q307 := eq_true q307
          go_wp2
          repeat (go_quiet (fail); try go_wp2)
          go_ret
          exact ⟨by first | rfl | (simp; done) | (simp [*]; done), by repeat (first | exact Drawn0.refl _ | apply Drawn0.step)⟩
        · rw [if_neg c9] at H
          exact absurd H (by simp)
      · replace c8 := Bool.eq_false_iff.mpr c8
        subst c8
        have H1 : (if (l0.length : Int) = 6 then (if 1 < (l0.length : Int) then (if (rd l0 1) = 2 then (if 3 < (l0.length : Int) then ((clavierref18_within.f (rd l0 3)).bind fun t310 => (if t310 = true then (if 4 < (l0.length : Int) then ((clavierref18_within.f (rd l0 4)).bind fun t312 => (if t312 = true then (if 5 < (l0.length : Int) then ((clavierref18_within.f (rd l0 5)).bind fun t314 => (if t314 = true then (some (wrap64 ((wrap64 ((wrap64 (256 + (wrap64 (65536 * (rd l0 3))))) + (wrap64 (256 * (rd l0 4))))) + (rd l0 5)))) else (some (-2)))) else (none)) else (some (-2)))) else (none)) else (some (-2)))) else (none)) else (some (-2))) else (none)) else (some (-2))) = some r := by rw [if_neg (show ¬ (false = true) by decide)] at H; exact H
        clear H
        have H := H1
        clear H1
        by_cases c10 : (l0.length : Int) = 6
        · rw [if_pos c10] at H
          have c10b0 : ((l0.length : Int) == 6) = true := beq_iff_eq.mpr c10
          have c10b1 : ((l0.length : Int) != 6) = false := bne_eq_false_iff_eq.mpr c10
          clear c10
          by_cases c11 : 1 < (l0.length : Int)
          · rw [if_pos c11] at H
            have c11b0 : decide (1 < (l0.length : Int)) = true := decide_eq_true c11
            have c11b1 : decide (1 < l0.length) = true := decide_eq_true (by omega)
            clear c11
            by_cases c12 : (rd l0 1) = 2
            · rw [if_pos c12] at H
              have c12b0 : ((rd l0 1) == 2) = true := beq_iff_eq.mpr c12
              have c12b1 : ((rd l0 1) != 2) = false := bne_eq_false_iff_eq.mpr c12
              clear c12
              by_cases c13 : 3 < (l0.length : Int)
              · rw [if_pos c13] at H
                have c13b0 : decide (3 < (l0.length : Int)) = true := decide_eq_true c13
                have c13b1 : decide (3 < l0.length) = true := decide_eq_true (by omega)
                clear c13
                replace H := Option.bind_eq_some_iff.mp H
                obtain ⟨t310, A140, H⟩ := H
                replace H : (if t310 = true then (if 4 < (l0.length : Int) then ((clavierref18_within.f (rd l0 4)).bind fun t312 => (if t312 = true then (if 5 < (l0.length : Int) then ((clavierref18_within.f (rd l0 5)).bind fun t314 => (if t314 = true then (some (wrap64 ((wrap64 ((wrap64 (256 + (wrap64 (65536 * (rd l0 3))))) + (wrap64 (256 * (rd l0 4))))) + (rd l0 5)))) else (some (-2)))) else (none)) else (some (-2)))) else (none)) else (some (-2))) = some r := H
                have A14 := Aside0.mk A140
                clear A140
                by_cases c15 : t310 = true
                · subst c15
                  have H1 : (if 4 < (l0.length : Int) then ((clavierref18_within.f (rd l0 4)).bind fun t312 => (if t312 = true then (if 5 < (l0.length : Int) then ((clavierref18_within.f (rd l0 5)).bind fun t314 => (if t314 = true then (some (wrap64 ((wrap64 ((wrap64 (256 + (wrap64 (65536 * (rd l0 3))))) + (wrap64 (256 * (rd l0 4))))) + (rd l0 5)))) else (some (-2)))) else (none)) else (some (-2)))) else (none)) = some r := by rw [if_pos rfl] at H; exact H
                  clear H
                  have H := H1
                  clear H1
                  by_cases c16 : 4 < (l0.length : Int)
                  · rw [if_pos c16] at H
                    have c16b0 : decide (4 < (l0.length : Int)) = true := decide_eq_true c16
                    have c16b1 : decide (4 < l0.length) = true := decide_eq_true (by omega)
                    clear c16
                    replace H := Option.bind_eq_some_iff.mp H
                    obtain ⟨t312, A170, H⟩ := H
                    replace H : (if t312 = true then (if 5 < (l0.length : Int) then ((clavierref18_within.f (rd l0 5)).bind fun t314 => (if t314 = true then (some (wrap64 ((wrap64 ((wrap64 (256 + (wrap64 (65536 * (rd l0 3))))) + (wrap64 (256 * (rd l0 4))))) + (rd l0 5)))) else (some (-2)))) else (none)) else (some (-2))) = some r := H
                    have A17 := Aside0.mk A170
                    clear A170
                    by_cases c18 : t312 = true
                    · subst c18
                      have H1 : (if 5 < (l0.length : Int) then ((clavierref18_within.f (rd l0 5)).bind fun t314 => (if t314 = true then (some (wrap64 ((wrap64 ((wrap64 (256 + (wrap64 (65536 * (rd l0 3))))) + (wrap64 (256 * (rd l0 4))))) + (rd l0 5)))) else (some (-2)))) else (none)) = some r := by rw [if_pos rfl] at H; exact H
                      clear H
                      have H := H1
                      clear H1
                      by_cases c19 : 5 < (l0.length : Int)
                      · rw [if_pos c19] at H
                        have c19b0 : decide (5 < (l0.length : Int)) = true := decide_eq_true c19
                        have c19b1 : decide (5 < l0.length) = true := decide_eq_true (by omega)
                        clear c19
                        replace H := Option.bind_eq_some_iff.mp H
                        obtain ⟨t314, A200, H⟩ := H
                        replace H : (if t314 = true then (some (wrap64 ((wrap64 ((wrap64 (256 + (wrap64 (65536 * (rd l0 3))))) + (wrap64 (256 * (rd l0 4))))) + (rd l0 5)))) else (some (-2))) = some r := H
                        have A20 := Aside0.mk A200
                        clear A200
                        by_cases c21 : t314 = true
                        · subst c21
                          have H1 : (some (wrap64 ((wrap64 ((wrap64 (256 + (wrap64 (65536 * (rd l0 3))))) + (wrap64 (256 * (rd l0 4))))) + (rd l0 5)))) = some r := by rw [if_pos rfl] at H; exact H
                          clear H
                          have H := H1
                          clear H1
                          obtain rfl := Option.some.inj H
                          have p308 : 0 ≤ (1 : Int) := (by omega)
                          have q308 : 1 < (l0.length : Int) := of_decide_eq_true (by first | (with_reducible assumption) | assumption)
                          obtain ⟨ad308, e308, hx308_0⟩ := Kd.at_int HR0.out 1 p308 q308
                          cases e308
                          (try simp only [show (1 : Int).toNat = 1 from rfl, Nat.reduceMul, Nat.reduceEqDiff, Go.Addr.add, ↓reduceIte] at hx308_0)
                          have qi308 : (1 < l0.length) = True := eq_true (by omega)
                          (try rw [show ((1 : Int)).toNat = 1 from rfl] at hx308_0)
                          replace p308 := eq_true p308
                          replace q308 := eq_true q308
                          have p309 : 0 ≤ (3 : Int) := (by omega)
                          have q309 : 3 < (l0.length : Int) := of_decide_eq_true (by first | (with_reducible assumption) | assumption)
                          obtain ⟨ad309, e309, hx309_0⟩ := Kd.at_int HR0.out 3 p309 q309
                          obtain rfl : ad308 = ad309 := (by injection e309)
                          (try simp only [show (3 : Int).toNat = 3 from rfl, Nat.reduceMul, Nat.reduceEqDiff, Go.Addr.add, ↓reduceIte] at hx309_0)
                          have qi309 : (3 < l0.length) = True := eq_true (by omega)
                          (try rw [show ((3 : Int)).toNat = 3 from rfl] at hx309_0)
                          replace p309 := eq_true p309
                          replace q309 := eq_true q309
                          go_wp2_with (first | (go_at_call 56; (with_reducible refine (clavierref18_within.calls (rd l0 3) true _ A14.out).mono ?_); rintro e w' ⟨rfl, ⟨nd, rfl⟩⟩; (try first | exact ⟨rfl, _, World.drewN_drewN _ _ _⟩ | exact ⟨rfl, _, Eq.trans (World.drewN_drewN _ _ _) (congrArg (World.drewN _) (Nat.add_assoc _ _ _))⟩); have p311 : 0 ≤ (4 : Int) := (by omega); have q311 : 4 < (l0.length : Int) := of_decide_eq_true (by first | (with_reducible assumption) | assumption); obtain ⟨ad311, e311, hx311_0⟩ := Kd.at_int HR0.out 4 p311 q311; obtain rfl : ad308 = ad311 := (by injection e311); (try simp only [show (4 : Int).toNat = 4 from rfl, Nat.reduceMul, Nat.reduceEqDiff, Go.Addr.add, ↓reduceIte] at hx311_0); have qi311 : (4 < l0.length) = True := eq_true (by omega); (try rw [show ((4 : Int)).toNat = 4 from rfl] at hx311_0); replace p311 := eq_true p311; replace q311 := eq_true q311) | (go_at_call 56; (with_reducible refine (clavierref18_within.calls (rd l0 4) true _ A17.out).mono ?_); rintro e w' ⟨rfl, ⟨nd, rfl⟩⟩; (try first | exact ⟨rfl, _, World.drewN_drewN _ _ _⟩ | exact ⟨rfl, _, Eq.trans (World.drewN_drewN _ _ _) (congrArg (World.drewN _) (Nat.add_assoc _ _ _))⟩); have p313 : 0 ≤ (5 : Int) := (by omega); have q313 : 5 < (l0.length : Int) := of_decide_eq_true (by first | (with_reducible assumption) | assumption); obtain ⟨ad313, e313, hx313_0⟩ := Kd.at_int HR0.out 5 p313 q313; obtain rfl : ad308 = ad313 := (by injection e313); (try simp only [show (5 : Int).toNat = 5 from rfl, Nat.reduceMul, Nat.reduceEqDiff, Go.Addr.add, ↓reduceIte] at hx313_0); have qi313 : (5 < l0.length) = True := eq_true (by omega); (try rw [show ((5 : Int)).toNat = 5 from rfl] at hx313_0); replace p313 := eq_true p313; replace q313 := eq_true q313) | (go_at_call 56; (with_reducible refine (clavierref18_within.calls (rd l0 5) true _ A20.out).mono ?_); rintro e w' ⟨rfl, ⟨nd, rfl⟩⟩; (try first | exact ⟨rfl, _, World.drewN_drewN _ _ _⟩ | exact ⟨rfl, _, Eq.trans (World.drewN_drewN _ _ _) (congrArg (World.drewN _) (Nat.add_assoc _ _ _))⟩); have p315 : 0 ≤ (3 : Int) := (by omega); have q315 : 3 < (l0.length : Int) := of_decide_eq_true (by first | (with_reducible assumption) | assumption); obtain ⟨ad315, e315, hx315_0⟩ := Kd.at_int HR0.out 3 p315 q315; obtain rfl : ad308 = ad315 := (by injection e315); (try simp only [show (3 : Int).toNat = 3 from rfl, Nat.reduceMul, Nat.reduceEqDiff, Go.Addr.add, ↓reduceIte] at hx315_0); have qi315 : (3 < l0.length) = True := eq_true (by omega); (try rw [show ((3 : Int)).toNat = 3 from rfl] at hx315_0); replace p315 := eq_true p315; replace q315 := eq_true q315; have p316 : 0 ≤ (4 : Int) := (by omega); have q316 : 4 < (l0.length : Int) := of_decide_eq_true (by first | (with_reducible assumption) | assumption); obtain ⟨ad316, e316, hx316_0⟩ := Kd.at_int HR0.out 4 p316 q316; obtain rfl : ad308 = ad316 := (by injection e316); (try simp only [show (4 : Int).toNat = 4 from rfl, Nat.reduceMul, Nat.reduceEqDiff, Go.Addr.add, ↓reduceIte] at hx316_0); have qi316 : (4 < l0.length) = True := eq_true (by omega); (try rw [show ((4 : Int)).toNat = 4 from rfl] at hx316_0); replace p316 := eq_true p316; replace q316 := eq_true q316; have p317 : 0 ≤ (5 : Int) := (by omega); have q317 : 5 < (l0.length : Int) := of_decide_eq_true (by first | (with_reducible assumption) | assumption); obtain ⟨ad317, e317, hx317_0⟩ := Kd.at_int HR0.out 5 p317 q317; obtain rfl : ad308 = ad317 := (by injection e317); (try simp only [show (5 : Int).toNat = 5 from rfl, Nat.reduceMul, Nat.reduceEqDiff, Go.Addr.add, ↓reduceIte] at hx317_0); have qi317 : (5 < l0.length) = True := eq_true (by omega); (try rw [show ((5 : Int)).toNat = 5 from rfl] at hx317_0); replace p317 := eq_true p317; replace q317 := eq_true q317))
                          repeat (go_quiet (first | (go_at_call 56; (with_reducible refine (clavierref18_within.calls (rd l0 3) true _ A14.out).mono ?_); rintro e w' ⟨rfl, ⟨nd, rfl⟩⟩; (try first | exact ⟨rfl, _, World.drewN_drewN _ _ _⟩ | exact ⟨rfl, _, Eq.trans (World.drewN_drewN _ _ _) (congrArg (World.drewN _) (Nat.add_assoc _ _ _))⟩); have p311 : 0 ≤ (4 : Int) := (by omega); have q311 : 4 < (l0.length : Int) := of_decide_eq_true (by first | (with_reducible assumption) | assumption); obtain ⟨ad311, e311, hx311_0⟩ := Kd.at_int HR0.out 4 p311 q311; obtain rfl : ad308 = ad311 := (by injection e311); (try simp only [show (4 : Int).toNat = 4 from rfl, Nat.reduceMul, Nat.reduceEqDiff, Go.Addr.add, ↓reduceIte] at hx311_0); have qi311 : (4 < l0.length) = True := eq_true (by omega); (try rw [show ((4 : Int)).toNat = 4 from rfl] at hx311_0); replace p311 := eq_true p311; replace q311 := eq_true q311) | (go_at_call 56; (with_reducible refine (clavierref18_within.calls (rd l0 4) true _ A17.out).mono ?_); rintro e w' ⟨rfl, ⟨nd, rfl⟩⟩; (try first | exact ⟨rfl, _, World.drewN_drewN _ _ _⟩ | exact ⟨rfl, _, Eq.trans (World.drewN_drewN _ _ _) (congrArg (World.drewN _) (Nat.add_assoc _ _ _))⟩); have p313 : 0 ≤ (5 : Int) := (by omega); have q313 : 5 < (l0.length : Int) := of_decide_eq_true (by first | (with_reducible assumption) | assumption); obtain ⟨ad313, e313, hx313_0⟩ := Kd.at_int HR0.out 5 p313 q313; obtain rfl : ad308 = ad313 := (by injection e313); (try simp only [show (5 : Int).toNat = 5 from rfl, Nat.reduceMul, Nat.reduceEqDiff, Go.Addr.add, ↓reduceIte] at hx313_0); have qi313 : (5 < l0.length) = True := eq_true (by omega); (try rw [show ((5 : Int)).toNat = 5 from rfl] at hx313_0); replace p313 := eq_true p313; replace q313 := eq_true q313) | (go_at_call 56; (with_reducible refine (clavierref18_within.calls (rd l0 5) true _ A20.out).mono ?_); rintro e w' ⟨rfl, ⟨nd, rfl⟩⟩; (try first | exact ⟨rfl, _, World.drewN_drewN _ _ _⟩ | exact ⟨rfl, _, Eq.trans (World.drewN_drewN _ _ _) (congrArg (World.drewN _) (Nat.add_assoc _ _ _))⟩); have p315 : 0 ≤ (3 : Int) := (by omega); have q315 : 3 < (l0.length : Int) := of_decide_eq_true (by first | (with_reducible assumption) | assumption); obtain ⟨ad315, e315, hx315_0⟩ := Kd.at_int HR0.out 3 p315 q315; obtain rfl : ad308 = ad315 := (by injection e315); (try simp only [show (3 : Int).toNat = 3 from rfl, Nat.reduceMul, Nat.reduceEqDiff, Go.Addr.add, ↓reduceIte] at hx315_0); have qi315 : (3 < l0.length) = True := eq_true (by omega); (try rw [show ((3 : Int)).toNat = 3 from rfl] at hx315_0); replace p315 := eq_true p315; replace q315 := eq_true q315; have p316 : 0 ≤ (4 : Int) := (by omega); have q316 : 4 < (l0.length : Int) := of_decide_eq_true (by first | (with_reducible assumption) | assumption); obtain ⟨ad316, e316, hx316_0⟩ := Kd.at_int HR0.out 4 p316 q316; obtain rfl : ad308 = ad316 := (by injection e316); (try simp only [show (4 : Int).toNat = 4 from rfl, Nat.reduceMul, Nat.reduceEqDiff, Go.Addr.add, ↓reduceIte] at hx316_0); have qi316 : (4 < l0.length) = True := eq_true (by omega); (try rw [show ((4 : Int)).toNat = 4 from rfl] at hx316_0); replace p316 := eq_true p316; replace q316 := eq_true q316; have p317 : 0 ≤ (5 : Int) := (by omega); have q317 : 5 < (l0.length : Int) := of_decide_eq_true (by first | (with_reducible assumption) | assumption); obtain ⟨ad317, e317, hx317_0⟩ := Kd.at_int HR0.out 5 p317 q317; obtain rfl : ad308 = ad317 := (by injection e317); (try simp only [show (5 : Int).toNat = 5 from rfl, Nat.reduceMul, Nat.reduceEqDiff, Go.Addr.add, ↓reduceIte] at hx317_0); have qi317 : (5 < l0.length) = True := eq_true (by omega); (try rw [show ((5 : Int)).toNat = 5 from rfl] at hx317_0); replace p317 := eq_true p317; replace q317 := eq_true q317)); try go_wp2_with (first | (go_at_call 56; (with_reducible refine (clavierref18_within.calls (rd l0 3) true _ A14.out).mono ?_); rintro e w' ⟨rfl, ⟨nd, rfl⟩⟩; (try first | exact ⟨rfl, _, World.drewN_drewN _ _ _⟩ | exact ⟨rfl, _, Eq.trans (World.drewN_drewN _ _ _) (congrArg (World.drewN _) (Nat.add_assoc _ _ _))⟩); have p311 : 0 ≤ (4 : Int) := (by omega); have q311 : 4 < (l0.length : Int) := of_decide_eq_true (by first | (with_reducible assumption) | assumption); obtain ⟨ad311, e311, hx311_0⟩ := Kd.at_int HR0.out 4 p311 q311; obtain rfl : ad308 = ad311 := (by injection e311); (try simp only [show (4 : Int).toNat = 4 from rfl, Nat.reduceMul, Nat.reduceEqDiff, Go.Addr.add, ↓reduceIte] at hx311_0); have qi311 : (4 < l0.length) = True := eq_true (by omega); (try rw [show ((4 : Int)).toNat = 4 from rfl] at hx311_0); replace p311 := eq_true p311; replace q311 := eq_true q311) | (go_at_call 56; (with_reducible refine (clavierref18_within.calls (rd l0 4) true _ A17.out).mono ?_); rintro e w' ⟨rfl, ⟨nd, rfl⟩⟩; (try first | exact ⟨rfl, _, World.drewN_drewN _ _ _⟩ | exact ⟨rfl, _, Eq.trans (World.drewN_drewN _ _ _) (congrArg (World.drewN _) (Nat.add_assoc _ _ _))⟩); have p313 : 0 ≤ (5 : Int) := (by omega); have q313 : 5 < (l0.length : Int) := of_decide_eq_true (by first | (with_reducible assumption) | assumption); obtain ⟨ad313, e313, hx313_0⟩ := Kd.at_int HR0.out 5 p313 q313; obtain rfl : ad308 = ad313 := (by injection e313); (try simp only [show (5 : Int).toNat = 5 from rfl, Nat.reduceMul, Nat.reduceEqDiff, Go.Addr.add, ↓reduceIte] at hx313_0); have qi313 : (5 < l0.length) = True := eq_true (by omega); (try rw [show ((5 : Int)).toNat = 5 from rfl] at hx313_0); replace p313 := eq_true p313; replace q313 := eq_true q313) | (go_at_call 56; (with_reducible refine (clavierref18_within.calls (rd l0 5) true _ A20.out).mono ?_); rintro e w' ⟨rfl, ⟨nd, rfl⟩⟩; (try first | exact ⟨rfl, _, World.drewN_drewN _ _ _⟩ | exact ⟨rfl, _, Eq.trans (World.drewN_drewN _ _ _) (congrArg (World.drewN _) (Nat.add_assoc _ _ _))⟩); have p315 : 0 ≤ (3 : Int) := (by omega); have q315 : 3 < (l0.length : Int) := of_decide_eq_true (by first | (with_reducible assumption) | assumption); obtain ⟨ad315, e315, hx315_0⟩ := Kd.at_int HR0.out 3 p315 q315; obtain rfl : ad308 = ad315 := (by injection e315); (try simp only [show (3 : Int).toNat = 3 from rfl, Nat.reduceMul, Nat.reduceEqDiff, Go.Addr.add, ↓reduceIte] at hx315_0); have qi315 : (3 < l0.length) = True := eq_true (by omega); (try rw [show ((3 : Int)).toNat = 3 from rfl] at hx315_0); replace p315 := eq_true p315; replace q315 := eq_true q315; have p316 : 0 ≤ (4 : Int) := (by omega); have q316 : 4 < (l0.length : Int) := of_decide_eq_true (by first | (with_reducible assumption) | assumption); obtain ⟨ad316, e316, hx316_0⟩ := Kd.at_int HR0.out 4 p316 q316; obtain rfl : ad308 = ad316 := (by injection e316); (try simp only [show (4 : Int).toNat = 4 from rfl, Nat.reduceMul, Nat.reduceEqDiff, Go.Addr.add, ↓reduceIte] at hx316_0); have qi316 : (4 < l0.length) = True := eq_true (by omega); (try rw [show ((4 : Int)).toNat = 4 from rfl] at hx316_0); replace p316 := eq_true p316; replace q316 := eq_true q316; have p317 : 0 ≤ (5 : Int) := (by omega); have q317 : 5 < (l0.length : Int) := of_decide_eq_true (by first | (with_reducible assumption) | assumption); obtain ⟨ad317, e317, hx317_0⟩ := Kd.at_int HR0.out 5 p317 q317; obtain rfl : ad308 = ad317 := (by injection e317); (try simp only [show (5 : Int).toNat = 5 from rfl, Nat.reduceMul, Nat.reduceEqDiff, Go.Addr.add, ↓reduceIte] at hx317_0); have qi317 : (5 < l0.length) = True := eq_true (by omega); (try rw [show ((5 : Int)).toNat = 5 from rfl] at hx317_0); replace p317 := eq_true p317; replace q317 := eq_true q317)))
                          go_ret
                          exact ⟨by first | rfl | (simp; done) | (simp [*]; done), by repeat (first | exact Drawn0.refl _ | apply Drawn0.step)⟩
                        · replace c21 := Bool.eq_false_iff.mpr c21
                          subst c21
                          have H1 : (some (-2)) = some r := by rw [if_neg (show ¬ (false = true) by decide)] at H; exact H
                          clear H
                          have H := H1
                          clear H1
                          obtain rfl := Option.some.inj H
                          have p308 : 0 ≤ (1 : Int) := (by omega)
                          have q308 : 1 < (l0.length : Int) := of_decide_eq_true (by first | (with_reducible assumption) | assumption)
                          obtain ⟨ad308, e308, hx308_0⟩ := Kd.at_int HR0.out 1 p308 q308
                          cases e308
                          (try simp only [show (1 : Int).toNat = 1 from rfl, Nat.reduceMul, Nat.reduceEqDiff, Go.Addr.add, ↓reduceIte] at hx308_0)
                          have qi308 : (1 < l0.length) = True := eq_true (by omega)
                          (try rw [show ((1 : Int)).toNat = 1 from rfl] at hx308_0)
                          replace p308 := eq_true p308
                          replace q308 := eq_true q308
                          have p309 : 0 ≤ (3 : Int) := (by omega)
                          have q309 : 3 < (l0.length : Int) := of_decide_eq_true (by first | (with_reducible assumption) | assumption)
                          obtain ⟨ad309, e309, hx309_0⟩ := Kd.at_int HR0.out 3 p309 q309
                          obtain rfl : ad308 = ad309 := (by injection e309)
                          (try simp only [show (3 : Int).toNat = 3 from rfl, Nat.reduceMul, Nat.reduceEqDiff, Go.Addr.add, ↓reduceIte] at hx309_0)
                          have qi309 : (3 < l0.length) = True := eq_true (by omega)
                          (try rw [show ((3 : Int)).toNat = 3 from rfl] at hx309_0)
                          replace p309 := eq_true p309
                          replace q309 := eq_true q309
                          go_wp2_with (first | (go_at_call 56; (with_reducible refine (clavierref18_within.calls (rd l0 3) true _ A14.out).mono ?_); rintro e w' ⟨rfl, ⟨nd, rfl⟩⟩; (try first | exact ⟨rfl, _, World.drewN_drewN _ _ _⟩ | exact ⟨rfl, _, Eq.trans (World.drewN_drewN _ _ _) (congrArg (World.drewN _) (Nat.add_assoc _ _ _))⟩); have p311 : 0 ≤ (4 : Int) := (by omega); have q311 : 4 < (l0.length : Int) := of_decide_eq_true (by first | (with_reducible assumption) | assumption); obtain ⟨ad311, e311, hx311_0⟩ := Kd.at_int HR0.out 4 p311 q311; obtain rfl : ad308 = ad311 := (by injection e311); (try simp only [show (4 : Int).toNat = 4 from rfl, Nat.reduceMul, Nat.reduceEqDiff, Go.Addr.add, ↓reduceIte] at hx311_0); have qi311 : (4 < l0.length) = True := eq_true (by omega); (try rw [show ((4 : Int)).toNat = 4 from rfl] at hx311_0); replace p311 := eq_true p311; replace q311 := eq_true q311) | (go_at_call 56; (with_reducible refine (clavierref18_within.calls (rd l0 4) true _ A17.out).mono ?_); rintro e w' ⟨rfl, ⟨nd, rfl⟩⟩; (try first | exact ⟨rfl, _, World.drewN_drewN _ _ _⟩ | exact ⟨rfl, _, Eq.trans (World.drewN_drewN _ _ _) (congrArg (World.drewN _) (Nat.add_assoc _ _ _))⟩); have p313 : 0 ≤ (5 : Int) := (by omega); have q313 : 5 < (l0.length : Int) := of_decide_eq_true (by first | (with_reducible assumption) | assumption); obtain ⟨ad313, e313, hx313_0⟩ := Kd.at_int HR0.out 5 p313 q313; obtain rfl : ad308 = ad313 := (by injection e313); (try simp only [show (5 : Int).toNat = 5 from rfl, Nat.reduceMul, Nat.reduceEqDiff, Go.Addr.add, ↓reduceIte] at hx313_0); have qi313 : (5 < l0.length) = True := eq_true (by omega); (try rw [show ((5 : Int)).toNat = 5 from rfl] at hx313_0); replace p313 := eq_true p313; replace q313 := eq_true q313) | (go_at_call 56; (with_reducible refine (clavierref18_within.calls (rd l0 5) false _ A20.out).mono ?_); rintro e w' ⟨rfl, ⟨nd, rfl⟩⟩; (try first | exact ⟨rfl, _, World.drewN_drewN _ _ _⟩ | exact ⟨rfl, _, Eq.trans (World.drewN_drewN _ _ _) (congrArg (World.drewN _) (Nat.add_assoc _ _ _))⟩)))
                          repeat (go_quiet (first | (go_at_call 56; (with_reducible refine (clavierref18_within.calls (rd l0 3) true _ A14.out).mono ?_); rintro e w' ⟨rfl, ⟨nd, rfl⟩⟩; (try first | exact ⟨rfl, _, World.drewN_drewN _ _ _⟩ | exact ⟨rfl, _, Eq.trans (World.drewN_drewN _ _ _) (congrArg (World.drewN _) (Nat.add_assoc _ _ _))⟩); have p311 : 0 ≤ (4 : Int) := (by omega); have q311 : 4 < (l0.length : Int) := of_decide_eq_true (by first | (with_reducible assumption) | assumption); obtain ⟨ad311, e311, hx311_0⟩ := Kd.at_int HR0.out 4 p311 q311; obtain rfl : ad308 = ad311 := (by injection e311); (try simp only [show (4 : Int).toNat = 4 from rfl, Nat.reduceMul, Nat.reduceEqDiff, Go.Addr.add, ↓reduceIte] at hx311_0); have qi311 : (4 < l0.length) = True := eq_true (by omega); (try rw [show ((4 : Int)).toNat = 4 from rfl] at hx311_0); replace p311 := eq_true p311; replace q311 := eq_true q311) | (go_at_call 56; (with_reducible refine (clavierref18_within.calls (rd l0 4) true _ A17.out).mono ?_); rintro e w' ⟨rfl, ⟨nd, rfl⟩⟩; (try first | exact ⟨rfl, _, World.drewN_drewN _ _ _⟩ | exact ⟨rfl, _, Eq.trans (World.drewN_drewN _ _ _) (congrArg (World.drewN _) (Nat.add_assoc _ _ _))⟩); have p313 : 0 ≤ (5 : Int) := (by omega); have q313 : 5 < (l0.length : Int) := of_decide_eq_true (by first | (with_reducible assumption) | assumption); obtain ⟨ad313, e313, hx313_0⟩ := Kd.at_int HR0.out 5 p313 q313; obtain rfl : ad308 = ad313 := (by injection e313); (try simp only [show (5 : Int).toNat = 5 from rfl, Nat.reduceMul, Nat.reduceEqDiff, Go.Addr.add, ↓reduceIte] at hx313_0); have qi313 : (5 < l0.length) = True := eq_true (by omega); (try rw [show ((5 : Int)).toNat = 5 from rfl] at hx313_0); replace p313 := eq_true p313; replace q313 := eq_true q313) | (go_at_call 56; (with_reducible refine (clavierref18_within.calls (rd l0 5) false _ A20.out).mono ?_); rintro e w' ⟨rfl, ⟨nd, rfl⟩⟩; (try first | exact ⟨rfl, _, World.drewN_drewN _ _ _⟩ | exact ⟨rfl, _, Eq.trans (World.drewN_drewN _ _ _) (congrArg (World.drewN _) (Nat.add_assoc _ _ _))⟩))); try go_wp2_with (first | (go_at_call 56; (with_reducible refine (clavierref18_within.calls (rd l0 3) true _ A14.out).mono ?_); rintro e w' ⟨rfl, ⟨nd, rfl⟩⟩; (try first | exact ⟨rfl, _, World.drewN_drewN _ _ _⟩ | exact ⟨rfl, _, Eq.trans (World.drewN_drewN _ _ _) (congrArg (World.drewN _) (Nat.add_assoc _ _ _))⟩); have p311 : 0 ≤ (4 : Int) := (by omega); have q311 : 4 < (l0.length : Int) := of_decide_eq_true (by first | (with_reducible assumption) | assumption); obtain ⟨ad311, e311, hx311_0⟩ := Kd.at_int HR0.out 4 p311 q311; obtain rfl : ad308 = ad311 := (by injection e311); (try simp only [show (4 : Int).toNat = 4 from rfl, Nat.reduceMul, Nat.reduceEqDiff, Go.Addr.add, ↓reduceIte] at hx311_0); have qi311 : (4 < l0.length) = True := eq_true (by omega); (try rw [show ((4 : Int)).toNat = 4 from rfl] at hx311_0); replace p311 := eq_true p311; replace q311 := eq_true q311) | (go_at_call 56; (with_reducible refine (clavierref18_within.calls (rd l0 4) true _ A17.out).mono ?_); rintro e w' ⟨rfl, ⟨nd, rfl⟩⟩; (try first | exact ⟨rfl, _, World.drewN_drewN _ _ _⟩ | exact ⟨rfl, _, Eq.trans (World.drewN_drewN _ _ _) (congrArg (World.drewN _) (Nat.add_assoc _ _ _))⟩); have p313 : 0 ≤ (5 : Int) := (by omega); have q313 : 5 < (l0.length : Int) := of_decide_eq_true (by first | (with_reducible assumption) | assumption); obtain ⟨ad313, e313, hx313_0⟩ := Kd.at_int HR0.out 5 p313 q313; obtain rfl : ad308 = ad313 := (by injection e313); (try simp only [show (5 : Int).toNat = 5 from rfl, Nat.reduceMul, Nat.reduceEqDiff, Go.Addr.add, ↓reduceIte] at hx313_0); have qi313 : (5 < l0.length) = True := eq_true (by omega); (try rw [show ((5 : Int)).toNat = 5 from rfl] at hx313_0); replace p313 := eq_true p313; replace q313 := eq_true q313) | (go_at_call 56; (with_reducible refine (clavierref18_within.calls (rd l0 5) false _ A20.out).mono ?_); rintro e w' ⟨rfl, ⟨nd, rfl⟩⟩; (try first | exact ⟨rfl, _, World.drewN_drewN _ _ _⟩ | exact ⟨rfl, _, Eq.trans (World.drewN_drewN _ _ _) (congrArg (World.drewN _) (Nat.add_assoc _ _ _))⟩))))
                          go_ret
                          exact ⟨by first | rfl | (simp; done) | (simp [*]; done), by repeat (first | exact Drawn0.refl _ | apply Drawn0.step)⟩
                      · rw [if_neg c19] at H
                        exact absurd H (by simp)
                    · replace c18 := Bool.eq_false_iff.mpr c18
                      subst c18
                      have H1 : (some (-2)) = some r := by rw [if_neg (show ¬ (false = true) by decide)] at H; exact H
                      clear H
                      have H := H1
                      clear H1
                      obtain rfl := Option.some.inj H
                      have p308 : 0 ≤ (1 : Int) := (by omega)
                      have q308 : 1 < (l0.length : Int) := of_decide_eq_true (by first | (with_reducible assumption) | assumption)
                      obtain ⟨ad308, e308, hx308_0⟩ := Kd.at_int HR0.out 1 p308 q308
                      cases e308
                      (try simp only [show (1 : Int).toNat = 1 from rfl, Nat.reduceMul, Nat.reduceEqDiff, Go.Addr.add, ↓reduceIte] at hx308_0)
                      have qi308 : (1 < l0.length) = True := eq_true (by omega)
                      (try rw [show ((1 : Int)).toNat = 1 from rfl] at hx308_0)
                      replace p308 := eq_true p308
                      replace q308 := eq_true q308
                      have p309 : 0 ≤ (3 : Int) := (by omega)
                      have q309 : 3 < (l0.length : Int) := of_decide_eq_true (by first | (with_reducible assumption) | assumption)
                      obtain ⟨ad309, e309, hx309_0⟩ := Kd.at_int HR0.out 3 p309 q309
                      obtain rfl : ad308 = ad309 := (by injection e309)
                      (try simp only [show (3 : Int).toNat = 3 from rfl, Nat.reduceMul, Nat.reduceEqDiff, Go.Addr.add, ↓reduceIte] at hx309_0)
                      have qi309 : (3 < l0.length) = True := eq_true (by omega)
                      (try rw [show ((3 : Int)).toNat = 3 from rfl] at hx309_0)
                      replace p309 := eq_true p309
                      replace q309 := eq_true q309
                      go_wp2_with (first | (go_at_call 56; (with_reducible refine (clavierref18_within.calls (rd l0 3) true _ A14.out).mono ?_); rintro e w' ⟨rfl, ⟨nd, rfl⟩⟩; (try first | exact ⟨rfl, _, World.drewN_drewN _ _ _⟩ | exact ⟨rfl, _, Eq.trans (World.drewN_drewN _ _ _) (congrArg (World.drewN _) (Nat.add_assoc _ _ _))⟩); have p311 : 0 ≤ (4 : Int) := (by omega); have q311 : 4 < (l0.length : Int) := of_decide_eq_true (by first | (with_reducible assumption) | assumption); obtain ⟨ad311, e311, hx311_0⟩ := Kd.at_int HR0.out 4 p311 q311; obtain rfl : ad308 = ad311 := (by injection e311); (try simp only [show (4 : Int).toNat = 4 from rfl, Nat.reduceMul, Nat.reduceEqDiff, Go.Addr.add, ↓reduceIte] at hx311_0); have qi311 : (4 < l0.length) = True := eq_true (by omega); (try rw [show ((4 : Int)).toNat = 4 from rfl] at hx311_0); replace p311 := eq_true p311; replace q311 := eq_true q311) | (go_at_call 56; (with_reducible refine (clavierref18_within.calls (rd l0 4) false _ A17.out).mono ?_); rintro e w' ⟨rfl, ⟨nd, rfl⟩⟩; (try first | exact ⟨rfl, _, World.drewN_drewN _ _ _⟩ | exact ⟨rfl, _, Eq.trans (World.drewN_drewN _ _ _) (congrArg (World.drewN _) (Nat.add_assoc _ _ _))⟩)))
                      repeat (go_quiet (first | (go_at_call 56; (with_reducible refine (clavierref18_within.calls (rd l0 3) true _ A14.out).mono ?_); rintro e w' ⟨rfl, ⟨nd, rfl⟩⟩; (try first | exact ⟨rfl, _, World.drewN_drewN _ _ _⟩ | exact ⟨rfl, _, Eq.trans (World.drewN_drewN _ _ _) (congrArg (World.drewN _) (Nat.add_assoc _ _ _))⟩); have p311 : 0 ≤ (4 : Int) := (by omega); have q311 : 4 < (l0.length : Int) := of_decide_eq_true (by first | (with_reducible assumption) | assumption); obtain ⟨ad311, e311, hx311_0⟩ := Kd.at_int HR0.out 4 p311 q311; obtain rfl : ad308 = ad311 := (by injection e311); (try simp only [show (4 : Int).toNat = 4 from rfl, Nat.reduceMul, Nat.reduceEqDiff, Go.Addr.add, ↓reduceIte] at hx311_0); have qi311 : (4 < l0.length) = True := eq_true (by omega); (try rw [show ((4 : Int)).toNat = 4 from rfl] at hx311_0); replace p311 := eq_true p311; replace q311 := eq_true q311) | (go_at_call 56; (with_reducible refine (clavierref18_within.calls (rd l0 4) false _ A17.out).mono ?_); rintro e w' ⟨rfl, ⟨nd, rfl⟩⟩; (try first | exact ⟨rfl, _, World.drewN_drewN _ _ _⟩ | exact ⟨rfl, _, Eq.trans (World.drewN_drewN _ _ _) (congrArg (World.drewN _) (Nat.add_assoc _ _ _))⟩))); try go_wp2_with (first | (go_at_call 56; (with_reducible refine (clavierref18_within.calls (rd l0 3) true _ A14.out).mono ?_); rintro e w' ⟨rfl, ⟨nd, rfl⟩⟩; (try first | exact ⟨rfl, _, World.drewN_drewN _ _ _⟩ | exact ⟨rfl, _, Eq.trans (World.drewN_drewN _ _ _) (congrArg (World.drewN _) (Nat.add_assoc _ _ _))⟩); have p311 : 0 ≤ (4 : Int) := (by omega); have q311 : 4 < (l0.length : Int) := of_decide_eq_true (by first | (with_reducible assumption) | assumption); obtain ⟨ad311, e311, hx311_0⟩ := Kd.at_int HR0.out 4 p311 q311; obtain rfl : ad308 = ad311 := (by injection e311); (try simp only [show (4 : Int).toNat = 4 from rfl, Nat.reduceMul, Nat.reduceEqDiff, Go.Addr.add, ↓reduceIte] at hx311_0); have qi311 : (4 < l0.length) = True := eq_true (by omega); (try rw [show ((4 : Int)).toNat = 4 from rfl] at hx311_0); replace p311 := eq_true p311; replace q311 := eq_true q311) | (go_at_call 56; (with_reducible refine (clavierref18_within.calls (rd l0 4) false _ A17.out).mono ?_); rintro e w' ⟨rfl, ⟨nd, rfl⟩⟩; (try first | exact ⟨rfl, _, World.drewN_drewN _ _ _⟩ | exact ⟨rfl, _, Eq.trans (World.drewN_drewN _ _ _) (congrArg (World.drewN _) (Nat.add_assoc _ _ _))⟩))))
                      go_ret
                      exact ⟨by first | rfl | (simp; done) | (simp [*]; done), by repeat (first | exact Drawn0.refl _ | apply Drawn0.step)⟩
                  · rw [if_neg c16] at H
                    exact absurd H (by simp)
                · replace c15 := Bool.eq_false_iff.mpr c15
                  subst c15
                  have H1 : (some (-2)) = some r := by rw [if_neg (show ¬ (false = true) by decide)] at H; exact H
                  clear H
                  have H := H1
                  clear H1
                  obtain rfl := Option.some.inj H
                  have p308 : 0 ≤ (1 : Int) := (by omega)
                  have q308 : 1 < (l0.length : Int) := of_decide_eq_true (by first | (with_reducible assumption) | assumption)
                  obtain ⟨ad308, e308, hx308_0⟩ := Kd.at_int HR0.out 1 p308 q308
                  cases e308
                  (try simp only [show (1 : Int).toNat = 1 from rfl, Nat.reduceMul, Nat.reduceEqDiff, Go.Addr.add, ↓reduceIte] at hx308_0)
                  have qi308 : (1 < l0.length) = True := eq_true (by omega)
                  (try rw [show ((1 : Int)).toNat = 1 from rfl] at hx308_0)
                  replace p308 := eq_true p308
                  replace q308 := eq_true q308
                  have p309 : 0 ≤ (3 : Int) := (by omega)
                  have q309 : 3 < (l0.length : Int) := of_decide_eq_true (by first | (with_reducible assumption) | assumption)
                  obtain ⟨ad309, e309, hx309_0⟩ := Kd.at_int HR0.out 3 p309 q309
                  obtain rfl : ad308 = ad309 := (by injection e309)
                  (try simp only [show (3 : Int).toNat = 3 from rfl, Nat.reduceMul, Nat.reduceEqDiff, Go.Addr.add, ↓reduceIte] at hx309_0)
                  have qi309 : (3 < l0.length) = True := eq_true (by omega)
                  (try rw [show ((3 : Int)).toNat = 3 from rfl] at hx309_0)
                  replace p309 := eq_true p309
                  replace q309 := eq_true q309
                  go_wp2_with (first | (go_at_call 56; (with_reducible refine (clavierref18_within.calls (rd l0 3) false _ A14.out).mono ?_); rintro e w' ⟨rfl, ⟨nd, rfl⟩⟩; (try first | exact ⟨rfl, _, World.drewN_drewN _ _ _⟩ | exact ⟨rfl, _, Eq.trans (World.drewN_drewN _ _ _) (congrArg (World.drewN _) (Nat.add_assoc _ _ _))⟩)))
                  repeat (go_quiet (first | (go_at_call 56; (with_reducible refine (clavierref18_within.calls (rd l0 3) false _ A14.out).mono ?_); rintro e w' ⟨rfl, ⟨nd, rfl⟩⟩; (try first | exact ⟨rfl, _, World.drewN_drewN _ _ _⟩ | exact ⟨rfl, _, Eq.trans (World.drewN_drewN _ _ _) (congrArg (World.drewN _) (Nat.add_assoc _ _ _))⟩))); try go_wp2_with (first | (go_at_call 56; (with_reducible refine (clavierref18_within.calls (rd l0 3) false _ A14.out).mono ?_); rintro e w' ⟨rfl, ⟨nd, rfl⟩⟩; (try first | exact ⟨rfl, _, World.drewN_drewN _ _ _⟩ | exact ⟨rfl, _, Eq.trans (World.drewN_drewN _ _ _) (congrArg (World.drewN _) (Nat.add_assoc _ _ _))⟩))))
                  go_ret
                  exact ⟨by first | rfl | (simp; done) | (simp [*]; done), by repeat (first | exact Drawn0.refl _ | apply Drawn0.step)⟩
              · rw [if_neg c13] at H
                exact absurd H (by simp)
            · rw [if_neg c12] at H
              have c12b0 : ((rd l0 1) == 2) = false := beq_eq_false_iff_ne.mpr c12
              have c12b1 : ((rd l0 1) != 2) = true := bne_iff_ne.mpr c12
              obtain rfl := Option.some.inj H
              have p308 : 0 ≤ (1 : Int) := (by omega)
              have q308 : 1 < (l0.length : Int) := of_decide_eq_true (by first | (with_reducible assumption) | assumption)
              obtain ⟨ad308, e308, hx308_0⟩ := Kd.at_int HR0.out 1 p308 q308
              cases e308
              (try simp only [show (1 : Int).toNat = 1 from rfl, Nat.reduceMul, Nat.reduceEqDiff, Go.Addr.add, ↓reduceIte] at hx308_0)
              have qi308 : (1 < l0.length) = True := eq_true (by omega)
              (try rw [show ((1 : Int)).toNat = 1 from rfl] at hx308_0)
              replace p308 := eq_true p308
              replace q308 := eq_true q308
              go_wp2
              repeat (go_quiet (fail); try go_wp2)
              go_ret
              exact ⟨by first | rfl | (simp; done) | (simp [*]; done), by repeat (first | exact Drawn0.refl _ | apply Drawn0.step)⟩
          · rw [if_neg c11] at H
            exact absurd H (by simp)
        · rw [if_neg c10] at H
          have c10b0 : ((l0.length : Int) == 6) = false := beq_eq_false_iff_ne.mpr c10
          have c10b1 : ((l0.length : Int) != 6) = true := bne_iff_ne.mpr c10
          obtain rfl := Option.some.inj H
          go_wp2
          repeat (go_quiet (fail); try go_wp2)
          go_ret
          exact ⟨by first | rfl | (simp; done) | (simp [*]; done), by repeat (first | exact Drawn0.refl _ | apply Drawn0.step)⟩
mutual
def clavierref18_said.j0 : Nat → List Int → Int → Bool → Option (Int)
  | 0, _, _, _ => none
  | k + 1, x0, x5, x11 => if x11 = true then (some x5) else (if x5 = 9 then (some (-1)) else (if x5 ≥ 60 then (clavierref18_said.j1 k x0 x5 (decide (x5 ≤ 67))) else (clavierref18_said.j1 k x0 x5 false)))
def clavierref18_said.j1 : Nat → List Int → Int → Bool → Option (Int)
  | 0, _, _, _ => none
  | k + 1, x0, x5, x22 => if x22 = true then (some (wrap64 (x5 - 52))) else (if x5 = 8 then ((clavierref18_parted.f k x0).bind fun t319 => (some t319)) else (some (-2)))
end
def clavierref18_said.f (k : Nat) (l0 : List Int) (a1 : Int) : Option (Int) := if 0 < (l0.length : Int) then (if (wrap64 ((rd l0 0) - a1)) ≥ 0 then (clavierref18_said.j0 k l0 (wrap64 ((rd l0 0) - a1)) (decide ((wrap64 ((rd l0 0) - a1)) ≤ 7))) else (clavierref18_said.j0 k l0 (wrap64 ((rd l0 0) - a1)) false)) else (none)
theorem clavierref18_said.mono_l : ∀ k, (∀ y0 y1 y2, LeO (clavierref18_said.j0 k y0 y1 y2) (clavierref18_said.j0 (k + 1) y0 y1 y2)) ∧ (∀ y0 y1 y2, LeO (clavierref18_said.j1 k y0 y1 y2) (clavierref18_said.j1 (k + 1) y0 y1 y2))
  | 0 => ⟨fun _ _ _ r h => by simp [clavierref18_said.j0] at h, fun _ _ _ r h => by simp [clavierref18_said.j1] at h⟩
  | k + 1 => by
    obtain ⟨ih0, ih1⟩ := clavierref18_said.mono_l k
    refine ⟨?_, ?_⟩
    · intro y0 y1 y2
      unfold clavierref18_said.j0
      repeat' first
      | (with_reducible exact ih0 _ _ _)
      | (with_reducible exact ih1 _ _ _)
      | (with_reducible exact clavierref18_parted.mono _ _)
      | (with_reducible exact LeO.refl _)
      | (with_reducible exact LeO.none _)
      | (with_reducible refine LeO.ite ?_ ?_)
      | (with_reducible refine LeO.bind ?_ (fun _ => ?_))
      | exact ih0 _ _ _
      | exact ih1 _ _ _
      | exact clavierref18_parted.mono _ _
      | exact LeO.none _
      | refine LeO.ite ?_ ?_
      | refine LeO.bind ?_ (fun _ => ?_)
    · intro y0 y1 y2
      unfold clavierref18_said.j1
      repeat' first
      | (with_reducible exact ih0 _ _ _)
      | (with_reducible exact ih1 _ _ _)
      | (with_reducible exact clavierref18_parted.mono _ _)
      | (with_reducible exact LeO.refl _)
      | (with_reducible exact LeO.none _)
      | (with_reducible refine LeO.ite ?_ ?_)
      | (with_reducible refine LeO.bind ?_ (fun _ => ?_))
      | exact ih0 _ _ _
      | exact ih1 _ _ _
      | exact clavierref18_parted.mono _ _
      | exact LeO.none _
      | refine LeO.ite ?_ ?_
      | refine LeO.bind ?_ (fun _ => ?_)
theorem clavierref18_said.mono : ∀ a0 a1 k, LeO (clavierref18_said.f k a0 a1) (clavierref18_said.f (k + 1) a0 a1) := by
  intro a0 a1 k
  obtain ⟨ih0, ih1⟩ := clavierref18_said.mono_l k
  unfold clavierref18_said.f
  repeat' first
      | (with_reducible exact ih0 _ _ _)
      | (with_reducible exact ih1 _ _ _)
      | (with_reducible exact clavierref18_parted.mono _ _)
      | (with_reducible exact LeO.refl _)
      | (with_reducible exact LeO.none _)
      | (with_reducible refine LeO.ite ?_ ?_)
      | (with_reducible refine LeO.bind ?_ (fun _ => ?_))
      | exact ih0 _ _ _
      | exact ih1 _ _ _
      | exact clavierref18_parted.mono _ _
      | exact LeO.none _
      | refine LeO.ite ?_ ?_
      | refine LeO.bind ?_ (fun _ => ?_)
set_option maxHeartbeats 8000000 in
set_option maxRecDepth 100000 in
theorem clavierref18_said.calls (k : Nat) (A0 : Option Addr) (c0 : Nat) (l0 : List Int) (a1 : Int) (r : Int) (w : World) (hr0 : Kd.C (Kd.int .i64) w A0 l0.length l0) (hc0 : l0.length ≤ c0) (h : clavierref18_said.f k l0 a1 = some r) :
    Calls Tryd.prog 45 #[.slice A0 l0.length c0, .int .i64 a1] w fun e w' => e = .returned (.int .i64 r) ∧ Drawn0 w w' := by
  have HR0 := Aside0.mk hr0
  have HC0 := Aside0.mk hc0
  clear hr0 hc0
  have H : (if 0 < (l0.length : Int) then (if (wrap64 ((rd l0 0) - a1)) ≥ 0 then (clavierref18_said.j0 k l0 (wrap64 ((rd l0 0) - a1)) (decide ((wrap64 ((rd l0 0) - a1)) ≤ 7))) else (clavierref18_said.j0 k l0 (wrap64 ((rd l0 0) - a1)) false)) else (none)) = some r := h
  clear h
  by_cases c3 : 0 < (l0.length : Int)
  · rw [if_pos c3] at H
    have c3b0 : decide (0 < (l0.length : Int)) = true := decide_eq_true c3
    have c3b1 : decide (0 < l0.length) = true := decide_eq_true (by omega)
    clear c3
    have HC4 := Aside0.mk H
    clear H
    have p318 : 0 ≤ (0 : Int) := (by omega)
    have q318 : 0 < (l0.length : Int) := of_decide_eq_true (by first | (with_reducible assumption) | assumption)
    obtain ⟨ad318, e318, hx318_0⟩ := Kd.at_int HR0.out 0 p318 q318
    cases e318
    have qi318 : (0 < l0.length) = True := eq_true (by omega)
    (try rw [show ((0 : Int)).toNat = 0 from rfl] at hx318_0)
    (try rw [Addr.add_zero'] at hx318_0)
    replace p318 := eq_true p318
    replace q318 := eq_true q318
    go_enter Tryd.func45, Tryd.ntmps45
    go_upto_region 2 with (fail)
    go_cut [11] (fun v11 wc => ∃ (kq : Nat) (x11_3 : Bool), v11 = .bool x11_3 ∧ Aside0 (clavierref18_said.j0 kq l0 (wrap64 ((rd l0 0) - a1)) x11_3 = some r) ∧ Aside0 (kq ≤ k) ∧ Drawn0 w wc)
    case first =>
      have H := HC4.out
      clear HC4
      by_cases c5 : (wrap64 ((rd l0 0) - a1)) ≥ 0
      · rw [if_pos c5] at H
        have c5b0 : decide (0 ≤ (wrap64 ((rd l0 0) - a1))) = true := decide_eq_true c5
        clear c5
        (first | rw [c5b0] | (simp only [i64_w, i32_w]; rw [c5b0]) | skip)
        have H' := Aside0.mk H
        clear H
        go_wp2
        go_meet
        case rel => exact ⟨_, (decide ((wrap64 ((rd l0 0) - a1)) ≤ 7)), (by first | rfl | (simp; done) | (simp [*]; done)), H', ⟨by first | omega | exact Nat.le_refl _⟩, by repeat (first | exact Drawn0.refl _ | apply Drawn0.step)⟩
      · rw [if_neg c5] at H
        have c5b0 : decide (0 ≤ (wrap64 ((rd l0 0) - a1))) = false := decide_eq_false c5
        clear c5
        (first | rw [c5b0] | (simp only [i64_w, i32_w]; rw [c5b0]) | skip)
        have H' := Aside0.mk H
        clear H
        go_wp2
        go_meet
        case rel => exact ⟨_, (false), (by first | rfl | (simp; done) | (simp [*]; done)), H', ⟨by first | omega | exact Nat.le_refl _⟩, by repeat (first | exact Drawn0.refl _ | apply Drawn0.step)⟩
    case rest =>
      clear HC4
      try clear p2
      try clear c3
      try clear c3b0
      try clear c3b1
      try clear p3
      try clear q3
      try clear hx3
      try clear qi3
      try clear c4
      try clear c5
      try clear c5b0
      try clear hx318_0
      try clear p318
      try clear q318
      obtain ⟨kq, x11_3, rfl, HA, HJ3, ⟨mc3, rfl⟩⟩ := hcut
      cases kq with
      | zero => exact absurd HA.out (by simp [clavierref18_said.j0])
      | succ kj3 =>
        have H := HA.out
        clear HA
        simp only [clavierref18_said.j0] at H
        by_cases c6 : x11_3 = true
        · subst c6
          have H1 : (some (wrap64 ((rd l0 0) - a1))) = some r := by rw [if_pos rfl] at H; exact H
          clear H
          have H := H1
          clear H1
          obtain rfl := Option.some.inj H
          go_wp2
          go_ret
          exact ⟨by first | rfl | (simp; done) | (simp [*]; done), by repeat (first | exact Drawn0.refl _ | apply Drawn0.step)⟩
        · replace c6 := Bool.eq_false_iff.mpr c6
          subst c6
          have H1 : (if (wrap64 ((rd l0 0) - a1)) = 9 then (some (-1)) else (if (wrap64 ((rd l0 0) - a1)) ≥ 60 then (clavierref18_said.j1 kj3 l0 (wrap64 ((rd l0 0) - a1)) (decide ((wrap64 ((rd l0 0) - a1)) ≤ 67))) else (clavierref18_said.j1 kj3 l0 (wrap64 ((rd l0 0) - a1)) false))) = some r := by rw [if_neg (show ¬ (false = true) by decide)] at H; exact H
          clear H
          have H := H1
          clear H1
          by_cases c7 : (wrap64 ((rd l0 0) - a1)) = 9
          · rw [if_pos c7] at H
            have c7b0 : ((wrap64 ((rd l0 0) - a1)) == 9) = true := beq_iff_eq.mpr c7
            have c7b1 : ((wrap64 ((rd l0 0) - a1)) != 9) = false := bne_eq_false_iff_eq.mpr c7
            clear c7
            obtain rfl := Option.some.inj H
            go_wp2
            go_ret
            exact ⟨by first | rfl | (simp; done) | (simp [*]; done), by repeat (first | exact Drawn0.refl _ | apply Drawn0.step)⟩
          · rw [if_neg c7] at H
            have c7b0 : ((wrap64 ((rd l0 0) - a1)) == 9) = false := beq_eq_false_iff_ne.mpr c7
            have c7b1 : ((wrap64 ((rd l0 0) - a1)) != 9) = true := bne_iff_ne.mpr c7
            have HC8 := Aside0.mk H
            clear H
            go_upto_region 6 with (fail)
            go_cut [22] (fun v22 wc => ∃ (kq : Nat) (x22_7 : Bool), v22 = .bool x22_7 ∧ Aside0 (clavierref18_said.j1 kq l0 (wrap64 ((rd l0 0) - a1)) x22_7 = some r) ∧ Aside0 (kq ≤ kj3) ∧ Drawn0 w wc)
            case first =>
              have H := HC8.out
              clear HC8
              by_cases c9 : (wrap64 ((rd l0 0) - a1)) ≥ 60
              · rw [if_pos c9] at H
                have c9b0 : decide (60 ≤ (wrap64 ((rd l0 0) - a1))) = true := decide_eq_true c9
                clear c9
                (first | rw [c9b0] | (simp only [i64_w, i32_w]; rw [c9b0]) | skip)
                have H' := Aside0.mk H
                clear H
                go_wp2
                go_meet
                case rel => exact ⟨_, (decide ((wrap64 ((rd l0 0) - a1)) ≤ 67)), (by first | rfl | (simp; done) | (simp [*]; done)), H', ⟨by have := HJ3.out; first | omega | exact Nat.le_refl _⟩, by repeat (first | exact Drawn0.refl _ | apply Drawn0.step)⟩
              · rw [if_neg c9] at H
                have c9b0 : decide (60 ≤ (wrap64 ((rd l0 0) - a1))) = false := decide_eq_false c9
                clear c9
                (first | rw [c9b0] | (simp only [i64_w, i32_w]; rw [c9b0]) | skip)
                have H' := Aside0.mk H
                clear H
                go_wp2
                go_meet
                case rel => exact ⟨_, (false), (by first | rfl | (simp; done) | (simp [*]; done)), H', ⟨by have := HJ3.out; first | omega | exact Nat.le_refl _⟩, by repeat (first | exact Drawn0.refl _ | apply Drawn0.step)⟩
            case rest =>
              clear HC8
              try clear p2
              try clear c3
              try clear c3b0
              try clear c3b1
              try clear p3
              try clear q3
              try clear hx3
              try clear qi3
              try clear c4
              try clear c5
              try clear c5b0
              try clear c6
              try clear p6
              try clear c7
              try clear c7b0
              try clear c7b1
              try clear c9
              try clear c9b0
              try clear hx318_0
              try clear p2
              try clear p3
              try clear p318
              try clear q3
              try clear q318
              obtain ⟨kq, x22_7, rfl, HA, HJ7, ⟨mc7, rfl⟩⟩ := hcut
              cases kq with
              | zero => exact absurd HA.out (by simp [clavierref18_said.j1])
              | succ kj7 =>
                have H := HA.out
                clear HA
                simp only [clavierref18_said.j1] at H
                by_cases c10 : x22_7 = true
                · subst c10
                  have H1 : (some (wrap64 ((wrap64 ((rd l0 0) - a1)) - 52))) = some r := by rw [if_pos rfl] at H; exact H
                  clear H
                  have H := H1
                  clear H1
                  obtain rfl := Option.some.inj H
                  go_wp2
                  go_ret
                  exact ⟨by first | rfl | (simp; done) | (simp [*]; done), by repeat (first | exact Drawn0.refl _ | apply Drawn0.step)⟩
                · replace c10 := Bool.eq_false_iff.mpr c10
                  subst c10
                  have H1 : (if (wrap64 ((rd l0 0) - a1)) = 8 then ((clavierref18_parted.f kj7 l0).bind fun t319 => (some t319)) else (some (-2))) = some r := by rw [if_neg (show ¬ (false = true) by decide)] at H; exact H
                  clear H
                  have H := H1
                  clear H1
                  by_cases c11 : (wrap64 ((rd l0 0) - a1)) = 8
                  · rw [if_pos c11] at H
                    have c11b0 : ((wrap64 ((rd l0 0) - a1)) == 8) = true := beq_iff_eq.mpr c11
                    have c11b1 : ((wrap64 ((rd l0 0) - a1)) != 8) = false := bne_eq_false_iff_eq.mpr c11
                    clear c11
                    replace H := Option.bind_eq_some_iff.mp H
                    obtain ⟨t319, A120, H⟩ := H
                    replace H : (some t319) = some r := H
                    have A12 := Aside0.mk A120
                    clear A120
                    obtain rfl := Option.some.inj H
                    go_wp2_with (first | ((with_reducible refine gate_callee (f := 51) rfl ?_); refine goesL_ (some 35) rfl rfl Tryd.func51 (by kernel_rfl) rfl #[.slice (some ad318) l0.length c0] rfl (by (try simp only [List.map_toArray, List.map_cons, List.map_nil]); first | done | rfl | (simp only [List.length_drop, List.length_take]; rfl)) ?_; (with_reducible refine (clavierref18_parted.calls kj7 _ _ l0 t319 _ ?side1 ?side2 A12.out).mono ?_); (case side1 => repeat (first | exact HR0.out | (with_reducible refine Kd.C_alloc ?_ _) | (with_reducible refine Kd.C_drewN ?_ _) | (with_reducible refine Kd.C_drew ?_))); (case side2 => exact HC0.out); rintro e w' ⟨rfl, ⟨nd, rfl⟩⟩; refine ⟨_, rfl, ?_⟩))
                    go_ret
                    exact ⟨by first | rfl | (simp; done) | (simp [*]; done), by repeat (first | exact Drawn0.refl _ | apply Drawn0.step)⟩
                  · rw [if_neg c11] at H
                    have c11b0 : ((wrap64 ((rd l0 0) - a1)) == 8) = false := beq_eq_false_iff_ne.mpr c11
                    have c11b1 : ((wrap64 ((rd l0 0) - a1)) != 8) = true := bne_iff_ne.mpr c11
                    obtain rfl := Option.some.inj H
                    go_wp2
                    go_ret
                    exact ⟨by first | rfl | (simp; done) | (simp [*]; done), by repeat (first | exact Drawn0.refl _ | apply Drawn0.step)⟩
  · rw [if_neg c3] at H
    exact absurd H (by simp)
def clavierref18_flag.f (a0_0 : Bool) (a0_1 : Bool) (a0_2 : Bool) (a0_3 : Bool) (a0_4 : Bool) (a0_5 : Bool) (a0_6 : Bool) (a0_7 : Int) (a0_8 : Int) (a0_9 : Int) (a1 : Int) : Option (Bool × Bool × Bool × Bool × Bool × Bool × Bool × Int × Int × Int) := if a1 = 1 then (some (true, a0_1, a0_2, a0_3, a0_4, a0_5, a0_6, a0_7, a0_8, a0_9)) else (if a1 = 2 then (some (a0_0, true, a0_2, a0_3, a0_4, a0_5, a0_6, a0_7, a0_8, a0_9)) else (if a1 = 3 then (some (a0_0, a0_1, true, a0_3, a0_4, a0_5, a0_6, a0_7, a0_8, a0_9)) else (if a1 = 5 then (some (a0_0, a0_1, a0_2, true, a0_4, a0_5, a0_6, a0_7, a0_8, a0_9)) else (if a1 = 7 then (some (a0_0, a0_1, a0_2, a0_3, true, a0_5, a0_6, a0_7, a0_8, a0_9)) else (if a1 = 8 then (some (a0_0, a0_1, a0_2, a0_3, a0_4, true, a0_6, a0_7, a0_8, a0_9)) else (if a1 = 9 then (some (a0_0, a0_1, a0_2, a0_3, a0_4, a0_5, true, a0_7, a0_8, a0_9)) else (some (a0_0, a0_1, a0_2, a0_3, a0_4, a0_5, a0_6, a0_7, a0_8, a0_9))))))))
set_option maxHeartbeats 8000000 in
set_option maxRecDepth 100000 in
theorem clavierref18_flag.calls (a0_0 : Bool) (a0_1 : Bool) (a0_2 : Bool) (a0_3 : Bool) (a0_4 : Bool) (a0_5 : Bool) (a0_6 : Bool) (a0_7 : Int) (a0_8 : Int) (a0_9 : Int) (a1 : Int) (r1 : Bool) (r2 : Bool) (r3 : Bool) (r4 : Bool) (r5 : Bool) (r6 : Bool) (r7 : Bool) (r8 : Int) (r9 : Int) (r10 : Int) (w : World) (h : clavierref18_flag.f a0_0 a0_1 a0_2 a0_3 a0_4 a0_5 a0_6 a0_7 a0_8 a0_9 a1 = some (r1, r2, r3, r4, r5, r6, r7, r8, r9, r10)) :
    Calls Tryd.prog 46 #[.agg #[.bool a0_0, .bool a0_1, .bool a0_2, .bool a0_3, .bool a0_4, .bool a0_5, .bool a0_6, .int .i64 a0_7, .int .i64 a0_8, .int .i64 a0_9], .int .i64 a1] w fun e w' => e = .returned (.agg #[.bool r1, .bool r2, .bool r3, .bool r4, .bool r5, .bool r6, .bool r7, .int .i64 r8, .int .i64 r9, .int .i64 r10]) ∧ Below w.heap.size w w' := by
  have hu23 := Tryd.underlying23
  have HB := Aside0.mk (Below.refl w.heap.size w)
  have H : (if a1 = 1 then (some (true, a0_1, a0_2, a0_3, a0_4, a0_5, a0_6, a0_7, a0_8, a0_9)) else (if a1 = 2 then (some (a0_0, true, a0_2, a0_3, a0_4, a0_5, a0_6, a0_7, a0_8, a0_9)) else (if a1 = 3 then (some (a0_0, a0_1, true, a0_3, a0_4, a0_5, a0_6, a0_7, a0_8, a0_9)) else (if a1 = 5 then (some (a0_0, a0_1, a0_2, true, a0_4, a0_5, a0_6, a0_7, a0_8, a0_9)) else (if a1 = 7 then (some (a0_0, a0_1, a0_2, a0_3, true, a0_5, a0_6, a0_7, a0_8, a0_9)) else (if a1 = 8 then (some (a0_0, a0_1, a0_2, a0_3, a0_4, true, a0_6, a0_7, a0_8, a0_9)) else (if a1 = 9 then (some (a0_0, a0_1, a0_2, a0_3, a0_4, a0_5, true, a0_7, a0_8, a0_9)) else (some (a0_0, a0_1, a0_2, a0_3, a0_4, a0_5, a0_6, a0_7, a0_8, a0_9))))))))) = some (r1, r2, r3, r4, r5, r6, r7, r8, r9, r10) := h
  clear h
  by_cases c3 : a1 = 1
  · rw [if_pos c3] at H
    have c3b0 : (a1 == 1) = true := beq_iff_eq.mpr c3
    have c3b1 : (a1 != 1) = false := bne_eq_false_iff_eq.mpr c3
    clear c3
    simp only [Option.some.injEq, Prod.mk.injEq] at H
    obtain ⟨rfl, rfl, rfl, rfl, rfl, rfl, rfl, rfl, rfl, rfl⟩ := H
    go_enter Tryd.func46, Tryd.ntmps46
    go_wp2_with (first | ((with_reducible refine gate_dst (N := 2) rfl ?_); refine box_event ?hg (N := 2) ?hd (cs := #[.bool a0_0, .bool a0_1, .bool a0_2, .bool a0_3, .bool a0_4, .bool a0_5, .bool a0_6, .int .i64 a0_7, .int .i64 a0_8, .int .i64 a0_9]) (t := 23) ?hr ?_; (case hd => rfl); (case hg => rfl); (case hr => first | (go_simp; done) | (go_simp; rfl)); intro gb320 hg w4 hbox hb; have n0_ := Aside0.mk (below_step (by repeat (first | (with_reducible first | exact HB.out | apply below_alloc | apply pw_below_drewN | apply below_drew1) | exact HB.out)) hb); have n1_ := Aside0.mk (hbox); have n2_ := Aside0.mk ((by rw [hg]; exact (below_size (by repeat (first | (with_reducible first | exact HB.out | apply below_alloc | apply pw_below_drewN | apply below_drew1) | exact HB.out))) : w.heap.size ≤ gb320)); have n3_ := Aside0.mk ((by rw [hg]; exact (below_size (by repeat (first | (with_reducible first | exact HB.out | apply below_alloc | apply pw_below_drewN | apply below_drew1) | exact HB.out))) : w.heap.size ≤ gb320)); clear HB; have HB := n0_; have BK320 := n1_; have GW320 := n2_; have GE320 := n3_; clear n0_ n1_ n2_ n3_; clear hb hbox hg) | ((with_reducible refine gate_dst (N := 4) rfl ?_); refine box_event ?hg (N := 4) ?hd (cs := #[.bool false, .bool false, .bool false, .bool false, .bool false, .bool false, .bool false, .int .i64 0, .int .i64 0, .int .i64 0]) (t := 23) ?hr ?_; (case hd => rfl); (case hg => rfl); (case hr => first | (go_simp; done) | (go_simp; rfl)); intro gb321 hg w5 hbox hb; have n0_ := Aside0.mk (blk_below (g := gb320) (o := .cells #[.bool a0_0, .bool a0_1, .bool a0_2, .bool a0_3, .bool a0_4, .bool a0_5, .bool a0_6, .int .i64 a0_7, .int .i64 a0_8, .int .i64 a0_9] 23 (0, 0)) (by (with_reducible repeat (first | refine blk_drewN ?_ _ | refine blk_drew ?_ | refine blk_alloc ?_ _)); exact BK320.out) hb); have n1_ := Aside0.mk (below_step (by repeat (first | (with_reducible first | exact HB.out | apply below_alloc | apply pw_below_drewN | apply below_drew1 | refine below_set ?_ GE320.out) | exact HB.out)) hb); have n2_ := Aside0.mk (hbox); have n3_ := Aside0.mk ((by rw [hg]; exact (below_size (by repeat (first | (with_reducible first | exact HB.out | apply below_alloc | apply pw_below_drewN | apply below_drew1 | refine below_set ?_ GE320.out) | exact HB.out))) : w.heap.size ≤ gb321)); have n4_ := Aside0.mk ((by rw [hg]; exact (below_size (by repeat (first | (with_reducible first | exact HB.out | apply below_alloc | apply pw_below_drewN | apply below_drew1 | refine below_set ?_ GE320.out) | exact HB.out))) : w.heap.size ≤ gb321)); have n5_ := Aside0.mk ((by rw [hg]; exact Nat.ne_of_lt (blk_lt (g := gb320) (o := .cells #[.bool a0_0, .bool a0_1, .bool a0_2, .bool a0_3, .bool a0_4, .bool a0_5, .bool a0_6, .int .i64 a0_7, .int .i64 a0_8, .int .i64 a0_9] 23 (0, 0)) (by (with_reducible repeat (first | refine blk_drewN ?_ _ | refine blk_drew ?_ | refine blk_alloc ?_ _)); exact BK320.out)) : gb320 ≠ gb321)); have n6_ := Aside0.mk ((by rw [hg]; exact Nat.ne_of_gt (blk_lt (g := gb320) (o := .cells #[.bool a0_0, .bool a0_1, .bool a0_2, .bool a0_3, .bool a0_4, .bool a0_5, .bool a0_6, .int .i64 a0_7, .int .i64 a0_8, .int .i64 a0_9] 23 (0, 0)) (by (with_reducible repeat (first | refine blk_drewN ?_ _ | refine blk_drew ?_ | refine blk_alloc ?_ _)); exact BK320.out)) : gb321 ≠ gb320)); clear BK320; clear HB; have BK320 := n0_; have HB := n1_; have BK321 := n2_; have GW321 := n3_; have GE321 := n4_; have NB320_321 := n5_; have NB321_320 := n6_; clear n0_ n1_ n2_ n3_ n4_ n5_ n6_; clear hb hbox hg; have hnb6 := NB320_321.out; have hnc6 := NB321_320.out; have hcz7_0 : w5.cell? ⟨gb320, 0, none⟩ = some (.bool a0_0) := (blk_cell BK320.out 0).trans rfl; have hcz7_1 : w5.cell? ⟨gb320, 1, none⟩ = some (.bool a0_1) := (blk_cell BK320.out 1).trans rfl; have hcz7_2 : w5.cell? ⟨gb320, 2, none⟩ = some (.bool a0_2) := (blk_cell BK320.out 2).trans rfl; have hcz7_3 : w5.cell? ⟨gb320, 3, none⟩ = some (.bool a0_3) := (blk_cell BK320.out 3).trans rfl; have hcz7_4 : w5.cell? ⟨gb320, 4, none⟩ = some (.bool a0_4) := (blk_cell BK320.out 4).trans rfl; have hcz7_5 : w5.cell? ⟨gb320, 5, none⟩ = some (.bool a0_5) := (blk_cell BK320.out 5).trans rfl; have hcz7_6 : w5.cell? ⟨gb320, 6, none⟩ = some (.bool a0_6) := (blk_cell BK320.out 6).trans rfl; have hcz7_7 : w5.cell? ⟨gb320, 7, none⟩ = some (.int .i64 a0_7) := (blk_cell BK320.out 7).trans rfl; have hcz7_8 : w5.cell? ⟨gb320, 8, none⟩ = some (.int .i64 a0_8) := (blk_cell BK320.out 8).trans rfl; have hcz7_9 : w5.cell? ⟨gb320, 9, none⟩ = some (.int .i64 a0_9) := (blk_cell BK320.out 9).trans rfl; have hfz7_0 := blk_frozen BK320.out 0; have hfz7_1 := blk_frozen BK320.out 1; have hfz7_2 := blk_frozen BK320.out 2; have hfz7_3 := blk_frozen BK320.out 3; have hfz7_4 := blk_frozen BK320.out 4; have hfz7_5 := blk_frozen BK320.out 5; have hfz7_6 := blk_frozen BK320.out 6; have hfz7_7 := blk_frozen BK320.out 7; have hfz7_8 := blk_frozen BK320.out 8; have hfz7_9 := blk_frozen BK320.out 9; have hcz8_0 : w5.cell? ⟨gb321, 0, none⟩ = some (.bool false) := (blk_cell BK321.out 0).trans rfl; have hcz8_1 : w5.cell? ⟨gb321, 1, none⟩ = some (.bool false) := (blk_cell BK321.out 1).trans rfl; have hcz8_2 : w5.cell? ⟨gb321, 2, none⟩ = some (.bool false) := (blk_cell BK321.out 2).trans rfl; have hcz8_3 : w5.cell? ⟨gb321, 3, none⟩ = some (.bool false) := (blk_cell BK321.out 3).trans rfl; have hcz8_4 : w5.cell? ⟨gb321, 4, none⟩ = some (.bool false) := (blk_cell BK321.out 4).trans rfl; have hcz8_5 : w5.cell? ⟨gb321, 5, none⟩ = some (.bool false) := (blk_cell BK321.out 5).trans rfl; have hcz8_6 : w5.cell? ⟨gb321, 6, none⟩ = some (.bool false) := (blk_cell BK321.out 6).trans rfl; have hcz8_7 : w5.cell? ⟨gb321, 7, none⟩ = some (.int .i64 0) := (blk_cell BK321.out 7).trans rfl; have hcz8_8 : w5.cell? ⟨gb321, 8, none⟩ = some (.int .i64 0) := (blk_cell BK321.out 8).trans rfl; have hcz8_9 : w5.cell? ⟨gb321, 9, none⟩ = some (.int .i64 0) := (blk_cell BK321.out 9).trans rfl; have hfz8_0 := blk_frozen BK321.out 0; have hfz8_1 := blk_frozen BK321.out 1; have hfz8_2 := blk_frozen BK321.out 2; have hfz8_3 := blk_frozen BK321.out 3; have hfz8_4 := blk_frozen BK321.out 4; have hfz8_5 := blk_frozen BK321.out 5; have hfz8_6 := blk_frozen BK321.out 6; have hfz8_7 := blk_frozen BK321.out 7; have hfz8_8 := blk_frozen BK321.out 8; have hfz8_9 := blk_frozen BK321.out 9))
    refine bodyPost_ret (results_cell_row rfl _ _ gb321 23 #[.bool true, .bool a0_1, .bool a0_2, .bool a0_3, .bool a0_4, .bool a0_5, .bool a0_6, .int .i64 a0_7, .int .i64 a0_8, .int .i64 a0_9] (0, 0) _ rfl (by (with_reducible repeat (first | refine blk_drewN ?_ _ | refine blk_drew ?_ | refine blk_alloc ?_ _)); refine blk_put (cs := #[.bool true, .bool a0_1, .bool a0_2, .bool a0_3, .bool a0_4, .bool a0_5, .bool a0_6, .int .i64 a0_7, .int .i64 a0_8, .int .i64 0]) ?_ 9 _ rfl; (with_reducible repeat (first | refine blk_drewN ?_ _ | refine blk_drew ?_ | refine blk_alloc ?_ _)); refine blk_put (cs := #[.bool true, .bool a0_1, .bool a0_2, .bool a0_3, .bool a0_4, .bool a0_5, .bool a0_6, .int .i64 a0_7, .int .i64 0, .int .i64 0]) ?_ 8 _ rfl; (with_reducible repeat (first | refine blk_drewN ?_ _ | refine blk_drew ?_ | refine blk_alloc ?_ _)); refine blk_put (cs := #[.bool true, .bool a0_1, .bool a0_2, .bool a0_3, .bool a0_4, .bool a0_5, .bool a0_6, .int .i64 0, .int .i64 0, .int .i64 0]) ?_ 7 _ rfl; (with_reducible repeat (first | refine blk_drewN ?_ _ | refine blk_drew ?_ | refine blk_alloc ?_ _)); refine blk_put (cs := #[.bool true, .bool a0_1, .bool a0_2, .bool a0_3, .bool a0_4, .bool a0_5, .bool false, .int .i64 0, .int .i64 0, .int .i64 0]) ?_ 6 _ rfl; (with_reducible repeat (first | refine blk_drewN ?_ _ | refine blk_drew ?_ | refine blk_alloc ?_ _)); refine blk_put (cs := #[.bool true, .bool a0_1, .bool a0_2, .bool a0_3, .bool a0_4, .bool false, .bool false, .int .i64 0, .int .i64 0, .int .i64 0]) ?_ 5 _ rfl; (with_reducible repeat (first | refine blk_drewN ?_ _ | refine blk_drew ?_ | refine blk_alloc ?_ _)); refine blk_put (cs := #[.bool true, .bool a0_1, .bool a0_2, .bool a0_3, .bool false, .bool false, .bool false, .int .i64 0, .int .i64 0, .int .i64 0]) ?_ 4 _ rfl; (with_reducible repeat (first | refine blk_drewN ?_ _ | refine blk_drew ?_ | refine blk_alloc ?_ _)); refine blk_put (cs := #[.bool true, .bool a0_1, .bool a0_2, .bool false, .bool false, .bool false, .bool false, .int .i64 0, .int .i64 0, .int .i64 0]) ?_ 3 _ rfl; (with_reducible repeat (first | refine blk_drewN ?_ _ | refine blk_drew ?_ | refine blk_alloc ?_ _)); refine blk_put (cs := #[.bool true, .bool a0_1, .bool false, .bool false, .bool false, .bool false, .bool false, .int .i64 0, .int .i64 0, .int .i64 0]) ?_ 2 _ rfl; (with_reducible repeat (first | refine blk_drewN ?_ _ | refine blk_drew ?_ | refine blk_alloc ?_ _)); refine blk_put (cs := #[.bool true, .bool false, .bool false, .bool false, .bool false, .bool false, .bool false, .int .i64 0, .int .i64 0, .int .i64 0]) ?_ 1 _ rfl; (with_reducible repeat (first | refine blk_drewN ?_ _ | refine blk_drew ?_ | refine blk_alloc ?_ _)); refine blk_put (cs := #[.bool false, .bool false, .bool false, .bool false, .bool false, .bool false, .bool false, .int .i64 0, .int .i64 0, .int .i64 0]) ?_ 0 _ rfl; (with_reducible repeat (first | refine blk_drewN ?_ _ | refine blk_drew ?_ | refine blk_alloc ?_ _)); refine blk_far ?_ NB321_320.out _; (with_reducible repeat (first | refine blk_drewN ?_ _ | refine blk_drew ?_ | refine blk_alloc ?_ _)); exact BK321.out) Tryd.underlying23 rfl (by kernel_rfl)) rfl ?_
    exact ⟨by first | rfl | (simp [errW_none, errW_some] <;> rfl) | (simp [*, errW_none, errW_some] <;> rfl), by repeat (first | (with_reducible first | exact HB.out | apply below_alloc | apply pw_below_drewN | apply below_drew1 | refine below_set ?_ GE320.out | refine below_set ?_ GE321.out) | exact HB.out)⟩
  · rw [if_neg c3] at H
    have c3b0 : (a1 == 1) = false := beq_eq_false_iff_ne.mpr c3
    have c3b1 : (a1 != 1) = true := bne_iff_ne.mpr c3
    by_cases c9 : a1 = 2
    · rw [if_pos c9] at H
      have c9b0 : (a1 == 2) = true := beq_iff_eq.mpr c9
      have c9b1 : (a1 != 2) = false := bne_eq_false_iff_eq.mpr c9
      clear c9
      simp only [Option.some.injEq, Prod.mk.injEq] at H
      obtain ⟨rfl, rfl, rfl, rfl, rfl, rfl, rfl, rfl, rfl, rfl⟩ := H
      go_enter Tryd.func46, Tryd.ntmps46
      go_wp2_with (first | ((with_reducible refine gate_dst (N := 2) rfl ?_); refine box_event ?hg (N := 2) ?hd (cs := #[.bool a0_0, .bool a0_1, .bool a0_2, .bool a0_3, .bool a0_4, .bool a0_5, .bool a0_6, .int .i64 a0_7, .int .i64 a0_8, .int .i64 a0_9]) (t := 23) ?hr ?_; (case hd => rfl); (case hg => rfl); (case hr => first | (go_simp; done) | (go_simp; rfl)); intro gb320 hg w10 hbox hb; have n0_ := Aside0.mk (below_step (by repeat (first | (with_reducible first | exact HB.out | apply below_alloc | apply pw_below_drewN | apply below_drew1) | exact HB.out)) hb); have n1_ := Aside0.mk (hbox); have n2_ := Aside0.mk ((by rw [hg]; exact (below_size (by repeat (first | (with_reducible first | exact HB.out | apply below_alloc | apply pw_below_drewN | apply below_drew1) | exact HB.out))) : w.heap.size ≤ gb320)); have n3_ := Aside0.mk ((by rw [hg]; exact (below_size (by repeat (first | (with_reducible first | exact HB.out | apply below_alloc | apply pw_below_drewN | apply below_drew1) | exact HB.out))) : w.heap.size ≤ gb320)); clear HB; have HB := n0_; have BK320 := n1_; have GW320 := n2_; have GE320 := n3_; clear n0_ n1_ n2_ n3_; clear hb hbox hg) | ((with_reducible refine gate_dst (N := 4) rfl ?_); refine box_event ?hg (N := 4) ?hd (cs := #[.bool false, .bool false, .bool false, .bool false, .bool false, .bool false, .bool false, .int .i64 0, .int .i64 0, .int .i64 0]) (t := 23) ?hr ?_; (case hd => rfl); (case hg => rfl); (case hr => first | (go_simp; done) | (go_simp; rfl)); intro gb321 hg w11 hbox hb; have n0_ := Aside0.mk (blk_below (g := gb320) (o := .cells #[.bool a0_0, .bool a0_1, .bool a0_2, .bool a0_3, .bool a0_4, .bool a0_5, .bool a0_6, .int .i64 a0_7, .int .i64 a0_8, .int .i64 a0_9] 23 (0, 0)) (by (with_reducible repeat (first | refine blk_drewN ?_ _ | refine blk_drew ?_ | refine blk_alloc ?_ _)); exact BK320.out) hb); have n1_ := Aside0.mk (below_step (by repeat (first | (with_reducible first | exact HB.out | apply below_alloc | apply pw_below_drewN | apply below_drew1 | refine below_set ?_ GE320.out) | exact HB.out)) hb); have n2_ := Aside0.mk (hbox); have n3_ := Aside0.mk ((by rw [hg]; exact (below_size (by repeat (first | (with_reducible first | exact HB.out | apply below_alloc | apply pw_below_drewN | apply below_drew1 | refine below_set ?_ GE320.out) | exact HB.out))) : w.heap.size ≤ gb321)); have n4_ := Aside0.mk ((by rw [hg]; exact (below_size (by repeat (first | (with_reducible first | exact HB.out | apply below_alloc | apply pw_below_drewN | apply below_drew1 | refine below_set ?_ GE320.out) | exact HB.out))) : w.heap.size ≤ gb321)); have n5_ := Aside0.mk ((by rw [hg]; exact Nat.ne_of_lt (blk_lt (g := gb320) (o := .cells #[.bool a0_0, .bool a0_1, .bool a0_2, .bool a0_3, .bool a0_4, .bool a0_5, .bool a0_6, .int .i64 a0_7, .int .i64 a0_8, .int .i64 a0_9] 23 (0, 0)) (by (with_reducible repeat (first | refine blk_drewN ?_ _ | refine blk_drew ?_ | refine blk_alloc ?_ _)); exact BK320.out)) : gb320 ≠ gb321)); have n6_ := Aside0.mk ((by rw [hg]; exact Nat.ne_of_gt (blk_lt (g := gb320) (o := .cells #[.bool a0_0, .bool a0_1, .bool a0_2, .bool a0_3, .bool a0_4, .bool a0_5, .bool a0_6, .int .i64 a0_7, .int .i64 a0_8, .int .i64 a0_9] 23 (0, 0)) (by (with_reducible repeat (first | refine blk_drewN ?_ _ | refine blk_drew ?_ | refine blk_alloc ?_ _)); exact BK320.out)) : gb321 ≠ gb320)); clear BK320; clear HB; have BK320 := n0_; have HB := n1_; have BK321 := n2_; have GW321 := n3_; have GE321 := n4_; have NB320_321 := n5_; have NB321_320 := n6_; clear n0_ n1_ n2_ n3_ n4_ n5_ n6_; clear hb hbox hg; have hnb12 := NB320_321.out; have hnc12 := NB321_320.out; have hcz13_0 : w11.cell? ⟨gb320, 0, none⟩ = some (.bool a0_0) := (blk_cell BK320.out 0).trans rfl; have hcz13_1 : w11.cell? ⟨gb320, 1, none⟩ = some (.bool a0_1) := (blk_cell BK320.out 1).trans rfl; have hcz13_2 : w11.cell? ⟨gb320, 2, none⟩ = some (.bool a0_2) := (blk_cell BK320.out 2).trans rfl; have hcz13_3 : w11.cell? ⟨gb320, 3, none⟩ = some (.bool a0_3) := (blk_cell BK320.out 3).trans rfl; have hcz13_4 : w11.cell? ⟨gb320, 4, none⟩ = some (.bool a0_4) := (blk_cell BK320.out 4).trans rfl; have hcz13_5 : w11.cell? ⟨gb320, 5, none⟩ = some (.bool a0_5) := (blk_cell BK320.out 5).trans rfl; have hcz13_6 : w11.cell? ⟨gb320, 6, none⟩ = some (.bool a0_6) := (blk_cell BK320.out 6).trans rfl; have hcz13_7 : w11.cell? ⟨gb320, 7, none⟩ = some (.int .i64 a0_7) := (blk_cell BK320.out 7).trans rfl; have hcz13_8 : w11.cell? ⟨gb320, 8, none⟩ = some (.int .i64 a0_8) := (blk_cell BK320.out 8).trans rfl; have hcz13_9 : w11.cell? ⟨gb320, 9, none⟩ = some (.int .i64 a0_9) := (blk_cell BK320.out 9).trans rfl; have hfz13_0 := blk_frozen BK320.out 0; have hfz13_1 := blk_frozen BK320.out 1; have hfz13_2 := blk_frozen BK320.out 2; have hfz13_3 := blk_frozen BK320.out 3; have hfz13_4 := blk_frozen BK320.out 4; have hfz13_5 := blk_frozen BK320.out 5; have hfz13_6 := blk_frozen BK320.out 6; have hfz13_7 := blk_frozen BK320.out 7; have hfz13_8 := blk_frozen BK320.out 8; have hfz13_9 := blk_frozen BK320.out 9; have hcz14_0 : w11.cell? ⟨gb321, 0, none⟩ = some (.bool false) := (blk_cell BK321.out 0).trans rfl; have hcz14_1 : w11.cell? ⟨gb321, 1, none⟩ = some (.bool false) := (blk_cell BK321.out 1).trans rfl; have hcz14_2 : w11.cell? ⟨gb321, 2, none⟩ = some (.bool false) := (blk_cell BK321.out 2).trans rfl; have hcz14_3 : w11.cell? ⟨gb321, 3, none⟩ = some (.bool false) := (blk_cell BK321.out 3).trans rfl; have hcz14_4 : w11.cell? ⟨gb321, 4, none⟩ = some (.bool false) := (blk_cell BK321.out 4).trans rfl; have hcz14_5 : w11.cell? ⟨gb321, 5, none⟩ = some (.bool false) := (blk_cell BK321.out 5).trans rfl; have hcz14_6 : w11.cell? ⟨gb321, 6, none⟩ = some (.bool false) := (blk_cell BK321.out 6).trans rfl; have hcz14_7 : w11.cell? ⟨gb321, 7, none⟩ = some (.int .i64 0) := (blk_cell BK321.out 7).trans rfl; have hcz14_8 : w11.cell? ⟨gb321, 8, none⟩ = some (.int .i64 0) := (blk_cell BK321.out 8).trans rfl; have hcz14_9 : w11.cell? ⟨gb321, 9, none⟩ = some (.int .i64 0) := (blk_cell BK321.out 9).trans rfl; have hfz14_0 := blk_frozen BK321.out 0; have hfz14_1 := blk_frozen BK321.out 1; have hfz14_2 := blk_frozen BK321.out 2; have hfz14_3 := blk_frozen BK321.out 3; have hfz14_4 := blk_frozen BK321.out 4; have hfz14_5 := blk_frozen BK321.out 5; have hfz14_6 := blk_frozen BK321.out 6; have hfz14_7 := blk_frozen BK321.out 7; have hfz14_8 := blk_frozen BK321.out 8; have hfz14_9 := blk_frozen BK321.out 9))
      refine bodyPost_ret (results_cell_row rfl _ _ gb321 23 #[.bool a0_0, .bool true, .bool a0_2, .bool a0_3, .bool a0_4, .bool a0_5, .bool a0_6, .int .i64 a0_7, .int .i64 a0_8, .int .i64 a0_9] (0, 0) _ rfl (by (with_reducible repeat (first | refine blk_drewN ?_ _ | refine blk_drew ?_ | refine blk_alloc ?_ _)); refine blk_put (cs := #[.bool a0_0, .bool true, .bool a0_2, .bool a0_3, .bool a0_4, .bool a0_5, .bool a0_6, .int .i64 a0_7, .int .i64 a0_8, .int .i64 0]) ?_ 9 _ rfl; (with_reducible repeat (first | refine blk_drewN ?_ _ | refine blk_drew ?_ | refine blk_alloc ?_ _)); refine blk_put (cs := #[.bool a0_0, .bool true, .bool a0_2, .bool a0_3, .bool a0_4, .bool a0_5, .bool a0_6, .int .i64 a0_7, .int .i64 0, .int .i64 0]) ?_ 8 _ rfl; (with_reducible repeat (first | refine blk_drewN ?_ _ | refine blk_drew ?_ | refine blk_alloc ?_ _)); refine blk_put (cs := #[.bool a0_0, .bool true, .bool a0_2, .bool a0_3, .bool a0_4, .bool a0_5, .bool a0_6, .int .i64 0, .int .i64 0, .int .i64 0]) ?_ 7 _ rfl; (with_reducible repeat (first | refine blk_drewN ?_ _ | refine blk_drew ?_ | refine blk_alloc ?_ _)); refine blk_put (cs := #[.bool a0_0, .bool true, .bool a0_2, .bool a0_3, .bool a0_4, .bool a0_5, .bool false, .int .i64 0, .int .i64 0, .int .i64 0]) ?_ 6 _ rfl; (with_reducible repeat (first | refine blk_drewN ?_ _ | refine blk_drew ?_ | refine blk_alloc ?_ _)); refine blk_put (cs := #[.bool a0_0, .bool true, .bool a0_2, .bool a0_3, .bool a0_4, .bool false, .bool false, .int .i64 0, .int .i64 0, .int .i64 0]) ?_ 5 _ rfl; (with_reducible repeat (first | refine blk_drewN ?_ _ | refine blk_drew ?_ | refine blk_alloc ?_ _)); refine blk_put (cs := #[.bool a0_0, .bool true, .bool a0_2, .bool a0_3, .bool false, .bool false, .bool false, .int .i64 0, .int .i64 0, .int .i64 0]) ?_ 4 _ rfl; (with_reducible repeat (first | refine blk_drewN ?_ _ | refine blk_drew ?_ | refine blk_alloc ?_ _)); refine blk_put (cs := #[.bool a0_0, .bool true, .bool a0_2, .bool false, .bool false, .bool false, .bool false, .int .i64 0, .int .i64 0, .int .i64 0]) ?_ 3 _ rfl; (with_reducible repeat (first | refine blk_drewN ?_ _ | refine blk_drew ?_ | refine blk_alloc ?_ _)); refine blk_put (cs := #[.bool a0_0, .bool true, .bool false, .bool false, .bool false, .bool false, .bool false, .int .i64 0, .int .i64 0, .int .i64 0]) ?_ 2 _ rfl; (with_reducible repeat (first | refine blk_drewN ?_ _ | refine blk_drew ?_ | refine blk_alloc ?_ _)); refine blk_put (cs := #[.bool a0_0, .bool false, .bool false, .bool false, .bool false, .bool false, .bool false, .int .i64 0, .int .i64 0, .int .i64 0]) ?_ 1 _ rfl; (with_reducible repeat (first | refine blk_drewN ?_ _ | refine blk_drew ?_ | refine blk_alloc ?_ _)); refine blk_put (cs := #[.bool false, .bool false, .bool false, .bool false, .bool false, .bool false, .bool false, .int .i64 0, .int .i64 0, .int .i64 0]) ?_ 0 _ rfl; (with_reducible repeat (first | refine blk_drewN ?_ _ | refine blk_drew ?_ | refine blk_alloc ?_ _)); refine blk_far ?_ NB321_320.out _; (with_reducible repeat (first | refine blk_drewN ?_ _ | refine blk_drew ?_ | refine blk_alloc ?_ _)); exact BK321.out) Tryd.underlying23 rfl (by kernel_rfl)) rfl ?_
      exact ⟨by first | rfl | (simp [errW_none, errW_some] <;> rfl) | (simp [*, errW_none, errW_some] <;> rfl), by repeat (first | (with_reducible first | exact HB.out | apply below_alloc | apply pw_below_drewN | apply below_drew1 | refine below_set ?_ GE320.out | refine below_set ?_ GE321.out) | exact HB.out)⟩
    · rw [if_neg c9] at H
      have c9b0 : (a1 == 2) = false := beq_eq_false_iff_ne.mpr c9
      have c9b1 : (a1 != 2) = true := bne_iff_ne.mpr c9
      by_cases c15 : a1 = 3
      · rw [if_pos c15] at H
        have c15b0 : (a1 == 3) = true := beq_iff_eq.mpr c15
        have c15b1 : (a1 != 3) = false := bne_eq_false_iff_eq.mpr c15
        clear c15
        simp only [Option.some.injEq, Prod.mk.injEq] at H
        obtain ⟨rfl, rfl, rfl, rfl, rfl, rfl, rfl, rfl, rfl, rfl⟩ := H
        go_enter Tryd.func46, Tryd.ntmps46
        go_wp2_with (first | ((with_reducible refine gate_dst (N := 2) rfl ?_); refine box_event ?hg (N := 2) ?hd (cs := #[.bool a0_0, .bool a0_1, .bool a0_2, .bool a0_3, .bool a0_4, .bool a0_5, .bool a0_6, .int .i64 a0_7, .int .i64 a0_8, .int .i64 a0_9]) (t := 23) ?hr ?_; (case hd => rfl); (case hg => rfl); (case hr => first | (go_simp; done) | (go_simp; rfl)); intro gb320 hg w16 hbox hb; have n0_ := Aside0.mk (below_step (by repeat (first | (with_reducible first | exact HB.out | apply below_alloc | apply pw_below_drewN | apply below_drew1) | exact HB.out)) hb); have n1_ := Aside0.mk (hbox); have n2_ := Aside0.mk ((by rw [hg]; exact (below_size (by repeat (first | (with_reducible first | exact HB.out | apply below_alloc | apply pw_below_drewN | apply below_drew1) | exact HB.out))) : w.heap.size ≤ gb320)); have n3_ := Aside0.mk ((by rw [hg]; exact (below_size (by repeat (first | (with_reducible first | exact HB.out | apply below_alloc | apply pw_below_drewN | apply below_drew1) | exact HB.out))) : w.heap.size ≤ gb320)); clear HB; have HB := n0_; have BK320 := n1_; have GW320 := n2_; have GE320 := n3_; clear n0_ n1_ n2_ n3_; clear hb hbox hg) | ((with_reducible refine gate_dst (N := 4) rfl ?_); refine box_event ?hg (N := 4) ?hd (cs := #[.bool false, .bool false, .bool false, .bool false, .bool false, .bool false, .bool false, .int .i64 0, .int .i64 0, .int .i64 0]) (t := 23) ?hr ?_; (case hd => rfl); (case hg => rfl); (case hr => first | (go_simp; done) | (go_simp; rfl)); intro gb321 hg w17 hbox hb; have n0_ := Aside0.mk (blk_below (g := gb320) (o := .cells #[.bool a0_0, .bool a0_1, .bool a0_2, .bool a0_3, .bool a0_4, .bool a0_5, .bool a0_6, .int .i64 a0_7, .int .i64 a0_8, .int .i64 a0_9] 23 (0, 0)) (by (with_reducible repeat (first | refine blk_drewN ?_ _ | refine blk_drew ?_ | refine blk_alloc ?_ _)); exact BK320.out) hb); have n1_ := Aside0.mk (below_step (by repeat (first | (with_reducible first | exact HB.out | apply below_alloc | apply pw_below_drewN | apply below_drew1 | refine below_set ?_ GE320.out) | exact HB.out)) hb); have n2_ := Aside0.mk (hbox); have n3_ := Aside0.mk ((by rw [hg]; exact (below_size (by repeat (first | (with_reducible first | exact HB.out | apply below_alloc | apply pw_below_drewN | apply below_drew1 | refine below_set ?_ GE320.out) | exact HB.out))) : w.heap.size ≤ gb321)); have n4_ := Aside0.mk ((by rw [hg]; exact (below_size (by repeat (first | (with_reducible first | exact HB.out | apply below_alloc | apply pw_below_drewN | apply below_drew1 | refine below_set ?_ GE320.out) | exact HB.out))) : w.heap.size ≤ gb321)); have n5_ := Aside0.mk ((by rw [hg]; exact Nat.ne_of_lt (blk_lt (g := gb320) (o := .cells #[.bool a0_0, .bool a0_1, .bool a0_2, .bool a0_3, .bool a0_4, .bool a0_5, .bool a0_6, .int .i64 a0_7, .int .i64 a0_8, .int .i64 a0_9] 23 (0, 0)) (by (with_reducible repeat (first | refine blk_drewN ?_ _ | refine blk_drew ?_ | refine blk_alloc ?_ _)); exact BK320.out)) : gb320 ≠ gb321)); have n6_ := Aside0.mk ((by rw [hg]; exact Nat.ne_of_gt (blk_lt (g := gb320) (o := .cells #[.bool a0_0, .bool a0_1, .bool a0_2, .bool a0_3, .bool a0_4, .bool a0_5, .bool a0_6, .int .i64 a0_7, .int .i64 a0_8, .int .i64 a0_9] 23 (0, 0)) (by (with_reducible repeat (first | refine blk_drewN ?_ _ | refine blk_drew ?_ | refine blk_alloc ?_ _)); exact BK320.out)) : gb321 ≠ gb320)); clear BK320; clear HB; have BK320 := n0_; have HB := n1_; have BK321 := n2_; have GW321 := n3_; have GE321 := n4_; have NB320_321 := n5_; have NB321_320 := n6_; clear n0_ n1_ n2_ n3_ n4_ n5_ n6_; clear hb hbox hg; have hnb18 := NB320_321.out; have hnc18 := NB321_320.out; have hcz19_0 : w17.cell? ⟨gb320, 0, none⟩ = some (.bool a0_0) := (blk_cell BK320.out 0).trans rfl; have hcz19_1 : w17.cell? ⟨gb320, 1, none⟩ = some (.bool a0_1) := (blk_cell BK320.out 1).trans rfl; have hcz19_2 : w17.cell? ⟨gb320, 2, none⟩ = some (.bool a0_2) := (blk_cell BK320.out 2).trans rfl; have hcz19_3 : w17.cell? ⟨gb320, 3, none⟩ = some (.bool a0_3) := (blk_cell BK320.out 3).trans rfl; have hcz19_4 : w17.cell? ⟨gb320, 4, none⟩ = some (.bool a0_4) := (blk_cell BK320.out 4).trans rfl; have hcz19_5 : w17.cell? ⟨gb320, 5, none⟩ = some (.bool a0_5) := (blk_cell BK320.out 5).trans rfl; have hcz19_6 : w17.cell? ⟨gb320, 6, none⟩ = some (.bool a0_6) := (blk_cell BK320.out 6).trans rfl; have hcz19_7 : w17.cell? ⟨gb320, 7, none⟩ = some (.int .i64 a0_7) := (blk_cell BK320.out 7).trans rfl; have hcz19_8 : w17.cell? ⟨gb320, 8, none⟩ = some (.int .i64 a0_8) := (blk_cell BK320.out 8).trans rfl; have hcz19_9 : w17.cell? ⟨gb320, 9, none⟩ = some (.int .i64 a0_9) := (blk_cell BK320.out 9).trans rfl; have hfz19_0 := blk_frozen BK320.out 0; have hfz19_1 := blk_frozen BK320.out 1; have hfz19_2 := blk_frozen BK320.out 2; have hfz19_3 := blk_frozen BK320.out 3; have hfz19_4 := blk_frozen BK320.out 4; have hfz19_5 := blk_frozen BK320.out 5; have hfz19_6 := blk_frozen BK320.out 6; have hfz19_7 := blk_frozen BK320.out 7; have hfz19_8 := blk_frozen BK320.out 8; have hfz19_9 := blk_frozen BK320.out 9; have hcz20_0 : w17.cell? ⟨gb321, 0, none⟩ = some (.bool false) := (blk_cell BK321.out 0).trans rfl; have hcz20_1 : w17.cell? ⟨gb321, 1, none⟩ = some (.bool false) := (blk_cell BK321.out 1).trans rfl; have hcz20_2 : w17.cell? ⟨gb321, 2, none⟩ = some (.bool false) := (blk_cell BK321.out 2).trans rfl; have hcz20_3 : w17.cell? ⟨gb321, 3, none⟩ = some (.bool false) := (blk_cell BK321.out 3).trans rfl; have hcz20_4 : w17.cell? ⟨gb321, 4, none⟩ = some (.bool false) := (blk_cell BK321.out 4).trans rfl; have hcz20_5 : w17.cell? ⟨gb321, 5, none⟩ = some (.bool false) := (blk_cell BK321.out 5).trans rfl; have hcz20_6 : w17.cell? ⟨gb321, 6, none⟩ = some (.bool false) := (blk_cell BK321.out 6).trans rfl; have hcz20_7 : w17.cell? ⟨gb321, 7, none⟩ = some (.int .i64 0) := (blk_cell BK321.out 7).trans rfl; have hcz20_8 : w17.cell? ⟨gb321, 8, none⟩ = some (.int .i64 0) := (blk_cell BK321.out 8).trans rfl; have hcz20_9 : w17.cell? ⟨gb321, 9, none⟩ = some (.int .i64 0) := (blk_cell BK321.out 9).trans rfl; have hfz20_0 := blk_frozen BK321.out 0; have hfz20_1 := blk_frozen BK321.out 1; have hfz20_2 := blk_frozen BK321.out 2; have hfz20_3 := blk_frozen BK321.out 3; have hfz20_4 := blk_frozen BK321.out 4; have hfz20_5 := blk_frozen BK321.out 5; have hfz20_6 := blk_frozen BK321.out 6; have hfz20_7 := blk_frozen BK321.out 7; have hfz20_8 := blk_frozen BK321.out 8; have hfz20_9 := blk_frozen BK321.out 9))
        refine bodyPost_ret (results_cell_row rfl _ _ gb321 23 #[.bool a0_0, .bool a0_1, .bool true, .bool a0_3, .bool a0_4, .bool a0_5, .bool a0_6, .int .i64 a0_7, .int .i64 a0_8, .int .i64 a0_9] (0, 0) _ rfl (by (with_reducible repeat (first | refine blk_drewN ?_ _ | refine blk_drew ?_ | refine blk_alloc ?_ _)); refine blk_put (cs := #[.bool a0_0, .bool a0_1, .bool true, .bool a0_3, .bool a0_4, .bool a0_5, .bool a0_6, .int .i64 a0_7, .int .i64 a0_8, .int .i64 0]) ?_ 9 _ rfl; (with_reducible repeat (first | refine blk_drewN ?_ _ | refine blk_drew ?_ | refine blk_alloc ?_ _)); refine blk_put (cs := #[.bool a0_0, .bool a0_1, .bool true, .bool a0_3, .bool a0_4, .bool a0_5, .bool a0_6, .int .i64 a0_7, .int .i64 0, .int .i64 0]) ?_ 8 _ rfl; (with_reducible repeat (first | refine blk_drewN ?_ _ | refine blk_drew ?_ | refine blk_alloc ?_ _)); refine blk_put (cs := #[.bool a0_0, .bool a0_1, .bool true, .bool a0_3, .bool a0_4, .bool a0_5, .bool a0_6, .int .i64 0, .int .i64 0, .int .i64 0]) ?_ 7 _ rfl; (with_reducible repeat (first | refine blk_drewN ?_ _ | refine blk_drew ?_ | refine blk_alloc ?_ _)); refine blk_put (cs := #[.bool a0_0, .bool a0_1, .bool true, .bool a0_3, .bool a0_4, .bool a0_5, .bool false, .int .i64 0, .int .i64 0, .int .i64 0]) ?_ 6 _ rfl; (with_reducible repeat (first | refine blk_drewN ?_ _ | refine blk_drew ?_ | refine blk_alloc ?_ _)); refine blk_put (cs := #[.bool a0_0, .bool a0_1, .bool true, .bool a0_3, .bool a0_4, .bool false, .bool false, .int .i64 0, .int .i64 0, .int .i64 0]) ?_ 5 _ rfl; (with_reducible repeat (first | refine blk_drewN ?_ _ | refine blk_drew ?_ | refine blk_alloc ?_ _)); refine blk_put (cs := #[.bool a0_0, .bool a0_1, .bool true, .bool a0_3, .bool false, .bool false, .bool false, .int .i64 0, .int .i64 0, .int .i64 0]) ?_ 4 _ rfl; (with_reducible repeat (first | refine blk_drewN ?_ _ | refine blk_drew ?_ | refine blk_alloc ?_ _)); refine blk_put (cs := #[.bool a0_0, .bool a0_1, .bool true, .bool false, .bool false, .bool false, .bool false, .int .i64 0, .int .i64 0, .int .i64 0]) ?_ 3 _ rfl; (with_reducible repeat (first | refine blk_drewN ?_ _ | refine blk_drew ?_ | refine blk_alloc ?_ _)); refine blk_put (cs := #[.bool a0_0, .bool a0_1, .bool false, .bool false, .bool false, .bool false, .bool false, .int .i64 0, .int .i64 0, .int .i64 0]) ?_ 2 _ rfl; (with_reducible repeat (first | refine blk_drewN ?_ _ | refine blk_drew ?_ | refine blk_alloc ?_ _)); refine blk_put (cs := #[.bool a0_0, .bool false, .bool false, .bool false, .bool false, .bool false, .bool false, .int .i64 0, .int .i64 0, .int .i64 0]) ?_ 1 _ rfl; (with_reducible repeat (first | refine blk_drewN ?_ _ | refine blk_drew ?_ | refine blk_alloc ?_ _)); refine blk_put (cs := #[.bool false, .bool false, .bool false, .bool false, .bool false, .bool false, .bool false, .int .i64 0, .int .i64 0, .int .i64 0]) ?_ 0 _ rfl; (with_reducible repeat (first | refine blk_drewN ?_ _ | refine blk_drew ?_ | refine blk_alloc ?_ _)); refine blk_far ?_ NB321_320.out _; (with_reducible repeat (first | refine blk_drewN ?_ _ | refine blk_drew ?_ | refine blk_alloc ?_ _)); exact BK321.out) Tryd.underlying23 rfl (by kernel_rfl)) rfl ?_
        exact ⟨by first | rfl | (simp [errW_none, errW_some] <;> rfl) | (simp [*, errW_none, errW_some] <;> rfl), by repeat (first | (with_reducible first | exact HB.out | apply below_alloc | apply pw_below_drewN | apply below_drew1 | refine below_set ?_ GE320.out | refine below_set ?_ GE321.out) | exact HB.out)⟩
      · rw [if_neg c15] at H
        have c15b0 : (a1 == 3) = false := beq_eq_false_iff_ne.mpr c15
        have c15b1 : (a1 != 3) = true := bne_iff_ne.mpr c15
        by_cases c21 : a1 = 5
        · rw [if_pos c21] at H
          have c21b0 : (a1 == 5) = true := beq_iff_eq.mpr c21
          have c21b1 : (a1 != 5) = false := bne_eq_false_iff_eq.mpr c21
          clear c21
          simp only [Option.some.injEq, Prod.mk.injEq] at H
          obtain ⟨rfl, rfl, rfl, rfl, rfl, rfl, rfl, rfl, rfl, rfl⟩ := H
          go_enter Tryd.func46, Tryd.ntmps46
          go_wp2_with (first | ((with_reducible refine gate_dst (N := 2) rfl ?_); refine box_event ?hg (N := 2) ?hd (cs := #[.bool a0_0, .bool a0_1, .bool a0_2, .bool a0_3, .bool a0_4, .bool a0_5, .bool a0_6, .int .i64 a0_7, .int .i64 a0_8, .int .i64 a0_9]) (t := 23) ?hr ?_; (case hd => rfl); (case hg => rfl); (case hr => first | (go_simp; done) | (go_simp; rfl)); intro gb320 hg w22 hbox hb; have n0_ := Aside0.mk (below_step (by repeat (first | (with_reducible first | exact HB.out | apply below_alloc | apply pw_below_drewN | apply below_drew1) | exact HB.out)) hb); have n1_ := Aside0.mk (hbox); have n2_ := Aside0.mk ((by rw [hg]; exact (below_size (by repeat (first | (with_reducible first | exact HB.out | apply below_alloc | apply pw_below_drewN | apply below_drew1) | exact HB.out))) : w.heap.size ≤ gb320)); have n3_ := Aside0.mk ((by rw [hg]; exact (below_size (by repeat (first | (with_reducible first | exact HB.out | apply below_alloc | apply pw_below_drewN | apply below_drew1) | exact HB.out))) : w.heap.size ≤ gb320)); clear HB; have HB := n0_; have BK320 := n1_; have GW320 := n2_; have GE320 := n3_; clear n0_ n1_ n2_ n3_; clear hb hbox hg) | ((with_reducible refine gate_dst (N := 4) rfl ?_); refine box_event ?hg (N := 4) ?hd (cs := #[.bool false, .bool false, .bool false, .bool false, .bool false, .bool false, .bool false, .int .i64 0, .int .i64 0, .int .i64 0]) (t := 23) ?hr ?_; (case hd => rfl); (case hg => rfl); (case hr => first | (go_simp; done) | (go_simp; rfl)); intro gb321 hg w23 hbox hb; have n0_ := Aside0.mk (blk_below (g := gb320) (o := .cells #[.bool a0_0, .bool a0_1, .bool a0_2, .bool a0_3, .bool a0_4, .bool a0_5, .bool a0_6, .int .i64 a0_7, .int .i64 a0_8, .int .i64 a0_9] 23 (0, 0)) (by (with_reducible repeat (first | refine blk_drewN ?_ _ | refine blk_drew ?_ | refine blk_alloc ?_ _)); exact BK320.out) hb); have n1_ := Aside0.mk (below_step (by repeat (first | (with_reducible first | exact HB.out | apply below_alloc | apply pw_below_drewN | apply below_drew1 | refine below_set ?_ GE320.out) | exact HB.out)) hb); have n2_ := Aside0.mk (hbox); have n3_ := Aside0.mk ((by rw [hg]; exact (below_size (by repeat (first | (with_reducible first | exact HB.out | apply below_alloc | apply pw_below_drewN | apply below_drew1 | refine below_set ?_ GE320.out) | exact HB.out))) : w.heap.size ≤ gb321)); have n4_ := Aside0.mk ((by rw [hg]; exact (below_size (by repeat (first | (with_reducible first | exact HB.out | apply below_alloc | apply pw_below_drewN | apply below_drew1 | refine below_set ?_ GE320.out) | exact HB.out))) : w.heap.size ≤ gb321)); have n5_ := Aside0.mk ((by rw [hg]; exact Nat.ne_of_lt (blk_lt (g := gb320) (o := .cells #[.bool a0_0, .bool a0_1, .bool a0_2, .bool a0_3, .bool a0_4, .bool a0_5, .bool a0_6, .int .i64 a0_7, .int .i64 a0_8, .int .i64 a0_9] 23 (0, 0)) (by (with_reducible repeat (first | refine blk_drewN ?_ _ | refine blk_drew ?_ | refine blk_alloc ?_ _)); exact BK320.out)) : gb320 ≠ gb321)); have n6_ := Aside0.mk ((by rw [hg]; exact Nat.ne_of_gt (blk_lt (g := gb320) (o := .cells #[.bool a0_0, .bool a0_1, .bool a0_2, .bool a0_3, .bool a0_4, .bool a0_5, .bool a0_6, .int .i64 a0_7, .int .i64 a0_8, .int .i64 a0_9] 23 (0, 0)) (by (with_reducible repeat (first | refine blk_drewN ?_ _ | refine blk_drew ?_ | refine blk_alloc ?_ _)); exact BK320.out)) : gb321 ≠ gb320)); clear BK320; clear HB; have BK320 := n0_; have HB := n1_; have BK321 := n2_; have GW321 := n3_; have GE321 := n4_; have NB320_321 := n5_; have NB321_320 := n6_; clear n0_ n1_ n2_ n3_ n4_ n5_ n6_; clear hb hbox hg; have hnb24 := NB320_321.out; have hnc24 := NB321_320.out; have hcz25_0 : w23.cell? ⟨gb320, 0, none⟩ = some (.bool a0_0) := (blk_cell BK320.out 0).trans rfl; have hcz25_1 : w23.cell? ⟨gb320, 1, none⟩ = some (.bool a0_1) := (blk_cell BK320.out 1).trans rfl; have hcz25_2 : w23.cell? ⟨gb320, 2, none⟩ = some (.bool a0_2) := (blk_cell BK320.out 2).trans rfl; have hcz25_3 : w23.cell? ⟨gb320, 3, none⟩ = some (.bool a0_3) := (blk_cell BK320.out 3).trans rfl; have hcz25_4 : w23.cell? ⟨gb320, 4, none⟩ = some (.bool a0_4) := (blk_cell BK320.out 4).trans rfl; have hcz25_5 : w23.cell? ⟨gb320, 5, none⟩ = some (.bool a0_5) := (blk_cell BK320.out 5).trans rfl; have hcz25_6 : w23.cell? ⟨gb320, 6, none⟩ = some (.bool a0_6) := (blk_cell BK320.out 6).trans rfl; have hcz25_7 : w23.cell? ⟨gb320, 7, none⟩ = some (.int .i64 a0_7) := (blk_cell BK320.out 7).trans rfl; have hcz25_8 : w23.cell? ⟨gb320, 8, none⟩ = some (.int .i64 a0_8) := (blk_cell BK320.out 8).trans rfl; have hcz25_9 : w23.cell? ⟨gb320, 9, none⟩ = some (.int .i64 a0_9) := (blk_cell BK320.out 9).trans rfl; have hfz25_0 := blk_frozen BK320.out 0; have hfz25_1 := blk_frozen BK320.out 1; have hfz25_2 := blk_frozen BK320.out 2; have hfz25_3 := blk_frozen BK320.out 3; have hfz25_4 := blk_frozen BK320.out 4; have hfz25_5 := blk_frozen BK320.out 5; have hfz25_6 := blk_frozen BK320.out 6; have hfz25_7 := blk_frozen BK320.out 7; have hfz25_8 := blk_frozen BK320.out 8; have hfz25_9 := blk_frozen BK320.out 9; have hcz26_0 : w23.cell? ⟨gb321, 0, none⟩ = some (.bool false) := (blk_cell BK321.out 0).trans rfl; have hcz26_1 : w23.cell? ⟨gb321, 1, none⟩ = some (.bool false) := (blk_cell BK321.out 1).trans rfl; have hcz26_2 : w23.cell? ⟨gb321, 2, none⟩ = some (.bool false) := (blk_cell BK321.out 2).trans rfl; have hcz26_3 : w23.cell? ⟨gb321, 3, none⟩ = some (.bool false) := (blk_cell BK321.out 3).trans rfl; have hcz26_4 : w23.cell? ⟨gb321, 4, none⟩ = some (.bool false) := (blk_cell BK321.out 4).trans rfl; have hcz26_5 : w23.cell? ⟨gb321, 5, none⟩ = some (.bool false) := (blk_cell BK321.out 5).trans rfl; have hcz26_6 : w23.cell? ⟨gb321, 6, none⟩ = some (.bool false) := (blk_cell BK321.out 6).trans rfl; have hcz26_7 : w23.cell? ⟨gb321, 7, none⟩ = some (.int .i64 0) := (blk_cell BK321.out 7).trans rfl; have hcz26_8 : w23.cell? ⟨gb321, 8, none⟩ = some (.int .i64 0) := (blk_cell BK321.out 8).trans rfl; have hcz26_9 : w23.cell? ⟨gb321, 9, none⟩ = some (.int .i64 0) := (blk_cell BK321.out 9).trans rfl; have hfz26_0 := blk_frozen BK321.out 0; have hfz26_1 := blk_frozen BK321.out 1; have hfz26_2 := blk_frozen BK321.out 2; have hfz26_3 := blk_frozen BK321.out 3; have hfz26_4 := blk_frozen BK321.out 4; have hfz26_5 := blk_frozen BK321.out 5; have hfz26_6 := blk_frozen BK321.out 6; have hfz26_7 := blk_frozen BK321.out 7; have hfz26_8 := blk_frozen BK321.out 8; have hfz26_9 := blk_frozen BK321.out 9))
          refine bodyPost_ret (results_cell_row rfl _ _ gb321 23 #[.bool a0_0, .bool a0_1, .bool a0_2, .bool true, .bool a0_4, .bool a0_5, .bool a0_6, .int .i64 a0_7, .int .i64 a0_8, .int .i64 a0_9] (0, 0) _ rfl (by (with_reducible repeat (first | refine blk_drewN ?_ _ | refine blk_drew ?_ | refine blk_alloc ?_ _)); refine blk_put (cs := #[.bool a0_0, .bool a0_1, .bool a0_2, .bool true, .bool a0_4, .bool a0_5, .bool a0_6, .int .i64 a0_7, .int .i64 a0_8, .int .i64 0]) ?_ 9 _ rfl; (with_reducible repeat (first | refine blk_drewN ?_ _ | refine blk_drew ?_ | refine blk_alloc ?_ _)); refine blk_put (cs := #[.bool a0_0, .bool a0_1, .bool a0_2, .bool true, .bool a0_4, .bool a0_5, .bool a0_6, .int .i64 a0_7, .int .i64 0, .int .i64 0]) ?_ 8 _ rfl; (with_reducible repeat (first | refine blk_drewN ?_ _ | refine blk_drew ?_ | refine blk_alloc ?_ _)); refine blk_put (cs := #[.bool a0_0, .bool a0_1, .bool a0_2, .bool true, .bool a0_4, .bool a0_5, .bool a0_6, .int .i64 0, .int .i64 0, .int .i64 0]) ?_ 7 _ rfl; (with_reducible repeat (first | refine blk_drewN ?_ _ | refine blk_drew ?_ | refine blk_alloc ?_ _)); refine blk_put (cs := #[.bool a0_0, .bool a0_1, .bool a0_2, .bool true, .bool a0_4, .bool a0_5, .bool false, .int .i64 0, .int .i64 0, .int .i64 0]) ?_ 6 _ rfl; (with_reducible repeat (first | refine blk_drewN ?_ _ | refine blk_drew ?_ | refine blk_alloc ?_ _)); refine blk_put (cs := #[.bool a0_0, .bool a0_1, .bool a0_2, .bool true, .bool a0_4, .bool false, .bool false, .int .i64 0, .int .i64 0, .int .i64 0]) ?_ 5 _ rfl; (with_reducible repeat (first | refine blk_drewN ?_ _ | refine blk_drew ?_ | refine blk_alloc ?_ _)); refine blk_put (cs := #[.bool a0_0, .bool a0_1, .bool a0_2, .bool true, .bool false, .bool false, .bool false, .int .i64 0, .int .i64 0, .int .i64 0]) ?_ 4 _ rfl; (with_reducible repeat (first | refine blk_drewN ?_ _ | refine blk_drew ?_ | refine blk_alloc ?_ _)); refine blk_put (cs := #[.bool a0_0, .bool a0_1, .bool a0_2, .bool false, .bool false, .bool false, .bool false, .int .i64 0, .int .i64 0, .int .i64 0]) ?_ 3 _ rfl; (with_reducible repeat (first | refine blk_drewN ?_ _ | refine blk_drew ?_ | refine blk_alloc ?_ _)); refine blk_put (cs := #[.bool a0_0, .bool a0_1, .bool false, .bool false, .bool false, .bool false, .bool false, .int .i64 0, .int .i64 0, .int .i64 0]) ?_ 2 _ rfl; (with_reducible repeat (first | refine blk_drewN ?_ _ | refine blk_drew ?_ | refine blk_alloc ?_ _)); refine blk_put (cs := #[.bool a0_0, .bool false, .bool false, .bool false, .bool false, .bool false, .bool false, .int .i64 0, .int .i64 0, .int .i64 0]) ?_ 1 _ rfl; (with_reducible repeat (first | refine blk_drewN ?_ _ | refine blk_drew ?_ | refine blk_alloc ?_ _)); refine blk_put (cs := #[.bool false, .bool false, .bool false, .bool false, .bool false, .bool false, .bool false, .int .i64 0, .int .i64 0, .int .i64 0]) ?_ 0 _ rfl; (with_reducible repeat (first | refine blk_drewN ?_ _ | refine blk_drew ?_ | refine blk_alloc ?_ _)); refine blk_far ?_ NB321_320.out _; (with_reducible repeat (first | refine blk_drewN ?_ _ | refine blk_drew ?_ | refine blk_alloc ?_ _)); exact BK321.out) Tryd.underlying23 rfl (by kernel_rfl)) rfl ?_
          exact ⟨by first | rfl | (simp [errW_none, errW_some] <;> rfl) | (simp [*, errW_none, errW_some] <;> rfl), by repeat (first | (with_reducible first | exact HB.out | apply below_alloc | apply pw_below_drewN | apply below_drew1 | refine below_set ?_ GE320.out | refine below_set ?_ GE321.out) | exact HB.out)⟩
        · rw [if_neg c21] at H
          have c21b0 : (a1 == 5) = false := beq_eq_false_iff_ne.mpr c21
          have c21b1 : (a1 != 5) = true := bne_iff_ne.mpr c21
          by_cases c27 : a1 = 7
          · rw [if_pos c27] at H
            have c27b0 : (a1 == 7) = true := beq_iff_eq.mpr c27
            have c27b1 : (a1 != 7) = false := bne_eq_false_iff_eq.mpr c27
            clear c27
            simp only [Option.some.injEq, Prod.mk.injEq] at H
            obtain ⟨rfl, rfl, rfl, rfl, rfl, rfl, rfl, rfl, rfl, rfl⟩ := H
            go_enter Tryd.func46, Tryd.ntmps46
            go_wp2_with (first | ((with_reducible refine gate_dst (N := 2) rfl ?_); refine box_event ?hg (N := 2) ?hd (cs := #[.bool a0_0, .bool a0_1, .bool a0_2, .bool a0_3, .bool a0_4, .bool a0_5, .bool a0_6, .int .i64 a0_7, .int .i64 a0_8, .int .i64 a0_9]) (t := 23) ?hr ?_; (case hd => rfl); (case hg => rfl); (case hr => first | (go_simp; done) | (go_simp; rfl)); intro gb320 hg w28 hbox hb; have n0_ := Aside0.mk (below_step (by repeat (first | (with_reducible first | exact HB.out | apply below_alloc | apply pw_below_drewN | apply below_drew1) | exact HB.out)) hb); have n1_ := Aside0.mk (hbox); have n2_ := Aside0.mk ((by rw [hg]; exact (below_size (by repeat (first | (with_reducible first | exact HB.out | apply below_alloc | apply pw_below_drewN | apply below_drew1) | exact HB.out))) : w.heap.size ≤ gb320)); have n3_ := Aside0.mk ((by rw [hg]; exact (below_size (by repeat (first | (with_reducible first | exact HB.out | apply below_alloc | apply pw_below_drewN | apply below_drew1) | exact HB.out))) : w.heap.size ≤ gb320)); clear HB; have HB := n0_; have BK320 := n1_; have GW320 := n2_; have GE320 := n3_; clear n0_ n1_ n2_ n3_; clear hb hbox hg) | ((with_reducible refine gate_dst (N := 4) rfl ?_); refine box_event ?hg (N := 4) ?hd (cs := #[.bool false, .bool false, .bool false, .bool false, .bool false, .bool false, .bool false, .int .i64 0, .int .i64 0, .int .i64 0]) (t := 23) ?hr ?_; (case hd => rfl); (case hg => rfl); (case hr => first | (go_simp; done) | (go_simp; rfl)); intro gb321 hg w29 hbox hb; have n0_ := Aside0.mk (blk_below (g := gb320) (o := .cells #[.bool a0_0, .bool a0_1, .bool a0_2, .bool a0_3, .bool a0_4, .bool a0_5, .bool a0_6, .int .i64 a0_7, .int .i64 a0_8, .int .i64 a0_9] 23 (0, 0)) (by (with_reducible repeat (first | refine blk_drewN ?_ _ | refine blk_drew ?_ | refine blk_alloc ?_ _)); exact BK320.out) hb); have n1_ := Aside0.mk (below_step (by repeat (first | (with_reducible first | exact HB.out | apply below_alloc | apply pw_below_drewN | apply below_drew1 | refine below_set ?_ GE320.out) | exact HB.out)) hb); have n2_ := Aside0.mk (hbox); have n3_ := Aside0.mk ((by rw [hg]; exact (below_size (by repeat (first | (with_reducible first | exact HB.out | apply below_alloc | apply pw_below_drewN | apply below_drew1 | refine below_set ?_ GE320.out) | exact HB.out))) : w.heap.size ≤ gb321)); have n4_ := Aside0.mk ((by rw [hg]; exact (below_size (by repeat (first | (with_reducible first | exact HB.out | apply below_alloc | apply pw_below_drewN | apply below_drew1 | refine below_set ?_ GE320.out) | exact HB.out))) : w.heap.size ≤ gb321)); have n5_ := Aside0.mk ((by rw [hg]; exact Nat.ne_of_lt (blk_lt (g := gb320) (o := .cells #[.bool a0_0, .bool a0_1, .bool a0_2, .bool a0_3, .bool a0_4, .bool a0_5, .bool a0_6, .int .i64 a0_7, .int .i64 a0_8, .int .i64 a0_9] 23 (0, 0)) (by (with_reducible repeat (first | refine blk_drewN ?_ _ | refine blk_drew ?_ | refine blk_alloc ?_ _)); exact BK320.out)) : gb320 ≠ gb321)); have n6_ := Aside0.mk ((by rw [hg]; exact Nat.ne_of_gt (blk_lt (g := gb320) (o := .cells #[.bool a0_0, .bool a0_1, .bool a0_2, .bool a0_3, .bool a0_4, .bool a0_5, .bool a0_6, .int .i64 a0_7, .int .i64 a0_8, .int .i64 a0_9] 23 (0, 0)) (by (with_reducible repeat (first | refine blk_drewN ?_ _ | refine blk_drew ?_ | refine blk_alloc ?_ _)); exact BK320.out)) : gb321 ≠ gb320)); clear BK320; clear HB; have BK320 := n0_; have HB := n1_; have BK321 := n2_; have GW321 := n3_; have GE321 := n4_; have NB320_321 := n5_; have NB321_320 := n6_; clear n0_ n1_ n2_ n3_ n4_ n5_ n6_; clear hb hbox hg; have hnb30 := NB320_321.out; have hnc30 := NB321_320.out; have hcz31_0 : w29.cell? ⟨gb320, 0, none⟩ = some (.bool a0_0) := (blk_cell BK320.out 0).trans rfl; have hcz31_1 : w29.cell? ⟨gb320, 1, none⟩ = some (.bool a0_1) := (blk_cell BK320.out 1).trans rfl; have hcz31_2 : w29.cell? ⟨gb320, 2, none⟩ = some (.bool a0_2) := (blk_cell BK320.out 2).trans rfl; have hcz31_3 : w29.cell? ⟨gb320, 3, none⟩ = some (.bool a0_3) := (blk_cell BK320.out 3).trans rfl; have hcz31_4 : w29.cell? ⟨gb320, 4, none⟩ = some (.bool a0_4) := (blk_cell BK320.out 4).trans rfl; have hcz31_5 : w29.cell? ⟨gb320, 5, none⟩ = some (.bool a0_5) := (blk_cell BK320.out 5).trans rfl; have hcz31_6 : w29.cell? ⟨gb320, 6, none⟩ = some (.bool a0_6) := (blk_cell BK320.out 6).trans rfl; have hcz31_7 : w29.cell? ⟨gb320, 7, none⟩ = some (.int .i64 a0_7) := (blk_cell BK320.out 7).trans rfl; have hcz31_8 : w29.cell? ⟨gb320, 8, none⟩ = some (.int .i64 a0_8) := (blk_cell BK320.out 8).trans rfl; have hcz31_9 : w29.cell? ⟨gb320, 9, none⟩ = some (.int .i64 a0_9) := (blk_cell BK320.out 9).trans rfl; have hfz31_0 := blk_frozen BK320.out 0; have hfz31_1 := blk_frozen BK320.out 1; have hfz31_2 := blk_frozen BK320.out 2; have hfz31_3 := blk_frozen BK320.out 3; have hfz31_4 := blk_frozen BK320.out 4; have hfz31_5 := blk_frozen BK320.out 5; have hfz31_6 := blk_frozen BK320.out 6; have hfz31_7 := blk_frozen BK320.out 7; have hfz31_8 := blk_frozen BK320.out 8; have hfz31_9 := blk_frozen BK320.out 9; have hcz32_0 : w29.cell? ⟨gb321, 0, none⟩ = some (.bool false) := (blk_cell BK321.out 0).trans rfl; have hcz32_1 : w29.cell? ⟨gb321, 1, none⟩ = some (.bool false) := (blk_cell BK321.out 1).trans rfl; have hcz32_2 : w29.cell? ⟨gb321, 2, none⟩ = some (.bool false) := (blk_cell BK321.out 2).trans rfl; have hcz32_3 : w29.cell? ⟨gb321, 3, none⟩ = some (.bool false) := (blk_cell BK321.out 3).trans rfl; have hcz32_4 : w29.cell? ⟨gb321, 4, none⟩ = some (.bool false) := (blk_cell BK321.out 4).trans rfl; have hcz32_5 : w29.cell? ⟨gb321, 5, none⟩ = some (.bool false) := (blk_cell BK321.out 5).trans rfl; have hcz32_6 : w29.cell? ⟨gb321, 6, none⟩ = some (.bool false) := (blk_cell BK321.out 6).trans rfl; have hcz32_7 : w29.cell? ⟨gb321, 7, none⟩ = some (.int .i64 0) := (blk_cell BK321.out 7).trans rfl; have hcz32_8 : w29.cell? ⟨gb321, 8, none⟩ = some (.int .i64 0) := (blk_cell BK321.out 8).trans rfl; have hcz32_9 : w29.cell? ⟨gb321, 9, none⟩ = some (.int .i64 0) := (blk_cell BK321.out 9).trans rfl; have hfz32_0 := blk_frozen BK321.out 0; have hfz32_1 := blk_frozen BK321.out 1; have hfz32_2 := blk_frozen BK321.out 2; have hfz32_3 := blk_frozen BK321.out 3; have hfz32_4 := blk_frozen BK321.out 4; have hfz32_5 := blk_frozen BK321.out 5; have hfz32_6 := blk_frozen BK321.out 6; have hfz32_7 := blk_frozen BK321.out 7; have hfz32_8 := blk_frozen BK321.out 8; have hfz32_9 := blk_frozen BK321.out 9))
            refine bodyPost_ret (results_cell_row rfl _ _ gb321 23 #[.bool a0_0, .bool a0_1, .bool a0_2, .bool a0_3, .bool true, .bool a0_5, .bool a0_6, .int .i64 a0_7, .int .i64 a0_8, .int .i64 a0_9] (0, 0) _ rfl (by (with_reducible repeat (first | refine blk_drewN ?_ _ | refine blk_drew ?_ | refine blk_alloc ?_ _)); refine blk_put (cs := #[.bool a0_0, .bool a0_1, .bool a0_2, .bool a0_3, .bool true, .bool a0_5, .bool a0_6, .int .i64 a0_7, .int .i64 a0_8, .int .i64 0]) ?_ 9 _ rfl; (with_reducible repeat (first | refine blk_drewN ?_ _ | refine blk_drew ?_ | refine blk_alloc ?_ _)); refine blk_put (cs := #[.bool a0_0, .bool a0_1, .bool a0_2, .bool a0_3, .bool true, .bool a0_5, .bool a0_6, .int .i64 a0_7, .int .i64 0, .int .i64 0]) ?_ 8 _ rfl; (with_reducible repeat (first | refine blk_drewN ?_ _ | refine blk_drew ?_ | refine blk_alloc ?_ _)); refine blk_put (cs := #[.bool a0_0, .bool a0_1, .bool a0_2, .bool a0_3, .bool true, .bool a0_5, .bool a0_6, .int .i64 0, .int .i64 0, .int .i64 0]) ?_ 7 _ rfl; (with_reducible repeat (first | refine blk_drewN ?_ _ | refine blk_drew ?_ | refine blk_alloc ?_ _)); refine blk_put (cs := #[.bool a0_0, .bool a0_1, .bool a0_2, .bool a0_3, .bool true, .bool a0_5, .bool false, .int .i64 0, .int .i64 0, .int .i64 0]) ?_ 6 _ rfl; (with_reducible repeat (first | refine blk_drewN ?_ _ | refine blk_drew ?_ | refine blk_alloc ?_ _)); refine blk_put (cs := #[.bool a0_0, .bool a0_1, .bool a0_2, .bool a0_3, .bool true, .bool false, .bool false, .int .i64 0, .int .i64 0, .int .i64 0]) ?_ 5 _ rfl; (with_reducible repeat (first | refine blk_drewN ?_ _ | refine blk_drew ?_ | refine blk_alloc ?_ _)); refine blk_put (cs := #[.bool a0_0, .bool a0_1, .bool a0_2, .bool a0_3, .bool false, .bool false, .bool false, .int .i64 0, .int .i64 0, .int .i64 0]) ?_ 4 _ rfl; (with_reducible repeat (first | refine blk_drewN ?_ _ | refine blk_drew ?_ | refine blk_alloc ?_ _)); refine blk_put (cs := #[.bool a0_0, .bool a0_1, .bool a0_2, .bool false, .bool false, .bool false, .bool false, .int .i64 0, .int .i64 0, .int .i64 0]) ?_ 3 _ rfl; (with_reducible repeat (first | refine blk_drewN ?_ _ | refine blk_drew ?_ | refine blk_alloc ?_ _)); refine blk_put (cs := #[.bool a0_0, .bool a0_1, .bool false, .bool false, .bool false, .bool false, .bool false, .int .i64 0, .int .i64 0, .int .i64 0]) ?_ 2 _ rfl; (with_reducible repeat (first | refine blk_drewN ?_ _ | refine blk_drew ?_ | refine blk_alloc ?_ _)); refine blk_put (cs := #[.bool a0_0, .bool false, .bool false, .bool false, .bool false, .bool false, .bool false, .int .i64 0, .int .i64 0, .int .i64 0]) ?_ 1 _ rfl; (with_reducible repeat (first | refine blk_drewN ?_ _ | refine blk_drew ?_ | refine blk_alloc ?_ _)); refine blk_put (cs := #[.bool false, .bool false, .bool false, .bool false, .bool false, .bool false, .bool false, .int .i64 0, .int .i64 0, .int .i64 0]) ?_ 0 _ rfl; (with_reducible repeat (first | refine blk_drewN ?_ _ | refine blk_drew ?_ | refine blk_alloc ?_ _)); refine blk_far ?_ NB321_320.out _; (with_reducible repeat (first | refine blk_drewN ?_ _ | refine blk_drew ?_ | refine blk_alloc ?_ _)); exact BK321.out) Tryd.underlying23 rfl (by kernel_rfl)) rfl ?_
            exact ⟨by first | rfl | (simp [errW_none, errW_some] <;> rfl) | (simp [*, errW_none, errW_some] <;> rfl), by repeat (first | (with_reducible first | exact HB.out | apply below_alloc | apply pw_below_drewN | apply below_drew1 | refine below_set ?_ GE320.out | refine below_set ?_ GE321.out) | exact HB.out)⟩
          · rw [if_neg c27] at H
            have c27b0 : (a1 == 7) = false := beq_eq_false_iff_ne.mpr c27
            have c27b1 : (a1 != 7) = true := bne_iff_ne.mpr c27
            by_cases c33 : a1 = 8
            · rw [if_pos c33] at H
              have c33b0 : (a1 == 8) = true := beq_iff_eq.mpr c33
              have c33b1 : (a1 != 8) = false := bne_eq_false_iff_eq.mpr c33
              clear c33
              simp only [Option.some.injEq, Prod.mk.injEq] at H
              obtain ⟨rfl, rfl, rfl, rfl, rfl, rfl, rfl, rfl, rfl, rfl⟩ := H
              go_enter Tryd.func46, Tryd.ntmps46
              go_wp2_with (first | ((with_reducible refine gate_dst (N := 2) rfl ?_); refine box_event ?hg (N := 2) ?hd (cs := #[.bool a0_0, .bool a0_1, .bool a0_2, .bool a0_3, .bool a0_4, .bool a0_5, .bool a0_6, .int .i64 a0_7, .int .i64 a0_8, .int .i64 a0_9]) (t := 23) ?hr ?_; (case hd => rfl); (case hg => rfl); (case hr => first | (go_simp; done) | (go_simp; rfl)); intro gb320 hg w34 hbox hb; have n0_ := Aside0.mk (below_step (by repeat (first | (with_reducible first | exact HB.out | apply below_alloc | apply pw_below_drewN | apply below_drew1) | exact HB.out)) hb); have n1_ := Aside0.mk (hbox); have n2_ := Aside0.mk ((by rw [hg]; exact (below_size (by repeat (first | (with_reducible first | exact HB.out | apply below_alloc | apply pw_below_drewN | apply below_drew1) | exact HB.out))) : w.heap.size ≤ gb320)); have n3_ := Aside0.mk ((by rw [hg]; exact (below_size (by repeat (first | (with_reducible first | exact HB.out | apply below_alloc | apply pw_below_drewN | apply below_drew1) | exact HB.out))) : w.heap.size ≤ gb320)); clear HB; have HB := n0_; have BK320 := n1_; have GW320 := n2_; have GE320 := n3_; clear n0_ n1_ n2_ n3_; clear hb hbox hg) | ((with_reducible refine gate_dst (N := 4) rfl ?_); refine box_event ?hg (N := 4) ?hd (cs := #[.bool false, .bool false, .bool false, .bool false, .bool false, .bool false, .bool false, .int .i64 0, .int .i64 0, .int .i64 0]) (t := 23) ?hr ?_; (case hd => rfl); (case hg => rfl); (case hr => first | (go_simp; done) | (go_simp; rfl)); intro gb321 hg w35 hbox hb; have n0_ := Aside0.mk (blk_below (g := gb320) (o := .cells #[.bool a0_0, .bool a0_1, .bool a0_2, .bool a0_3, .bool a0_4, .bool a0_5, .bool a0_6, .int .i64 a0_7, .int .i64 a0_8, .int .i64 a0_9] 23 (0, 0)) (by (with_reducible repeat (first | refine blk_drewN ?_ _ | refine blk_drew ?_ | refine blk_alloc ?_ _)); exact BK320.out) hb); have n1_ := Aside0.mk (below_step (by repeat (first | (with_reducible first | exact HB.out | apply below_alloc | apply pw_below_drewN | apply below_drew1 | refine below_set ?_ GE320.out) | exact HB.out)) hb); have n2_ := Aside0.mk (hbox); have n3_ := Aside0.mk ((by rw [hg]; exact (below_size (by repeat (first | (with_reducible first | exact HB.out | apply below_alloc | apply pw_below_drewN | apply below_drew1 | refine below_set ?_ GE320.out) | exact HB.out))) : w.heap.size ≤ gb321)); have n4_ := Aside0.mk ((by rw [hg]; exact (below_size (by repeat (first | (with_reducible first | exact HB.out | apply below_alloc | apply pw_below_drewN | apply below_drew1 | refine below_set ?_ GE320.out) | exact HB.out))) : w.heap.size ≤ gb321)); have n5_ := Aside0.mk ((by rw [hg]; exact Nat.ne_of_lt (blk_lt (g := gb320) (o := .cells #[.bool a0_0, .bool a0_1, .bool a0_2, .bool a0_3, .bool a0_4, .bool a0_5, .bool a0_6, .int .i64 a0_7, .int .i64 a0_8, .int .i64 a0_9] 23 (0, 0)) (by (with_reducible repeat (first | refine blk_drewN ?_ _ | refine blk_drew ?_ | refine blk_alloc ?_ _)); exact BK320.out)) : gb320 ≠ gb321)); have n6_ := Aside0.mk ((by rw [hg]; exact Nat.ne_of_gt (blk_lt (g := gb320) (o := .cells #[.bool a0_0, .bool a0_1, .bool a0_2, .bool a0_3, .bool a0_4, .bool a0_5, .bool a0_6, .int .i64 a0_7, .int .i64 a0_8, .int .i64 a0_9] 23 (0, 0)) (by (with_reducible repeat (first | refine blk_drewN ?_ _ | refine blk_drew ?_ | refine blk_alloc ?_ _)); exact BK320.out)) : gb321 ≠ gb320)); clear BK320; clear HB; have BK320 := n0_; have HB := n1_; have BK321 := n2_; have GW321 := n3_; have GE321 := n4_; have NB320_321 := n5_; have NB321_320 := n6_; clear n0_ n1_ n2_ n3_ n4_ n5_ n6_; clear hb hbox hg; have hnb36 := NB320_321.out; have hnc36 := NB321_320.out; have hcz37_0 : w35.cell? ⟨gb320, 0, none⟩ = some (.bool a0_0) := (blk_cell BK320.out 0).trans rfl; have hcz37_1 : w35.cell? ⟨gb320, 1, none⟩ = some (.bool a0_1) := (blk_cell BK320.out 1).trans rfl; have hcz37_2 : w35.cell? ⟨gb320, 2, none⟩ = some (.bool a0_2) := (blk_cell BK320.out 2).trans rfl; have hcz37_3 : w35.cell? ⟨gb320, 3, none⟩ = some (.bool a0_3) := (blk_cell BK320.out 3).trans rfl; have hcz37_4 : w35.cell? ⟨gb320, 4, none⟩ = some (.bool a0_4) := (blk_cell BK320.out 4).trans rfl; have hcz37_5 : w35.cell? ⟨gb320, 5, none⟩ = some (.bool a0_5) := (blk_cell BK320.out 5).trans rfl; have hcz37_6 : w35.cell? ⟨gb320, 6, none⟩ = some (.bool a0_6) := (blk_cell BK320.out 6).trans rfl; have hcz37_7 : w35.cell? ⟨gb320, 7, none⟩ = some (.int .i64 a0_7) := (blk_cell BK320.out 7).trans rfl; have hcz37_8 : w35.cell? ⟨gb320, 8, none⟩ = some (.int .i64 a0_8) := (blk_cell BK320.out 8).trans rfl; have hcz37_9 : w35.cell? ⟨gb320, 9, none⟩ = some (.int .i64 a0_9) := (blk_cell BK320.out 9).trans rfl; have hfz37_0 := blk_frozen BK320.out 0; have hfz37_1 := blk_frozen BK320.out 1; have hfz37_2 := blk_frozen BK320.out 2; have hfz37_3 := blk_frozen BK320.out 3; have hfz37_4 := blk_frozen BK320.out 4; have hfz37_5 := blk_frozen BK320.out 5; have hfz37_6 := blk_frozen BK320.out 6; have hfz37_7 := blk_frozen BK320.out 7; have hfz37_8 := blk_frozen BK320.out 8; have hfz37_9 := blk_frozen BK320.out 9; have hcz38_0 : w35.cell? ⟨gb321, 0, none⟩ = some (.bool false) := (blk_cell BK321.out 0).trans rfl; have hcz38_1 : w35.cell? ⟨gb321, 1, none⟩ = some (.bool false) := (blk_cell BK321.out 1).trans rfl; have hcz38_2 : w35.cell? ⟨gb321, 2, none⟩ = some (.bool false) := (blk_cell BK321.out 2).trans rfl; have hcz38_3 : w35.cell? ⟨gb321, 3, none⟩ = some (.bool false) := (blk_cell BK321.out 3).trans rfl; have hcz38_4 : w35.cell? ⟨gb321, 4, none⟩ = some (.bool false) := (blk_cell BK321.out 4).trans rfl; have hcz38_5 : w35.cell? ⟨gb321, 5, none⟩ = some (.bool false) := (blk_cell BK321.out 5).trans rfl; have hcz38_6 : w35.cell? ⟨gb321, 6, none⟩ = some (.bool false) := (blk_cell BK321.out 6).trans rfl; have hcz38_7 : w35.cell? ⟨gb321, 7, none⟩ = some (.int .i64 0) := (blk_cell BK321.out 7).trans rfl; have hcz38_8 : w35.cell? ⟨gb321, 8, none⟩ = some (.int .i64 0) := (blk_cell BK321.out 8).trans rfl; have hcz38_9 : w35.cell? ⟨gb321, 9, none⟩ = some (.int .i64 0) := (blk_cell BK321.out 9).trans rfl; have hfz38_0 := blk_frozen BK321.out 0; have hfz38_1 := blk_frozen BK321.out 1; have hfz38_2 := blk_frozen BK321.out 2; have hfz38_3 := blk_frozen BK321.out 3; have hfz38_4 := blk_frozen BK321.out 4; have hfz38_5 := blk_frozen BK321.out 5; have hfz38_6 := blk_frozen BK321.out 6; have hfz38_7 := blk_frozen BK321.out 7; have hfz38_8 := blk_frozen BK321.out 8; have hfz38_9 := blk_frozen BK321.out 9))
              refine bodyPost_ret (results_cell_row rfl _ _ gb321 23 #[.bool a0_0, .bool a0_1, .bool a0_2, .bool a0_3, .bool a0_4, .bool true, .bool a0_6, .int .i64 a0_7, .int .i64 a0_8, .int .i64 a0_9] (0, 0) _ rfl (by (with_reducible repeat (first | refine blk_drewN ?_ _ | refine blk_drew ?_ | refine blk_alloc ?_ _)); refine blk_put (cs := #[.bool a0_0, .bool a0_1, .bool a0_2, .bool a0_3, .bool a0_4, .bool true, .bool a0_6, .int .i64 a0_7, .int .i64 a0_8, .int .i64 0]) ?_ 9 _ rfl; (with_reducible repeat (first | refine blk_drewN ?_ _ | refine blk_drew ?_ | refine blk_alloc ?_ _)); refine blk_put (cs := #[.bool a0_0, .bool a0_1, .bool a0_2, .bool a0_3, .bool a0_4, .bool true, .bool a0_6, .int .i64 a0_7, .int .i64 0, .int .i64 0]) ?_ 8 _ rfl; (with_reducible repeat (first | refine blk_drewN ?_ _ | refine blk_drew ?_ | refine blk_alloc ?_ _)); refine blk_put (cs := #[.bool a0_0, .bool a0_1, .bool a0_2, .bool a0_3, .bool a0_4, .bool true, .bool a0_6, .int .i64 0, .int .i64 0, .int .i64 0]) ?_ 7 _ rfl; (with_reducible repeat (first | refine blk_drewN ?_ _ | refine blk_drew ?_ | refine blk_alloc ?_ _)); refine blk_put (cs := #[.bool a0_0, .bool a0_1, .bool a0_2, .bool a0_3, .bool a0_4, .bool true, .bool false, .int .i64 0, .int .i64 0, .int .i64 0]) ?_ 6 _ rfl; (with_reducible repeat (first | refine blk_drewN ?_ _ | refine blk_drew ?_ | refine blk_alloc ?_ _)); refine blk_put (cs := #[.bool a0_0, .bool a0_1, .bool a0_2, .bool a0_3, .bool a0_4, .bool false, .bool false, .int .i64 0, .int .i64 0, .int .i64 0]) ?_ 5 _ rfl; (with_reducible repeat (first | refine blk_drewN ?_ _ | refine blk_drew ?_ | refine blk_alloc ?_ _)); refine blk_put (cs := #[.bool a0_0, .bool a0_1, .bool a0_2, .bool a0_3, .bool false, .bool false, .bool false, .int .i64 0, .int .i64 0, .int .i64 0]) ?_ 4 _ rfl; (with_reducible repeat (first | refine blk_drewN ?_ _ | refine blk_drew ?_ | refine blk_alloc ?_ _)); refine blk_put (cs := #[.bool a0_0, .bool a0_1, .bool a0_2, .bool false, .bool false, .bool false, .bool false, .int .i64 0, .int .i64 0, .int .i64 0]) ?_ 3 _ rfl; (with_reducible repeat (first | refine blk_drewN ?_ _ | refine blk_drew ?_ | refine blk_alloc ?_ _)); refine blk_put (cs := #[.bool a0_0, .bool a0_1, .bool false, .bool false, .bool false, .bool false, .bool false, .int .i64 0, .int .i64 0, .int .i64 0]) ?_ 2 _ rfl; (with_reducible repeat (first | refine blk_drewN ?_ _ | refine blk_drew ?_ | refine blk_alloc ?_ _)); refine blk_put (cs := #[.bool a0_0, .bool false, .bool false, .bool false, .bool false, .bool false, .bool false, .int .i64 0, .int .i64 0, .int .i64 0]) ?_ 1 _ rfl; (with_reducible repeat (first | refine blk_drewN ?_ _ | refine blk_drew ?_ | refine blk_alloc ?_ _)); refine blk_put (cs := #[.bool false, .bool false, .bool false, .bool false, .bool false, .bool false, .bool false, .int .i64 0, .int .i64 0, .int .i64 0]) ?_ 0 _ rfl; (with_reducible repeat (first | refine blk_drewN ?_ _ | refine blk_drew ?_ | refine blk_alloc ?_ _)); refine blk_far ?_ NB321_320.out _; (with_reducible repeat (first | refine blk_drewN ?_ _ | refine blk_drew ?_ | refine blk_alloc ?_ _)); exact BK321.out) Tryd.underlying23 rfl (by kernel_rfl)) rfl ?_
              exact ⟨by first | rfl | (simp [errW_none, errW_some] <;> rfl) | (simp [*, errW_none, errW_some] <;> rfl), by repeat (first | (with_reducible first | exact HB.out | apply below_alloc | apply pw_below_drewN | apply below_drew1 | refine below_set ?_ GE320.out | refine below_set ?_ GE321.out) | exact HB.out)⟩
            · rw [if_neg c33] at H
              have c33b0 : (a1 == 8) = false := beq_eq_false_iff_ne.mpr c33
              have c33b1 : (a1 != 8) = true := bne_iff_ne.mpr c33
              by_cases c39 : a1 = 9
              · rw [if_pos c39] at H
                have c39b0 : (a1 == 9) = true := beq_iff_eq.mpr c39
                have c39b1 : (a1 != 9) = false := bne_eq_false_iff_eq.mpr c39
                clear c39
                simp only [Option.some.injEq, Prod.mk.injEq] at H
                obtain ⟨rfl, rfl, rfl, rfl, rfl, rfl, rfl, rfl, rfl, rfl⟩ := H
                go_enter Tryd.func46, Tryd.ntmps46
                go_wp2_with (first | ((with_reducible refine gate_dst (N := 2) rfl ?_); refine box_event ?hg (N := 2) ?hd (cs := #[.bool a0_0, .bool a0_1, .bool a0_2, .bool a0_3, .bool a0_4, .bool a0_5, .bool a0_6, .int .i64 a0_7, .int .i64 a0_8, .int .i64 a0_9]) (t := 23) ?hr ?_; (case hd => rfl); (case hg => rfl); (case hr => first | (go_simp; done) | (go_simp; rfl)); intro gb320 hg w40 hbox hb; have n0_ := Aside0.mk (below_step (by repeat (first | (with_reducible first | exact HB.out | apply below_alloc | apply pw_below_drewN | apply below_drew1) | exact HB.out)) hb); have n1_ := Aside0.mk (hbox); have n2_ := Aside0.mk ((by rw [hg]; exact (below_size (by repeat (first | (with_reducible first | exact HB.out | apply below_alloc | apply pw_below_drewN | apply below_drew1) | exact HB.out))) : w.heap.size ≤ gb320)); have n3_ := Aside0.mk ((by rw [hg]; exact (below_size (by repeat (first | (with_reducible first | exact HB.out | apply below_alloc | apply pw_below_drewN | apply below_drew1) | exact HB.out))) : w.heap.size ≤ gb320)); clear HB; have HB := n0_; have BK320 := n1_; have GW320 := n2_; have GE320 := n3_; clear n0_ n1_ n2_ n3_; clear hb hbox hg) | ((with_reducible refine gate_dst (N := 4) rfl ?_); refine box_event ?hg (N := 4) ?hd (cs := #[.bool false, .bool false, .bool false, .bool false, .bool false, .bool false, .bool false, .int .i64 0, .int .i64 0, .int .i64 0]) (t := 23) ?hr ?_; (case hd => rfl); (case hg => rfl); (case hr => first | (go_simp; done) | (go_simp; rfl)); intro gb321 hg w41 hbox hb; have n0_ := Aside0.mk (blk_below (g := gb320) (o := .cells #[.bool a0_0, .bool a0_1, .bool a0_2, .bool a0_3, .bool a0_4, .bool a0_5, .bool a0_6, .int .i64 a0_7, .int .i64 a0_8, .int .i64 a0_9] 23 (0, 0)) (by (with_reducible repeat (first | refine blk_drewN ?_ _ | refine blk_drew ?_ | refine blk_alloc ?_ _)); exact BK320.out) hb); have n1_ := Aside0.mk (below_step (by repeat (first | (with_reducible first | exact HB.out | apply below_alloc | apply pw_below_drewN | apply below_drew1 | refine below_set ?_ GE320.out) | exact HB.out)) hb); have n2_ := Aside0.mk (hbox); have n3_ := Aside0.mk ((by rw [hg]; exact (below_size (by repeat (first | (with_reducible first | exact HB.out | apply below_alloc | apply pw_below_drewN | apply below_drew1 | refine below_set ?_ GE320.out) | exact HB.out))) : w.heap.size ≤ gb321)); have n4_ := Aside0.mk ((by rw [hg]; exact (below_size (by repeat (first | (with_reducible first | exact HB.out | apply below_alloc | apply pw_below_drewN | apply below_drew1 | refine below_set ?_ GE320.out) | exact HB.out))) : w.heap.size ≤ gb321)); have n5_ := Aside0.mk ((by rw [hg]; exact Nat.ne_of_lt (blk_lt (g := gb320) (o := .cells #[.bool a0_0, .bool a0_1, .bool a0_2, .bool a0_3, .bool a0_4, .bool a0_5, .bool a0_6, .int .i64 a0_7, .int .i64 a0_8, .int .i64 a0_9] 23 (0, 0)) (by (with_reducible repeat (first | refine blk_drewN ?_ _ | refine blk_drew ?_ | refine blk_alloc ?_ _)); exact BK320.out)) : gb320 ≠ gb321)); have n6_ := Aside0.mk ((by rw [hg]; exact Nat.ne_of_gt (blk_lt (g := gb320) (o := .cells #[.bool a0_0, .bool a0_1, .bool a0_2, .bool a0_3, .bool a0_4, .bool a0_5, .bool a0_6, .int .i64 a0_7, .int .i64 a0_8, .int .i64 a0_9] 23 (0, 0)) (by (with_reducible repeat (first | refine blk_drewN ?_ _ | refine blk_drew ?_ | refine blk_alloc ?_ _)); exact BK320.out)) : gb321 ≠ gb320)); clear BK320; clear HB; have BK320 := n0_; have HB := n1_; have BK321 := n2_; have GW321 := n3_; have GE321 := n4_; have NB320_321 := n5_; have NB321_320 := n6_; clear n0_ n1_ n2_ n3_ n4_ n5_ n6_; clear hb hbox hg; have hnb42 := NB320_321.out; have hnc42 := NB321_320.out; have hcz43_0 : w41.cell? ⟨gb320, 0, none⟩ = some (.bool a0_0) := (blk_cell BK320.out 0).trans rfl; have hcz43_1 : w41.cell? ⟨gb320, 1, none⟩ = some (.bool a0_1) := (blk_cell BK320.out 1).trans rfl; have hcz43_2 : w41.cell? ⟨gb320, 2, none⟩ = some (.bool a0_2) := (blk_cell BK320.out 2).trans rfl; have hcz43_3 : w41.cell? ⟨gb320, 3, none⟩ = some (.bool a0_3) := (blk_cell BK320.out 3).trans rfl; have hcz43_4 : w41.cell? ⟨gb320, 4, none⟩ = some (.bool a0_4) := (blk_cell BK320.out 4).trans rfl; have hcz43_5 : w41.cell? ⟨gb320, 5, none⟩ = some (.bool a0_5) := (blk_cell BK320.out 5).trans rfl; have hcz43_6 : w41.cell? ⟨gb320, 6, none⟩ = some (.bool a0_6) := (blk_cell BK320.out 6).trans rfl; have hcz43_7 : w41.cell? ⟨gb320, 7, none⟩ = some (.int .i64 a0_7) := (blk_cell BK320.out 7).trans rfl; have hcz43_8 : w41.cell? ⟨gb320, 8, none⟩ = some (.int .i64 a0_8) := (blk_cell BK320.out 8).trans rfl; have hcz43_9 : w41.cell? ⟨gb320, 9, none⟩ = some (.int .i64 a0_9) := (blk_cell BK320.out 9).trans rfl; have hfz43_0 := blk_frozen BK320.out 0; have hfz43_1 := blk_frozen BK320.out 1; have hfz43_2 := blk_frozen BK320.out 2; have hfz43_3 := blk_frozen BK320.out 3; have hfz43_4 := blk_frozen BK320.out 4; have hfz43_5 := blk_frozen BK320.out 5; have hfz43_6 := blk_frozen BK320.out 6; have hfz43_7 := blk_frozen BK320.out 7; have hfz43_8 := blk_frozen BK320.out 8; have hfz43_9 := blk_frozen BK320.out 9; have hcz44_0 : w41.cell? ⟨gb321, 0, none⟩ = some (.bool false) := (blk_cell BK321.out 0).trans rfl; have hcz44_1 : w41.cell? ⟨gb321, 1, none⟩ = some (.bool false) := (blk_cell BK321.out 1).trans rfl; have hcz44_2 : w41.cell? ⟨gb321, 2, none⟩ = some (.bool false) := (blk_cell BK321.out 2).trans rfl; have hcz44_3 : w41.cell? ⟨gb321, 3, none⟩ = some (.bool false) := (blk_cell BK321.out 3).trans rfl; have hcz44_4 : w41.cell? ⟨gb321, 4, none⟩ = some (.bool false) := (blk_cell BK321.out 4).trans rfl; have hcz44_5 : w41.cell? ⟨gb321, 5, none⟩ = some (.bool false) := (blk_cell BK321.out 5).trans rfl; have hcz44_6 : w41.cell? ⟨gb321, 6, none⟩ = some (.bool false) := (blk_cell BK321.out 6).trans rfl; have hcz44_7 : w41.cell? ⟨gb321, 7, none⟩ = some (.int .i64 0) := (blk_cell BK321.out 7).trans rfl; have hcz44_8 : w41.cell? ⟨gb321, 8, none⟩ = some (.int .i64 0) := (blk_cell BK321.out 8).trans rfl; have hcz44_9 : w41.cell? ⟨gb321, 9, none⟩ = some (.int .i64 0) := (blk_cell BK321.out 9).trans rfl; have hfz44_0 := blk_frozen BK321.out 0; have hfz44_1 := blk_frozen BK321.out 1; have hfz44_2 := blk_frozen BK321.out 2; have hfz44_3 := blk_frozen BK321.out 3; have hfz44_4 := blk_frozen BK321.out 4; have hfz44_5 := blk_frozen BK321.out 5; have hfz44_6 := blk_frozen BK321.out 6; have hfz44_7 := blk_frozen BK321.out 7; have hfz44_8 := blk_frozen BK321.out 8; have hfz44_9 := blk_frozen BK321.out 9))
                refine bodyPost_ret (results_cell_row rfl _ _ gb321 23 #[.bool a0_0, .bool a0_1, .bool a0_2, .bool a0_3, .bool a0_4, .bool a0_5, .bool true, .int .i64 a0_7, .int .i64 a0_8, .int .i64 a0_9] (0, 0) _ rfl (by (with_reducible repeat (first | refine blk_drewN ?_ _ | refine blk_drew ?_ | refine blk_alloc ?_ _)); refine blk_put (cs := #[.bool a0_0, .bool a0_1, .bool a0_2, .bool a0_3, .bool a0_4, .bool a0_5, .bool true, .int .i64 a0_7, .int .i64 a0_8, .int .i64 0]) ?_ 9 _ rfl; (with_reducible repeat (first | refine blk_drewN ?_ _ | refine blk_drew ?_ | refine blk_alloc ?_ _)); refine blk_put (cs := #[.bool a0_0, .bool a0_1, .bool a0_2, .bool a0_3, .bool a0_4, .bool a0_5, .bool true, .int .i64 a0_7, .int .i64 0, .int .i64 0]) ?_ 8 _ rfl; (with_reducible repeat (first | refine blk_drewN ?_ _ | refine blk_drew ?_ | refine blk_alloc ?_ _)); refine blk_put (cs := #[.bool a0_0, .bool a0_1, .bool a0_2, .bool a0_3, .bool a0_4, .bool a0_5, .bool true, .int .i64 0, .int .i64 0, .int .i64 0]) ?_ 7 _ rfl; (with_reducible repeat (first | refine blk_drewN ?_ _ | refine blk_drew ?_ | refine blk_alloc ?_ _)); refine blk_put (cs := #[.bool a0_0, .bool a0_1, .bool a0_2, .bool a0_3, .bool a0_4, .bool a0_5, .bool false, .int .i64 0, .int .i64 0, .int .i64 0]) ?_ 6 _ rfl; (with_reducible repeat (first | refine blk_drewN ?_ _ | refine blk_drew ?_ | refine blk_alloc ?_ _)); refine blk_put (cs := #[.bool a0_0, .bool a0_1, .bool a0_2, .bool a0_3, .bool a0_4, .bool false, .bool false, .int .i64 0, .int .i64 0, .int .i64 0]) ?_ 5 _ rfl; (with_reducible repeat (first | refine blk_drewN ?_ _ | refine blk_drew ?_ | refine blk_alloc ?_ _)); refine blk_put (cs := #[.bool a0_0, .bool a0_1, .bool a0_2, .bool a0_3, .bool false, .bool false, .bool false, .int .i64 0, .int .i64 0, .int .i64 0]) ?_ 4 _ rfl; (with_reducible repeat (first | refine blk_drewN ?_ _ | refine blk_drew ?_ | refine blk_alloc ?_ _)); refine blk_put (cs := #[.bool a0_0, .bool a0_1, .bool a0_2, .bool false, .bool false, .bool false, .bool false, .int .i64 0, .int .i64 0, .int .i64 0]) ?_ 3 _ rfl; (with_reducible repeat (first | refine blk_drewN ?_ _ | refine blk_drew ?_ | refine blk_alloc ?_ _)); refine blk_put (cs := #[.bool a0_0, .bool a0_1, .bool false, .bool false, .bool false, .bool false, .bool false, .int .i64 0, .int .i64 0, .int .i64 0]) ?_ 2 _ rfl; (with_reducible repeat (first | refine blk_drewN ?_ _ | refine blk_drew ?_ | refine blk_alloc ?_ _)); refine blk_put (cs := #[.bool a0_0, .bool false, .bool false, .bool false, .bool false, .bool false, .bool false, .int .i64 0, .int .i64 0, .int .i64 0]) ?_ 1 _ rfl; (with_reducible repeat (first | refine blk_drewN ?_ _ | refine blk_drew ?_ | refine blk_alloc ?_ _)); refine blk_put (cs := #[.bool false, .bool false, .bool false, .bool false, .bool false, .bool false, .bool false, .int .i64 0, .int .i64 0, .int .i64 0]) ?_ 0 _ rfl; (with_reducible repeat (first | refine blk_drewN ?_ _ | refine blk_drew ?_ | refine blk_alloc ?_ _)); refine blk_far ?_ NB321_320.out _; (with_reducible repeat (first | refine blk_drewN ?_ _ | refine blk_drew ?_ | refine blk_alloc ?_ _)); exact BK321.out) Tryd.underlying23 rfl (by kernel_rfl)) rfl ?_
                exact ⟨by first | rfl | (simp [errW_none, errW_some] <;> rfl) | (simp [*, errW_none, errW_some] <;> rfl), by repeat (first | (with_reducible first | exact HB.out | apply below_alloc | apply pw_below_drewN | apply below_drew1 | refine below_set ?_ GE320.out | refine below_set ?_ GE321.out) | exact HB.out)⟩
              · rw [if_neg c39] at H
                have c39b0 : (a1 == 9) = false := beq_eq_false_iff_ne.mpr c39
                have c39b1 : (a1 != 9) = true := bne_iff_ne.mpr c39
                simp only [Option.some.injEq, Prod.mk.injEq] at H
                obtain ⟨rfl, rfl, rfl, rfl, rfl, rfl, rfl, rfl, rfl, rfl⟩ := H
                go_enter Tryd.func46, Tryd.ntmps46
                go_wp2_with (first | ((with_reducible refine gate_dst (N := 2) rfl ?_); refine box_event ?hg (N := 2) ?hd (cs := #[.bool a0_0, .bool a0_1, .bool a0_2, .bool a0_3, .bool a0_4, .bool a0_5, .bool a0_6, .int .i64 a0_7, .int .i64 a0_8, .int .i64 a0_9]) (t := 23) ?hr ?_; (case hd => rfl); (case hg => rfl); (case hr => first | (go_simp; done) | (go_simp; rfl)); intro gb320 hg w45 hbox hb; have n0_ := Aside0.mk (below_step (by repeat (first | (with_reducible first | exact HB.out | apply below_alloc | apply pw_below_drewN | apply below_drew1) | exact HB.out)) hb); have n1_ := Aside0.mk (hbox); have n2_ := Aside0.mk ((by rw [hg]; exact (below_size (by repeat (first | (with_reducible first | exact HB.out | apply below_alloc | apply pw_below_drewN | apply below_drew1) | exact HB.out))) : w.heap.size ≤ gb320)); have n3_ := Aside0.mk ((by rw [hg]; exact (below_size (by repeat (first | (with_reducible first | exact HB.out | apply below_alloc | apply pw_below_drewN | apply below_drew1) | exact HB.out))) : w.heap.size ≤ gb320)); clear HB; have HB := n0_; have BK320 := n1_; have GW320 := n2_; have GE320 := n3_; clear n0_ n1_ n2_ n3_; clear hb hbox hg) | ((with_reducible refine gate_dst (N := 4) rfl ?_); refine box_event ?hg (N := 4) ?hd (cs := #[.bool false, .bool false, .bool false, .bool false, .bool false, .bool false, .bool false, .int .i64 0, .int .i64 0, .int .i64 0]) (t := 23) ?hr ?_; (case hd => rfl); (case hg => rfl); (case hr => first | (go_simp; done) | (go_simp; rfl)); intro gb321 hg w46 hbox hb; have n0_ := Aside0.mk (blk_below (g := gb320) (o := .cells #[.bool a0_0, .bool a0_1, .bool a0_2, .bool a0_3, .bool a0_4, .bool a0_5, .bool a0_6, .int .i64 a0_7, .int .i64 a0_8, .int .i64 a0_9] 23 (0, 0)) (by (with_reducible repeat (first | refine blk_drewN ?_ _ | refine blk_drew ?_ | refine blk_alloc ?_ _)); exact BK320.out) hb); have n1_ := Aside0.mk (below_step (by repeat (first | (with_reducible first | exact HB.out | apply below_alloc | apply pw_below_drewN | apply below_drew1 | refine below_set ?_ GE320.out) | exact HB.out)) hb); have n2_ := Aside0.mk (hbox); have n3_ := Aside0.mk ((by rw [hg]; exact (below_size (by repeat (first | (with_reducible first | exact HB.out | apply below_alloc | apply pw_below_drewN | apply below_drew1 | refine below_set ?_ GE320.out) | exact HB.out))) : w.heap.size ≤ gb321)); have n4_ := Aside0.mk ((by rw [hg]; exact (below_size (by repeat (first | (with_reducible first | exact HB.out | apply below_alloc | apply pw_below_drewN | apply below_drew1 | refine below_set ?_ GE320.out) | exact HB.out))) : w.heap.size ≤ gb321)); have n5_ := Aside0.mk ((by rw [hg]; exact Nat.ne_of_lt (blk_lt (g := gb320) (o := .cells #[.bool a0_0, .bool a0_1, .bool a0_2, .bool a0_3, .bool a0_4, .bool a0_5, .bool a0_6, .int .i64 a0_7, .int .i64 a0_8, .int .i64 a0_9] 23 (0, 0)) (by (with_reducible repeat (first | refine blk_drewN ?_ _ | refine blk_drew ?_ | refine blk_alloc ?_ _)); exact BK320.out)) : gb320 ≠ gb321)); have n6_ := Aside0.mk ((by rw [hg]; exact Nat.ne_of_gt (blk_lt (g := gb320) (o := .cells #[.bool a0_0, .bool a0_1, .bool a0_2, .bool a0_3, .bool a0_4, .bool a0_5, .bool a0_6, .int .i64 a0_7, .int .i64 a0_8, .int .i64 a0_9] 23 (0, 0)) (by (with_reducible repeat (first | refine blk_drewN ?_ _ | refine blk_drew ?_ | refine blk_alloc ?_ _)); exact BK320.out)) : gb321 ≠ gb320)); clear BK320; clear HB; have BK320 := n0_; have HB := n1_; have BK321 := n2_; have GW321 := n3_; have GE321 := n4_; have NB320_321 := n5_; have NB321_320 := n6_; clear n0_ n1_ n2_ n3_ n4_ n5_ n6_; clear hb hbox hg; have hnb47 := NB320_321.out; have hnc47 := NB321_320.out; have hcz48_0 : w46.cell? ⟨gb320, 0, none⟩ = some (.bool a0_0) := (blk_cell BK320.out 0).trans rfl; have hcz48_1 : w46.cell? ⟨gb320, 1, none⟩ = some (.bool a0_1) := (blk_cell BK320.out 1).trans rfl; have hcz48_2 : w46.cell? ⟨gb320, 2, none⟩ = some (.bool a0_2) := (blk_cell BK320.out 2).trans rfl; have hcz48_3 : w46.cell? ⟨gb320, 3, none⟩ = some (.bool a0_3) := (blk_cell BK320.out 3).trans rfl; have hcz48_4 : w46.cell? ⟨gb320, 4, none⟩ = some (.bool a0_4) := (blk_cell BK320.out 4).trans rfl; have hcz48_5 : w46.cell? ⟨gb320, 5, none⟩ = some (.bool a0_5) := (blk_cell BK320.out 5).trans rfl; have hcz48_6 : w46.cell? ⟨gb320, 6, none⟩ = some (.bool a0_6) := (blk_cell BK320.out 6).trans rfl; have hcz48_7 : w46.cell? ⟨gb320, 7, none⟩ = some (.int .i64 a0_7) := (blk_cell BK320.out 7).trans rfl; have hcz48_8 : w46.cell? ⟨gb320, 8, none⟩ = some (.int .i64 a0_8) := (blk_cell BK320.out 8).trans rfl; have hcz48_9 : w46.cell? ⟨gb320, 9, none⟩ = some (.int .i64 a0_9) := (blk_cell BK320.out 9).trans rfl; have hfz48_0 := blk_frozen BK320.out 0; have hfz48_1 := blk_frozen BK320.out 1; have hfz48_2 := blk_frozen BK320.out 2; have hfz48_3 := blk_frozen BK320.out 3; have hfz48_4 := blk_frozen BK320.out 4; have hfz48_5 := blk_frozen BK320.out 5; have hfz48_6 := blk_frozen BK320.out 6; have hfz48_7 := blk_frozen BK320.out 7; have hfz48_8 := blk_frozen BK320.out 8; have hfz48_9 := blk_frozen BK320.out 9; have hcz49_0 : w46.cell? ⟨gb321, 0, none⟩ = some (.bool false) := (blk_cell BK321.out 0).trans rfl; have hcz49_1 : w46.cell? ⟨gb321, 1, none⟩ = some (.bool false) := (blk_cell BK321.out 1).trans rfl; have hcz49_2 : w46.cell? ⟨gb321, 2, none⟩ = some (.bool false) := (blk_cell BK321.out 2).trans rfl; have hcz49_3 : w46.cell? ⟨gb321, 3, none⟩ = some (.bool false) := (blk_cell BK321.out 3).trans rfl; have hcz49_4 : w46.cell? ⟨gb321, 4, none⟩ = some (.bool false) := (blk_cell BK321.out 4).trans rfl; have hcz49_5 : w46.cell? ⟨gb321, 5, none⟩ = some (.bool false) := (blk_cell BK321.out 5).trans rfl; have hcz49_6 : w46.cell? ⟨gb321, 6, none⟩ = some (.bool false) := (blk_cell BK321.out 6).trans rfl; have hcz49_7 : w46.cell? ⟨gb321, 7, none⟩ = some (.int .i64 0) := (blk_cell BK321.out 7).trans rfl; have hcz49_8 : w46.cell? ⟨gb321, 8, none⟩ = some (.int .i64 0) := (blk_cell BK321.out 8).trans rfl; have hcz49_9 : w46.cell? ⟨gb321, 9, none⟩ = some (.int .i64 0) := (blk_cell BK321.out 9).trans rfl; have hfz49_0 := blk_frozen BK321.out 0; have hfz49_1 := blk_frozen BK321.out 1; have hfz49_2 := blk_frozen BK321.out 2; have hfz49_3 := blk_frozen BK321.out 3; have hfz49_4 := blk_frozen BK321.out 4; have hfz49_5 := blk_frozen BK321.out 5; have hfz49_6 := blk_frozen BK321.out 6; have hfz49_7 := blk_frozen BK321.out 7; have hfz49_8 := blk_frozen BK321.out 8; have hfz49_9 := blk_frozen BK321.out 9))
                refine bodyPost_ret (results_cell_row rfl _ _ gb321 23 #[.bool a0_0, .bool a0_1, .bool a0_2, .bool a0_3, .bool a0_4, .bool a0_5, .bool a0_6, .int .i64 a0_7, .int .i64 a0_8, .int .i64 a0_9] (0, 0) _ rfl (by (with_reducible repeat (first | refine blk_drewN ?_ _ | refine blk_drew ?_ | refine blk_alloc ?_ _)); refine blk_put (cs := #[.bool a0_0, .bool a0_1, .bool a0_2, .bool a0_3, .bool a0_4, .bool a0_5, .bool a0_6, .int .i64 a0_7, .int .i64 a0_8, .int .i64 0]) ?_ 9 _ rfl; (with_reducible repeat (first | refine blk_drewN ?_ _ | refine blk_drew ?_ | refine blk_alloc ?_ _)); refine blk_put (cs := #[.bool a0_0, .bool a0_1, .bool a0_2, .bool a0_3, .bool a0_4, .bool a0_5, .bool a0_6, .int .i64 a0_7, .int .i64 0, .int .i64 0]) ?_ 8 _ rfl; (with_reducible repeat (first | refine blk_drewN ?_ _ | refine blk_drew ?_ | refine blk_alloc ?_ _)); refine blk_put (cs := #[.bool a0_0, .bool a0_1, .bool a0_2, .bool a0_3, .bool a0_4, .bool a0_5, .bool a0_6, .int .i64 0, .int .i64 0, .int .i64 0]) ?_ 7 _ rfl; (with_reducible repeat (first | refine blk_drewN ?_ _ | refine blk_drew ?_ | refine blk_alloc ?_ _)); refine blk_put (cs := #[.bool a0_0, .bool a0_1, .bool a0_2, .bool a0_3, .bool a0_4, .bool a0_5, .bool false, .int .i64 0, .int .i64 0, .int .i64 0]) ?_ 6 _ rfl; (with_reducible repeat (first | refine blk_drewN ?_ _ | refine blk_drew ?_ | refine blk_alloc ?_ _)); refine blk_put (cs := #[.bool a0_0, .bool a0_1, .bool a0_2, .bool a0_3, .bool a0_4, .bool false, .bool false, .int .i64 0, .int .i64 0, .int .i64 0]) ?_ 5 _ rfl; (with_reducible repeat (first | refine blk_drewN ?_ _ | refine blk_drew ?_ | refine blk_alloc ?_ _)); refine blk_put (cs := #[.bool a0_0, .bool a0_1, .bool a0_2, .bool a0_3, .bool false, .bool false, .bool false, .int .i64 0, .int .i64 0, .int .i64 0]) ?_ 4 _ rfl; (with_reducible repeat (first | refine blk_drewN ?_ _ | refine blk_drew ?_ | refine blk_alloc ?_ _)); refine blk_put (cs := #[.bool a0_0, .bool a0_1, .bool a0_2, .bool false, .bool false, .bool false, .bool false, .int .i64 0, .int .i64 0, .int .i64 0]) ?_ 3 _ rfl; (with_reducible repeat (first | refine blk_drewN ?_ _ | refine blk_drew ?_ | refine blk_alloc ?_ _)); refine blk_put (cs := #[.bool a0_0, .bool a0_1, .bool false, .bool false, .bool false, .bool false, .bool false, .int .i64 0, .int .i64 0, .int .i64 0]) ?_ 2 _ rfl; (with_reducible repeat (first | refine blk_drewN ?_ _ | refine blk_drew ?_ | refine blk_alloc ?_ _)); refine blk_put (cs := #[.bool a0_0, .bool false, .bool false, .bool false, .bool false, .bool false, .bool false, .int .i64 0, .int .i64 0, .int .i64 0]) ?_ 1 _ rfl; (with_reducible repeat (first | refine blk_drewN ?_ _ | refine blk_drew ?_ | refine blk_alloc ?_ _)); refine blk_put (cs := #[.bool false, .bool false, .bool false, .bool false, .bool false, .bool false, .bool false, .int .i64 0, .int .i64 0, .int .i64 0]) ?_ 0 _ rfl; (with_reducible repeat (first | refine blk_drewN ?_ _ | refine blk_drew ?_ | refine blk_alloc ?_ _)); exact BK321.out) Tryd.underlying23 rfl (by kernel_rfl)) rfl ?_
                exact ⟨by first | rfl | (simp [errW_none, errW_some] <;> rfl) | (simp [*, errW_none, errW_some] <;> rfl), by repeat (first | (with_reducible first | exact HB.out | apply below_alloc | apply pw_below_drewN | apply below_drew1 | refine below_set ?_ GE320.out | refine below_set ?_ GE321.out) | exact HB.out)⟩
end Go.Proofs.YtbaigfoioiklkaaDoor.G
end
