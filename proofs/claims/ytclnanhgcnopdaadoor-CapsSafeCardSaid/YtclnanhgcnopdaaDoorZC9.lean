/- C: texts run together by shake.py: CaP Gclavierref03a1 Gclavierref03a2 Gclavierref03a3. -/
import Derived.ArgAppend
import Derived.Below
import Derived.BigQuiet
import Derived.Deep.AppendLies
import Derived.Deep.CutBlock
import Derived.Deep.DeepCutAuto
import Derived.Deep.DrawnRows
import Derived.Deep.Draws
import Derived.Deep.LoopGhost
import Derived.Deep.OwnRows
import Derived.Deep.Quiet
import Derived.Deep.QuietTactic
import Derived.Deep.RegionHeld3
import Derived.Ground.GgzProg
import Derived.KernelRfl
import Derived.Laws.AppendOwn
import Derived.Laws.AppendOwnNone
import Derived.Laws.BitsAllLaws
import Derived.Laws.BitsLemmas
import Derived.Laws.BytesArg
import Derived.Laws.CopyRow
import Derived.Laws.IdiomCopy
import Derived.Laws.IdiomStrings
import Derived.Laws.MakeOwn
import Derived.Laws.OwnMore
import Derived.Laws.RangeAny
import Derived.Laws.Rows
import Derived.Laws.Slices
import Derived.Laws.StructEq
import Derived.Laws.Tables
import Derived.Lib.AppendStr
import Derived.Lib.ConvBytes
import Derived.Lib.Hide
import Derived.Lib.ItoaNum
import Derived.Lib.OthersKept
import Derived.Lib.TrimU
import Derived.MapKept
import Derived.Maps.AppendAt
import Derived.Orders
import Derived.OrdersHeld
import Derived.OrdersIn
import Derived.Outline
import Derived.OwnWalk
import Derived.RangeFuncCalls
import Derived.RangeFuncNested
import Derived.RangeFuncWrites
import Derived.RowKit
import Derived.RowKit3
import Derived.Shelf.LaysM
import Derived.Shelf.SlIter.Nil
import Derived.Shelf.Slices.Empties2
import Derived.Shelf.Slices.Equal
import Derived.Shelf.Slices.In.SortNone
import Derived.Shelf.Small.Bits
import Derived.Shelf.Small.Strs
import Derived.Shelf.Small.Utf8
import Derived.Shelf.Sort.Plain
import Derived.Shelf.Strconv.Itoa0
import Derived.Shelf.Strings.Builder1
import Derived.Shelf.Strings.Builder2
import Derived.Shelf.Strings.Builder2Cap
import Derived.Shelf.Strings.BuilderCap
import Derived.Shelf.Strings.BuilderF
import Derived.Shelf.Strings.BuilderK
import Derived.Shelf.Strings.Cut
import Derived.Shelf.Strings.OnBuilder
import Derived.Shelf.Strings.Runes
import Derived.Shelf.Strings.Search1
import Derived.Shelf.Strings.Search2
import Derived.Shelf.Strings.Search3
import Derived.Shelf.Strings.Shaped
import Derived.Shelf.Unicode.Decode
import Derived.Shelf.Unicode.DecodeAny
import Derived.Shelf.Unicode.DecodeSlow
import Derived.Still
import Derived.Tactics
import Derived.TacticsIn
import Derived.Test.YtclnanhgcnopdaaDoorProg
import Derived.WalkKit
import Derived.WalkLawsBesides
import Derived.WalkSpells
import Derived.WideLaws
import Derived.Test.YtclnanhgcnopdaaDoorZC1
import Derived.Test.YtclnanhgcnopdaaDoorZC2
import Derived.Test.YtclnanhgcnopdaaDoorZC3
import Derived.Test.YtclnanhgcnopdaaDoorZC4
section
namespace Go.Proofs.YtclnanhgcnopdaaDoor
set_option linter.unusedVariables false
set_option linter.unusedSimpArgs false
open Go.RowKit Kit
theorem capsS_form (s : ByteArray) : ∃ n d, capsS s = ⟨3, 0, [[n]], ⟨#[43]⟩, 114, d⟩ ∧ 0 ≤ n ∧ n ≤ 1 ∧ d.size ≤ 4096 ∧ ∀ c ∈ d.data.toList, okD c = true := by
  rw [capsS_eq]
  by_cases h : (askedL s).all (·.2) = true ∧ ¬ 4096 < (capsData s).size
  · rw [if_pos h]
    exact ⟨1, capsData s, rfl, by decide, by decide, by omega, capsData_ok s⟩
  · rw [if_neg h]
    exact ⟨0, ⟨#[]⟩, rfl, by decide, by decide, by decide, fun c hc => by cases hc⟩
end Go.Proofs.YtclnanhgcnopdaaDoor
end
section
namespace Go.Proofs.YtclnanhgcnopdaaDoor.G
open Go.RowKit Go.Proofs.YtclnanhgcnopdaaDoorW.PrintWords Go.Proofs.YtclnanhgcnopdaaDoorW.PrintLast Go.Proofs.YtclnanhgcnopdaaDoorW.PrintMore
attribute [local go_sem] max2_int min2_int max_two min_two max_three min_three max_four min_four
set_option linter.unusedVariables false
set_option linter.unusedSimpArgs false
mutual
def clavierref03_params.j0 : Nat → List (List Int) → Bool → Option (Bool)
  | 0, _, _ => none
  | k + 1, x0, x27 => if x27 = true then (some false) else (clavierref03_params.l0 k x0 0)
def clavierref03_params.l0 : Nat → List (List Int) → Int → Option (Bool)
  | 0, _, _ => none
  | k + 1, x0, x3 => if x3 < (x0.length : Int) then (if 0 ≤ x3 then (if ((rd_L4 x0 x3).length : Int) < 1 then (clavierref03_params.j2 k x0 x3 true) else (clavierref03_params.j2 k x0 x3 (decide (((rd_L4 x0 x3).length : Int) > 8)))) else (none)) else (some true)
def clavierref03_params.j2 : Nat → List (List Int) → Int → Bool → Option (Bool)
  | 0, _, _, _ => none
  | k + 1, x0, x3, x47 => if x47 = true then (some false) else (clavierref03_params.l1 k x0 x3 0)
def clavierref03_params.l1 : Nat → List (List Int) → Int → Int → Option (Bool)
  | 0, _, _, _ => none
  | k + 1, x0, x3, x4 => if 0 ≤ x3 then (if x3 < (x0.length : Int) then (if x4 < ((rd_L4 x0 x3).length : Int) then (if 0 ≤ x4 then (if (rd (rd_L4 x0 x3) x4) < (-1) then (some false) else (if (rd (rd_L4 x0 x3) x4) > 1114111 then (some false) else (clavierref03_params.l1 k x0 x3 (wrap64 (x4 + 1))))) else (none)) else (clavierref03_params.l0 k x0 (wrap64 (x3 + 1)))) else (none)) else (none)
end
def clavierref03_params.f (k : Nat) (l0 : List (List Int)) : Option (Bool) := if (l0.length : Int) > 16 then (clavierref03_params.j0 k l0 true) else (if (l0.length : Int) = 1 then (if 0 < (l0.length : Int) then (if ((rd_L4 l0 0).length : Int) = 1 then (if 0 < ((rd_L4 l0 0).length : Int) then (clavierref03_params.j0 k l0 ((rd (rd_L4 l0 0) 0) == (-1))) else (none)) else (clavierref03_params.j0 k l0 false)) else (none)) else (clavierref03_params.j0 k l0 false))
theorem clavierref03_params.mono_l : ∀ k, (∀ y0 y1, LeO (clavierref03_params.j0 k y0 y1) (clavierref03_params.j0 (k + 1) y0 y1)) ∧ (∀ y0 y1, LeO (clavierref03_params.l0 k y0 y1) (clavierref03_params.l0 (k + 1) y0 y1)) ∧ (∀ y0 y1 y2, LeO (clavierref03_params.j2 k y0 y1 y2) (clavierref03_params.j2 (k + 1) y0 y1 y2)) ∧ (∀ y0 y1 y2, LeO (clavierref03_params.l1 k y0 y1 y2) (clavierref03_params.l1 (k + 1) y0 y1 y2))
  | 0 => ⟨fun _ _ r h => by simp [clavierref03_params.j0] at h, fun _ _ r h => by simp [clavierref03_params.l0] at h, fun _ _ _ r h => by simp [clavierref03_params.j2] at h, fun _ _ _ r h => by simp [clavierref03_params.l1] at h⟩
  | k + 1 => by
    obtain ⟨ih0, ih1, ih2, ih3⟩ := clavierref03_params.mono_l k
    refine ⟨?_, ?_, ?_, ?_⟩
    · intro y0 y1
      unfold clavierref03_params.j0
      repeat' first
      | (with_reducible exact ih0 _ _)
      | (with_reducible exact ih1 _ _)
      | (with_reducible exact ih2 _ _ _)
      | (with_reducible exact ih3 _ _ _)
      | (with_reducible exact LeO.refl _)
      | (with_reducible exact LeO.none _)
      | (with_reducible refine LeO.ite ?_ ?_)
      | (with_reducible refine LeO.bind ?_ (fun _ => ?_))
      | exact ih0 _ _
      | exact ih1 _ _
      | exact ih2 _ _ _
      | exact ih3 _ _ _
      | exact LeO.none _
      | refine LeO.ite ?_ ?_
      | refine LeO.bind ?_ (fun _ => ?_)
    · intro y0 y1
      unfold clavierref03_params.l0
      repeat' first
      | (with_reducible exact ih0 _ _)
      | (with_reducible exact ih1 _ _)
      | (with_reducible exact ih2 _ _ _)
      | (with_reducible exact ih3 _ _ _)
      | (with_reducible exact LeO.refl _)
      | (with_reducible exact LeO.none _)
      | (with_reducible refine LeO.ite ?_ ?_)
      | (with_reducible refine LeO.bind ?_ (fun _ => ?_))
      | exact ih0 _ _
      | exact ih1 _ _
      | exact ih2 _ _ _
      | exact ih3 _ _ _
      | exact LeO.none _
      | refine LeO.ite ?_ ?_
      | refine LeO.bind ?_ (fun _ => ?_)
    · intro y0 y1 y2
      unfold clavierref03_params.j2
      repeat' first
      | (with_reducible exact ih0 _ _)
      | (with_reducible exact ih1 _ _)
      | (with_reducible exact ih2 _ _ _)
      | (with_reducible exact ih3 _ _ _)
      | (with_reducible exact LeO.refl _)
      | (with_reducible exact LeO.none _)
      | (with_reducible refine LeO.ite ?_ ?_)
      | (with_reducible refine LeO.bind ?_ (fun _ => ?_))
      | exact ih0 _ _
      | exact ih1 _ _
      | exact ih2 _ _ _
      | exact ih3 _ _ _
      | exact LeO.none _
      | refine LeO.ite ?_ ?_
      | refine LeO.bind ?_ (fun _ => ?_)
    · intro y0 y1 y2
      unfold clavierref03_params.l1
      repeat' first
      | (with_reducible exact ih0 _ _)
      | (with_reducible exact ih1 _ _)
      | (with_reducible exact ih2 _ _ _)
      | (with_reducible exact ih3 _ _ _)
      | (with_reducible exact LeO.refl _)
      | (with_reducible exact LeO.none _)
      | (with_reducible refine LeO.ite ?_ ?_)
      | (with_reducible refine LeO.bind ?_ (fun _ => ?_))
      | exact ih0 _ _
      | exact ih1 _ _
      | exact ih2 _ _ _
      | exact ih3 _ _ _
      | exact LeO.none _
      | refine LeO.ite ?_ ?_
      | refine LeO.bind ?_ (fun _ => ?_)
theorem clavierref03_params.mono : ∀ a0 k, LeO (clavierref03_params.f k a0) (clavierref03_params.f (k + 1) a0) := by
  intro a0 k
  obtain ⟨ih0, ih1, ih2, ih3⟩ := clavierref03_params.mono_l k
  unfold clavierref03_params.f
  repeat' first
      | (with_reducible exact ih0 _ _)
      | (with_reducible exact ih1 _ _)
      | (with_reducible exact ih2 _ _ _)
      | (with_reducible exact ih3 _ _ _)
      | (with_reducible exact LeO.refl _)
      | (with_reducible exact LeO.none _)
      | (with_reducible refine LeO.ite ?_ ?_)
      | (with_reducible refine LeO.bind ?_ (fun _ => ?_))
      | exact ih0 _ _
      | exact ih1 _ _
      | exact ih2 _ _ _
      | exact ih3 _ _ _
      | exact LeO.none _
      | refine LeO.ite ?_ ?_
      | refine LeO.bind ?_ (fun _ => ?_)
set_option maxHeartbeats 8000000 in
set_option maxRecDepth 100000 in
theorem clavierref03_params.calls (k : Nat) (A0 : Option Addr) (c0 : Nat) (l0 : List (List Int)) (r : Bool) (w : World) (hr0 : Kd.C (Kd.slice 3 (Kd.int .i64)) w A0 l0.length l0) (hc0 : l0.length ≤ c0) (h : clavierref03_params.f k l0 = some r) :
    Calls Tryd.prog 28 #[.slice A0 l0.length c0] w fun e w' => e = .returned (.bool r) ∧ Drawn0 w w' := by
  have HR0 := Aside0.mk hr0
  have HC0 := Aside0.mk hc0
  clear hr0 hc0
  have H : (if (l0.length : Int) > 16 then (clavierref03_params.j0 k l0 true) else (if (l0.length : Int) = 1 then (if 0 < (l0.length : Int) then (if ((rd_L4 l0 0).length : Int) = 1 then (if 0 < ((rd_L4 l0 0).length : Int) then (clavierref03_params.j0 k l0 ((rd (rd_L4 l0 0) 0) == (-1))) else (none)) else (clavierref03_params.j0 k l0 false)) else (none)) else (clavierref03_params.j0 k l0 false))) = some r := h
  clear h
  have HC2 := Aside0.mk H
  clear H
  go_enter Tryd.func28, Tryd.ntmps28
  go_upto_region 1 with (fail)
  go_cut [27] (fun v27 wc => ∃ (kq : Nat) (x27_1 : Bool), v27 = .bool x27_1 ∧ Aside0 (clavierref03_params.j0 kq l0 x27_1 = some r) ∧ Aside0 (kq ≤ k) ∧ Drawn0 w wc)
  case first =>
    have H := HC2.out
    clear HC2
    by_cases c3 : (l0.length : Int) > 16
    · rw [if_pos c3] at H
      have c3b0 : decide (16 < (l0.length : Int)) = true := decide_eq_true c3
      have c3b1 : decide (16 < l0.length) = true := decide_eq_true (by omega)
      clear c3
      (first | rw [c3b0] | (simp only [i64_w, i32_w]; rw [c3b0]) | skip)
      have H' := Aside0.mk H
      clear H
      go_wp2
      go_meet
      case rel => exact ⟨_, (true), (by first | rfl | (simp; done) | (simp [*]; done)), H', ⟨by first | omega | exact Nat.le_refl _⟩, by repeat (first | exact Drawn0.refl _ | apply Drawn0.step)⟩
    · rw [if_neg c3] at H
      have c3b0 : decide (16 < (l0.length : Int)) = false := decide_eq_false c3
      have c3b1 : decide (16 < l0.length) = false := decide_eq_false (by omega)
      clear c3
      (first | rw [c3b0] | (simp only [i64_w, i32_w]; rw [c3b0]) | skip)
      by_cases c4 : (l0.length : Int) = 1
      · rw [if_pos c4] at H
        have c4b0 : ((l0.length : Int) == 1) = true := beq_iff_eq.mpr c4
        have c4b1 : ((l0.length : Int) != 1) = false := bne_eq_false_iff_eq.mpr c4
        clear c4
        by_cases c5 : 0 < (l0.length : Int)
        · rw [if_pos c5] at H
          have c5b0 : decide (0 < (l0.length : Int)) = true := decide_eq_true c5
          have c5b1 : decide (0 < l0.length) = true := decide_eq_true (by omega)
          clear c5
          by_cases c6 : ((rd_L4 l0 0).length : Int) = 1
          · rw [if_pos c6] at H
            have c6b0 : (((rd_L4 l0 0).length : Int) == 1) = true := beq_iff_eq.mpr c6
            have c6b1 : (((rd_L4 l0 0).length : Int) != 1) = false := bne_eq_false_iff_eq.mpr c6
            clear c6
            by_cases c7 : 0 < ((rd_L4 l0 0).length : Int)
            · rw [if_pos c7] at H
              have c7b0 : decide (0 < ((rd_L4 l0 0).length : Int)) = true := decide_eq_true c7
              have c7b1 : decide (0 < (rd_L4 l0 0).length) = true := decide_eq_true (by omega)
              clear c7
              have H' := Aside0.mk H
              clear H
              have p181 : 0 ≤ (0 : Int) := (by omega)
              have q181 : 0 < (l0.length : Int) := of_decide_eq_true (by first | (with_reducible assumption) | assumption)
              obtain ⟨ad181, A181_0, c181_0, e181, hx181_0, hl181_0, hi181_0⟩ := at_L4 HR0.out 0 p181 q181
              cases e181
              have qi181 : (0 < l0.length) = True := eq_true (by omega)
              (try rw [show ((0 : Int)).toNat = 0 from rfl] at hx181_0)
              (try rw [Addr.add_zero'] at hx181_0)
              have HR181_0 := Aside0.mk hi181_0
              have HC181_0 := Aside0.mk hl181_0
              clear hi181_0 hl181_0
              replace p181 := eq_true p181
              replace q181 := eq_true q181
              have p182 : 0 ≤ (0 : Int) := (by omega)
              have q182 : 0 < (l0.length : Int) := of_decide_eq_true (by first | (with_reducible assumption) | assumption)
              obtain ⟨ad182, A182_0, c182_0, e182, hx182_0, hl182_0, hi182_0⟩ := at_L4 HR0.out 0 p182 q182
              obtain rfl : ad181 = ad182 := (by injection e182)
              have qi182 : (0 < l0.length) = True := eq_true (by omega)
              (try rw [show ((0 : Int)).toNat = 0 from rfl] at hx182_0)
              (try rw [Addr.add_zero'] at hx182_0)
              have HR182_0 := Aside0.mk hi182_0
              have HC182_0 := Aside0.mk hl182_0
              clear hi182_0 hl182_0
              replace p182 := eq_true p182
              replace q182 := eq_true q182
              have ea_ := Option.some.inj (hx181_0.symm.trans hx182_0)
              injection ea_ with ea_ en_ ec_
              subst ea_
              subst ec_
              clear en_
              have p183 : 0 ≤ (0 : Int) := (by omega)
              have q183 : 0 < ((rd_L4 l0 0).length : Int) := of_decide_eq_true (by first | (with_reducible assumption) | assumption)
              obtain ⟨ad183, e183, hx183_0⟩ := Kd.at_int HR182_0.out 0 p183 q183
              cases e183
              have qi183 : (0 < (rd_L4 l0 0).length) = True := eq_true (by omega)
              (try rw [show ((0 : Int)).toNat = 0 from rfl] at hx183_0)
              (try rw [Addr.add_zero'] at hx183_0)
              replace p183 := eq_true p183
              replace q183 := eq_true q183
              go_wp2
              go_meet
              case rel => exact ⟨_, (((rd (rd_L4 l0 0) 0) == (-1))), (by first | rfl | (simp; done) | (simp [*]; done)), H', ⟨by first | omega | exact Nat.le_refl _⟩, by repeat (first | exact Drawn0.refl _ | apply Drawn0.step)⟩
            · rw [if_neg c7] at H
              exact absurd H (by simp)
          · rw [if_neg c6] at H
            have c6b0 : (((rd_L4 l0 0).length : Int) == 1) = false := beq_eq_false_iff_ne.mpr c6
            have c6b1 : (((rd_L4 l0 0).length : Int) != 1) = true := bne_iff_ne.mpr c6
            have H' := Aside0.mk H
            clear H
            have p181 : 0 ≤ (0 : Int) := (by omega)
            have q181 : 0 < (l0.length : Int) := of_decide_eq_true (by first | (with_reducible assumption) | assumption)
            obtain ⟨ad181, A181_0, c181_0, e181, hx181_0, hl181_0, hi181_0⟩ := at_L4 HR0.out 0 p181 q181
            cases e181
            have qi181 : (0 < l0.length) = True := eq_true (by omega)
            (try rw [show ((0 : Int)).toNat = 0 from rfl] at hx181_0)
            (try rw [Addr.add_zero'] at hx181_0)
            have HR181_0 := Aside0.mk hi181_0
            have HC181_0 := Aside0.mk hl181_0
            clear hi181_0 hl181_0
            replace p181 := eq_true p181
            replace q181 := eq_true q181
            go_wp2
            go_meet
            case rel => exact ⟨_, (false), (by first | rfl | (simp; done) | (simp [*]; done)), H', ⟨by first | omega | exact Nat.le_refl _⟩, by repeat (first | exact Drawn0.refl _ | apply Drawn0.step)⟩
        · rw [if_neg c5] at H
          exact absurd H (by simp)
      · rw [if_neg c4] at H
        have c4b0 : ((l0.length : Int) == 1) = false := beq_eq_false_iff_ne.mpr c4
        have c4b1 : ((l0.length : Int) != 1) = true := bne_iff_ne.mpr c4
        have H' := Aside0.mk H
        clear H
        go_wp2
        go_meet
        case rel => exact ⟨_, (false), (by first | rfl | (simp; done) | (simp [*]; done)), H', ⟨by first | omega | exact Nat.le_refl _⟩, by repeat (first | exact Drawn0.refl _ | apply Drawn0.step)⟩
  case rest =>
    clear HC2
    try clear c1
    try clear p1
    try clear q1
    try clear hx1
    try clear qi1
    try clear c2
    try clear p2
    try clear c3
    try clear c3b0
    try clear c3b1
    try clear c4
    try clear c4b0
    try clear c4b1
    try clear c5
    try clear c5b0
    try clear c5b1
    try clear c6
    try clear c6b0
    try clear c6b1
    try clear c7
    try clear c7b0
    try clear c7b1
    try clear hx181_0
    try clear hx182_0
    try clear hx183_0
    try clear p181
    try clear p182
    try clear p183
    try clear q181
    try clear q182
    try clear q183
    obtain ⟨kq, x27_1, rfl, HA, HJ1, ⟨mc1, rfl⟩⟩ := hcut
    cases kq with
    | zero => exact absurd HA.out (by simp [clavierref03_params.j0])
    | succ kj1 =>
      have H := HA.out
      clear HA
      simp only [clavierref03_params.j0] at H
      by_cases c8 : x27_1 = true
      · subst c8
        have H1 : (some false) = some r := by rw [if_pos rfl] at H; exact H
        clear H
        have H := H1
        clear H1
        obtain rfl := Option.some.inj H
        go_wp2
        go_ret
        exact ⟨by first | rfl | (simp; done) | (simp [*]; done), by repeat (first | exact Drawn0.refl _ | apply Drawn0.step)⟩
      · replace c8 := Bool.eq_false_iff.mpr c8
        subst c8
        have H1 : (clavierref03_params.l0 kj1 l0 0) = some r := by rw [if_neg (show ¬ (false = true) by decide)] at H; exact H
        clear H
        have H := H1
        clear H1
        have H' := Aside0.mk H
        clear H
        go_wp2
        go_loopg [3] kj1 (fun kq v3 w' => ∃ (x3_2 : Int), v3 = .int .i64 x3_2 ∧ Aside0 (clavierref03_params.l0 kq l0 x3_2 = some r) ∧ Aside0 (kq ≤ kj1) ∧ Drawn0 w w')
        case atStart => exact ⟨(0), (by first | rfl | (simp; done) | (simp [*]; done)), H', ⟨Nat.le_refl _⟩, by repeat (first | exact Drawn0.refl _ | apply Drawn0.step)⟩
        case round =>
          clear H'
          try clear c1
          try clear p1
          try clear q1
          try clear hx1
          try clear qi1
          try clear c2
          try clear p2
          try clear c3
          try clear c3b0
          try clear c3b1
          try clear c4
          try clear c4b0
          try clear c4b1
          try clear c5
          try clear c5b0
          try clear c5b1
          try clear c6
          try clear c6b0
          try clear c6b1
          try clear c7
          try clear c7b0
          try clear c7b1
          try clear c8
          try clear hx181_0
          try clear hx182_0
          try clear hx183_0
          try clear p1
          try clear p181
          try clear p182
          try clear p183
          try clear p2
          try clear q1
          try clear q181
          try clear q182
          try clear q183
          obtain ⟨x3_2, rfl, HA, HK2, ⟨m2, rfl⟩⟩ := hrel
          cases gk with
          | zero => exact absurd HA.out (by simp [clavierref03_params.l0])
          | succ k2 =>
            have H := HA.out
            clear HA
            simp only [clavierref03_params.l0] at H
            by_cases c9 : x3_2 < (l0.length : Int)
            · rw [if_pos c9] at H
              have c9b0 : decide (x3_2 < (l0.length : Int)) = true := decide_eq_true c9
              clear c9
              have HC10 := Aside0.mk H
              clear H
              go_upto_region 6 with (fail)
              go_cut [47] (fun v47 wc => ∃ (kq : Nat) (x47_9 : Bool), v47 = .bool x47_9 ∧ Aside0 (clavierref03_params.j2 kq l0 x3_2 x47_9 = some r) ∧ Aside0 (kq ≤ k2) ∧ Drawn0 w wc)
              case first =>
                have H := HC10.out
                clear HC10
                by_cases c11 : 0 ≤ x3_2
                · rw [if_pos c11] at H
                  have c11b0 : decide (0 ≤ x3_2) = true := decide_eq_true c11
                  clear c11
                  (first | rw [c11b0] | (simp only [i64_w, i32_w]; rw [c11b0]) | skip)
                  by_cases c12 : ((rd_L4 l0 x3_2).length : Int) < 1
                  · rw [if_pos c12] at H
                    have c12b0 : decide (((rd_L4 l0 x3_2).length : Int) < 1) = true := decide_eq_true c12
                    have c12b1 : decide ((rd_L4 l0 x3_2).length < 1) = true := decide_eq_true (by omega)
                    clear c12
                    have H' := Aside0.mk H
                    clear H
                    have p184 : 0 ≤ (x3_2 : Int) := of_decide_eq_true (by first | (with_reducible assumption) | assumption)
                    have q184 : x3_2 < (l0.length : Int) := of_decide_eq_true (by first | (with_reducible assumption) | assumption)
                    obtain ⟨ad184, A184_0, c184_0, e184, hx184_0, hl184_0, hi184_0⟩ := at_L4 HR0.out x3_2 p184 q184
                    cases e184
                    have HR184_0 := Aside0.mk hi184_0
                    have HC184_0 := Aside0.mk hl184_0
                    clear hi184_0 hl184_0
                    replace p184 := eq_true p184
                    replace q184 := eq_true q184
                    go_wp2
                    go_meet
                    case rel => exact ⟨_, (true), (by first | rfl | (simp; done) | (simp [*]; done)), H', ⟨by have := HJ1.out; have := HK2.out; first | omega | exact Nat.le_refl _⟩, by repeat (first | exact Drawn0.refl _ | apply Drawn0.step)⟩
                  · rw [if_neg c12] at H
                    have c12b0 : decide (((rd_L4 l0 x3_2).length : Int) < 1) = false := decide_eq_false c12
                    have c12b1 : decide ((rd_L4 l0 x3_2).length < 1) = false := decide_eq_false (by omega)
                    clear c12
                    have H' := Aside0.mk H
                    clear H
                    have p184 : 0 ≤ (x3_2 : Int) := of_decide_eq_true (by first | (with_reducible assumption) | assumption)
                    have q184 : x3_2 < (l0.length : Int) := of_decide_eq_true (by first | (with_reducible assumption) | assumption)
                    obtain ⟨ad184, A184_0, c184_0, e184, hx184_0, hl184_0, hi184_0⟩ := at_L4 HR0.out x3_2 p184 q184
                    cases e184
                    have HR184_0 := Aside0.mk hi184_0
                    have HC184_0 := Aside0.mk hl184_0
                    clear hi184_0 hl184_0
                    replace p184 := eq_true p184
                    replace q184 := eq_true q184
                    have p185 : 0 ≤ (x3_2 : Int) := of_decide_eq_true (by first | (with_reducible assumption) | assumption)
                    have q185 : x3_2 < (l0.length : Int) := of_decide_eq_true (by first | (with_reducible assumption) | assumption)
                    obtain ⟨ad185, A185_0, c185_0, e185, hx185_0, hl185_0, hi185_0⟩ := at_L4 HR0.out x3_2 p185 q185
                    obtain rfl : ad184 = ad185 := (by injection e185)
                    have HR185_0 := Aside0.mk hi185_0
                    have HC185_0 := Aside0.mk hl185_0
                    clear hi185_0 hl185_0
                    replace p185 := eq_true p185
                    replace q185 := eq_true q185
                    have ea_ := Option.some.inj (hx184_0.symm.trans hx185_0)
                    injection ea_ with ea_ en_ ec_
                    subst ea_
                    subst ec_
                    clear en_
                    go_wp2
                    go_meet
                    case rel => exact ⟨_, (decide (((rd_L4 l0 x3_2).length : Int) > 8)), (by first | rfl | (simp; done) | (simp [*]; done)), H', ⟨by have := HJ1.out; have := HK2.out; first | omega | exact Nat.le_refl _⟩, by repeat (first | exact Drawn0.refl _ | apply Drawn0.step)⟩
                · rw [if_neg c11] at H
                  exact absurd H (by simp)
              case rest =>
                clear HC10
                try clear c1
                try clear p1
                try clear q1
                try clear hx1
                try clear qi1
                try clear c2
                try clear p2
                try clear c3
                try clear c3b0
                try clear c3b1
                try clear c4
                try clear c4b0
                try clear c4b1
                try clear c5
                try clear c5b0
                try clear c5b1
                try clear c6
                try clear c6b0
                try clear c6b1
                try clear c7
                try clear c7b0
                try clear c7b1
                try clear c8
                try clear c9
                try clear c9b0
                try clear c11
                try clear c11b0
                try clear c12
                try clear c12b0
                try clear c12b1
                try clear hx181_0
                try clear hx182_0
                try clear hx183_0
                try clear hx184_0
                try clear hx185_0
                try clear p1
                try clear p181
                try clear p182
                try clear p183
                try clear p184
                try clear p185
                try clear p2
                try clear q1
                try clear q181
                try clear q182
                try clear q183
                try clear q184
                try clear q185
                obtain ⟨kq, x47_9, rfl, HA, HJ9, ⟨mc9, rfl⟩⟩ := hcut
                cases kq with
                | zero => exact absurd HA.out (by simp [clavierref03_params.j2])
                | succ kj9 =>
                  have H := HA.out
                  clear HA
                  simp only [clavierref03_params.j2] at H
                  by_cases c13 : x47_9 = true
                  · subst c13
                    have H1 : (some false) = some r := by rw [if_pos rfl] at H; exact H
                    clear H
                    have H := H1
                    clear H1
                    obtain rfl := Option.some.inj H
                    go_wp2
                    go_ret
                    exact ⟨by first | rfl | (simp; done) | (simp [*]; done), by repeat (first | exact Drawn0.refl _ | apply Drawn0.step)⟩
                  · replace c13 := Bool.eq_false_iff.mpr c13
                    subst c13
                    have H1 : (clavierref03_params.l1 kj9 l0 x3_2 0) = some r := by rw [if_neg (show ¬ (false = true) by decide)] at H; exact H
                    clear H
                    have H := H1
                    clear H1
                    have H' := Aside0.mk H
                    clear H
                    go_wp2
                    go_loopg [4] kj9 (fun kq v4 w' => ∃ (x4_4 : Int), v4 = .int .i64 x4_4 ∧ Aside0 (clavierref03_params.l1 kq l0 x3_2 x4_4 = some r) ∧ Aside0 (kq ≤ kj9) ∧ Drawn0 w w')
                    case atStart => exact ⟨(0), (by first | rfl | (simp; done) | (simp [*]; done)), H', ⟨Nat.le_refl _⟩, by repeat (first | exact Drawn0.refl _ | apply Drawn0.step)⟩
                    case round =>
                      clear H'
                      try clear c1
                      try clear p1
                      try clear q1
                      try clear hx1
                      try clear qi1
                      try clear c2
                      try clear p2
                      try clear c3
                      try clear c3b0
                      try clear c3b1
                      try clear c4
                      try clear c4b0
                      try clear c4b1
                      try clear c5
                      try clear c5b0
                      try clear c5b1
                      try clear c6
                      try clear c6b0
                      try clear c6b1
                      try clear c7
                      try clear c7b0
                      try clear c7b1
                      try clear c8
                      try clear c9
                      try clear c9b0
                      try clear c11
                      try clear c11b0
                      try clear c12
                      try clear c12b0
                      try clear c12b1
                      try clear c13
                      try clear hx181_0
                      try clear hx182_0
                      try clear hx183_0
                      try clear hx184_0
                      try clear hx185_0
                      try clear p1
                      try clear p181
                      try clear p182
                      try clear p183
                      try clear p184
                      try clear p185
                      try clear p2
                      try clear q1
                      try clear q181
                      try clear q182
                      try clear q183
                      try clear q184
                      try clear q185
                      obtain ⟨x4_4, rfl, HA, HK4, ⟨m4, rfl⟩⟩ := hrel
                      cases gk with
                      | zero => exact absurd HA.out (by simp [clavierref03_params.l1])
                      | succ k4 =>
                        have H := HA.out
                        clear HA
                        simp only [clavierref03_params.l1] at H
                        by_cases c14 : 0 ≤ x3_2
                        · rw [if_pos c14] at H
                          have c14b0 : decide (0 ≤ x3_2) = true := decide_eq_true c14
                          clear c14
                          by_cases c15 : x3_2 < (l0.length : Int)
                          · rw [if_pos c15] at H
                            have c15b0 : decide (x3_2 < (l0.length : Int)) = true := decide_eq_true c15
                            clear c15
                            by_cases c16 : x4_4 < ((rd_L4 l0 x3_2).length : Int)
                            · rw [if_pos c16] at H
                              have c16b0 : decide (x4_4 < ((rd_L4 l0 x3_2).length : Int)) = true := decide_eq_true c16
                              clear c16
                              by_cases c17 : 0 ≤ x4_4
                              · rw [if_pos c17] at H
                                have c17b0 : decide (0 ≤ x4_4) = true := decide_eq_true c17
                                clear c17
                                by_cases c18 : (rd (rd_L4 l0 x3_2) x4_4) < (-1)
                                · rw [if_pos c18] at H
                                  have c18b0 : decide ((rd (rd_L4 l0 x3_2) x4_4) < (-1)) = true := decide_eq_true c18
                                  clear c18
                                  obtain rfl := Option.some.inj H
                                  have p186 : 0 ≤ (x3_2 : Int) := of_decide_eq_true (by first | (with_reducible assumption) | assumption)
                                  have q186 : x3_2 < (l0.length : Int) := of_decide_eq_true (by first | (with_reducible assumption) | assumption)
                                  obtain ⟨ad186, A186_0, c186_0, e186, hx186_0, hl186_0, hi186_0⟩ := at_L4 HR0.out x3_2 p186 q186
                                  cases e186
                                  have HR186_0 := Aside0.mk hi186_0
                                  have HC186_0 := Aside0.mk hl186_0
                                  clear hi186_0 hl186_0
                                  replace p186 := eq_true p186
                                  replace q186 := eq_true q186
                                  have p187 : 0 ≤ (x3_2 : Int) := of_decide_eq_true (by first | (with_reducible assumption) | assumption)
                                  have q187 : x3_2 < (l0.length : Int) := of_decide_eq_true (by first | (with_reducible assumption) | assumption)
                                  obtain ⟨ad187, A187_0, c187_0, e187, hx187_0, hl187_0, hi187_0⟩ := at_L4 HR0.out x3_2 p187 q187
                                  obtain rfl : ad186 = ad187 := (by injection e187)
                                  have HR187_0 := Aside0.mk hi187_0
                                  have HC187_0 := Aside0.mk hl187_0
                                  clear hi187_0 hl187_0
                                  replace p187 := eq_true p187
                                  replace q187 := eq_true q187
                                  have ea_ := Option.some.inj (hx186_0.symm.trans hx187_0)
                                  injection ea_ with ea_ en_ ec_
                                  subst ea_
                                  subst ec_
                                  clear en_
                                  have p188 : 0 ≤ (x4_4 : Int) := of_decide_eq_true (by first | (with_reducible assumption) | assumption)
                                  have q188 : x4_4 < ((rd_L4 l0 x3_2).length : Int) := of_decide_eq_true (by first | (with_reducible assumption) | assumption)
                                  obtain ⟨ad188, e188, hx188_0⟩ := Kd.at_int HR187_0.out x4_4 p188 q188
                                  cases e188
                                  replace p188 := eq_true p188
                                  replace q188 := eq_true q188
                                  go_wp2
                                  go_ret
                                  exact ⟨by first | rfl | (simp; done) | (simp [*]; done), by repeat (first | exact Drawn0.refl _ | apply Drawn0.step)⟩
                                · rw [if_neg c18] at H
                                  have c18b0 : decide ((rd (rd_L4 l0 x3_2) x4_4) < (-1)) = false := decide_eq_false c18
                                  clear c18
                                  by_cases c19 : (rd (rd_L4 l0 x3_2) x4_4) > 1114111
                                  · rw [if_pos c19] at H
                                    have c19b0 : decide (1114111 < (rd (rd_L4 l0 x3_2) x4_4)) = true := decide_eq_true c19
                                    clear c19
                                    obtain rfl := Option.some.inj H
                                    have p186 : 0 ≤ (x3_2 : Int) := of_decide_eq_true (by first | (with_reducible assumption) | assumption)
                                    have q186 : x3_2 < (l0.length : Int) := of_decide_eq_true (by first | (with_reducible assumption) | assumption)
                                    obtain ⟨ad186, A186_0, c186_0, e186, hx186_0, hl186_0, hi186_0⟩ := at_L4 HR0.out x3_2 p186 q186
                                    cases e186
                                    have HR186_0 := Aside0.mk hi186_0
                                    have HC186_0 := Aside0.mk hl186_0
                                    clear hi186_0 hl186_0
                                    replace p186 := eq_true p186
                                    replace q186 := eq_true q186
                                    have p187 : 0 ≤ (x3_2 : Int) := of_decide_eq_true (by first | (with_reducible assumption) | assumption)
                                    have q187 : x3_2 < (l0.length : Int) := of_decide_eq_true (by first | (with_reducible assumption) | assumption)
                                    obtain ⟨ad187, A187_0, c187_0, e187, hx187_0, hl187_0, hi187_0⟩ := at_L4 HR0.out x3_2 p187 q187
                                    obtain rfl : ad186 = ad187 := (by injection e187)
                                    have HR187_0 := Aside0.mk hi187_0
                                    have HC187_0 := Aside0.mk hl187_0
                                    clear hi187_0 hl187_0
                                    replace p187 := eq_true p187
                                    replace q187 := eq_true q187
                                    have ea_ := Option.some.inj (hx186_0.symm.trans hx187_0)
                                    injection ea_ with ea_ en_ ec_
                                    subst ea_
                                    subst ec_
                                    clear en_
                                    have p188 : 0 ≤ (x4_4 : Int) := of_decide_eq_true (by first | (with_reducible assumption) | assumption)
                                    have q188 : x4_4 < ((rd_L4 l0 x3_2).length : Int) := of_decide_eq_true (by first | (with_reducible assumption) | assumption)
                                    obtain ⟨ad188, e188, hx188_0⟩ := Kd.at_int HR187_0.out x4_4 p188 q188
                                    cases e188
                                    replace p188 := eq_true p188
                                    replace q188 := eq_true q188
                                    have p189 : 0 ≤ (x3_2 : Int) := of_decide_eq_true (by first | (with_reducible assumption) | assumption)
                                    have q189 : x3_2 < (l0.length : Int) := of_decide_eq_true (by first | (with_reducible assumption) | assumption)
                                    obtain ⟨ad189, A189_0, c189_0, e189, hx189_0, hl189_0, hi189_0⟩ := at_L4 HR0.out x3_2 p189 q189
                                    obtain rfl : ad186 = ad189 := (by injection e189)
                                    have HR189_0 := Aside0.mk hi189_0
                                    have HC189_0 := Aside0.mk hl189_0
                                    clear hi189_0 hl189_0
                                    replace p189 := eq_true p189
                                    replace q189 := eq_true q189
                                    have ea_ := Option.some.inj (hx186_0.symm.trans hx189_0)
                                    injection ea_ with ea_ en_ ec_
                                    subst ea_
                                    subst ec_
                                    clear en_
                                    have p190 : 0 ≤ (x4_4 : Int) := of_decide_eq_true (by first | (with_reducible assumption) | assumption)
                                    have q190 : x4_4 < ((rd_L4 l0 x3_2).length : Int) := of_decide_eq_true (by first | (with_reducible assumption) | assumption)
                                    obtain ⟨ad190, e190, hx190_0⟩ := Kd.at_int HR189_0.out x4_4 p190 q190
                                    cases e190
                                    replace p190 := eq_true p190
                                    replace q190 := eq_true q190
                                    go_wp2
                                    go_ret
                                    exact ⟨by first | rfl | (simp; done) | (simp [*]; done), by repeat (first | exact Drawn0.refl _ | apply Drawn0.step)⟩
                                  · rw [if_neg c19] at H
                                    have c19b0 : decide (1114111 < (rd (rd_L4 l0 x3_2) x4_4)) = false := decide_eq_false c19
                                    clear c19
                                    have H' := Aside0.mk H
                                    clear H
                                    have p186 : 0 ≤ (x3_2 : Int) := of_decide_eq_true (by first | (with_reducible assumption) | assumption)
                                    have q186 : x3_2 < (l0.length : Int) := of_decide_eq_true (by first | (with_reducible assumption) | assumption)
                                    obtain ⟨ad186, A186_0, c186_0, e186, hx186_0, hl186_0, hi186_0⟩ := at_L4 HR0.out x3_2 p186 q186
                                    cases e186
                                    have HR186_0 := Aside0.mk hi186_0
                                    have HC186_0 := Aside0.mk hl186_0
                                    clear hi186_0 hl186_0
                                    replace p186 := eq_true p186
                                    replace q186 := eq_true q186
                                    have p187 : 0 ≤ (x3_2 : Int) := of_decide_eq_true (by first | (with_reducible assumption) | assumption)
                                    have q187 : x3_2 < (l0.length : Int) := of_decide_eq_true (by first | (with_reducible assumption) | assumption)
                                    obtain ⟨ad187, A187_0, c187_0, e187, hx187_0, hl187_0, hi187_0⟩ := at_L4 HR0.out x3_2 p187 q187
                                    obtain rfl : ad186 = ad187 := (by injection e187)
                                    have HR187_0 := Aside0.mk hi187_0
                                    have HC187_0 := Aside0.mk hl187_0
                                    clear hi187_0 hl187_0
                                    replace p187 := eq_true p187
                                    replace q187 := eq_true q187
                                    have ea_ := Option.some.inj (hx186_0.symm.trans hx187_0)
                                    injection ea_ with ea_ en_ ec_
                                    subst ea_
                                    subst ec_
                                    clear en_
                                    have p188 : 0 ≤ (x4_4 : Int) := of_decide_eq_true (by first | (with_reducible assumption) | assumption)
                                    have q188 : x4_4 < ((rd_L4 l0 x3_2).length : Int) := of_decide_eq_true (by first | (with_reducible assumption) | assumption)
                                    obtain ⟨ad188, e188, hx188_0⟩ := Kd.at_int HR187_0.out x4_4 p188 q188
                                    cases e188
                                    replace p188 := eq_true p188
                                    replace q188 := eq_true q188
                                    have p189 : 0 ≤ (x3_2 : Int) := of_decide_eq_true (by first | (with_reducible assumption) | assumption)
                                    have q189 : x3_2 < (l0.length : Int) := of_decide_eq_true (by first | (with_reducible assumption) | assumption)
                                    obtain ⟨ad189, A189_0, c189_0, e189, hx189_0, hl189_0, hi189_0⟩ := at_L4 HR0.out x3_2 p189 q189
                                    obtain rfl : ad186 = ad189 := (by injection e189)
                                    have HR189_0 := Aside0.mk hi189_0
                                    have HC189_0 := Aside0.mk hl189_0
                                    clear hi189_0 hl189_0
                                    replace p189 := eq_true p189
                                    replace q189 := eq_true q189
                                    have ea_ := Option.some.inj (hx186_0.symm.trans hx189_0)
                                    injection ea_ with ea_ en_ ec_
                                    subst ea_
                                    subst ec_
                                    clear en_
                                    have p190 : 0 ≤ (x4_4 : Int) := of_decide_eq_true (by first | (with_reducible assumption) | assumption)
                                    have q190 : x4_4 < ((rd_L4 l0 x3_2).length : Int) := of_decide_eq_true (by first | (with_reducible assumption) | assumption)
                                    obtain ⟨ad190, e190, hx190_0⟩ := Kd.at_int HR189_0.out x4_4 p190 q190
                                    cases e190
                                    replace p190 := eq_true p190
                                    replace q190 := eq_true q190
                                    go_wp2
                                    go_roundg k4
                                    case measure => have := HJ1.out; have := HK2.out; have := HJ9.out; have := HK4.out; omega
                                    case rel => exact ⟨(wrap64 (x4_4 + 1)), (by first | rfl | (simp; done) | (simp [*]; done)), H', ⟨by have := HJ1.out; have := HK2.out; have := HJ9.out; have := HK4.out; omega⟩, by repeat (first | exact Drawn0.refl _ | apply Drawn0.step)⟩
                              · rw [if_neg c17] at H
                                exact absurd H (by simp)
                            · rw [if_neg c16] at H
                              have c16b0 : decide (x4_4 < ((rd_L4 l0 x3_2).length : Int)) = false := decide_eq_false c16
                              clear c16
                              have H' := Aside0.mk H
                              clear H
                              have p186 : 0 ≤ (x3_2 : Int) := of_decide_eq_true (by first | (with_reducible assumption) | assumption)
                              have q186 : x3_2 < (l0.length : Int) := of_decide_eq_true (by first | (with_reducible assumption) | assumption)
                              obtain ⟨ad186, A186_0, c186_0, e186, hx186_0, hl186_0, hi186_0⟩ := at_L4 HR0.out x3_2 p186 q186
                              cases e186
                              have HR186_0 := Aside0.mk hi186_0
                              have HC186_0 := Aside0.mk hl186_0
                              clear hi186_0 hl186_0
                              replace p186 := eq_true p186
                              replace q186 := eq_true q186
                              go_wp2
                              go_roundg k4
                              case measure => have := HJ1.out; have := HK2.out; have := HJ9.out; have := HK4.out; omega
                              case rel => exact ⟨(wrap64 (x3_2 + 1)), (by first | rfl | (simp; done) | (simp [*]; done)), H', ⟨by have := HJ1.out; have := HK2.out; have := HJ9.out; have := HK4.out; omega⟩, by repeat (first | exact Drawn0.refl _ | apply Drawn0.step)⟩
                          · rw [if_neg c15] at H
                            exact absurd H (by simp)
                        · rw [if_neg c14] at H
                          exact absurd H (by simp)
            · rw [if_neg c9] at H
              have c9b0 : decide (x3_2 < (l0.length : Int)) = false := decide_eq_false c9
              clear c9
              obtain rfl := Option.some.inj H
              go_wp2
              go_ret
              exact ⟨by first | rfl | (simp; done) | (simp [*]; done), by repeat (first | exact Drawn0.refl _ | apply Drawn0.step)⟩
def clavierref03_within.l0 : Nat → ByteArray → Int → Int → Int → Option (Bool)
  | 0, _, _, _, _ => none
  | k + 1, x0, x1, x2, x7 => if x7 < (x0.size : Int) then (if 0 ≤ x7 then (if (bt x0 x7) < x1 then (some false) else (if (bt x0 x7) > x2 then (some false) else (clavierref03_within.l0 k x0 x1 x2 (wrap64 (x7 + 1))))) else (none)) else (some true)
def clavierref03_within.f (k : Nat) (a0 : ByteArray) (a1 : Int) (a2 : Int) : Option (Bool) := clavierref03_within.l0 k a0 a1 a2 0
theorem clavierref03_within.mono_l : ∀ k, (∀ y0 y1 y2 y3, LeO (clavierref03_within.l0 k y0 y1 y2 y3) (clavierref03_within.l0 (k + 1) y0 y1 y2 y3))
  | 0 => fun _ _ _ _ r h => by simp [clavierref03_within.l0] at h
  | k + 1 => by
    have ih0 := clavierref03_within.mono_l k
    · intro y0 y1 y2 y3
      unfold clavierref03_within.l0
      repeat' first
      | (with_reducible exact ih0 _ _ _ _)
      | (with_reducible exact LeO.refl _)
      | (with_reducible exact LeO.none _)
      | (with_reducible refine LeO.ite ?_ ?_)
      | (with_reducible refine LeO.bind ?_ (fun _ => ?_))
      | exact ih0 _ _ _ _
      | exact LeO.none _
      | refine LeO.ite ?_ ?_
      | refine LeO.bind ?_ (fun _ => ?_)
theorem clavierref03_within.mono : ∀ a0 a1 a2 k, LeO (clavierref03_within.f k a0 a1 a2) (clavierref03_within.f (k + 1) a0 a1 a2) := by
  intro a0 a1 a2 k
  have ih0 := clavierref03_within.mono_l k
  unfold clavierref03_within.f
  repeat' first
      | (with_reducible exact ih0 _ _ _ _)
      | (with_reducible exact LeO.refl _)
      | (with_reducible exact LeO.none _)
      | (with_reducible refine LeO.ite ?_ ?_)
      | (with_reducible refine LeO.bind ?_ (fun _ => ?_))
      | exact ih0 _ _ _ _
      | exact LeO.none _
      | refine LeO.ite ?_ ?_
      | refine LeO.bind ?_ (fun _ => ?_)
set_option maxHeartbeats 8000000 in
set_option maxRecDepth 100000 in
theorem clavierref03_within.calls (k : Nat) (a0 : ByteArray) (a1 : Int) (a2 : Int) (r : Bool) (w : World) (h : clavierref03_within.f k a0 a1 a2 = some r) :
    Calls Tryd.prog 29 #[.string a0, .int .u8 a1, .int .u8 a2] w fun e w' => e = .returned (.bool r) ∧ Drawn0 w w' := by
  have H : (clavierref03_within.l0 k a0 a1 a2 0) = some r := h
  clear h
  have H' := Aside0.mk H
  clear H
  go_enter Tryd.func29, Tryd.ntmps29
  go_wp2
  go_loopg [7] k (fun kq v7 w' => ∃ (x7_1 : Int), v7 = .int .i64 x7_1 ∧ Aside0 (clavierref03_within.l0 kq a0 a1 a2 x7_1 = some r) ∧ Aside0 (kq ≤ k) ∧ Drawn0 w w')
  case atStart => exact ⟨(0), (by first | rfl | (simp; done) | (simp [*]; done)), H', ⟨Nat.le_refl _⟩, by repeat (first | exact Drawn0.refl _ | apply Drawn0.step)⟩
  case round =>
    clear H'
    try clear c2
    try clear p2
    obtain ⟨x7_1, rfl, HA, HK1, ⟨m1, rfl⟩⟩ := hrel
    cases gk with
    | zero => exact absurd HA.out (by simp [clavierref03_within.l0])
    | succ k1 =>
      have H := HA.out
      clear HA
      simp only [clavierref03_within.l0] at H
      by_cases c4 : x7_1 < (a0.size : Int)
      · rw [if_pos c4] at H
        have c4b0 : decide (x7_1 < (a0.size : Int)) = true := decide_eq_true c4
        clear c4
        by_cases c5 : 0 ≤ x7_1
        · rw [if_pos c5] at H
          have c5b0 : decide (0 ≤ x7_1) = true := decide_eq_true c5
          clear c5
          by_cases c7 : (bt a0 x7_1) < a1
          · rw [if_pos c7] at H
            have c7b0 : decide ((bt a0 x7_1) < a1) = true := decide_eq_true c7
            clear c7
            obtain rfl := Option.some.inj H
            have p6 : 0 ≤ (x7_1 : Int) := of_decide_eq_true (by first | (with_reducible assumption) | assumption)
            have q6 : x7_1 < (a0.size : Int) := of_decide_eq_true (by first | (with_reducible assumption) | assumption)
            have hx6 := bt_at a0 x7_1
            replace p6 := eq_true p6
            replace q6 := eq_true q6
            go_wp2
            go_ret
            exact ⟨by first | rfl | (simp; done) | (simp [*]; done), by repeat (first | exact Drawn0.refl _ | apply Drawn0.step)⟩
          · rw [if_neg c7] at H
            have c7b0 : decide ((bt a0 x7_1) < a1) = false := decide_eq_false c7
            clear c7
            by_cases c9 : (bt a0 x7_1) > a2
            · rw [if_pos c9] at H
              have c9b0 : decide (a2 < (bt a0 x7_1)) = true := decide_eq_true c9
              clear c9
              obtain rfl := Option.some.inj H
              have p6 : 0 ≤ (x7_1 : Int) := of_decide_eq_true (by first | (with_reducible assumption) | assumption)
              have q6 : x7_1 < (a0.size : Int) := of_decide_eq_true (by first | (with_reducible assumption) | assumption)
              have hx6 := bt_at a0 x7_1
              replace p6 := eq_true p6
              replace q6 := eq_true q6
              have p8 : 0 ≤ (x7_1 : Int) := of_decide_eq_true (by first | (with_reducible assumption) | assumption)
              have q8 : x7_1 < (a0.size : Int) := of_decide_eq_true (by first | (with_reducible assumption) | assumption)
              have hx8 := bt_at a0 x7_1
              replace p8 := eq_true p8
              replace q8 := eq_true q8
              go_wp2
              go_ret
              exact ⟨by first | rfl | (simp; done) | (simp [*]; done), by repeat (first | exact Drawn0.refl _ | apply Drawn0.step)⟩
            · rw [if_neg c9] at H
              have c9b0 : decide (a2 < (bt a0 x7_1)) = false := decide_eq_false c9
              clear c9
              have H' := Aside0.mk H
              clear H
              have p6 : 0 ≤ (x7_1 : Int) := of_decide_eq_true (by first | (with_reducible assumption) | assumption)
              have q6 : x7_1 < (a0.size : Int) := of_decide_eq_true (by first | (with_reducible assumption) | assumption)
              have hx6 := bt_at a0 x7_1
              replace p6 := eq_true p6
              replace q6 := eq_true q6
              have p8 : 0 ≤ (x7_1 : Int) := of_decide_eq_true (by first | (with_reducible assumption) | assumption)
              have q8 : x7_1 < (a0.size : Int) := of_decide_eq_true (by first | (with_reducible assumption) | assumption)
              have hx8 := bt_at a0 x7_1
              replace p8 := eq_true p8
              replace q8 := eq_true q8
              go_wp2
              go_roundg k1
              case measure => have := HK1.out; omega
              case rel => exact ⟨(wrap64 (x7_1 + 1)), (by first | rfl | (simp; done) | (simp [*]; done)), H', ⟨by have := HK1.out; omega⟩, by repeat (first | exact Drawn0.refl _ | apply Drawn0.step)⟩
        · rw [if_neg c5] at H
          exact absurd H (by simp)
      · rw [if_neg c4] at H
        have c4b0 : decide (x7_1 < (a0.size : Int)) = false := decide_eq_false c4
        clear c4
        obtain rfl := Option.some.inj H
        go_wp2
        go_ret
        exact ⟨by first | rfl | (simp; done) | (simp [*]; done), by repeat (first | exact Drawn0.refl _ | apply Drawn0.step)⟩
end Go.Proofs.YtclnanhgcnopdaaDoor.G
end
section
namespace Go.Proofs.YtclnanhgcnopdaaDoor.G
open Go.RowKit Go.Proofs.YtclnanhgcnopdaaDoorW.PrintWords Go.Proofs.YtclnanhgcnopdaaDoorW.PrintLast Go.Proofs.YtclnanhgcnopdaaDoorW.PrintMore
attribute [local go_sem] max2_int min2_int max_two min_two max_three min_three max_four min_four
set_option linter.unusedVariables false
set_option linter.unusedSimpArgs false
def clavierref03_last.j0 : Nat → Int → Bool → Int → Int → List (List Int) → ByteArray → Int → ByteArray → Option (Bool)
  | 0, _, _, _, _, _, _, _, _ => none
  | k + 1, x5, x6, x192000, x192001, x192002, x192003, x192004, x192005 => if x6 = true then (if x192004 ≥ 64 then (some (decide (x192004 ≤ 126))) else (some false)) else (if x5 = 5 then (if x192004 < 48 then (some false) else (if x192004 > 126 then (some false) else (if (x192003.size : Int) > 0 then (some true) else (if x192004 = 79 then (some false) else (if x192004 = 80 then (some false) else (if x192004 = 88 then (some false) else (if x192004 = 91 then (some false) else (if x192004 = 93 then (some false) else (if x192004 = 92 then (some false) else (if x192004 = 94 then (some false) else (some (x192004 != 95)))))))))))) else (if x192000 = 4 then (some (x192004 == 0)) else (some false)))
def clavierref03_last.f (k : Nat) (a0_0 : Int) (a0_1 : Int) (l0_2 : List (List Int)) (a0_3 : ByteArray) (a0_4 : Int) (a0_5 : ByteArray) : Option (Bool) := if a0_0 = 1 then (clavierref03_last.j0 k a0_0 (a0_0 == 1) a0_0 a0_1 l0_2 a0_3 a0_4 a0_5) else (if a0_0 = 2 then (clavierref03_last.j0 k a0_0 (a0_0 == 2) a0_0 a0_1 l0_2 a0_3 a0_4 a0_5) else (clavierref03_last.j0 k a0_0 (a0_0 == 3) a0_0 a0_1 l0_2 a0_3 a0_4 a0_5))
theorem clavierref03_last.mono_l : ∀ k, (∀ y0 y1 y2 y3 y4 y5 y6 y7, LeO (clavierref03_last.j0 k y0 y1 y2 y3 y4 y5 y6 y7) (clavierref03_last.j0 (k + 1) y0 y1 y2 y3 y4 y5 y6 y7))
  | 0 => fun _ _ _ _ _ _ _ _ r h => by simp [clavierref03_last.j0] at h
  | k + 1 => by
    have ih0 := clavierref03_last.mono_l k
    · intro y0 y1 y2 y3 y4 y5 y6 y7
      unfold clavierref03_last.j0
      repeat' first
      | (with_reducible exact ih0 _ _ _ _ _ _ _ _)
      | (with_reducible exact LeO.refl _)
      | (with_reducible exact LeO.none _)
      | (with_reducible refine LeO.ite ?_ ?_)
      | (with_reducible refine LeO.bind ?_ (fun _ => ?_))
      | exact ih0 _ _ _ _ _ _ _ _
      | exact LeO.none _
      | refine LeO.ite ?_ ?_
      | refine LeO.bind ?_ (fun _ => ?_)
theorem clavierref03_last.mono : ∀ a0 a1 a2 a3 a4 a5 k, LeO (clavierref03_last.f k a0 a1 a2 a3 a4 a5) (clavierref03_last.f (k + 1) a0 a1 a2 a3 a4 a5) := by
  intro a0 a1 a2 a3 a4 a5 k
  have ih0 := clavierref03_last.mono_l k
  unfold clavierref03_last.f
  repeat' first
      | (with_reducible exact ih0 _ _ _ _ _ _ _ _)
      | (with_reducible exact LeO.refl _)
      | (with_reducible exact LeO.none _)
      | (with_reducible refine LeO.ite ?_ ?_)
      | (with_reducible refine LeO.bind ?_ (fun _ => ?_))
      | exact ih0 _ _ _ _ _ _ _ _
      | exact LeO.none _
      | refine LeO.ite ?_ ?_
      | refine LeO.bind ?_ (fun _ => ?_)
set_option maxHeartbeats 8000000 in
set_option maxRecDepth 100000 in
theorem clavierref03_last.calls (k : Nat) (a0_0 : Int) (a0_1 : Int) (A0_2 : Option Addr) (c0_2 : Nat) (l0_2 : List (List Int)) (a0_3 : ByteArray) (a0_4 : Int) (a0_5 : ByteArray) (r : Bool) (w : World) (hr0_2 : Kd.C (Kd.slice 3 (Kd.int .i64)) w A0_2 l0_2.length l0_2) (hc0_2 : l0_2.length ≤ c0_2) (h : clavierref03_last.f k a0_0 a0_1 l0_2 a0_3 a0_4 a0_5 = some r) :
    Calls Tryd.prog 30 #[.agg #[.int .i64 a0_0, .int .u8 a0_1, .slice A0_2 l0_2.length c0_2, .string a0_3, .int .u8 a0_4, .string a0_5]] w fun e w' => e = .returned (.bool r) ∧ Below w.heap.size w w' := by
  have hu28 := Tryd.underlying28
  have HR0_2 := Aside0.mk hr0_2
  have HC0_2 := Aside0.mk hc0_2
  clear hr0_2 hc0_2
  have HB := Aside0.mk (Below.refl w.heap.size w)
  have H : (if a0_0 = 1 then (clavierref03_last.j0 k a0_0 (a0_0 == 1) a0_0 a0_1 l0_2 a0_3 a0_4 a0_5) else (if a0_0 = 2 then (clavierref03_last.j0 k a0_0 (a0_0 == 2) a0_0 a0_1 l0_2 a0_3 a0_4 a0_5) else (clavierref03_last.j0 k a0_0 (a0_0 == 3) a0_0 a0_1 l0_2 a0_3 a0_4 a0_5))) = some r := h
  clear h
  have HC2 := Aside0.mk H
  clear H
  go_enter Tryd.func30, Tryd.ntmps30
  go_upto_if 6 with (first | ((with_reducible refine gate_dst (N := 1) rfl ?_); refine box_event ?hg (N := 1) ?hd (cs := #[.int .i64 a0_0, .int .u8 a0_1, .slice A0_2 l0_2.length c0_2, .string a0_3, .int .u8 a0_4, .string a0_5]) (t := 28) ?hr ?_; (case hd => rfl); (case hg => rfl); (case hr => first | (go_simp; done) | (go_simp; rfl)); intro gb191 hg w3 hbox hb; have n0_ := Aside0.mk (below_step (by repeat (first | (with_reducible first | exact HB.out | apply below_alloc | apply pw_below_drewN | apply below_drew1) | exact HB.out)) hb); have n1_ := Aside0.mk (hbox); have n2_ := Aside0.mk ((by rw [hg]; exact (below_size (by repeat (first | (with_reducible first | exact HB.out | apply below_alloc | apply pw_below_drewN | apply below_drew1) | exact HB.out))) : w.heap.size ≤ gb191)); have n3_ := Aside0.mk ((by rw [hg]; exact (below_size (by repeat (first | (with_reducible first | exact HB.out | apply below_alloc | apply pw_below_drewN | apply below_drew1) | exact HB.out))) : w.heap.size ≤ gb191)); clear HB; have HB := n0_; have BK191 := n1_; have GW191 := n2_; have GE191 := n3_; clear n0_ n1_ n2_ n3_; clear hb hbox hg; have hcz4_0 : w3.cell? ⟨gb191, 0, none⟩ = some (.int .i64 a0_0) := (blk_cell BK191.out 0).trans rfl; have hcz4_1 : w3.cell? ⟨gb191, 1, none⟩ = some (.int .u8 a0_1) := (blk_cell BK191.out 1).trans rfl; have hcz4_2 : w3.cell? ⟨gb191, 2, none⟩ = some (.slice A0_2 l0_2.length c0_2) := (blk_cell BK191.out 2).trans rfl; have hcz4_3 : w3.cell? ⟨gb191, 3, none⟩ = some (.string a0_3) := (blk_cell BK191.out 3).trans rfl; have hcz4_4 : w3.cell? ⟨gb191, 4, none⟩ = some (.int .u8 a0_4) := (blk_cell BK191.out 4).trans rfl; have hcz4_5 : w3.cell? ⟨gb191, 5, none⟩ = some (.string a0_5) := (blk_cell BK191.out 5).trans rfl; have hfz4_0 := blk_frozen BK191.out 0; have hfz4_1 := blk_frozen BK191.out 1; have hfz4_2 := blk_frozen BK191.out 2; have hfz4_3 := blk_frozen BK191.out 3; have hfz4_4 := blk_frozen BK191.out 4; have hfz4_5 := blk_frozen BK191.out 5))
  (try simp only [Act.put, List.setIfInBounds_toArray, List.set_cons_zero, List.set_cons_succ])
  go_cut [6] (fun v6 wc => ∃ (kq : Nat) (x6_1 : Bool), v6 = .bool x6_1 ∧ Aside0 (clavierref03_last.j0 kq a0_0 x6_1 a0_0 a0_1 l0_2 a0_3 a0_4 a0_5 = some r) ∧ Aside0 (kq ≤ k) ∧ Aside0 (wc.heap[gb191]? = some (.cells #[.int .i64 a0_0, .int .u8 a0_1, (.slice A0_2 l0_2.length c0_2), .string a0_3, .int .u8 a0_4, .string a0_5] 28 (0, 0))) ∧ Aside0 (Below w.heap.size w wc))
  case first =>
    have H := HC2.out
    clear HC2
    by_cases c5 : a0_0 = 1
    · rw [if_pos c5] at H
      have c5b0 : (a0_0 == 1) = true := beq_iff_eq.mpr c5
      have c5b1 : (a0_0 != 1) = false := bne_eq_false_iff_eq.mpr c5
      clear c5
      (first | rw [c5b0] | (simp only [i64_w, i32_w]; rw [c5b0]) | skip)
      have H' := Aside0.mk H
      clear H
      go_wp2
      go_meet
      case rel => exact ⟨_, ((a0_0 == 1)), (by first | rfl | (simp; done) | (simp [*]; done)), H', ⟨by first | omega | exact Nat.le_refl _⟩, ⟨by (with_reducible repeat (first | refine blk_drewN ?_ _ | refine blk_drew ?_ | refine blk_alloc ?_ _)); exact BK191.out⟩, ⟨by repeat (first | (with_reducible first | exact HB.out | apply below_alloc | apply pw_below_drewN | apply below_drew1 | refine below_set ?_ GE191.out) | exact HB.out)⟩⟩
    · rw [if_neg c5] at H
      have c5b0 : (a0_0 == 1) = false := beq_eq_false_iff_ne.mpr c5
      have c5b1 : (a0_0 != 1) = true := bne_iff_ne.mpr c5
      (first | rw [c5b0] | (simp only [i64_w, i32_w]; rw [c5b0]) | skip)
      by_cases c6 : a0_0 = 2
      · rw [if_pos c6] at H
        have c6b0 : (a0_0 == 2) = true := beq_iff_eq.mpr c6
        have c6b1 : (a0_0 != 2) = false := bne_eq_false_iff_eq.mpr c6
        clear c6
        have H' := Aside0.mk H
        clear H
        go_wp2
        go_meet
        case rel => exact ⟨_, ((a0_0 == 2)), (by first | rfl | (simp; done) | (simp [*]; done)), H', ⟨by first | omega | exact Nat.le_refl _⟩, ⟨by (with_reducible repeat (first | refine blk_drewN ?_ _ | refine blk_drew ?_ | refine blk_alloc ?_ _)); exact BK191.out⟩, ⟨by repeat (first | (with_reducible first | exact HB.out | apply below_alloc | apply pw_below_drewN | apply below_drew1 | refine below_set ?_ GE191.out) | exact HB.out)⟩⟩
      · rw [if_neg c6] at H
        have c6b0 : (a0_0 == 2) = false := beq_eq_false_iff_ne.mpr c6
        have c6b1 : (a0_0 != 2) = true := bne_iff_ne.mpr c6
        have H' := Aside0.mk H
        clear H
        go_wp2
        go_meet
        case rel => exact ⟨_, ((a0_0 == 3)), (by first | rfl | (simp; done) | (simp [*]; done)), H', ⟨by first | omega | exact Nat.le_refl _⟩, ⟨by (with_reducible repeat (first | refine blk_drewN ?_ _ | refine blk_drew ?_ | refine blk_alloc ?_ _)); exact BK191.out⟩, ⟨by repeat (first | (with_reducible first | exact HB.out | apply below_alloc | apply pw_below_drewN | apply below_drew1 | refine below_set ?_ GE191.out) | exact HB.out)⟩⟩
  case rest =>
    clear HC2
    try clear p2
    try clear c3
    try clear c5
    try clear c5b0
    try clear c5b1
    try clear c6
    try clear c6b0
    try clear c6b1
    try clear hcz4_0
    try clear hcz4_1
    try clear hcz4_2
    try clear hcz4_3
    try clear hcz4_4
    try clear hcz4_5
    try clear hfz4_0
    try clear hfz4_1
    try clear hfz4_2
    try clear hfz4_3
    try clear hfz4_4
    try clear hfz4_5
    obtain ⟨kq, x6_1, rfl, HA, HJ1, BK191, HB⟩ := hcut
    cases kq with
    | zero => exact absurd HA.out (by simp [clavierref03_last.j0])
    | succ kj1 =>
      have H := HA.out
      clear HA
      simp only [clavierref03_last.j0] at H
      by_cases c7 : x6_1 = true
      · subst c7
        have H1 : (if a0_4 ≥ 64 then (some (decide (a0_4 ≤ 126))) else (some false)) = some r := by rw [if_pos rfl] at H; exact H
        clear H
        have H := H1
        clear H1
        by_cases c8 : a0_4 ≥ 64
        · rw [if_pos c8] at H
          have c8b0 : decide (64 ≤ a0_4) = true := decide_eq_true c8
          clear c8
          obtain rfl := Option.some.inj H
          have hcz9_0 : wc.cell? ⟨gb191, 0, none⟩ = some (.int .i64 a0_0) := (blk_cell BK191.out 0).trans rfl
          have hcz9_1 : wc.cell? ⟨gb191, 1, none⟩ = some (.int .u8 a0_1) := (blk_cell BK191.out 1).trans rfl
          have hcz9_2 : wc.cell? ⟨gb191, 2, none⟩ = some (.slice A0_2 l0_2.length c0_2) := (blk_cell BK191.out 2).trans rfl
          have hcz9_3 : wc.cell? ⟨gb191, 3, none⟩ = some (.string a0_3) := (blk_cell BK191.out 3).trans rfl
          have hcz9_4 : wc.cell? ⟨gb191, 4, none⟩ = some (.int .u8 a0_4) := (blk_cell BK191.out 4).trans rfl
          have hcz9_5 : wc.cell? ⟨gb191, 5, none⟩ = some (.string a0_5) := (blk_cell BK191.out 5).trans rfl
          have hfz9_0 := blk_frozen BK191.out 0
          have hfz9_1 := blk_frozen BK191.out 1
          have hfz9_2 := blk_frozen BK191.out 2
          have hfz9_3 := blk_frozen BK191.out 3
          have hfz9_4 := blk_frozen BK191.out 4
          have hfz9_5 := blk_frozen BK191.out 5
          go_wp2
          go_ret
          exact ⟨by first | rfl | (simp [errW_none, errW_some] <;> rfl) | (simp [*, errW_none, errW_some] <;> rfl), by repeat (first | (with_reducible first | exact HB.out | apply below_alloc | apply pw_below_drewN | apply below_drew1 | refine below_set ?_ GE191.out) | exact HB.out)⟩
        · rw [if_neg c8] at H
          have c8b0 : decide (64 ≤ a0_4) = false := decide_eq_false c8
          clear c8
          obtain rfl := Option.some.inj H
          have hcz10_0 : wc.cell? ⟨gb191, 0, none⟩ = some (.int .i64 a0_0) := (blk_cell BK191.out 0).trans rfl
          have hcz10_1 : wc.cell? ⟨gb191, 1, none⟩ = some (.int .u8 a0_1) := (blk_cell BK191.out 1).trans rfl
          have hcz10_2 : wc.cell? ⟨gb191, 2, none⟩ = some (.slice A0_2 l0_2.length c0_2) := (blk_cell BK191.out 2).trans rfl
          have hcz10_3 : wc.cell? ⟨gb191, 3, none⟩ = some (.string a0_3) := (blk_cell BK191.out 3).trans rfl
          have hcz10_4 : wc.cell? ⟨gb191, 4, none⟩ = some (.int .u8 a0_4) := (blk_cell BK191.out 4).trans rfl
          have hcz10_5 : wc.cell? ⟨gb191, 5, none⟩ = some (.string a0_5) := (blk_cell BK191.out 5).trans rfl
          have hfz10_0 := blk_frozen BK191.out 0
          have hfz10_1 := blk_frozen BK191.out 1
          have hfz10_2 := blk_frozen BK191.out 2
          have hfz10_3 := blk_frozen BK191.out 3
          have hfz10_4 := blk_frozen BK191.out 4
          have hfz10_5 := blk_frozen BK191.out 5
          go_wp2
          go_ret
          exact ⟨by first | rfl | (simp [errW_none, errW_some] <;> rfl) | (simp [*, errW_none, errW_some] <;> rfl), by repeat (first | (with_reducible first | exact HB.out | apply below_alloc | apply pw_below_drewN | apply below_drew1 | refine below_set ?_ GE191.out) | exact HB.out)⟩
      · replace c7 := Bool.eq_false_iff.mpr c7
        subst c7
        have H1 : (if a0_0 = 5 then (if a0_4 < 48 then (some false) else (if a0_4 > 126 then (some false) else (if (a0_3.size : Int) > 0 then (some true) else (if a0_4 = 79 then (some false) else (if a0_4 = 80 then (some false) else (if a0_4 = 88 then (some false) else (if a0_4 = 91 then (some false) else (if a0_4 = 93 then (some false) else (if a0_4 = 92 then (some false) else (if a0_4 = 94 then (some false) else (some (a0_4 != 95)))))))))))) else (if a0_0 = 4 then (some (a0_4 == 0)) else (some false))) = some r := by rw [if_neg (show ¬ (false = true) by decide)] at H; exact H
        clear H
        have H := H1
        clear H1
        by_cases c11 : a0_0 = 5
        · rw [if_pos c11] at H
          have c11b0 : (a0_0 == 5) = true := beq_iff_eq.mpr c11
          have c11b1 : (a0_0 != 5) = false := bne_eq_false_iff_eq.mpr c11
          clear c11
          by_cases c12 : a0_4 < 48
          · rw [if_pos c12] at H
            have c12b0 : decide (a0_4 < 48) = true := decide_eq_true c12
            clear c12
            obtain rfl := Option.some.inj H
            have hcz13_0 : wc.cell? ⟨gb191, 0, none⟩ = some (.int .i64 a0_0) := (blk_cell BK191.out 0).trans rfl
            have hcz13_1 : wc.cell? ⟨gb191, 1, none⟩ = some (.int .u8 a0_1) := (blk_cell BK191.out 1).trans rfl
            have hcz13_2 : wc.cell? ⟨gb191, 2, none⟩ = some (.slice A0_2 l0_2.length c0_2) := (blk_cell BK191.out 2).trans rfl
            have hcz13_3 : wc.cell? ⟨gb191, 3, none⟩ = some (.string a0_3) := (blk_cell BK191.out 3).trans rfl
            have hcz13_4 : wc.cell? ⟨gb191, 4, none⟩ = some (.int .u8 a0_4) := (blk_cell BK191.out 4).trans rfl
            have hcz13_5 : wc.cell? ⟨gb191, 5, none⟩ = some (.string a0_5) := (blk_cell BK191.out 5).trans rfl
            have hfz13_0 := blk_frozen BK191.out 0
            have hfz13_1 := blk_frozen BK191.out 1
            have hfz13_2 := blk_frozen BK191.out 2
            have hfz13_3 := blk_frozen BK191.out 3
            have hfz13_4 := blk_frozen BK191.out 4
            have hfz13_5 := blk_frozen BK191.out 5
            go_wp2
            go_ret
            exact ⟨by first | rfl | (simp [errW_none, errW_some] <;> rfl) | (simp [*, errW_none, errW_some] <;> rfl), by repeat (first | (with_reducible first | exact HB.out | apply below_alloc | apply pw_below_drewN | apply below_drew1 | refine below_set ?_ GE191.out) | exact HB.out)⟩
          · rw [if_neg c12] at H
            have c12b0 : decide (a0_4 < 48) = false := decide_eq_false c12
            clear c12
            by_cases c14 : a0_4 > 126
            · rw [if_pos c14] at H
              have c14b0 : decide (126 < a0_4) = true := decide_eq_true c14
              clear c14
              obtain rfl := Option.some.inj H
              have hcz15_0 : wc.cell? ⟨gb191, 0, none⟩ = some (.int .i64 a0_0) := (blk_cell BK191.out 0).trans rfl
              have hcz15_1 : wc.cell? ⟨gb191, 1, none⟩ = some (.int .u8 a0_1) := (blk_cell BK191.out 1).trans rfl
              have hcz15_2 : wc.cell? ⟨gb191, 2, none⟩ = some (.slice A0_2 l0_2.length c0_2) := (blk_cell BK191.out 2).trans rfl
              have hcz15_3 : wc.cell? ⟨gb191, 3, none⟩ = some (.string a0_3) := (blk_cell BK191.out 3).trans rfl
              have hcz15_4 : wc.cell? ⟨gb191, 4, none⟩ = some (.int .u8 a0_4) := (blk_cell BK191.out 4).trans rfl
              have hcz15_5 : wc.cell? ⟨gb191, 5, none⟩ = some (.string a0_5) := (blk_cell BK191.out 5).trans rfl
              have hfz15_0 := blk_frozen BK191.out 0
              have hfz15_1 := blk_frozen BK191.out 1
              have hfz15_2 := blk_frozen BK191.out 2
              have hfz15_3 := blk_frozen BK191.out 3
              have hfz15_4 := blk_frozen BK191.out 4
              have hfz15_5 := blk_frozen BK191.out 5
              go_wp2
              go_ret
              exact ⟨by first | rfl | (simp [errW_none, errW_some] <;> rfl) | (simp [*, errW_none, errW_some] <;> rfl), by repeat (first | (with_reducible first | exact HB.out | apply below_alloc | apply pw_below_drewN | apply below_drew1 | refine below_set ?_ GE191.out) | exact HB.out)⟩
            · rw [if_neg c14] at H
              have c14b0 : decide (126 < a0_4) = false := decide_eq_false c14
              clear c14
              by_cases c16 : (a0_3.size : Int) > 0
              · rw [if_pos c16] at H
                have c16b0 : decide (0 < (a0_3.size : Int)) = true := decide_eq_true c16
                have c16b1 : decide (0 < a0_3.size) = true := decide_eq_true (by omega)
                clear c16
                obtain rfl := Option.some.inj H
                have hcz17_0 : wc.cell? ⟨gb191, 0, none⟩ = some (.int .i64 a0_0) := (blk_cell BK191.out 0).trans rfl
                have hcz17_1 : wc.cell? ⟨gb191, 1, none⟩ = some (.int .u8 a0_1) := (blk_cell BK191.out 1).trans rfl
                have hcz17_2 : wc.cell? ⟨gb191, 2, none⟩ = some (.slice A0_2 l0_2.length c0_2) := (blk_cell BK191.out 2).trans rfl
                have hcz17_3 : wc.cell? ⟨gb191, 3, none⟩ = some (.string a0_3) := (blk_cell BK191.out 3).trans rfl
                have hcz17_4 : wc.cell? ⟨gb191, 4, none⟩ = some (.int .u8 a0_4) := (blk_cell BK191.out 4).trans rfl
                have hcz17_5 : wc.cell? ⟨gb191, 5, none⟩ = some (.string a0_5) := (blk_cell BK191.out 5).trans rfl
                have hfz17_0 := blk_frozen BK191.out 0
                have hfz17_1 := blk_frozen BK191.out 1
                have hfz17_2 := blk_frozen BK191.out 2
                have hfz17_3 := blk_frozen BK191.out 3
                have hfz17_4 := blk_frozen BK191.out 4
                have hfz17_5 := blk_frozen BK191.out 5
                go_wp2
                go_ret
                exact ⟨by first | rfl | (simp [errW_none, errW_some] <;> rfl) | (simp [*, errW_none, errW_some] <;> rfl), by repeat (first | (with_reducible first | exact HB.out | apply below_alloc | apply pw_below_drewN | apply below_drew1 | refine below_set ?_ GE191.out) | exact HB.out)⟩
              · rw [if_neg c16] at H
                have c16b0 : decide (0 < (a0_3.size : Int)) = false := decide_eq_false c16
                have c16b1 : decide (0 < a0_3.size) = false := decide_eq_false (by omega)
                clear c16
                by_cases c18 : a0_4 = 79
                · rw [if_pos c18] at H
                  have c18b0 : (a0_4 == 79) = true := beq_iff_eq.mpr c18
                  have c18b1 : (a0_4 != 79) = false := bne_eq_false_iff_eq.mpr c18
                  clear c18
                  obtain rfl := Option.some.inj H
                  have hcz19_0 : wc.cell? ⟨gb191, 0, none⟩ = some (.int .i64 a0_0) := (blk_cell BK191.out 0).trans rfl
                  have hcz19_1 : wc.cell? ⟨gb191, 1, none⟩ = some (.int .u8 a0_1) := (blk_cell BK191.out 1).trans rfl
                  have hcz19_2 : wc.cell? ⟨gb191, 2, none⟩ = some (.slice A0_2 l0_2.length c0_2) := (blk_cell BK191.out 2).trans rfl
                  have hcz19_3 : wc.cell? ⟨gb191, 3, none⟩ = some (.string a0_3) := (blk_cell BK191.out 3).trans rfl
                  have hcz19_4 : wc.cell? ⟨gb191, 4, none⟩ = some (.int .u8 a0_4) := (blk_cell BK191.out 4).trans rfl
                  have hcz19_5 : wc.cell? ⟨gb191, 5, none⟩ = some (.string a0_5) := (blk_cell BK191.out 5).trans rfl
                  have hfz19_0 := blk_frozen BK191.out 0
                  have hfz19_1 := blk_frozen BK191.out 1
                  have hfz19_2 := blk_frozen BK191.out 2
                  have hfz19_3 := blk_frozen BK191.out 3
                  have hfz19_4 := blk_frozen BK191.out 4
                  have hfz19_5 := blk_frozen BK191.out 5
                  go_wp2
                  go_ret
                  exact ⟨by first | rfl | (simp [errW_none, errW_some] <;> rfl) | (simp [*, errW_none, errW_some] <;> rfl), by repeat (first | (with_reducible first | exact HB.out | apply below_alloc | apply pw_below_drewN | apply below_drew1 | refine below_set ?_ GE191.out) | exact HB.out)⟩
                · rw [if_neg c18] at H
                  have c18b0 : (a0_4 == 79) = false := beq_eq_false_iff_ne.mpr c18
                  have c18b1 : (a0_4 != 79) = true := bne_iff_ne.mpr c18
                  by_cases c20 : a0_4 = 80
                  · rw [if_pos c20] at H
                    have c20b0 : (a0_4 == 80) = true := beq_iff_eq.mpr c20
                    have c20b1 : (a0_4 != 80) = false := bne_eq_false_iff_eq.mpr c20
                    clear c20
                    obtain rfl := Option.some.inj H
                    have hcz21_0 : wc.cell? ⟨gb191, 0, none⟩ = some (.int .i64 a0_0) := (blk_cell BK191.out 0).trans rfl
                    have hcz21_1 : wc.cell? ⟨gb191, 1, none⟩ = some (.int .u8 a0_1) := (blk_cell BK191.out 1).trans rfl
                    have hcz21_2 : wc.cell? ⟨gb191, 2, none⟩ = some (.slice A0_2 l0_2.length c0_2) := (blk_cell BK191.out 2).trans rfl
                    have hcz21_3 : wc.cell? ⟨gb191, 3, none⟩ = some (.string a0_3) := (blk_cell BK191.out 3).trans rfl
                    have hcz21_4 : wc.cell? ⟨gb191, 4, none⟩ = some (.int .u8 a0_4) := (blk_cell BK191.out 4).trans rfl
                    have hcz21_5 : wc.cell? ⟨gb191, 5, none⟩ = some (.string a0_5) := (blk_cell BK191.out 5).trans rfl
                    have hfz21_0 := blk_frozen BK191.out 0
                    have hfz21_1 := blk_frozen BK191.out 1
                    have hfz21_2 := blk_frozen BK191.out 2
                    have hfz21_3 := blk_frozen BK191.out 3
                    have hfz21_4 := blk_frozen BK191.out 4
                    have hfz21_5 := blk_frozen BK191.out 5
                    go_wp2
                    go_ret
                    exact ⟨by first | rfl | (simp [errW_none, errW_some] <;> rfl) | (simp [*, errW_none, errW_some] <;> rfl), by repeat (first | (with_reducible first | exact HB.out | apply below_alloc | apply pw_below_drewN | apply below_drew1 | refine below_set ?_ GE191.out) | exact HB.out)⟩
                  · rw [if_neg c20] at H
                    have c20b0 : (a0_4 == 80) = false := beq_eq_false_iff_ne.mpr c20
                    have c20b1 : (a0_4 != 80) = true := bne_iff_ne.mpr c20
                    by_cases c22 : a0_4 = 88
                    · rw [if_pos c22] at H
                      have c22b0 : (a0_4 == 88) = true := beq_iff_eq.mpr c22
                      have c22b1 : (a0_4 != 88) = false := bne_eq_false_iff_eq.mpr c22
                      clear c22
                      obtain rfl := Option.some.inj H
                      have hcz23_0 : wc.cell? ⟨gb191, 0, none⟩ = some (.int .i64 a0_0) := (blk_cell BK191.out 0).trans rfl
                      have hcz23_1 : wc.cell? ⟨gb191, 1, none⟩ = some (.int .u8 a0_1) := (blk_cell BK191.out 1).trans rfl
                      have hcz23_2 : wc.cell? ⟨gb191, 2, none⟩ = some (.slice A0_2 l0_2.length c0_2) := (blk_cell BK191.out 2).trans rfl
                      have hcz23_3 : wc.cell? ⟨gb191, 3, none⟩ = some (.string a0_3) := (blk_cell BK191.out 3).trans rfl
                      have hcz23_4 : wc.cell? ⟨gb191, 4, none⟩ = some (.int .u8 a0_4) := (blk_cell BK191.out 4).trans rfl
                      have hcz23_5 : wc.cell? ⟨gb191, 5, none⟩ = some (.string a0_5) := (blk_cell BK191.out 5).trans rfl
                      have hfz23_0 := blk_frozen BK191.out 0
                      have hfz23_1 := blk_frozen BK191.out 1
                      have hfz23_2 := blk_frozen BK191.out 2
                      have hfz23_3 := blk_frozen BK191.out 3
                      have hfz23_4 := blk_frozen BK191.out 4
                      have hfz23_5 := blk_frozen BK191.out 5
                      go_wp2
                      go_ret
                      exact ⟨by first | rfl | (simp [errW_none, errW_some] <;> rfl) | (simp [*, errW_none, errW_some] <;> rfl), by repeat (first | (with_reducible first | exact HB.out | apply below_alloc | apply pw_below_drewN | apply below_drew1 | refine below_set ?_ GE191.out) | exact HB.out)⟩
                    · rw [if_neg c22] at H
                      have c22b0 : (a0_4 == 88) = false := beq_eq_false_iff_ne.mpr c22
                      have c22b1 : (a0_4 != 88) = true := bne_iff_ne.mpr c22
                      by_cases c24 : a0_4 = 91
                      · rw [if_pos c24] at H
                        have c24b0 : (a0_4 == 91) = true := beq_iff_eq.mpr c24
                        have c24b1 : (a0_4 != 91) = false := bne_eq_false_iff_eq.mpr c24
                        clear c24
                        obtain rfl := Option.some.inj H
                        have hcz25_0 : wc.cell? ⟨gb191, 0, none⟩ = some (.int .i64 a0_0) := (blk_cell BK191.out 0).trans rfl
                        have hcz25_1 : wc.cell? ⟨gb191, 1, none⟩ = some (.int .u8 a0_1) := (blk_cell BK191.out 1).trans rfl
                        have hcz25_2 : wc.cell? ⟨gb191, 2, none⟩ = some (.slice A0_2 l0_2.length c0_2) := (blk_cell BK191.out 2).trans rfl
                        have hcz25_3 : wc.cell? ⟨gb191, 3, none⟩ = some (.string a0_3) := (blk_cell BK191.out 3).trans rfl
                        have hcz25_4 : wc.cell? ⟨gb191, 4, none⟩ = some (.int .u8 a0_4) := (blk_cell BK191.out 4).trans rfl
                        have hcz25_5 : wc.cell? ⟨gb191, 5, none⟩ = some (.string a0_5) := (blk_cell BK191.out 5).trans rfl
                        have hfz25_0 := blk_frozen BK191.out 0
                        have hfz25_1 := blk_frozen BK191.out 1
                        have hfz25_2 := blk_frozen BK191.out 2
                        have hfz25_3 := blk_frozen BK191.out 3
                        have hfz25_4 := blk_frozen BK191.out 4
                        have hfz25_5 := blk_frozen BK191.out 5
                        go_wp2
                        go_ret
                        exact ⟨by first | rfl | (simp [errW_none, errW_some] <;> rfl) | (simp [*, errW_none, errW_some] <;> rfl), by repeat (first | (with_reducible first | exact HB.out | apply below_alloc | apply pw_below_drewN | apply below_drew1 | refine below_set ?_ GE191.out) | exact HB.out)⟩
                      · rw [if_neg c24] at H
                        have c24b0 : (a0_4 == 91) = false := beq_eq_false_iff_ne.mpr c24
                        have c24b1 : (a0_4 != 91) = true := bne_iff_ne.mpr c24
                        by_cases c26 : a0_4 = 93
                        · rw [if_pos c26] at H
                          have c26b0 : (a0_4 == 93) = true := beq_iff_eq.mpr c26
                          have c26b1 : (a0_4 != 93) = false := bne_eq_false_iff_eq.mpr c26
                          clear c26
                          obtain rfl := Option.some.inj H
                          have hcz27_0 : wc.cell? ⟨gb191, 0, none⟩ = some (.int .i64 a0_0) := (blk_cell BK191.out 0).trans rfl
                          have hcz27_1 : wc.cell? ⟨gb191, 1, none⟩ = some (.int .u8 a0_1) := (blk_cell BK191.out 1).trans rfl
                          have hcz27_2 : wc.cell? ⟨gb191, 2, none⟩ = some (.slice A0_2 l0_2.length c0_2) := (blk_cell BK191.out 2).trans rfl
                          have hcz27_3 : wc.cell? ⟨gb191, 3, none⟩ = some (.string a0_3) := (blk_cell BK191.out 3).trans rfl
                          have hcz27_4 : wc.cell? ⟨gb191, 4, none⟩ = some (.int .u8 a0_4) := (blk_cell BK191.out 4).trans rfl
                          have hcz27_5 : wc.cell? ⟨gb191, 5, none⟩ = some (.string a0_5) := (blk_cell BK191.out 5).trans rfl
                          have hfz27_0 := blk_frozen BK191.out 0
                          have hfz27_1 := blk_frozen BK191.out 1
                          have hfz27_2 := blk_frozen BK191.out 2
                          have hfz27_3 := blk_frozen BK191.out 3
                          have hfz27_4 := blk_frozen BK191.out 4
                          have hfz27_5 := blk_frozen BK191.out 5
                          go_wp2
                          go_ret
                          exact ⟨by first | rfl | (simp [errW_none, errW_some] <;> rfl) | (simp [*, errW_none, errW_some] <;> rfl), by repeat (first | (with_reducible first | exact HB.out | apply below_alloc | apply pw_below_drewN | apply below_drew1 | refine below_set ?_ GE191.out) | exact HB.out)⟩
                        · rw [if_neg c26] at H
                          have c26b0 : (a0_4 == 93) = false := beq_eq_false_iff_ne.mpr c26
                          have c26b1 : (a0_4 != 93) = true := bne_iff_ne.mpr c26
                          by_cases c28 : a0_4 = 92
                          · rw [if_pos c28] at H
                            have c28b0 : (a0_4 == 92) = true := beq_iff_eq.mpr c28
                            have c28b1 : (a0_4 != 92) = false := bne_eq_false_iff_eq.mpr c28
                            clear c28
                            obtain rfl := Option.some.inj H
                            have hcz29_0 : wc.cell? ⟨gb191, 0, none⟩ = some (.int .i64 a0_0) := (blk_cell BK191.out 0).trans rfl
                            have hcz29_1 : wc.cell? ⟨gb191, 1, none⟩ = some (.int .u8 a0_1) := (blk_cell BK191.out 1).trans rfl
                            have hcz29_2 : wc.cell? ⟨gb191, 2, none⟩ = some (.slice A0_2 l0_2.length c0_2) := (blk_cell BK191.out 2).trans rfl
                            have hcz29_3 : wc.cell? ⟨gb191, 3, none⟩ = some (.string a0_3) := (blk_cell BK191.out 3).trans rfl
                            have hcz29_4 : wc.cell? ⟨gb191, 4, none⟩ = some (.int .u8 a0_4) := (blk_cell BK191.out 4).trans rfl
                            have hcz29_5 : wc.cell? ⟨gb191, 5, none⟩ = some (.string a0_5) := (blk_cell BK191.out 5).trans rfl
                            have hfz29_0 := blk_frozen BK191.out 0
                            have hfz29_1 := blk_frozen BK191.out 1
                            have hfz29_2 := blk_frozen BK191.out 2
                            have hfz29_3 := blk_frozen BK191.out 3
                            have hfz29_4 := blk_frozen BK191.out 4
                            have hfz29_5 := blk_frozen BK191.out 5
                            go_wp2
                            go_ret
                            exact ⟨by first | rfl | (simp [errW_none, errW_some] <;> rfl) | (simp [*, errW_none, errW_some] <;> rfl), by repeat (first | (with_reducible first | exact HB.out | apply below_alloc | apply pw_below_drewN | apply below_drew1 | refine below_set ?_ GE191.out) | exact HB.out)⟩
                          · rw [if_neg c28] at H
                            have c28b0 : (a0_4 == 92) = false := beq_eq_false_iff_ne.mpr c28
                            have c28b1 : (a0_4 != 92) = true := bne_iff_ne.mpr c28
                            by_cases c30 : a0_4 = 94
                            · rw [if_pos c30] at H
                              have c30b0 : (a0_4 == 94) = true := beq_iff_eq.mpr c30
                              have c30b1 : (a0_4 != 94) = false := bne_eq_false_iff_eq.mpr c30
                              clear c30
                              obtain rfl := Option.some.inj H
                              have hcz31_0 : wc.cell? ⟨gb191, 0, none⟩ = some (.int .i64 a0_0) := (blk_cell BK191.out 0).trans rfl
                              have hcz31_1 : wc.cell? ⟨gb191, 1, none⟩ = some (.int .u8 a0_1) := (blk_cell BK191.out 1).trans rfl
                              have hcz31_2 : wc.cell? ⟨gb191, 2, none⟩ = some (.slice A0_2 l0_2.length c0_2) := (blk_cell BK191.out 2).trans rfl
                              have hcz31_3 : wc.cell? ⟨gb191, 3, none⟩ = some (.string a0_3) := (blk_cell BK191.out 3).trans rfl
                              have hcz31_4 : wc.cell? ⟨gb191, 4, none⟩ = some (.int .u8 a0_4) := (blk_cell BK191.out 4).trans rfl
                              have hcz31_5 : wc.cell? ⟨gb191, 5, none⟩ = some (.string a0_5) := (blk_cell BK191.out 5).trans rfl
                              have hfz31_0 := blk_frozen BK191.out 0
                              have hfz31_1 := blk_frozen BK191.out 1
                              have hfz31_2 := blk_frozen BK191.out 2
                              have hfz31_3 := blk_frozen BK191.out 3
                              have hfz31_4 := blk_frozen BK191.out 4
                              have hfz31_5 := blk_frozen BK191.out 5
                              go_wp2
                              go_ret
                              exact ⟨by first | rfl | (simp [errW_none, errW_some] <;> rfl) | (simp [*, errW_none, errW_some] <;> rfl), by repeat (first | (with_reducible first | exact HB.out | apply below_alloc | apply pw_below_drewN | apply below_drew1 | refine below_set ?_ GE191.out) | exact HB.out)⟩
                            · rw [if_neg c30] at H
                              have c30b0 : (a0_4 == 94) = false := beq_eq_false_iff_ne.mpr c30
                              have c30b1 : (a0_4 != 94) = true := bne_iff_ne.mpr c30
                              obtain rfl := Option.some.inj H
                              have hcz32_0 : wc.cell? ⟨gb191, 0, none⟩ = some (.int .i64 a0_0) := (blk_cell BK191.out 0).trans rfl
                              have hcz32_1 : wc.cell? ⟨gb191, 1, none⟩ = some (.int .u8 a0_1) := (blk_cell BK191.out 1).trans rfl
                              have hcz32_2 : wc.cell? ⟨gb191, 2, none⟩ = some (.slice A0_2 l0_2.length c0_2) := (blk_cell BK191.out 2).trans rfl
                              have hcz32_3 : wc.cell? ⟨gb191, 3, none⟩ = some (.string a0_3) := (blk_cell BK191.out 3).trans rfl
                              have hcz32_4 : wc.cell? ⟨gb191, 4, none⟩ = some (.int .u8 a0_4) := (blk_cell BK191.out 4).trans rfl
                              have hcz32_5 : wc.cell? ⟨gb191, 5, none⟩ = some (.string a0_5) := (blk_cell BK191.out 5).trans rfl
                              have hfz32_0 := blk_frozen BK191.out 0
                              have hfz32_1 := blk_frozen BK191.out 1
                              have hfz32_2 := blk_frozen BK191.out 2
                              have hfz32_3 := blk_frozen BK191.out 3
                              have hfz32_4 := blk_frozen BK191.out 4
                              have hfz32_5 := blk_frozen BK191.out 5
                              go_wp2
                              go_ret
                              exact ⟨by first | rfl | (simp [errW_none, errW_some] <;> rfl) | (simp [*, errW_none, errW_some] <;> rfl), by repeat (first | (with_reducible first | exact HB.out | apply below_alloc | apply pw_below_drewN | apply below_drew1 | refine below_set ?_ GE191.out) | exact HB.out)⟩
        · rw [if_neg c11] at H
          have c11b0 : (a0_0 == 5) = false := beq_eq_false_iff_ne.mpr c11
          have c11b1 : (a0_0 != 5) = true := bne_iff_ne.mpr c11
          by_cases c33 : a0_0 = 4
          · rw [if_pos c33] at H
            have c33b0 : (a0_0 == 4) = true := beq_iff_eq.mpr c33
            have c33b1 : (a0_0 != 4) = false := bne_eq_false_iff_eq.mpr c33
            clear c33
            obtain rfl := Option.some.inj H
            have hcz34_0 : wc.cell? ⟨gb191, 0, none⟩ = some (.int .i64 a0_0) := (blk_cell BK191.out 0).trans rfl
            have hcz34_1 : wc.cell? ⟨gb191, 1, none⟩ = some (.int .u8 a0_1) := (blk_cell BK191.out 1).trans rfl
            have hcz34_2 : wc.cell? ⟨gb191, 2, none⟩ = some (.slice A0_2 l0_2.length c0_2) := (blk_cell BK191.out 2).trans rfl
            have hcz34_3 : wc.cell? ⟨gb191, 3, none⟩ = some (.string a0_3) := (blk_cell BK191.out 3).trans rfl
            have hcz34_4 : wc.cell? ⟨gb191, 4, none⟩ = some (.int .u8 a0_4) := (blk_cell BK191.out 4).trans rfl
            have hcz34_5 : wc.cell? ⟨gb191, 5, none⟩ = some (.string a0_5) := (blk_cell BK191.out 5).trans rfl
            have hfz34_0 := blk_frozen BK191.out 0
            have hfz34_1 := blk_frozen BK191.out 1
            have hfz34_2 := blk_frozen BK191.out 2
            have hfz34_3 := blk_frozen BK191.out 3
            have hfz34_4 := blk_frozen BK191.out 4
            have hfz34_5 := blk_frozen BK191.out 5
            go_wp2
            go_ret
            exact ⟨by first | rfl | (simp [errW_none, errW_some] <;> rfl) | (simp [*, errW_none, errW_some] <;> rfl), by repeat (first | (with_reducible first | exact HB.out | apply below_alloc | apply pw_below_drewN | apply below_drew1 | refine below_set ?_ GE191.out) | exact HB.out)⟩
          · rw [if_neg c33] at H
            have c33b0 : (a0_0 == 4) = false := beq_eq_false_iff_ne.mpr c33
            have c33b1 : (a0_0 != 4) = true := bne_iff_ne.mpr c33
            obtain rfl := Option.some.inj H
            have hcz35_0 : wc.cell? ⟨gb191, 0, none⟩ = some (.int .i64 a0_0) := (blk_cell BK191.out 0).trans rfl
            have hcz35_1 : wc.cell? ⟨gb191, 1, none⟩ = some (.int .u8 a0_1) := (blk_cell BK191.out 1).trans rfl
            have hcz35_2 : wc.cell? ⟨gb191, 2, none⟩ = some (.slice A0_2 l0_2.length c0_2) := (blk_cell BK191.out 2).trans rfl
            have hcz35_3 : wc.cell? ⟨gb191, 3, none⟩ = some (.string a0_3) := (blk_cell BK191.out 3).trans rfl
            have hcz35_4 : wc.cell? ⟨gb191, 4, none⟩ = some (.int .u8 a0_4) := (blk_cell BK191.out 4).trans rfl
            have hcz35_5 : wc.cell? ⟨gb191, 5, none⟩ = some (.string a0_5) := (blk_cell BK191.out 5).trans rfl
            have hfz35_0 := blk_frozen BK191.out 0
            have hfz35_1 := blk_frozen BK191.out 1
            have hfz35_2 := blk_frozen BK191.out 2
            have hfz35_3 := blk_frozen BK191.out 3
            have hfz35_4 := blk_frozen BK191.out 4
            have hfz35_5 := blk_frozen BK191.out 5
            go_wp2
            go_ret
            exact ⟨by first | rfl | (simp [errW_none, errW_some] <;> rfl) | (simp [*, errW_none, errW_some] <;> rfl), by repeat (first | (with_reducible first | exact HB.out | apply below_alloc | apply pw_below_drewN | apply below_drew1 | refine below_set ?_ GE191.out) | exact HB.out)⟩
end Go.Proofs.YtclnanhgcnopdaaDoor.G
end
section
namespace Go.Proofs.YtclnanhgcnopdaaDoor.G
open Go.RowKit Go.Proofs.YtclnanhgcnopdaaDoorW.PrintWords Go.Proofs.YtclnanhgcnopdaaDoorW.PrintLast Go.Proofs.YtclnanhgcnopdaaDoorW.PrintMore
attribute [local go_sem] max2_int min2_int max_two min_two max_three min_three max_four min_four
set_option linter.unusedVariables false
set_option linter.unusedSimpArgs false
mutual
def clavierref03_bare.j0 : Nat → Bool → Int → Int → List (List Int) → ByteArray → Int → ByteArray → Option (Bool)
  | 0, _, _, _, _, _, _, _ => none
  | k + 1, x3, x193000, x193001, x193002, x193003, x193004, x193005 => if x3 = true then (if x193001 = 0 then (clavierref03_bare.j1 k (decide ((x193002.length : Int) > 0)) x193000 x193001 x193002 x193003 x193004 x193005) else (clavierref03_bare.j1 k true x193000 x193001 x193002 x193003 x193004 x193005)) else (clavierref03_bare.j1 k false x193000 x193001 x193002 x193003 x193004 x193005)
def clavierref03_bare.j1 : Nat → Bool → Int → Int → List (List Int) → ByteArray → Int → ByteArray → Option (Bool)
  | 0, _, _, _, _, _, _, _ => none
  | k + 1, x28, x193000, x193001, x193002, x193003, x193004, x193005 => if x28 = true then (some false) else (if x193000 = 2 then (if x193003.toList = ([] : List UInt8) then (if x193005.toList = ([] : List UInt8) then (some true) else (if x193000 = 3 then (some true) else (some (x193000 == 4)))) else (some false)) else (if x193000 = 4 then (if x193003.toList = ([] : List UInt8) then (if x193005.toList = ([] : List UInt8) then (some true) else (if x193000 = 3 then (some true) else (some (x193000 == 4)))) else (some false)) else (if x193005.toList = ([] : List UInt8) then (some true) else (if x193000 = 3 then (some true) else (some (x193000 == 4))))))
end
def clavierref03_bare.f (k : Nat) (a0_0 : Int) (a0_1 : Int) (l0_2 : List (List Int)) (a0_3 : ByteArray) (a0_4 : Int) (a0_5 : ByteArray) : Option (Bool) := if a0_0 = 2 then (clavierref03_bare.j0 k true a0_0 a0_1 l0_2 a0_3 a0_4 a0_5) else (if a0_0 = 4 then (clavierref03_bare.j0 k true a0_0 a0_1 l0_2 a0_3 a0_4 a0_5) else (clavierref03_bare.j0 k (a0_0 == 5) a0_0 a0_1 l0_2 a0_3 a0_4 a0_5))
theorem clavierref03_bare.mono_l : ∀ k, (∀ y0 y1 y2 y3 y4 y5 y6, LeO (clavierref03_bare.j0 k y0 y1 y2 y3 y4 y5 y6) (clavierref03_bare.j0 (k + 1) y0 y1 y2 y3 y4 y5 y6)) ∧ (∀ y0 y1 y2 y3 y4 y5 y6, LeO (clavierref03_bare.j1 k y0 y1 y2 y3 y4 y5 y6) (clavierref03_bare.j1 (k + 1) y0 y1 y2 y3 y4 y5 y6))
  | 0 => ⟨fun _ _ _ _ _ _ _ r h => by simp [clavierref03_bare.j0] at h, fun _ _ _ _ _ _ _ r h => by simp [clavierref03_bare.j1] at h⟩
  | k + 1 => by
    obtain ⟨ih0, ih1⟩ := clavierref03_bare.mono_l k
    refine ⟨?_, ?_⟩
    · intro y0 y1 y2 y3 y4 y5 y6
      unfold clavierref03_bare.j0
      repeat' first
      | (with_reducible exact ih0 _ _ _ _ _ _ _)
      | (with_reducible exact ih1 _ _ _ _ _ _ _)
      | (with_reducible exact LeO.refl _)
      | (with_reducible exact LeO.none _)
      | (with_reducible refine LeO.ite ?_ ?_)
      | (with_reducible refine LeO.bind ?_ (fun _ => ?_))
      | exact ih0 _ _ _ _ _ _ _
      | exact ih1 _ _ _ _ _ _ _
      | exact LeO.none _
      | refine LeO.ite ?_ ?_
      | refine LeO.bind ?_ (fun _ => ?_)
    · intro y0 y1 y2 y3 y4 y5 y6
      unfold clavierref03_bare.j1
      repeat' first
      | (with_reducible exact ih0 _ _ _ _ _ _ _)
      | (with_reducible exact ih1 _ _ _ _ _ _ _)
      | (with_reducible exact LeO.refl _)
      | (with_reducible exact LeO.none _)
      | (with_reducible refine LeO.ite ?_ ?_)
      | (with_reducible refine LeO.bind ?_ (fun _ => ?_))
      | exact ih0 _ _ _ _ _ _ _
      | exact ih1 _ _ _ _ _ _ _
      | exact LeO.none _
      | refine LeO.ite ?_ ?_
      | refine LeO.bind ?_ (fun _ => ?_)
theorem clavierref03_bare.mono : ∀ a0 a1 a2 a3 a4 a5 k, LeO (clavierref03_bare.f k a0 a1 a2 a3 a4 a5) (clavierref03_bare.f (k + 1) a0 a1 a2 a3 a4 a5) := by
  intro a0 a1 a2 a3 a4 a5 k
  obtain ⟨ih0, ih1⟩ := clavierref03_bare.mono_l k
  unfold clavierref03_bare.f
  repeat' first
      | (with_reducible exact ih0 _ _ _ _ _ _ _)
      | (with_reducible exact ih1 _ _ _ _ _ _ _)
      | (with_reducible exact LeO.refl _)
      | (with_reducible exact LeO.none _)
      | (with_reducible refine LeO.ite ?_ ?_)
      | (with_reducible refine LeO.bind ?_ (fun _ => ?_))
      | exact ih0 _ _ _ _ _ _ _
      | exact ih1 _ _ _ _ _ _ _
      | exact LeO.none _
      | refine LeO.ite ?_ ?_
      | refine LeO.bind ?_ (fun _ => ?_)
set_option maxHeartbeats 8000000 in
set_option maxRecDepth 100000 in
theorem clavierref03_bare.calls (k : Nat) (a0_0 : Int) (a0_1 : Int) (A0_2 : Option Addr) (c0_2 : Nat) (l0_2 : List (List Int)) (a0_3 : ByteArray) (a0_4 : Int) (a0_5 : ByteArray) (r : Bool) (w : World) (hr0_2 : Kd.C (Kd.slice 3 (Kd.int .i64)) w A0_2 l0_2.length l0_2) (hc0_2 : l0_2.length ≤ c0_2) (h : clavierref03_bare.f k a0_0 a0_1 l0_2 a0_3 a0_4 a0_5 = some r) :
    Calls Tryd.prog 31 #[.agg #[.int .i64 a0_0, .int .u8 a0_1, .slice A0_2 l0_2.length c0_2, .string a0_3, .int .u8 a0_4, .string a0_5]] w fun e w' => e = .returned (.bool r) ∧ Below w.heap.size w w' := by
  have hu28 := Tryd.underlying28
  have HR0_2 := Aside0.mk hr0_2
  have HC0_2 := Aside0.mk hc0_2
  clear hr0_2 hc0_2
  have HB := Aside0.mk (Below.refl w.heap.size w)
  have H : (if a0_0 = 2 then (clavierref03_bare.j0 k true a0_0 a0_1 l0_2 a0_3 a0_4 a0_5) else (if a0_0 = 4 then (clavierref03_bare.j0 k true a0_0 a0_1 l0_2 a0_3 a0_4 a0_5) else (clavierref03_bare.j0 k (a0_0 == 5) a0_0 a0_1 l0_2 a0_3 a0_4 a0_5))) = some r := h
  clear h
  have HC2 := Aside0.mk H
  clear H
  go_enter Tryd.func31, Tryd.ntmps31
  go_upto_region 1 with (first | ((with_reducible refine gate_dst (N := 1) rfl ?_); (try (refine gate_guard (by rfl) ?_; dsimp only)); refine box_event ?hg (N := 1) ?hd (cs := #[.int .i64 a0_0, .int .u8 a0_1, .slice A0_2 l0_2.length c0_2, .string a0_3, .int .u8 a0_4, .string a0_5]) (t := 28) ?hr ?_; (case hd => rfl); (case hg => rfl); (case hr => first | (go_simp; done) | (go_simp; rfl)); intro gb192 hg w3 hbox hb; have n0_ := Aside0.mk (below_step (by repeat (first | (with_reducible first | exact HB.out | apply below_alloc | apply pw_below_drewN | apply below_drew1) | exact HB.out)) hb); have n1_ := Aside0.mk (hbox); have n2_ := Aside0.mk ((by rw [hg]; exact (below_size (by repeat (first | (with_reducible first | exact HB.out | apply below_alloc | apply pw_below_drewN | apply below_drew1) | exact HB.out))) : w.heap.size ≤ gb192)); have n3_ := Aside0.mk ((by rw [hg]; exact (below_size (by repeat (first | (with_reducible first | exact HB.out | apply below_alloc | apply pw_below_drewN | apply below_drew1) | exact HB.out))) : w.heap.size ≤ gb192)); clear HB; have HB := n0_; have BK192 := n1_; have GW192 := n2_; have GE192 := n3_; clear n0_ n1_ n2_ n3_; clear hb hbox hg))
  (try simp only [Act.put, List.setIfInBounds_toArray, List.set_cons_zero, List.set_cons_succ])
  go_cut [3] (fun v3 wc => ∃ (kq : Nat) (x3_1 : Bool), v3 = .bool x3_1 ∧ Aside0 (clavierref03_bare.j0 kq x3_1 a0_0 a0_1 l0_2 a0_3 a0_4 a0_5 = some r) ∧ Aside0 (kq ≤ k) ∧ Aside0 (wc.heap[gb192]? = some (.cells #[.int .i64 a0_0, .int .u8 a0_1, (.slice A0_2 l0_2.length c0_2), .string a0_3, .int .u8 a0_4, .string a0_5] 28 (0, 0))) ∧ Aside0 (Below w.heap.size w wc))
  case first =>
    have H := HC2.out
    clear HC2
    by_cases c4 : a0_0 = 2
    · rw [if_pos c4] at H
      have c4b0 : (a0_0 == 2) = true := beq_iff_eq.mpr c4
      have c4b1 : (a0_0 != 2) = false := bne_eq_false_iff_eq.mpr c4
      clear c4
      (first | rw [c4b0] | (simp only [i64_w, i32_w]; rw [c4b0]) | skip)
      have H' := Aside0.mk H
      clear H
      have hcz5_0 : w3.cell? ⟨gb192, 0, none⟩ = some (.int .i64 a0_0) := (blk_cell BK192.out 0).trans rfl
      have hcz5_1 : w3.cell? ⟨gb192, 1, none⟩ = some (.int .u8 a0_1) := (blk_cell BK192.out 1).trans rfl
      have hcz5_2 : w3.cell? ⟨gb192, 2, none⟩ = some (.slice A0_2 l0_2.length c0_2) := (blk_cell BK192.out 2).trans rfl
      have hcz5_3 : w3.cell? ⟨gb192, 3, none⟩ = some (.string a0_3) := (blk_cell BK192.out 3).trans rfl
      have hcz5_4 : w3.cell? ⟨gb192, 4, none⟩ = some (.int .u8 a0_4) := (blk_cell BK192.out 4).trans rfl
      have hcz5_5 : w3.cell? ⟨gb192, 5, none⟩ = some (.string a0_5) := (blk_cell BK192.out 5).trans rfl
      have hfz5_0 := blk_frozen BK192.out 0
      have hfz5_1 := blk_frozen BK192.out 1
      have hfz5_2 := blk_frozen BK192.out 2
      have hfz5_3 := blk_frozen BK192.out 3
      have hfz5_4 := blk_frozen BK192.out 4
      have hfz5_5 := blk_frozen BK192.out 5
      go_wp2
      go_meet
      case rel => exact ⟨_, (true), (by first | rfl | (simp; done) | (simp [*]; done)), H', ⟨by first | omega | exact Nat.le_refl _⟩, ⟨by (with_reducible repeat (first | refine blk_drewN ?_ _ | refine blk_drew ?_ | refine blk_alloc ?_ _)); exact BK192.out⟩, ⟨by repeat (first | (with_reducible first | exact HB.out | apply below_alloc | apply pw_below_drewN | apply below_drew1 | refine below_set ?_ GE192.out) | exact HB.out)⟩⟩
    · rw [if_neg c4] at H
      have c4b0 : (a0_0 == 2) = false := beq_eq_false_iff_ne.mpr c4
      have c4b1 : (a0_0 != 2) = true := bne_iff_ne.mpr c4
      (first | rw [c4b0] | (simp only [i64_w, i32_w]; rw [c4b0]) | skip)
      by_cases c6 : a0_0 = 4
      · rw [if_pos c6] at H
        have c6b0 : (a0_0 == 4) = true := beq_iff_eq.mpr c6
        have c6b1 : (a0_0 != 4) = false := bne_eq_false_iff_eq.mpr c6
        clear c6
        have H' := Aside0.mk H
        clear H
        have hcz7_0 : w3.cell? ⟨gb192, 0, none⟩ = some (.int .i64 a0_0) := (blk_cell BK192.out 0).trans rfl
        have hcz7_1 : w3.cell? ⟨gb192, 1, none⟩ = some (.int .u8 a0_1) := (blk_cell BK192.out 1).trans rfl
        have hcz7_2 : w3.cell? ⟨gb192, 2, none⟩ = some (.slice A0_2 l0_2.length c0_2) := (blk_cell BK192.out 2).trans rfl
        have hcz7_3 : w3.cell? ⟨gb192, 3, none⟩ = some (.string a0_3) := (blk_cell BK192.out 3).trans rfl
        have hcz7_4 : w3.cell? ⟨gb192, 4, none⟩ = some (.int .u8 a0_4) := (blk_cell BK192.out 4).trans rfl
        have hcz7_5 : w3.cell? ⟨gb192, 5, none⟩ = some (.string a0_5) := (blk_cell BK192.out 5).trans rfl
        have hfz7_0 := blk_frozen BK192.out 0
        have hfz7_1 := blk_frozen BK192.out 1
        have hfz7_2 := blk_frozen BK192.out 2
        have hfz7_3 := blk_frozen BK192.out 3
        have hfz7_4 := blk_frozen BK192.out 4
        have hfz7_5 := blk_frozen BK192.out 5
        go_wp2
        go_meet
        case rel => exact ⟨_, (true), (by first | rfl | (simp; done) | (simp [*]; done)), H', ⟨by first | omega | exact Nat.le_refl _⟩, ⟨by (with_reducible repeat (first | refine blk_drewN ?_ _ | refine blk_drew ?_ | refine blk_alloc ?_ _)); exact BK192.out⟩, ⟨by repeat (first | (with_reducible first | exact HB.out | apply below_alloc | apply pw_below_drewN | apply below_drew1 | refine below_set ?_ GE192.out) | exact HB.out)⟩⟩
      · rw [if_neg c6] at H
        have c6b0 : (a0_0 == 4) = false := beq_eq_false_iff_ne.mpr c6
        have c6b1 : (a0_0 != 4) = true := bne_iff_ne.mpr c6
        have H' := Aside0.mk H
        clear H
        have hcz8_0 : w3.cell? ⟨gb192, 0, none⟩ = some (.int .i64 a0_0) := (blk_cell BK192.out 0).trans rfl
        have hcz8_1 : w3.cell? ⟨gb192, 1, none⟩ = some (.int .u8 a0_1) := (blk_cell BK192.out 1).trans rfl
        have hcz8_2 : w3.cell? ⟨gb192, 2, none⟩ = some (.slice A0_2 l0_2.length c0_2) := (blk_cell BK192.out 2).trans rfl
        have hcz8_3 : w3.cell? ⟨gb192, 3, none⟩ = some (.string a0_3) := (blk_cell BK192.out 3).trans rfl
        have hcz8_4 : w3.cell? ⟨gb192, 4, none⟩ = some (.int .u8 a0_4) := (blk_cell BK192.out 4).trans rfl
        have hcz8_5 : w3.cell? ⟨gb192, 5, none⟩ = some (.string a0_5) := (blk_cell BK192.out 5).trans rfl
        have hfz8_0 := blk_frozen BK192.out 0
        have hfz8_1 := blk_frozen BK192.out 1
        have hfz8_2 := blk_frozen BK192.out 2
        have hfz8_3 := blk_frozen BK192.out 3
        have hfz8_4 := blk_frozen BK192.out 4
        have hfz8_5 := blk_frozen BK192.out 5
        go_wp2
        go_meet
        case rel => exact ⟨_, ((a0_0 == 5)), (by first | rfl | (simp; done) | (simp [*]; done)), H', ⟨by first | omega | exact Nat.le_refl _⟩, ⟨by (with_reducible repeat (first | refine blk_drewN ?_ _ | refine blk_drew ?_ | refine blk_alloc ?_ _)); exact BK192.out⟩, ⟨by repeat (first | (with_reducible first | exact HB.out | apply below_alloc | apply pw_below_drewN | apply below_drew1 | refine below_set ?_ GE192.out) | exact HB.out)⟩⟩
  case rest =>
    clear HC2
    try clear p2
    try clear c3
    try clear c4
    try clear c4b0
    try clear c4b1
    try clear c6
    try clear c6b0
    try clear c6b1
    try clear hcz5_0
    try clear hcz5_1
    try clear hcz5_2
    try clear hcz5_3
    try clear hcz5_4
    try clear hcz5_5
    try clear hcz7_0
    try clear hcz7_1
    try clear hcz7_2
    try clear hcz7_3
    try clear hcz7_4
    try clear hcz7_5
    try clear hcz8_0
    try clear hcz8_1
    try clear hcz8_2
    try clear hcz8_3
    try clear hcz8_4
    try clear hcz8_5
    try clear hfz5_0
    try clear hfz5_1
    try clear hfz5_2
    try clear hfz5_3
    try clear hfz5_4
    try clear hfz5_5
    try clear hfz7_0
    try clear hfz7_1
    try clear hfz7_2
    try clear hfz7_3
    try clear hfz7_4
    try clear hfz7_5
    try clear hfz8_0
    try clear hfz8_1
    try clear hfz8_2
    try clear hfz8_3
    try clear hfz8_4
    try clear hfz8_5
    obtain ⟨kq, x3_1, rfl, HA, HJ1, BK192, HB⟩ := hcut
    cases kq with
    | zero => exact absurd HA.out (by simp [clavierref03_bare.j0])
    | succ kj1 =>
      have H := HA.out
      clear HA
      simp only [clavierref03_bare.j0] at H
      have HC9 := Aside0.mk H
      clear H
      go_upto_region 2 with (fail)
      go_cut [28] (fun v28 wc => ∃ (kq : Nat) (x28_8 : Bool), v28 = .bool x28_8 ∧ Aside0 (clavierref03_bare.j1 kq x28_8 a0_0 a0_1 l0_2 a0_3 a0_4 a0_5 = some r) ∧ Aside0 (kq ≤ kj1) ∧ Aside0 (wc.heap[gb192]? = some (.cells #[.int .i64 a0_0, .int .u8 a0_1, (.slice A0_2 l0_2.length c0_2), .string a0_3, .int .u8 a0_4, .string a0_5] 28 (0, 0))) ∧ Aside0 (Below w.heap.size w wc))
      case first =>
        have H := HC9.out
        clear HC9
        by_cases c10 : x3_1 = true
        · subst c10
          have H1 : (if a0_1 = 0 then (clavierref03_bare.j1 kj1 (decide ((l0_2.length : Int) > 0)) a0_0 a0_1 l0_2 a0_3 a0_4 a0_5) else (clavierref03_bare.j1 kj1 true a0_0 a0_1 l0_2 a0_3 a0_4 a0_5)) = some r := by rw [if_pos rfl] at H; exact H
          clear H
          have H := H1
          clear H1
          by_cases c11 : a0_1 = 0
          · rw [if_pos c11] at H
            have c11b0 : (a0_1 == 0) = true := beq_iff_eq.mpr c11
            have c11b1 : (a0_1 != 0) = false := bne_eq_false_iff_eq.mpr c11
            clear c11
            (first | rw [c11b0] | (simp only [i64_w, i32_w]; rw [c11b0]) | skip)
            have H' := Aside0.mk H
            clear H
            have hcz12_0 : wc.cell? ⟨gb192, 0, none⟩ = some (.int .i64 a0_0) := (blk_cell BK192.out 0).trans rfl
            have hcz12_1 : wc.cell? ⟨gb192, 1, none⟩ = some (.int .u8 a0_1) := (blk_cell BK192.out 1).trans rfl
            have hcz12_2 : wc.cell? ⟨gb192, 2, none⟩ = some (.slice A0_2 l0_2.length c0_2) := (blk_cell BK192.out 2).trans rfl
            have hcz12_3 : wc.cell? ⟨gb192, 3, none⟩ = some (.string a0_3) := (blk_cell BK192.out 3).trans rfl
            have hcz12_4 : wc.cell? ⟨gb192, 4, none⟩ = some (.int .u8 a0_4) := (blk_cell BK192.out 4).trans rfl
            have hcz12_5 : wc.cell? ⟨gb192, 5, none⟩ = some (.string a0_5) := (blk_cell BK192.out 5).trans rfl
            have hfz12_0 := blk_frozen BK192.out 0
            have hfz12_1 := blk_frozen BK192.out 1
            have hfz12_2 := blk_frozen BK192.out 2
            have hfz12_3 := blk_frozen BK192.out 3
            have hfz12_4 := blk_frozen BK192.out 4
            have hfz12_5 := blk_frozen BK192.out 5
            go_wp2
            go_meet
            case rel => exact ⟨_, (decide ((l0_2.length : Int) > 0)), (by first | rfl | (simp; done) | (simp [*]; done)), H', ⟨by have := HJ1.out; first | omega | exact Nat.le_refl _⟩, ⟨by (with_reducible repeat (first | refine blk_drewN ?_ _ | refine blk_drew ?_ | refine blk_alloc ?_ _)); exact BK192.out⟩, ⟨by repeat (first | (with_reducible first | exact HB.out | apply below_alloc | apply pw_below_drewN | apply below_drew1 | refine below_set ?_ GE192.out) | exact HB.out)⟩⟩
          · rw [if_neg c11] at H
            have c11b0 : (a0_1 == 0) = false := beq_eq_false_iff_ne.mpr c11
            have c11b1 : (a0_1 != 0) = true := bne_iff_ne.mpr c11
            (first | rw [c11b0] | (simp only [i64_w, i32_w]; rw [c11b0]) | skip)
            have H' := Aside0.mk H
            clear H
            have hcz13_0 : wc.cell? ⟨gb192, 0, none⟩ = some (.int .i64 a0_0) := (blk_cell BK192.out 0).trans rfl
            have hcz13_1 : wc.cell? ⟨gb192, 1, none⟩ = some (.int .u8 a0_1) := (blk_cell BK192.out 1).trans rfl
            have hcz13_2 : wc.cell? ⟨gb192, 2, none⟩ = some (.slice A0_2 l0_2.length c0_2) := (blk_cell BK192.out 2).trans rfl
            have hcz13_3 : wc.cell? ⟨gb192, 3, none⟩ = some (.string a0_3) := (blk_cell BK192.out 3).trans rfl
            have hcz13_4 : wc.cell? ⟨gb192, 4, none⟩ = some (.int .u8 a0_4) := (blk_cell BK192.out 4).trans rfl
            have hcz13_5 : wc.cell? ⟨gb192, 5, none⟩ = some (.string a0_5) := (blk_cell BK192.out 5).trans rfl
            have hfz13_0 := blk_frozen BK192.out 0
            have hfz13_1 := blk_frozen BK192.out 1
            have hfz13_2 := blk_frozen BK192.out 2
            have hfz13_3 := blk_frozen BK192.out 3
            have hfz13_4 := blk_frozen BK192.out 4
            have hfz13_5 := blk_frozen BK192.out 5
            go_wp2
            go_meet
            case rel => exact ⟨_, (true), (by first | rfl | (simp; done) | (simp [*]; done)), H', ⟨by have := HJ1.out; first | omega | exact Nat.le_refl _⟩, ⟨by (with_reducible repeat (first | refine blk_drewN ?_ _ | refine blk_drew ?_ | refine blk_alloc ?_ _)); exact BK192.out⟩, ⟨by repeat (first | (with_reducible first | exact HB.out | apply below_alloc | apply pw_below_drewN | apply below_drew1 | refine below_set ?_ GE192.out) | exact HB.out)⟩⟩
        · replace c10 := Bool.eq_false_iff.mpr c10
          subst c10
          have H1 : (clavierref03_bare.j1 kj1 false a0_0 a0_1 l0_2 a0_3 a0_4 a0_5) = some r := by rw [if_neg (show ¬ (false = true) by decide)] at H; exact H
          clear H
          have H := H1
          clear H1
          have H' := Aside0.mk H
          clear H
          go_wp2
          go_meet
          case rel => exact ⟨_, (false), (by first | rfl | (simp; done) | (simp [*]; done)), H', ⟨by have := HJ1.out; first | omega | exact Nat.le_refl _⟩, ⟨by (with_reducible repeat (first | refine blk_drewN ?_ _ | refine blk_drew ?_ | refine blk_alloc ?_ _)); exact BK192.out⟩, ⟨by repeat (first | (with_reducible first | exact HB.out | apply below_alloc | apply pw_below_drewN | apply below_drew1 | refine below_set ?_ GE192.out) | exact HB.out)⟩⟩
      case rest =>
        clear HC9
        try clear c1
        try clear p2
        try clear c3
        try clear c4
        try clear c4b0
        try clear c4b1
        try clear c6
        try clear c6b0
        try clear c6b1
        try clear c10
        try clear c11
        try clear c11b0
        try clear c11b1
        try clear hcz12_0
        try clear hcz12_1
        try clear hcz12_2
        try clear hcz12_3
        try clear hcz12_4
        try clear hcz12_5
        try clear hcz13_0
        try clear hcz13_1
        try clear hcz13_2
        try clear hcz13_3
        try clear hcz13_4
        try clear hcz13_5
        try clear hcz5_0
        try clear hcz5_1
        try clear hcz5_2
        try clear hcz5_3
        try clear hcz5_4
        try clear hcz5_5
        try clear hcz7_0
        try clear hcz7_1
        try clear hcz7_2
        try clear hcz7_3
        try clear hcz7_4
        try clear hcz7_5
        try clear hcz8_0
        try clear hcz8_1
        try clear hcz8_2
        try clear hcz8_3
        try clear hcz8_4
        try clear hcz8_5
        try clear hfz12_0
        try clear hfz12_1
        try clear hfz12_2
        try clear hfz12_3
        try clear hfz12_4
        try clear hfz12_5
        try clear hfz13_0
        try clear hfz13_1
        try clear hfz13_2
        try clear hfz13_3
        try clear hfz13_4
        try clear hfz13_5
        try clear hfz5_0
        try clear hfz5_1
        try clear hfz5_2
        try clear hfz5_3
        try clear hfz5_4
        try clear hfz5_5
        try clear hfz7_0
        try clear hfz7_1
        try clear hfz7_2
        try clear hfz7_3
        try clear hfz7_4
        try clear hfz7_5
        try clear hfz8_0
        try clear hfz8_1
        try clear hfz8_2
        try clear hfz8_3
        try clear hfz8_4
        try clear hfz8_5
        try clear p2
        obtain ⟨kq, x28_8, rfl, HA, HJ8, BK192, HB⟩ := hcut
        cases kq with
        | zero => exact absurd HA.out (by simp [clavierref03_bare.j1])
        | succ kj8 =>
          have H := HA.out
          clear HA
          simp only [clavierref03_bare.j1] at H
          by_cases c14 : x28_8 = true
          · subst c14
            have H1 : (some false) = some r := by rw [if_pos rfl] at H; exact H
            clear H
            have H := H1
            clear H1
            obtain rfl := Option.some.inj H
            go_wp2
            go_ret
            exact ⟨by first | rfl | (simp [errW_none, errW_some] <;> rfl) | (simp [*, errW_none, errW_some] <;> rfl), by repeat (first | (with_reducible first | exact HB.out | apply below_alloc | apply pw_below_drewN | apply below_drew1 | refine below_set ?_ GE192.out) | exact HB.out)⟩
          · replace c14 := Bool.eq_false_iff.mpr c14
            subst c14
            have H1 : (if a0_0 = 2 then (if a0_3.toList = ([] : List UInt8) then (if a0_5.toList = ([] : List UInt8) then (some true) else (if a0_0 = 3 then (some true) else (some (a0_0 == 4)))) else (some false)) else (if a0_0 = 4 then (if a0_3.toList = ([] : List UInt8) then (if a0_5.toList = ([] : List UInt8) then (some true) else (if a0_0 = 3 then (some true) else (some (a0_0 == 4)))) else (some false)) else (if a0_5.toList = ([] : List UInt8) then (some true) else (if a0_0 = 3 then (some true) else (some (a0_0 == 4)))))) = some r := by rw [if_neg (show ¬ (false = true) by decide)] at H; exact H
            clear H
            have H := H1
            clear H1
            by_cases c15 : a0_0 = 2
            · rw [if_pos c15] at H
              have c15b0 : (a0_0 == 2) = true := beq_iff_eq.mpr c15
              have c15b1 : (a0_0 != 2) = false := bne_eq_false_iff_eq.mpr c15
              clear c15
              by_cases c16 : a0_3.toList = ([] : List UInt8)
              · rw [if_pos c16] at H
                have c16b0 : (a0_3.toList == ([] : List UInt8)) = true := beq_iff_eq.mpr c16
                have c16b1 : (a0_3.toList != ([] : List UInt8)) = false := bne_eq_false_iff_eq.mpr c16
                clear c16
                by_cases c17 : a0_5.toList = ([] : List UInt8)
                · rw [if_pos c17] at H
                  have c17b0 : (a0_5.toList == ([] : List UInt8)) = true := beq_iff_eq.mpr c17
                  have c17b1 : (a0_5.toList != ([] : List UInt8)) = false := bne_eq_false_iff_eq.mpr c17
                  clear c17
                  obtain rfl := Option.some.inj H
                  have hcz18_0 : wc.cell? ⟨gb192, 0, none⟩ = some (.int .i64 a0_0) := (blk_cell BK192.out 0).trans rfl
                  have hcz18_1 : wc.cell? ⟨gb192, 1, none⟩ = some (.int .u8 a0_1) := (blk_cell BK192.out 1).trans rfl
                  have hcz18_2 : wc.cell? ⟨gb192, 2, none⟩ = some (.slice A0_2 l0_2.length c0_2) := (blk_cell BK192.out 2).trans rfl
                  have hcz18_3 : wc.cell? ⟨gb192, 3, none⟩ = some (.string a0_3) := (blk_cell BK192.out 3).trans rfl
                  have hcz18_4 : wc.cell? ⟨gb192, 4, none⟩ = some (.int .u8 a0_4) := (blk_cell BK192.out 4).trans rfl
                  have hcz18_5 : wc.cell? ⟨gb192, 5, none⟩ = some (.string a0_5) := (blk_cell BK192.out 5).trans rfl
                  have hfz18_0 := blk_frozen BK192.out 0
                  have hfz18_1 := blk_frozen BK192.out 1
                  have hfz18_2 := blk_frozen BK192.out 2
                  have hfz18_3 := blk_frozen BK192.out 3
                  have hfz18_4 := blk_frozen BK192.out 4
                  have hfz18_5 := blk_frozen BK192.out 5
                  go_wp2
                  go_ret
                  exact ⟨by first | rfl | (simp [errW_none, errW_some] <;> rfl) | (simp [*, errW_none, errW_some] <;> rfl), by repeat (first | (with_reducible first | exact HB.out | apply below_alloc | apply pw_below_drewN | apply below_drew1 | refine below_set ?_ GE192.out) | exact HB.out)⟩
                · rw [if_neg c17] at H
                  have c17b0 : (a0_5.toList == ([] : List UInt8)) = false := beq_eq_false_iff_ne.mpr c17
                  have c17b1 : (a0_5.toList != ([] : List UInt8)) = true := bne_iff_ne.mpr c17
                  by_cases c19 : a0_0 = 3
                  · rw [if_pos c19] at H
                    have c19b0 : (a0_0 == 3) = true := beq_iff_eq.mpr c19
                    have c19b1 : (a0_0 != 3) = false := bne_eq_false_iff_eq.mpr c19
                    clear c19
                    obtain rfl := Option.some.inj H
                    have hcz20_0 : wc.cell? ⟨gb192, 0, none⟩ = some (.int .i64 a0_0) := (blk_cell BK192.out 0).trans rfl
                    have hcz20_1 : wc.cell? ⟨gb192, 1, none⟩ = some (.int .u8 a0_1) := (blk_cell BK192.out 1).trans rfl
                    have hcz20_2 : wc.cell? ⟨gb192, 2, none⟩ = some (.slice A0_2 l0_2.length c0_2) := (blk_cell BK192.out 2).trans rfl
                    have hcz20_3 : wc.cell? ⟨gb192, 3, none⟩ = some (.string a0_3) := (blk_cell BK192.out 3).trans rfl
                    have hcz20_4 : wc.cell? ⟨gb192, 4, none⟩ = some (.int .u8 a0_4) := (blk_cell BK192.out 4).trans rfl
                    have hcz20_5 : wc.cell? ⟨gb192, 5, none⟩ = some (.string a0_5) := (blk_cell BK192.out 5).trans rfl
                    have hfz20_0 := blk_frozen BK192.out 0
                    have hfz20_1 := blk_frozen BK192.out 1
                    have hfz20_2 := blk_frozen BK192.out 2
                    have hfz20_3 := blk_frozen BK192.out 3
                    have hfz20_4 := blk_frozen BK192.out 4
                    have hfz20_5 := blk_frozen BK192.out 5
                    go_wp2
                    go_ret
                    exact ⟨by first | rfl | (simp [errW_none, errW_some] <;> rfl) | (simp [*, errW_none, errW_some] <;> rfl), by repeat (first | (with_reducible first | exact HB.out | apply below_alloc | apply pw_below_drewN | apply below_drew1 | refine below_set ?_ GE192.out) | exact HB.out)⟩
                  · rw [if_neg c19] at H
                    have c19b0 : (a0_0 == 3) = false := beq_eq_false_iff_ne.mpr c19
                    have c19b1 : (a0_0 != 3) = true := bne_iff_ne.mpr c19
                    obtain rfl := Option.some.inj H
                    have hcz21_0 : wc.cell? ⟨gb192, 0, none⟩ = some (.int .i64 a0_0) := (blk_cell BK192.out 0).trans rfl
                    have hcz21_1 : wc.cell? ⟨gb192, 1, none⟩ = some (.int .u8 a0_1) := (blk_cell BK192.out 1).trans rfl
                    have hcz21_2 : wc.cell? ⟨gb192, 2, none⟩ = some (.slice A0_2 l0_2.length c0_2) := (blk_cell BK192.out 2).trans rfl
                    have hcz21_3 : wc.cell? ⟨gb192, 3, none⟩ = some (.string a0_3) := (blk_cell BK192.out 3).trans rfl
                    have hcz21_4 : wc.cell? ⟨gb192, 4, none⟩ = some (.int .u8 a0_4) := (blk_cell BK192.out 4).trans rfl
                    have hcz21_5 : wc.cell? ⟨gb192, 5, none⟩ = some (.string a0_5) := (blk_cell BK192.out 5).trans rfl
                    have hfz21_0 := blk_frozen BK192.out 0
                    have hfz21_1 := blk_frozen BK192.out 1
                    have hfz21_2 := blk_frozen BK192.out 2
                    have hfz21_3 := blk_frozen BK192.out 3
                    have hfz21_4 := blk_frozen BK192.out 4
                    have hfz21_5 := blk_frozen BK192.out 5
                    go_wp2
                    go_ret
                    exact ⟨by first | rfl | (simp [errW_none, errW_some] <;> rfl) | (simp [*, errW_none, errW_some] <;> rfl), by repeat (first | (with_reducible first | exact HB.out | apply below_alloc | apply pw_below_drewN | apply below_drew1 | refine below_set ?_ GE192.out) | exact HB.out)⟩
              · rw [if_neg c16] at H
                have c16b0 : (a0_3.toList == ([] : List UInt8)) = false := beq_eq_false_iff_ne.mpr c16
                have c16b1 : (a0_3.toList != ([] : List UInt8)) = true := bne_iff_ne.mpr c16
                obtain rfl := Option.some.inj H
                have hcz22_0 : wc.cell? ⟨gb192, 0, none⟩ = some (.int .i64 a0_0) := (blk_cell BK192.out 0).trans rfl
                have hcz22_1 : wc.cell? ⟨gb192, 1, none⟩ = some (.int .u8 a0_1) := (blk_cell BK192.out 1).trans rfl
                have hcz22_2 : wc.cell? ⟨gb192, 2, none⟩ = some (.slice A0_2 l0_2.length c0_2) := (blk_cell BK192.out 2).trans rfl
                have hcz22_3 : wc.cell? ⟨gb192, 3, none⟩ = some (.string a0_3) := (blk_cell BK192.out 3).trans rfl
                have hcz22_4 : wc.cell? ⟨gb192, 4, none⟩ = some (.int .u8 a0_4) := (blk_cell BK192.out 4).trans rfl
                have hcz22_5 : wc.cell? ⟨gb192, 5, none⟩ = some (.string a0_5) := (blk_cell BK192.out 5).trans rfl
                have hfz22_0 := blk_frozen BK192.out 0
                have hfz22_1 := blk_frozen BK192.out 1
                have hfz22_2 := blk_frozen BK192.out 2
                have hfz22_3 := blk_frozen BK192.out 3
                have hfz22_4 := blk_frozen BK192.out 4
                have hfz22_5 := blk_frozen BK192.out 5
                go_wp2
                go_ret
                exact ⟨by first | rfl | (simp [errW_none, errW_some] <;> rfl) | (simp [*, errW_none, errW_some] <;> rfl), by repeat (first | (with_reducible first | exact HB.out | apply below_alloc | apply pw_below_drewN | apply below_drew1 | refine below_set ?_ GE192.out) | exact HB.out)⟩
            · rw [if_neg c15] at H
              have c15b0 : (a0_0 == 2) = false := beq_eq_false_iff_ne.mpr c15
              have c15b1 : (a0_0 != 2) = true := bne_iff_ne.mpr c15
              by_cases c23 : a0_0 = 4
              · rw [if_pos c23] at H
                have c23b0 : (a0_0 == 4) = true := beq_iff_eq.mpr c23
                have c23b1 : (a0_0 != 4) = false := bne_eq_false_iff_eq.mpr c23
                clear c23
                by_cases c24 : a0_3.toList = ([] : List UInt8)
                · rw [if_pos c24] at H
                  have c24b0 : (a0_3.toList == ([] : List UInt8)) = true := beq_iff_eq.mpr c24
                  have c24b1 : (a0_3.toList != ([] : List UInt8)) = false := bne_eq_false_iff_eq.mpr c24
                  clear c24
                  by_cases c25 : a0_5.toList = ([] : List UInt8)
                  · rw [if_pos c25] at H
                    have c25b0 : (a0_5.toList == ([] : List UInt8)) = true := beq_iff_eq.mpr c25
                    have c25b1 : (a0_5.toList != ([] : List UInt8)) = false := bne_eq_false_iff_eq.mpr c25
                    clear c25
                    obtain rfl := Option.some.inj H
                    have hcz26_0 : wc.cell? ⟨gb192, 0, none⟩ = some (.int .i64 a0_0) := (blk_cell BK192.out 0).trans rfl
                    have hcz26_1 : wc.cell? ⟨gb192, 1, none⟩ = some (.int .u8 a0_1) := (blk_cell BK192.out 1).trans rfl
                    have hcz26_2 : wc.cell? ⟨gb192, 2, none⟩ = some (.slice A0_2 l0_2.length c0_2) := (blk_cell BK192.out 2).trans rfl
                    have hcz26_3 : wc.cell? ⟨gb192, 3, none⟩ = some (.string a0_3) := (blk_cell BK192.out 3).trans rfl
                    have hcz26_4 : wc.cell? ⟨gb192, 4, none⟩ = some (.int .u8 a0_4) := (blk_cell BK192.out 4).trans rfl
                    have hcz26_5 : wc.cell? ⟨gb192, 5, none⟩ = some (.string a0_5) := (blk_cell BK192.out 5).trans rfl
                    have hfz26_0 := blk_frozen BK192.out 0
                    have hfz26_1 := blk_frozen BK192.out 1
                    have hfz26_2 := blk_frozen BK192.out 2
                    have hfz26_3 := blk_frozen BK192.out 3
                    have hfz26_4 := blk_frozen BK192.out 4
                    have hfz26_5 := blk_frozen BK192.out 5
                    go_wp2
                    go_ret
                    exact ⟨by first | rfl | (simp [errW_none, errW_some] <;> rfl) | (simp [*, errW_none, errW_some] <;> rfl), by repeat (first | (with_reducible first | exact HB.out | apply below_alloc | apply pw_below_drewN | apply below_drew1 | refine below_set ?_ GE192.out) | exact HB.out)⟩
                  · rw [if_neg c25] at H
                    have c25b0 : (a0_5.toList == ([] : List UInt8)) = false := beq_eq_false_iff_ne.mpr c25
                    have c25b1 : (a0_5.toList != ([] : List UInt8)) = true := bne_iff_ne.mpr c25
                    by_cases c27 : a0_0 = 3
                    · rw [if_pos c27] at H
                      have c27b0 : (a0_0 == 3) = true := beq_iff_eq.mpr c27
                      have c27b1 : (a0_0 != 3) = false := bne_eq_false_iff_eq.mpr c27
                      clear c27
                      obtain rfl := Option.some.inj H
                      have hcz28_0 : wc.cell? ⟨gb192, 0, none⟩ = some (.int .i64 a0_0) := (blk_cell BK192.out 0).trans rfl
                      have hcz28_1 : wc.cell? ⟨gb192, 1, none⟩ = some (.int .u8 a0_1) := (blk_cell BK192.out 1).trans rfl
                      have hcz28_2 : wc.cell? ⟨gb192, 2, none⟩ = some (.slice A0_2 l0_2.length c0_2) := (blk_cell BK192.out 2).trans rfl
                      have hcz28_3 : wc.cell? ⟨gb192, 3, none⟩ = some (.string a0_3) := (blk_cell BK192.out 3).trans rfl
                      have hcz28_4 : wc.cell? ⟨gb192, 4, none⟩ = some (.int .u8 a0_4) := (blk_cell BK192.out 4).trans rfl
                      have hcz28_5 : wc.cell? ⟨gb192, 5, none⟩ = some (.string a0_5) := (blk_cell BK192.out 5).trans rfl
                      have hfz28_0 := blk_frozen BK192.out 0
                      have hfz28_1 := blk_frozen BK192.out 1
                      have hfz28_2 := blk_frozen BK192.out 2
                      have hfz28_3 := blk_frozen BK192.out 3
                      have hfz28_4 := blk_frozen BK192.out 4
                      have hfz28_5 := blk_frozen BK192.out 5
                      go_wp2
                      go_ret
                      exact ⟨by first | rfl | (simp [errW_none, errW_some] <;> rfl) | (simp [*, errW_none, errW_some] <;> rfl), by repeat (first | (with_reducible first | exact HB.out | apply below_alloc | apply pw_below_drewN | apply below_drew1 | refine below_set ?_ GE192.out) | exact HB.out)⟩
                    · rw [if_neg c27] at H
                      have c27b0 : (a0_0 == 3) = false := beq_eq_false_iff_ne.mpr c27
                      have c27b1 : (a0_0 != 3) = true := bne_iff_ne.mpr c27
                      obtain rfl := Option.some.inj H
                      have hcz29_0 : wc.cell? ⟨gb192, 0, none⟩ = some (.int .i64 a0_0) := (blk_cell BK192.out 0).trans rfl
                      have hcz29_1 : wc.cell? ⟨gb192, 1, none⟩ = some (.int .u8 a0_1) := (blk_cell BK192.out 1).trans rfl
                      have hcz29_2 : wc.cell? ⟨gb192, 2, none⟩ = some (.slice A0_2 l0_2.length c0_2) := (blk_cell BK192.out 2).trans rfl
                      have hcz29_3 : wc.cell? ⟨gb192, 3, none⟩ = some (.string a0_3) := (blk_cell BK192.out 3).trans rfl
                      have hcz29_4 : wc.cell? ⟨gb192, 4, none⟩ = some (.int .u8 a0_4) := (blk_cell BK192.out 4).trans rfl
                      have hcz29_5 : wc.cell? ⟨gb192, 5, none⟩ = some (.string a0_5) := (blk_cell BK192.out 5).trans rfl
                      have hfz29_0 := blk_frozen BK192.out 0
                      have hfz29_1 := blk_frozen BK192.out 1
                      have hfz29_2 := blk_frozen BK192.out 2
                      have hfz29_3 := blk_frozen BK192.out 3
                      have hfz29_4 := blk_frozen BK192.out 4
                      have hfz29_5 := blk_frozen BK192.out 5
                      go_wp2
                      go_ret
                      exact ⟨by first | rfl | (simp [errW_none, errW_some] <;> rfl) | (simp [*, errW_none, errW_some] <;> rfl), by repeat (first | (with_reducible first | exact HB.out | apply below_alloc | apply pw_below_drewN | apply below_drew1 | refine below_set ?_ GE192.out) | exact HB.out)⟩
                · rw [if_neg c24] at H
                  have c24b0 : (a0_3.toList == ([] : List UInt8)) = false := beq_eq_false_iff_ne.mpr c24
                  have c24b1 : (a0_3.toList != ([] : List UInt8)) = true := bne_iff_ne.mpr c24
                  obtain rfl := Option.some.inj H
                  have hcz30_0 : wc.cell? ⟨gb192, 0, none⟩ = some (.int .i64 a0_0) := (blk_cell BK192.out 0).trans rfl
                  have hcz30_1 : wc.cell? ⟨gb192, 1, none⟩ = some (.int .u8 a0_1) := (blk_cell BK192.out 1).trans rfl
                  have hcz30_2 : wc.cell? ⟨gb192, 2, none⟩ = some (.slice A0_2 l0_2.length c0_2) := (blk_cell BK192.out 2).trans rfl
                  have hcz30_3 : wc.cell? ⟨gb192, 3, none⟩ = some (.string a0_3) := (blk_cell BK192.out 3).trans rfl
                  have hcz30_4 : wc.cell? ⟨gb192, 4, none⟩ = some (.int .u8 a0_4) := (blk_cell BK192.out 4).trans rfl
                  have hcz30_5 : wc.cell? ⟨gb192, 5, none⟩ = some (.string a0_5) := (blk_cell BK192.out 5).trans rfl
                  have hfz30_0 := blk_frozen BK192.out 0
                  have hfz30_1 := blk_frozen BK192.out 1
                  have hfz30_2 := blk_frozen BK192.out 2
                  have hfz30_3 := blk_frozen BK192.out 3
                  have hfz30_4 := blk_frozen BK192.out 4
                  have hfz30_5 := blk_frozen BK192.out 5
                  go_wp2
                  go_ret
                  exact ⟨by first | rfl | (simp [errW_none, errW_some] <;> rfl) | (simp [*, errW_none, errW_some] <;> rfl), by repeat (first | (with_reducible first | exact HB.out | apply below_alloc | apply pw_below_drewN | apply below_drew1 | refine below_set ?_ GE192.out) | exact HB.out)⟩
              · rw [if_neg c23] at H
                have c23b0 : (a0_0 == 4) = false := beq_eq_false_iff_ne.mpr c23
                have c23b1 : (a0_0 != 4) = true := bne_iff_ne.mpr c23
                by_cases c31 : a0_5.toList = ([] : List UInt8)
                · rw [if_pos c31] at H
                  have c31b0 : (a0_5.toList == ([] : List UInt8)) = true := beq_iff_eq.mpr c31
                  have c31b1 : (a0_5.toList != ([] : List UInt8)) = false := bne_eq_false_iff_eq.mpr c31
                  clear c31
                  obtain rfl := Option.some.inj H
                  have hcz32_0 : wc.cell? ⟨gb192, 0, none⟩ = some (.int .i64 a0_0) := (blk_cell BK192.out 0).trans rfl
                  have hcz32_1 : wc.cell? ⟨gb192, 1, none⟩ = some (.int .u8 a0_1) := (blk_cell BK192.out 1).trans rfl
                  have hcz32_2 : wc.cell? ⟨gb192, 2, none⟩ = some (.slice A0_2 l0_2.length c0_2) := (blk_cell BK192.out 2).trans rfl
                  have hcz32_3 : wc.cell? ⟨gb192, 3, none⟩ = some (.string a0_3) := (blk_cell BK192.out 3).trans rfl
                  have hcz32_4 : wc.cell? ⟨gb192, 4, none⟩ = some (.int .u8 a0_4) := (blk_cell BK192.out 4).trans rfl
                  have hcz32_5 : wc.cell? ⟨gb192, 5, none⟩ = some (.string a0_5) := (blk_cell BK192.out 5).trans rfl
                  have hfz32_0 := blk_frozen BK192.out 0
                  have hfz32_1 := blk_frozen BK192.out 1
                  have hfz32_2 := blk_frozen BK192.out 2
                  have hfz32_3 := blk_frozen BK192.out 3
                  have hfz32_4 := blk_frozen BK192.out 4
                  have hfz32_5 := blk_frozen BK192.out 5
                  go_wp2
                  go_ret
                  exact ⟨by first | rfl | (simp [errW_none, errW_some] <;> rfl) | (simp [*, errW_none, errW_some] <;> rfl), by repeat (first | (with_reducible first | exact HB.out | apply below_alloc | apply pw_below_drewN | apply below_drew1 | refine below_set ?_ GE192.out) | exact HB.out)⟩
                · rw [if_neg c31] at H
                  have c31b0 : (a0_5.toList == ([] : List UInt8)) = false := beq_eq_false_iff_ne.mpr c31
                  have c31b1 : (a0_5.toList != ([] : List UInt8)) = true := bne_iff_ne.mpr c31
                  by_cases c33 : a0_0 = 3
                  · rw [if_pos c33] at H
                    have c33b0 : (a0_0 == 3) = true := beq_iff_eq.mpr c33
                    have c33b1 : (a0_0 != 3) = false := bne_eq_false_iff_eq.mpr c33
                    clear c33
                    obtain rfl := Option.some.inj H
                    have hcz34_0 : wc.cell? ⟨gb192, 0, none⟩ = some (.int .i64 a0_0) := (blk_cell BK192.out 0).trans rfl
                    have hcz34_1 : wc.cell? ⟨gb192, 1, none⟩ = some (.int .u8 a0_1) := (blk_cell BK192.out 1).trans rfl
                    have hcz34_2 : wc.cell? ⟨gb192, 2, none⟩ = some (.slice A0_2 l0_2.length c0_2) := (blk_cell BK192.out 2).trans rfl
                    have hcz34_3 : wc.cell? ⟨gb192, 3, none⟩ = some (.string a0_3) := (blk_cell BK192.out 3).trans rfl
                    have hcz34_4 : wc.cell? ⟨gb192, 4, none⟩ = some (.int .u8 a0_4) := (blk_cell BK192.out 4).trans rfl
                    have hcz34_5 : wc.cell? ⟨gb192, 5, none⟩ = some (.string a0_5) := (blk_cell BK192.out 5).trans rfl
                    have hfz34_0 := blk_frozen BK192.out 0
                    have hfz34_1 := blk_frozen BK192.out 1
                    have hfz34_2 := blk_frozen BK192.out 2
                    have hfz34_3 := blk_frozen BK192.out 3
                    have hfz34_4 := blk_frozen BK192.out 4
                    have hfz34_5 := blk_frozen BK192.out 5
                    go_wp2
                    go_ret
                    exact ⟨by first | rfl | (simp [errW_none, errW_some] <;> rfl) | (simp [*, errW_none, errW_some] <;> rfl), by repeat (first | (with_reducible first | exact HB.out | apply below_alloc | apply pw_below_drewN | apply below_drew1 | refine below_set ?_ GE192.out) | exact HB.out)⟩
                  · rw [if_neg c33] at H
                    have c33b0 : (a0_0 == 3) = false := beq_eq_false_iff_ne.mpr c33
                    have c33b1 : (a0_0 != 3) = true := bne_iff_ne.mpr c33
                    obtain rfl := Option.some.inj H
                    have hcz35_0 : wc.cell? ⟨gb192, 0, none⟩ = some (.int .i64 a0_0) := (blk_cell BK192.out 0).trans rfl
                    have hcz35_1 : wc.cell? ⟨gb192, 1, none⟩ = some (.int .u8 a0_1) := (blk_cell BK192.out 1).trans rfl
                    have hcz35_2 : wc.cell? ⟨gb192, 2, none⟩ = some (.slice A0_2 l0_2.length c0_2) := (blk_cell BK192.out 2).trans rfl
                    have hcz35_3 : wc.cell? ⟨gb192, 3, none⟩ = some (.string a0_3) := (blk_cell BK192.out 3).trans rfl
                    have hcz35_4 : wc.cell? ⟨gb192, 4, none⟩ = some (.int .u8 a0_4) := (blk_cell BK192.out 4).trans rfl
                    have hcz35_5 : wc.cell? ⟨gb192, 5, none⟩ = some (.string a0_5) := (blk_cell BK192.out 5).trans rfl
                    have hfz35_0 := blk_frozen BK192.out 0
                    have hfz35_1 := blk_frozen BK192.out 1
                    have hfz35_2 := blk_frozen BK192.out 2
                    have hfz35_3 := blk_frozen BK192.out 3
                    have hfz35_4 := blk_frozen BK192.out 4
                    have hfz35_5 := blk_frozen BK192.out 5
                    go_wp2
                    go_ret
                    exact ⟨by first | rfl | (simp [errW_none, errW_some] <;> rfl) | (simp [*, errW_none, errW_some] <;> rfl), by repeat (first | (with_reducible first | exact HB.out | apply below_alloc | apply pw_below_drewN | apply below_drew1 | refine below_set ?_ GE192.out) | exact HB.out)⟩
end Go.Proofs.YtclnanhgcnopdaaDoor.G
end
