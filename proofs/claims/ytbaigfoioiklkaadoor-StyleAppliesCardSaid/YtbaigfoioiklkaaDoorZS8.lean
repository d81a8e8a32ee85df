/- S: texts run together by shake.py: KitS Gclavierlaw18a PuSd. -/
import Derived.ArgAppend
import Derived.Below
import Derived.BigQuiet
import Derived.ChangeOld
import Derived.ChangeSlices
import Derived.Deep.AppendLies
import Derived.Deep.CutBlock
import Derived.Deep.DeepCutAuto
import Derived.Deep.Draws
import Derived.Deep.LoopGhost
import Derived.Deep.Matrix
import Derived.Deep.OwnRows
import Derived.Deep.Quiet
import Derived.Deep.QuietTactic
import Derived.Deep.RegionHeld3
import Derived.KernelRfl
import Derived.Laws.AppendOwn
import Derived.Laws.AppendOwnNone
import Derived.Laws.BitsLemmas
import Derived.Laws.BytesArg
import Derived.Laws.Concat
import Derived.Laws.CopyRow
import Derived.Laws.IdiomCopy
import Derived.Laws.IdiomStrings
import Derived.Laws.MakeOwn
import Derived.Laws.OwnMore
import Derived.Laws.Rows
import Derived.Laws.Slices
import Derived.Laws.StructEq
import Derived.Lib.AppendIntMem
import Derived.Lib.AppendStr
import Derived.Lib.ConvBytes
import Derived.Lib.Hide
import Derived.Lib.ItoaLen
import Derived.Lib.ItoaNum
import Derived.Lib.Join
import Derived.Lib.LaidTab
import Derived.Lib.Strings
import Derived.MapKept
import Derived.Maps.AppendAt
import Derived.OpenShut
import Derived.Orders
import Derived.OrdersHeld
import Derived.Outline
import Derived.OwnWalk
import Derived.ProofKit
import Derived.RowKit
import Derived.RowKit3
import Derived.Shelf.LaysM
import Derived.Shelf.Strconv.Itoa0
import Derived.Shelf.Strconv.Itoa1
import Derived.Shelf.Strconv.Itoa2
import Derived.Shelf.Strconv.Itoa3
import Derived.Shelf.Strings.Builder1
import Derived.Shelf.Strings.Builder2
import Derived.Shelf.Strings.Builder2Cap
import Derived.Shelf.Strings.BuilderCap
import Derived.Shelf.Strings.BuilderF
import Derived.Shelf.Strings.BuilderK
import Derived.Shelf.Strings.OnBuilder
import Derived.ShutString
import Derived.SizedLaws
import Derived.Still
import Derived.Tactics
import Derived.Test.YtbaigfoioiklkaaDoorProg
import Derived.WalkKit
import Derived.WalkLawsBesides
import Derived.WalkSpells
import Derived.WideLaws
import Derived.Test.YtbaigfoioiklkaaDoorZS1
import Derived.Test.YtbaigfoioiklkaaDoorZS2
import Derived.Test.YtbaigfoioiklkaaDoorZS3
import Derived.Test.YtbaigfoioiklkaaDoorZS4
import Derived.Test.YtbaigfoioiklkaaDoorZS5
import Derived.Test.YtbaigfoioiklkaaDoorZS6
import Derived.Test.YtbaigfoioiklkaaDoorZS7
section
namespace Go.Proofs.YtbaigfoioiklkaaDoor
open Go.ChangeShapes Go.WideShapes Go.ChangeAt Go.RowKit Go.Proofs.YtbaigfoioiklkaaDoorW.PrintWords Kit
set_option linter.unusedVariables false
set_option linter.unusedSimpArgs false
theorem open_rows2 {H : Type} {enc : TypeId × Value → H} {W : World} {v : Value} {d : DataW H} {p : List MemPlace} (h : DataW.Trod enc Tryd.prog W 0 (fun _ => true) true 25 v d p) {r : Reach} {b0 : Nat} (hv : Value.okWide Tryd.prog W r b0 25 v) :
    ∃ (A : Option Addr) (l : List (List Int)) (c : Nat), v = .slice A l.length c ∧ l.length ≤ c ∧ (Kd.slice 3 (Kd.int .i64)).C W A l.length l ∧ AllI l := by
  obtain ⟨a0, len, cap, rfl⟩ := okWide_slice Tryd.underlying25 hv
  obtain ⟨fuel, hf⟩ := h
  rcases Go.Deep.open_int_rows Tryd.underlying25 Tryd.underlying35 Tryd.underlying3 (by kernel_rfl) (by kernel_rfl) hf with ⟨hcs, _⟩ | ⟨a, len', cap', A, L, C, Z, hcs, _, hl, hm, _, hx⟩
  · simp [Value.cells] at hcs
    obtain ⟨rfl, rfl, rfl⟩ := hcs
    exact ⟨none, [], 0, rfl, Nat.le_refl _, ⟨rfl, by simp, fun h => by simp at h⟩, fun x hx => by cases hx⟩
  · simp [Value.cells] at hcs
    obtain ⟨rfl, rfl, rfl⟩ := hcs
    have hlen : ((List.range len).map fun r => (Z r).take (L r)).length = len := by simp
    refine ⟨some a, (List.range len).map fun r => (Z r).take (L r), cap, by rw [hlen], by rw [hlen]; exact hl, ?_, ?_⟩
    · rw [hlen]
      refine ⟨hlen, by unfold maxLen at hm; omega, fun _ => ⟨a, rfl, fun j x hj => ?_⟩⟩
      obtain ⟨hj1, hj2⟩ := List.getElem?_eq_some_iff.1 hj
      rw [hlen] at hj1
      simp at hj2
      obtain ⟨h1, h2, h3, h4, h5, h6, h7⟩ := hx j (by omega)
      have hxl : x.length = L j := by rw [← hj2, List.length_take]; omega
      refine ⟨[.slice (A j) x.length (C j)], rfl, ⟨A j, C j, rfl, by omega, ?_⟩, fun i u hu => ?_⟩
      · refine Kd.C_of_reads (d := (0 : Int)) ⟨rfl, by unfold maxLen at h3; omega, fun h0 => ?_⟩
        cases hA : A j with
        | none => have := h6 hA; omega
        | some a' =>
          refine ⟨a', rfl, fun i hi => ?_⟩
          rw [(h7 a' hA).2 i (by omega)]
          subst hj2
          simp [List.getD, show i < L j by omega]
      · cases i with
        | zero =>
          have : u = .slice (A j) x.length (C j) := by simpa using hu.symm
          subst this
          rw [hxl, show j * (Kd.slice 3 (Kd.int .i64)).sz + 0 = j from by show j * 1 + 0 = j; omega]
          exact h1
        | succ i => simp at hu
    · intro x hx' z hz
      obtain ⟨r, hr, rfl⟩ := List.mem_map.1 hx'
      have hr' : r < len := by simpa using hr
      obtain ⟨h1, h2, h3, h4, h5, h6, h7⟩ := hx r (by omega)
      exact intIn (h5 z (List.mem_of_mem_take hz))
end Go.Proofs.YtbaigfoioiklkaaDoor
end
section
namespace Go.Proofs.YtbaigfoioiklkaaDoor.G
open Go.RowKit Go.Proofs.YtbaigfoioiklkaaDoorW.PrintWords Go.Proofs.YtbaigfoioiklkaaDoorW.PrintLast Go.Proofs.YtbaigfoioiklkaaDoorW.PrintMore
attribute [local go_sem] max2_int min2_int max_two min_two max_three min_three max_four min_four
set_option linter.unusedVariables false
set_option linter.unusedSimpArgs false
mutual
def clavierlaw18_few.l0 : Nat → List (List Int) → Int → Option (Bool)
  | 0, _, _ => none
  | k + 1, x0, x3 => if x3 < (x0.length : Int) then (clavierlaw18_few.j1 k x0 x3 (decide (x3 < 41))) else (clavierlaw18_few.j1 k x0 x3 false)
def clavierlaw18_few.j1 : Nat → List (List Int) → Int → Bool → Option (Bool)
  | 0, _, _, _ => none
  | k + 1, x0, x3, x11 => if x11 = true then (if 0 ≤ x3 then (if x3 < (x0.length : Int) then (if ((rd_L1 x0 x3).length : Int) > 20 then (some false) else (clavierlaw18_few.l0 k x0 (wrap64 (x3 + 1)))) else (none)) else (none)) else (some (decide ((x0.length : Int) ≤ 40)))
end
def clavierlaw18_few.f (k : Nat) (l0 : List (List Int)) : Option (Bool) := clavierlaw18_few.l0 k l0 0
theorem clavierlaw18_few.mono_l : ∀ k, (∀ y0 y1, LeO (clavierlaw18_few.l0 k y0 y1) (clavierlaw18_few.l0 (k + 1) y0 y1)) ∧ (∀ y0 y1 y2, LeO (clavierlaw18_few.j1 k y0 y1 y2) (clavierlaw18_few.j1 (k + 1) y0 y1 y2))
  | 0 => ⟨fun _ _ r h => by simp [clavierlaw18_few.l0] at h, fun _ _ _ r h => by simp [clavierlaw18_few.j1] at h⟩
  | k + 1 => by
    obtain ⟨ih0, ih1⟩ := clavierlaw18_few.mono_l k
    refine ⟨?_, ?_⟩
    · intro y0 y1
      unfold clavierlaw18_few.l0
      repeat' first
      | (with_reducible exact ih0 _ _)
      | (with_reducible exact ih1 _ _ _)
      | (with_reducible exact LeO.refl _)
      | (with_reducible exact LeO.none _)
      | (with_reducible refine LeO.ite ?_ ?_)
      | (with_reducible refine LeO.bind ?_ (fun _ => ?_))
      | exact ih0 _ _
      | exact ih1 _ _ _
      | exact LeO.none _
      | refine LeO.ite ?_ ?_
      | refine LeO.bind ?_ (fun _ => ?_)
    · intro y0 y1 y2
      unfold clavierlaw18_few.j1
      repeat' first
      | (with_reducible exact ih0 _ _)
      | (with_reducible exact ih1 _ _ _)
      | (with_reducible exact LeO.refl _)
      | (with_reducible exact LeO.none _)
      | (with_reducible refine LeO.ite ?_ ?_)
      | (with_reducible refine LeO.bind ?_ (fun _ => ?_))
      | exact ih0 _ _
      | exact ih1 _ _ _
      | exact LeO.none _
      | refine LeO.ite ?_ ?_
      | refine LeO.bind ?_ (fun _ => ?_)
theorem clavierlaw18_few.mono : ∀ a0 k, LeO (clavierlaw18_few.f k a0) (clavierlaw18_few.f (k + 1) a0) := by
  intro a0 k
  obtain ⟨ih0, ih1⟩ := clavierlaw18_few.mono_l k
  unfold clavierlaw18_few.f
  repeat' first
      | (with_reducible exact ih0 _ _)
      | (with_reducible exact ih1 _ _ _)
      | (with_reducible exact LeO.refl _)
      | (with_reducible exact LeO.none _)
      | (with_reducible refine LeO.ite ?_ ?_)
      | (with_reducible refine LeO.bind ?_ (fun _ => ?_))
      | exact ih0 _ _
      | exact ih1 _ _ _
      | exact LeO.none _
      | refine LeO.ite ?_ ?_
      | refine LeO.bind ?_ (fun _ => ?_)
set_option maxHeartbeats 8000000 in
set_option maxRecDepth 100000 in
theorem clavierlaw18_few.calls (k : Nat) (A0 : Option Addr) (c0 : Nat) (l0 : List (List Int)) (r : Bool) (w : World) (hr0 : Kd.C (Kd.slice 3 (Kd.int .i64)) w A0 l0.length l0) (hc0 : l0.length ≤ c0) (h : clavierlaw18_few.f k l0 = some r) :
    Calls Tryd.prog 17 #[.slice A0 l0.length c0] w fun e w' => e = .returned (.bool r) ∧ Drawn0 w w' := by
  have HR0 := Aside0.mk hr0
  have HC0 := Aside0.mk hc0
  clear hr0 hc0
  have H : (clavierlaw18_few.l0 k l0 0) = some r := h
  clear h
  have H' := Aside0.mk H
  clear H
  go_enter Tryd.func17, Tryd.ntmps17
  go_wp2
  go_loopg [3] k (fun kq v3 w' => ∃ (x3_1 : Int), v3 = .int .i64 x3_1 ∧ Aside0 (clavierlaw18_few.l0 kq l0 x3_1 = some r) ∧ Aside0 (kq ≤ k) ∧ Drawn0 w w')
  case atStart => exact ⟨(0), (by first | rfl | (simp; done) | (simp [*]; done)), H', ⟨Nat.le_refl _⟩, by repeat (first | exact Drawn0.refl _ | apply Drawn0.step)⟩
  case round =>
    clear H'
    try clear c1
    obtain ⟨x3_1, rfl, HA, HK1, ⟨m1, rfl⟩⟩ := hrel
    cases gk with
    | zero => exact absurd HA.out (by simp [clavierlaw18_few.l0])
    | succ k1 =>
      have H := HA.out
      clear HA
      simp only [clavierlaw18_few.l0] at H
      have HC2 := Aside0.mk H
      clear H
      go_upto_region 2 with (fail)
      go_cut [11] (fun v11 wc => ∃ (kq : Nat) (x11_1 : Bool), v11 = .bool x11_1 ∧ Aside0 (clavierlaw18_few.j1 kq l0 x3_1 x11_1 = some r) ∧ Aside0 (kq ≤ k1) ∧ Drawn0 w wc)
      case first =>
        have H := HC2.out
        clear HC2
        by_cases c3 : x3_1 < (l0.length : Int)
        · rw [if_pos c3] at H
          have c3b0 : decide (x3_1 < (l0.length : Int)) = true := decide_eq_true c3
          clear c3
          (first | rw [c3b0] | (simp only [i64_w, i32_w]; rw [c3b0]) | skip)
          have H' := Aside0.mk H
          clear H
          go_wp2
          go_meet
          case rel => exact ⟨_, (decide (x3_1 < 41)), (by first | rfl | (simp; done) | (simp [*]; done)), H', ⟨by have := HK1.out; first | omega | exact Nat.le_refl _⟩, by repeat (first | exact Drawn0.refl _ | apply Drawn0.step)⟩
        · rw [if_neg c3] at H
          have c3b0 : decide (x3_1 < (l0.length : Int)) = false := decide_eq_false c3
          clear c3
          (first | rw [c3b0] | (simp only [i64_w, i32_w]; rw [c3b0]) | skip)
          have H' := Aside0.mk H
          clear H
          go_wp2
          go_meet
          case rel => exact ⟨_, (false), (by first | rfl | (simp; done) | (simp [*]; done)), H', ⟨by have := HK1.out; first | omega | exact Nat.le_refl _⟩, by repeat (first | exact Drawn0.refl _ | apply Drawn0.step)⟩
      case rest =>
        clear HC2
        try clear c1
        try clear p2
        try clear c3
        try clear c3b0
        obtain ⟨kq, x11_1, rfl, HA, HJ1, ⟨mc1, rfl⟩⟩ := hcut
        cases kq with
        | zero => exact absurd HA.out (by simp [clavierlaw18_few.j1])
        | succ kj1 =>
          have H := HA.out
          clear HA
          simp only [clavierlaw18_few.j1] at H
          by_cases c4 : x11_1 = true
          · subst c4
            have H1 : (if 0 ≤ x3_1 then (if x3_1 < (l0.length : Int) then (if ((rd_L1 l0 x3_1).length : Int) > 20 then (some false) else (clavierlaw18_few.l0 kj1 l0 (wrap64 (x3_1 + 1)))) else (none)) else (none)) = some r := by rw [if_pos rfl] at H; exact H
            clear H
            have H := H1
            clear H1
            by_cases c5 : 0 ≤ x3_1
            · rw [if_pos c5] at H
              have c5b0 : decide (0 ≤ x3_1) = true := decide_eq_true c5
              clear c5
              by_cases c6 : x3_1 < (l0.length : Int)
              · rw [if_pos c6] at H
                have c6b0 : decide (x3_1 < (l0.length : Int)) = true := decide_eq_true c6
                clear c6
                by_cases c7 : ((rd_L1 l0 x3_1).length : Int) > 20
                · rw [if_pos c7] at H
                  have c7b0 : decide (20 < ((rd_L1 l0 x3_1).length : Int)) = true := decide_eq_true c7
                  have c7b1 : decide (20 < (rd_L1 l0 x3_1).length) = true := decide_eq_true (by omega)
                  clear c7
                  obtain rfl := Option.some.inj H
                  have p302 : 0 ≤ (x3_1 : Int) := of_decide_eq_true (by first | (with_reducible assumption) | assumption)
                  have q302 : x3_1 < (l0.length : Int) := of_decide_eq_true (by first | (with_reducible assumption) | assumption)
                  obtain ⟨ad302, A302_0, c302_0, e302, hx302_0, hl302_0, hi302_0⟩ := at_L1 HR0.out x3_1 p302 q302
                  cases e302
                  have HR302_0 := Aside0.mk hi302_0
                  have HC302_0 := Aside0.mk hl302_0
                  clear hi302_0 hl302_0
                  replace p302 := eq_true p302
                  replace q302 := eq_true q302
                  go_wp2
                  go_ret
                  exact ⟨by first | rfl | (simp; done) | (simp [*]; done), by repeat (first | exact Drawn0.refl _ | apply Drawn0.step)⟩
                · rw [if_neg c7] at H
                  have c7b0 : decide (20 < ((rd_L1 l0 x3_1).length : Int)) = false := decide_eq_false c7
                  have c7b1 : decide (20 < (rd_L1 l0 x3_1).length) = false := decide_eq_false (by omega)
                  clear c7
                  have H' := Aside0.mk H
                  clear H
                  have p302 : 0 ≤ (x3_1 : Int) := of_decide_eq_true (by first | (with_reducible assumption) | assumption)
                  have q302 : x3_1 < (l0.length : Int) := of_decide_eq_true (by first | (with_reducible assumption) | assumption)
                  obtain ⟨ad302, A302_0, c302_0, e302, hx302_0, hl302_0, hi302_0⟩ := at_L1 HR0.out x3_1 p302 q302
                  cases e302
                  have HR302_0 := Aside0.mk hi302_0
                  have HC302_0 := Aside0.mk hl302_0
                  clear hi302_0 hl302_0
                  replace p302 := eq_true p302
                  replace q302 := eq_true q302
                  go_wp2
                  go_roundg kj1
                  case measure => have := HK1.out; have := HJ1.out; omega
                  case rel => exact ⟨(wrap64 (x3_1 + 1)), (by first | rfl | (simp; done) | (simp [*]; done)), H', ⟨by have := HK1.out; have := HJ1.out; omega⟩, by repeat (first | exact Drawn0.refl _ | apply Drawn0.step)⟩
              · rw [if_neg c6] at H
                exact absurd H (by simp)
            · rw [if_neg c5] at H
              exact absurd H (by simp)
          · replace c4 := Bool.eq_false_iff.mpr c4
            subst c4
            have H1 : (some (decide ((l0.length : Int) ≤ 40))) = some r := by rw [if_neg (show ¬ (false = true) by decide)] at H; exact H
            clear H
            have H := H1
            clear H1
            obtain rfl := Option.some.inj H
            go_wp2
            go_ret
            exact ⟨by first | rfl | (simp; done) | (simp [*]; done), by repeat (first | exact Drawn0.refl _ | apply Drawn0.step)⟩
end Go.Proofs.YtbaigfoioiklkaaDoor.G
end
section
namespace Go.Proofs.YtbaigfoioiklkaaDoor.G
set_option linter.unusedVariables false
set_option linter.unusedSimpArgs false
open Go.RowKit Kit Go.Proofs.YtbaigfoioiklkaaDoorW.PrintWords
theorem few_loop (l : List (List Int)) : ∀ d i k : Nat, i + d = 41 → 2 * d + 5 ≤ k → ∃ b, clavierlaw18_few.l0 k l (i : Int) = some b ∧ (b = true → l.length ≤ 40 ∧ ∀ j, i ≤ j → (h : j < l.length) → l[j].length ≤ 20) := by
  intro d
  induction d with
  | zero =>
    intro i k hi hk
    obtain ⟨k, rfl⟩ : ∃ m, k = m + 2 := ⟨k - 2, by omega⟩
    refine ⟨decide ((l.length : Int) ≤ 40), ?_, fun h => ?_⟩
    · rw [clavierlaw18_few.l0]
      by_cases hil : (i : Int) < (l.length : Int)
      · rw [if_pos hil, clavierlaw18_few.j1, if_neg (by simp; omega)]
      · rw [if_neg hil, clavierlaw18_few.j1, if_neg (by decide)]
    · have : l.length ≤ 40 := by have := of_decide_eq_true h; omega
      exact ⟨this, fun j hj hjl => by omega⟩
  | succ d ih =>
    intro i k hi hk
    obtain ⟨k, rfl⟩ : ∃ m, k = m + 2 := ⟨k - 2, by omega⟩
    by_cases hil : i < l.length
    · have hw : wrap64 ((i : Int) + 1) = ((i + 1 : Nat) : Int) := by unfold wrap64; omega
      rw [clavierlaw18_few.l0, if_pos (by omega), clavierlaw18_few.j1, if_pos (by simp; omega), if_pos (by omega), if_pos (by omega), rd_rowQ l i hil, hw]
      by_cases h20 : (l[i].length : Int) > 20
      · rw [if_pos h20]
        exact ⟨false, rfl, fun h => by cases h⟩
      · rw [if_neg h20]
        obtain ⟨b, h1, h2⟩ := ih (i + 1) k (by omega) (by omega)
        refine ⟨b, h1, fun hb => ⟨(h2 hb).1, fun j hj hjl => ?_⟩⟩
        by_cases hji : j = i
        · subst hji; omega
        · exact (h2 hb).2 j (by omega) hjl
    · refine ⟨decide ((l.length : Int) ≤ 40), ?_, fun h => ?_⟩
      · rw [clavierlaw18_few.l0, if_neg (by omega), clavierlaw18_few.j1, if_neg (by decide)]
      · have : l.length ≤ 40 := by have := of_decide_eq_true h; omega
        exact ⟨this, fun j hj hjl => by omega⟩
theorem few_is (l : List (List Int)) (k : Nat) (hk : 100 ≤ k) : ∃ b, clavierlaw18_few.f k l = some b ∧ (b = true → l.length ≤ 40 ∧ ∀ r ∈ l, r.length ≤ 20) := by
  obtain ⟨b, h1, h2⟩ := few_loop l 41 0 k (by omega) (by omega)
  refine ⟨b, by simpa [clavierlaw18_few.f] using h1, fun hb => ⟨(h2 hb).1, fun r hr => ?_⟩⟩
  obtain ⟨j, hj, rfl⟩ := List.mem_iff_getElem.1 hr
  exact (h2 hb).2 j (by omega) hj
end Go.Proofs.YtbaigfoioiklkaaDoor.G
end
