/- H: texts run together by shake.py: Gwireb1 WiM CaE KitG2 CaF CaG KitT CaN CaP CaI KitG3 CaH CaU CaT CaX CaY. -/
import Derived.ArgAppend
import Derived.Below
import Derived.BigQuiet
import Derived.Deep.AppendLies
import Derived.Deep.CutBlock
import Derived.Deep.DeepCutAuto
import Derived.Deep.DrawnRows
import Derived.Deep.Draws
import Derived.Deep.LoopGhost
import Derived.Deep.OwnRows
import Derived.Deep.Quiet
import Derived.Deep.QuietTactic
import Derived.Deep.RegionHeld3
import Derived.Ground.GgzProg
import Derived.KernelRfl
import Derived.Laws.AppendOwn
import Derived.Laws.AppendOwnNone
import Derived.Laws.BitsAllLaws
import Derived.Laws.BitsLemmas
import Derived.Laws.BytesArg
import Derived.Laws.CopyRow
import Derived.Laws.IdiomCopy
import Derived.Laws.IdiomStrings
import Derived.Laws.MakeOwn
import Derived.Laws.OwnMore
import Derived.Laws.RangeAny
import Derived.Laws.Rows
import Derived.Laws.Slices
import Derived.Laws.StructEq
import Derived.Laws.Tables
import Derived.Lib.AppendStr
import Derived.Lib.ConvBytes
import Derived.Lib.Hide
import Derived.Lib.ItoaNum
import Derived.Lib.OthersKept
import Derived.Lib.SlKeysI
import Derived.Lib.TrimU
import Derived.MapKept
import Derived.Maps.AppendAt
import Derived.Maps.Own
import Derived.Orders
import Derived.OrdersHeld
import Derived.OrdersIn
import Derived.Outline
import Derived.OwnWalk
import Derived.RangeFuncCalls
import Derived.RangeFuncNested
import Derived.RangeFuncWrites
import Derived.RowKit
import Derived.RowKit3
import Derived.Shelf.LaysM
import Derived.Shelf.SlIter.Nil
import Derived.Shelf.Slices.Empties2
import Derived.Shelf.Slices.Equal
import Derived.Shelf.Slices.In.SortNone
import Derived.Shelf.Small.Bits
import Derived.Shelf.Small.Strs
import Derived.Shelf.Small.Utf8
import Derived.Shelf.Sort.Plain
import Derived.Shelf.SortM.Plain
import Derived.Shelf.SortM.SortNone
import Derived.Shelf.Strconv.Itoa0
import Derived.Shelf.Strings.Builder1
import Derived.Shelf.Strings.Builder2
import Derived.Shelf.Strings.Builder2Cap
import Derived.Shelf.Strings.BuilderCap
import Derived.Shelf.Strings.BuilderF
import Derived.Shelf.Strings.BuilderK
import Derived.Shelf.Strings.Cut
import Derived.Shelf.Strings.OnBuilder
import Derived.Shelf.Strings.Runes
import Derived.Shelf.Strings.Search1
import Derived.Shelf.Strings.Search2
import Derived.Shelf.Strings.Search3
import Derived.Shelf.Strings.Shaped
import Derived.Shelf.Unicode.Decode
import Derived.Shelf.Unicode.DecodeAny
import Derived.Shelf.Unicode.DecodeSlow
import Derived.Still
import Derived.Tactics
import Derived.TacticsIn
import Derived.Test.YtclnanhgcnopdaaDoorProg
import Derived.WalkKit
import Derived.WalkLawsBesides
import Derived.WalkSpells
import Derived.WideLaws
import Derived.Test.YtclnanhgcnopdaaDoorZH1
import Derived.Test.YtclnanhgcnopdaaDoorZH2
import Derived.Test.YtclnanhgcnopdaaDoorZH3
section
namespace Go.Proofs.YtclnanhgcnopdaaDoor.G
open Go.RowKit Go.Proofs.YtclnanhgcnopdaaDoorW.PrintWords Go.Proofs.YtclnanhgcnopdaaDoorW.PrintLast Go.Proofs.YtclnanhgcnopdaaDoorW.PrintMore
attribute [local go_sem] max2_int min2_int max_two min_two max_three min_three max_four min_four
set_option linter.unusedVariables false
set_option linter.unusedSimpArgs false
mutual
def wire_May.j0 : Nat → Bool → Int → Int → List (List Int) → ByteArray → Int → ByteArray → Option (Int)
  | 0, _, _, _, _, _, _, _ => none
  | k + 1, x3, x106000, x106001, x106002, x106003, x106004, x106005 => if (x106003.size : Int) ≤ 2 then ((wire_between.f x106003 32 47).bind fun t106 => (wire_May.j1 k x3 t106 x106000 x106001 x106002 x106003 x106004 x106005)) else (wire_May.j1 k x3 false x106000 x106001 x106002 x106003 x106004 x106005)
def wire_May.j1 : Nat → Bool → Bool → Int → Int → List (List Int) → ByteArray → Int → ByteArray → Option (Int)
  | 0, _, _, _, _, _, _, _, _ => none
  | k + 1, x3, x4, x106000, x106001, x106002, x106003, x106004, x106005 => if (x106005.size : Int) > 4096 then (some 4) else (if x3 = true then (if x4 = true then ((wire_listed.f x106002).bind fun t107 => (if t107 = true then ((wire_between.f x106005 32 126).bind fun t108 => (if t108 = true then ((wire_shaped.f k x106000 x106001 x106002 x106003 x106004 x106005).bind fun t109 => (if t109 = true then (some 0) else (some 1))) else (some 1))) else (some 1))) else (some 1)) else (some 1))
end
def wire_May.f (k : Nat) (a0_0 : Int) (a0_1 : Int) (l0_2 : List (List Int)) (a0_3 : ByteArray) (a0_4 : Int) (a0_5 : ByteArray) : Option (Int) := if a0_1 = 0 then (wire_May.j0 k true a0_0 a0_1 l0_2 a0_3 a0_4 a0_5) else (if a0_1 ≥ 60 then (wire_May.j0 k (decide (a0_1 ≤ 63)) a0_0 a0_1 l0_2 a0_3 a0_4 a0_5) else (wire_May.j0 k false a0_0 a0_1 l0_2 a0_3 a0_4 a0_5))
theorem wire_May.mono_l : ∀ k, (∀ y0 y1 y2 y3 y4 y5 y6, LeO (wire_May.j0 k y0 y1 y2 y3 y4 y5 y6) (wire_May.j0 (k + 1) y0 y1 y2 y3 y4 y5 y6)) ∧ (∀ y0 y1 y2 y3 y4 y5 y6 y7, LeO (wire_May.j1 k y0 y1 y2 y3 y4 y5 y6 y7) (wire_May.j1 (k + 1) y0 y1 y2 y3 y4 y5 y6 y7))
  | 0 => ⟨fun _ _ _ _ _ _ _ r h => by simp [wire_May.j0] at h, fun _ _ _ _ _ _ _ _ r h => by simp [wire_May.j1] at h⟩
  | k + 1 => by
    obtain ⟨ih0, ih1⟩ := wire_May.mono_l k
    refine ⟨?_, ?_⟩
    · intro y0 y1 y2 y3 y4 y5 y6
      unfold wire_May.j0
      repeat' first
      | (with_reducible exact ih0 _ _ _ _ _ _ _)
      | (with_reducible exact ih1 _ _ _ _ _ _ _ _)
      | (with_reducible exact wire_shaped.mono _ _ _ _ _ _ _)
      | (with_reducible exact LeO.refl _)
      | (with_reducible exact LeO.none _)
      | (with_reducible refine LeO.ite ?_ ?_)
      | (with_reducible refine LeO.bind ?_ (fun _ => ?_))
      | exact ih0 _ _ _ _ _ _ _
      | exact ih1 _ _ _ _ _ _ _ _
      | exact wire_shaped.mono _ _ _ _ _ _ _
      | exact LeO.none _
      | refine LeO.ite ?_ ?_
      | refine LeO.bind ?_ (fun _ => ?_)
    · intro y0 y1 y2 y3 y4 y5 y6 y7
      unfold wire_May.j1
      repeat' first
      | (with_reducible exact ih0 _ _ _ _ _ _ _)
      | (with_reducible exact ih1 _ _ _ _ _ _ _ _)
      | (with_reducible exact wire_shaped.mono _ _ _ _ _ _ _)
      | (with_reducible exact LeO.refl _)
      | (with_reducible exact LeO.none _)
      | (with_reducible refine LeO.ite ?_ ?_)
      | (with_reducible refine LeO.bind ?_ (fun _ => ?_))
      | exact ih0 _ _ _ _ _ _ _
      | exact ih1 _ _ _ _ _ _ _ _
      | exact wire_shaped.mono _ _ _ _ _ _ _
      | exact LeO.none _
      | refine LeO.ite ?_ ?_
      | refine LeO.bind ?_ (fun _ => ?_)
theorem wire_May.mono : ∀ a0 a1 a2 a3 a4 a5 k, LeO (wire_May.f k a0 a1 a2 a3 a4 a5) (wire_May.f (k + 1) a0 a1 a2 a3 a4 a5) := by
  intro a0 a1 a2 a3 a4 a5 k
  obtain ⟨ih0, ih1⟩ := wire_May.mono_l k
  unfold wire_May.f
  repeat' first
      | (with_reducible exact ih0 _ _ _ _ _ _ _)
      | (with_reducible exact ih1 _ _ _ _ _ _ _ _)
      | (with_reducible exact wire_shaped.mono _ _ _ _ _ _ _)
      | (with_reducible exact LeO.refl _)
      | (with_reducible exact LeO.none _)
      | (with_reducible refine LeO.ite ?_ ?_)
      | (with_reducible refine LeO.bind ?_ (fun _ => ?_))
      | exact ih0 _ _ _ _ _ _ _
      | exact ih1 _ _ _ _ _ _ _ _
      | exact wire_shaped.mono _ _ _ _ _ _ _
      | exact LeO.none _
      | refine LeO.ite ?_ ?_
      | refine LeO.bind ?_ (fun _ => ?_)
set_option maxHeartbeats 8000000 in
set_option maxRecDepth 100000 in
theorem wire_May.calls (k : Nat) (a0_0 : Int) (a0_1 : Int) (A0_2 : Option Addr) (c0_2 : Nat) (l0_2 : List (List Int)) (a0_3 : ByteArray) (a0_4 : Int) (a0_5 : ByteArray) (r : Int) (w : World) (hr0_2 : Kd.C (Kd.slice 3 (Kd.int .i64)) w A0_2 l0_2.length l0_2) (hc0_2 : l0_2.length ≤ c0_2) (h : wire_May.f k a0_0 a0_1 l0_2 a0_3 a0_4 a0_5 = some r) :
    Calls Tryd.prog 24 #[.agg #[.int .i64 a0_0, .int .u8 a0_1, .slice A0_2 l0_2.length c0_2, .string a0_3, .int .u8 a0_4, .string a0_5]] w fun e w' => e = .returned (.int .i64 r) ∧ Below w.heap.size w w' := by
  have hu28 := Tryd.underlying28
  have HR0_2 := Aside0.mk hr0_2
  have HC0_2 := Aside0.mk hc0_2
  clear hr0_2 hc0_2
  have HB := Aside0.mk (Below.refl w.heap.size w)
  have H : (if a0_1 = 0 then (wire_May.j0 k true a0_0 a0_1 l0_2 a0_3 a0_4 a0_5) else (if a0_1 ≥ 60 then (wire_May.j0 k (decide (a0_1 ≤ 63)) a0_0 a0_1 l0_2 a0_3 a0_4 a0_5) else (wire_May.j0 k false a0_0 a0_1 l0_2 a0_3 a0_4 a0_5))) = some r := h
  clear h
  have HC2 := Aside0.mk H
  clear H
  go_enter Tryd.func24, Tryd.ntmps24
  go_upto_region 1 with (first | ((with_reducible refine gate_dst (N := 1) rfl ?_); refine box_event ?hg (N := 1) ?hd (cs := #[.int .i64 a0_0, .int .u8 a0_1, .slice A0_2 l0_2.length c0_2, .string a0_3, .int .u8 a0_4, .string a0_5]) (t := 28) ?hr ?_; (case hd => rfl); (case hg => rfl); (case hr => first | (go_simp; done) | (go_simp; rfl)); intro gb105 hg w3 hbox hb; have n0_ := Aside0.mk (below_step (by repeat (first | (with_reducible first | exact HB.out | apply below_alloc | apply pw_below_drewN | apply below_drew1) | exact HB.out)) hb); have n1_ := Aside0.mk (hbox); have n2_ := Aside0.mk ((by rw [hg]; exact (below_size (by repeat (first | (with_reducible first | exact HB.out | apply below_alloc | apply pw_below_drewN | apply below_drew1) | exact HB.out))) : w.heap.size ≤ gb105)); have n3_ := Aside0.mk ((by rw [hg]; exact (below_size (by repeat (first | (with_reducible first | exact HB.out | apply below_alloc | apply pw_below_drewN | apply below_drew1) | exact HB.out))) : w.heap.size ≤ gb105)); clear HB; have HB := n0_; have BK105 := n1_; have GW105 := n2_; have GE105 := n3_; clear n0_ n1_ n2_ n3_; clear hb hbox hg))
  (try simp only [Act.put, List.setIfInBounds_toArray, List.set_cons_zero, List.set_cons_succ])
  go_cut [3] (fun v3 wc => ∃ (kq : Nat) (x3_1 : Bool), v3 = .bool x3_1 ∧ Aside0 (wire_May.j0 kq x3_1 a0_0 a0_1 l0_2 a0_3 a0_4 a0_5 = some r) ∧ Aside0 (kq ≤ k) ∧ Aside0 (wc.heap[gb105]? = some (.cells #[.int .i64 a0_0, .int .u8 a0_1, (.slice A0_2 l0_2.length c0_2), .string a0_3, .int .u8 a0_4, .string a0_5] 28 (0, 0))) ∧ Aside0 (Below w.heap.size w wc))
  case first =>
    have H := HC2.out
    clear HC2
    by_cases c4 : a0_1 = 0
    · rw [if_pos c4] at H
      have c4b0 : (a0_1 == 0) = true := beq_iff_eq.mpr c4
      have c4b1 : (a0_1 != 0) = false := bne_eq_false_iff_eq.mpr c4
      clear c4
      (first | rw [c4b0] | (simp only [i64_w, i32_w]; rw [c4b0]) | skip)
      have H' := Aside0.mk H
      clear H
      have hcz5_0 : w3.cell? ⟨gb105, 0, none⟩ = some (.int .i64 a0_0) := (blk_cell BK105.out 0).trans rfl
      have hcz5_1 : w3.cell? ⟨gb105, 1, none⟩ = some (.int .u8 a0_1) := (blk_cell BK105.out 1).trans rfl
      have hcz5_2 : w3.cell? ⟨gb105, 2, none⟩ = some (.slice A0_2 l0_2.length c0_2) := (blk_cell BK105.out 2).trans rfl
      have hcz5_3 : w3.cell? ⟨gb105, 3, none⟩ = some (.string a0_3) := (blk_cell BK105.out 3).trans rfl
      have hcz5_4 : w3.cell? ⟨gb105, 4, none⟩ = some (.int .u8 a0_4) := (blk_cell BK105.out 4).trans rfl
      have hcz5_5 : w3.cell? ⟨gb105, 5, none⟩ = some (.string a0_5) := (blk_cell BK105.out 5).trans rfl
      have hfz5_0 := blk_frozen BK105.out 0
      have hfz5_1 := blk_frozen BK105.out 1
      have hfz5_2 := blk_frozen BK105.out 2
      have hfz5_3 := blk_frozen BK105.out 3
      have hfz5_4 := blk_frozen BK105.out 4
      have hfz5_5 := blk_frozen BK105.out 5
      go_wp2
      go_meet
      case rel => exact ⟨_, (true), (by first | rfl | (simp; done) | (simp [*]; done)), H', ⟨by first | omega | exact Nat.le_refl _⟩, ⟨by (with_reducible repeat (first | refine blk_drewN ?_ _ | refine blk_drew ?_ | refine blk_alloc ?_ _)); exact BK105.out⟩, ⟨by repeat (first | (with_reducible first | exact HB.out | apply below_alloc | apply pw_below_drewN | apply below_drew1 | refine below_set ?_ GE105.out) | exact HB.out)⟩⟩
    · rw [if_neg c4] at H
      have c4b0 : (a0_1 == 0) = false := beq_eq_false_iff_ne.mpr c4
      have c4b1 : (a0_1 != 0) = true := bne_iff_ne.mpr c4
      (first | rw [c4b0] | (simp only [i64_w, i32_w]; rw [c4b0]) | skip)
      by_cases c6 : a0_1 ≥ 60
      · rw [if_pos c6] at H
        have c6b0 : decide (60 ≤ a0_1) = true := decide_eq_true c6
        clear c6
        have H' := Aside0.mk H
        clear H
        have hcz7_0 : w3.cell? ⟨gb105, 0, none⟩ = some (.int .i64 a0_0) := (blk_cell BK105.out 0).trans rfl
        have hcz7_1 : w3.cell? ⟨gb105, 1, none⟩ = some (.int .u8 a0_1) := (blk_cell BK105.out 1).trans rfl
        have hcz7_2 : w3.cell? ⟨gb105, 2, none⟩ = some (.slice A0_2 l0_2.length c0_2) := (blk_cell BK105.out 2).trans rfl
        have hcz7_3 : w3.cell? ⟨gb105, 3, none⟩ = some (.string a0_3) := (blk_cell BK105.out 3).trans rfl
        have hcz7_4 : w3.cell? ⟨gb105, 4, none⟩ = some (.int .u8 a0_4) := (blk_cell BK105.out 4).trans rfl
        have hcz7_5 : w3.cell? ⟨gb105, 5, none⟩ = some (.string a0_5) := (blk_cell BK105.out 5).trans rfl
        have hfz7_0 := blk_frozen BK105.out 0
        have hfz7_1 := blk_frozen BK105.out 1
        have hfz7_2 := blk_frozen BK105.out 2
        have hfz7_3 := blk_frozen BK105.out 3
        have hfz7_4 := blk_frozen BK105.out 4
        have hfz7_5 := blk_frozen BK105.out 5
        go_wp2
        go_meet
        case rel => exact ⟨_, (decide (a0_1 ≤ 63)), (by first | rfl | (simp; done) | (simp [*]; done)), H', ⟨by first | omega | exact Nat.le_refl _⟩, ⟨by (with_reducible repeat (first | refine blk_drewN ?_ _ | refine blk_drew ?_ | refine blk_alloc ?_ _)); exact BK105.out⟩, ⟨by repeat (first | (with_reducible first | exact HB.out | apply below_alloc | apply pw_below_drewN | apply below_drew1 | refine below_set ?_ GE105.out) | exact HB.out)⟩⟩
      · rw [if_neg c6] at H
        have c6b0 : decide (60 ≤ a0_1) = false := decide_eq_false c6
        clear c6
        have H' := Aside0.mk H
        clear H
        have hcz8_0 : w3.cell? ⟨gb105, 0, none⟩ = some (.int .i64 a0_0) := (blk_cell BK105.out 0).trans rfl
        have hcz8_1 : w3.cell? ⟨gb105, 1, none⟩ = some (.int .u8 a0_1) := (blk_cell BK105.out 1).trans rfl
        have hcz8_2 : w3.cell? ⟨gb105, 2, none⟩ = some (.slice A0_2 l0_2.length c0_2) := (blk_cell BK105.out 2).trans rfl
        have hcz8_3 : w3.cell? ⟨gb105, 3, none⟩ = some (.string a0_3) := (blk_cell BK105.out 3).trans rfl
        have hcz8_4 : w3.cell? ⟨gb105, 4, none⟩ = some (.int .u8 a0_4) := (blk_cell BK105.out 4).trans rfl
        have hcz8_5 : w3.cell? ⟨gb105, 5, none⟩ = some (.string a0_5) := (blk_cell BK105.out 5).trans rfl
        have hfz8_0 := blk_frozen BK105.out 0
        have hfz8_1 := blk_frozen BK105.out 1
        have hfz8_2 := blk_frozen BK105.out 2
        have hfz8_3 := blk_frozen BK105.out 3
        have hfz8_4 := blk_frozen BK105.out 4
        have hfz8_5 := blk_frozen BK105.out 5
        go_wp2
        go_meet
        case rel => exact ⟨_, (false), (by first | rfl | (simp; done) | (simp [*]; done)), H', ⟨by first | omega | exact Nat.le_refl _⟩, ⟨by (with_reducible repeat (first | refine blk_drewN ?_ _ | refine blk_drew ?_ | refine blk_alloc ?_ _)); exact BK105.out⟩, ⟨by repeat (first | (with_reducible first | exact HB.out | apply below_alloc | apply pw_below_drewN | apply below_drew1 | refine below_set ?_ GE105.out) | exact HB.out)⟩⟩
  case rest =>
    clear HC2
    try clear c2
    try clear p2
    try clear c4
    try clear c4b0
    try clear c4b1
    try clear c6
    try clear c6b0
    try clear hcz5_0
    try clear hcz5_1
    try clear hcz5_2
    try clear hcz5_3
    try clear hcz5_4
    try clear hcz5_5
    try clear hcz7_0
    try clear hcz7_1
    try clear hcz7_2
    try clear hcz7_3
    try clear hcz7_4
    try clear hcz7_5
    try clear hcz8_0
    try clear hcz8_1
    try clear hcz8_2
    try clear hcz8_3
    try clear hcz8_4
    try clear hcz8_5
    try clear hfz5_0
    try clear hfz5_1
    try clear hfz5_2
    try clear hfz5_3
    try clear hfz5_4
    try clear hfz5_5
    try clear hfz7_0
    try clear hfz7_1
    try clear hfz7_2
    try clear hfz7_3
    try clear hfz7_4
    try clear hfz7_5
    try clear hfz8_0
    try clear hfz8_1
    try clear hfz8_2
    try clear hfz8_3
    try clear hfz8_4
    try clear hfz8_5
    obtain ⟨kq, x3_1, rfl, HA, HJ1, BK105, HB⟩ := hcut
    cases kq with
    | zero => exact absurd HA.out (by simp [wire_May.j0])
    | succ kj1 =>
      have H := HA.out
      clear HA
      simp only [wire_May.j0] at H
      have HC9 := Aside0.mk H
      clear H
      go_upto_region 2 with (fail)
      go_cut [4] (fun v4 wc => ∃ (kq : Nat) (x4_8 : Bool), v4 = .bool x4_8 ∧ Aside0 (wire_May.j1 kq x3_1 x4_8 a0_0 a0_1 l0_2 a0_3 a0_4 a0_5 = some r) ∧ Aside0 (kq ≤ kj1) ∧ Aside0 (wc.heap[gb105]? = some (.cells #[.int .i64 a0_0, .int .u8 a0_1, (.slice A0_2 l0_2.length c0_2), .string a0_3, .int .u8 a0_4, .string a0_5] 28 (0, 0))) ∧ Aside0 (Below w.heap.size w wc))
      case first =>
        have H := HC9.out
        clear HC9
        by_cases c10 : (a0_3.size : Int) ≤ 2
        · rw [if_pos c10] at H
          have c10b0 : decide ((a0_3.size : Int) ≤ 2) = true := decide_eq_true c10
          have c10b1 : decide (a0_3.size ≤ 2) = true := decide_eq_true (by omega)
          clear c10
          (first | rw [c10b0] | (simp only [i64_w, i32_w]; rw [c10b0]) | skip)
          replace H := Option.bind_eq_some_iff.mp H
          obtain ⟨t106, A110, H⟩ := H
          replace H : (wire_May.j1 kj1 x3_1 t106 a0_0 a0_1 l0_2 a0_3 a0_4 a0_5) = some r := H
          have A11 := Aside0.mk A110
          clear A110
          have H' := Aside0.mk H
          clear H
          have hcz12_0 : wc.cell? ⟨gb105, 0, none⟩ = some (.int .i64 a0_0) := (blk_cell BK105.out 0).trans rfl
          have hcz12_1 : wc.cell? ⟨gb105, 1, none⟩ = some (.int .u8 a0_1) := (blk_cell BK105.out 1).trans rfl
          have hcz12_2 : wc.cell? ⟨gb105, 2, none⟩ = some (.slice A0_2 l0_2.length c0_2) := (blk_cell BK105.out 2).trans rfl
          have hcz12_3 : wc.cell? ⟨gb105, 3, none⟩ = some (.string a0_3) := (blk_cell BK105.out 3).trans rfl
          have hcz12_4 : wc.cell? ⟨gb105, 4, none⟩ = some (.int .u8 a0_4) := (blk_cell BK105.out 4).trans rfl
          have hcz12_5 : wc.cell? ⟨gb105, 5, none⟩ = some (.string a0_5) := (blk_cell BK105.out 5).trans rfl
          have hfz12_0 := blk_frozen BK105.out 0
          have hfz12_1 := blk_frozen BK105.out 1
          have hfz12_2 := blk_frozen BK105.out 2
          have hfz12_3 := blk_frozen BK105.out 3
          have hfz12_4 := blk_frozen BK105.out 4
          have hfz12_5 := blk_frozen BK105.out 5
          go_wp2_with (first | (go_at_call 44; (with_reducible refine (wire_between.calls a0_3 32 47 t106 _ A11.out).mono ?_); rintro e w13 ⟨rfl, hb⟩; have n0_ := Aside0.mk (blk_below (g := gb105) (o := .cells #[.int .i64 a0_0, .int .u8 a0_1, .slice A0_2 l0_2.length c0_2, .string a0_3, .int .u8 a0_4, .string a0_5] 28 (0, 0)) (by (with_reducible repeat (first | refine blk_drewN ?_ _ | refine blk_drew ?_ | refine blk_alloc ?_ _)); exact BK105.out) hb); have n1_ := Aside0.mk (below_step (by repeat (first | (with_reducible first | exact HB.out | apply below_alloc | apply pw_below_drewN | apply below_drew1 | refine below_set ?_ GE105.out) | exact HB.out)) hb); clear BK105; clear HB; have BK105 := n0_; have HB := n1_; clear n0_ n1_; (try clear hb); (try clear hb2); (try clear hk); (try clear hi)))
          go_meet
          case rel => exact ⟨_, (t106), (by first | rfl | (simp; done) | (simp [*]; done)), H', ⟨by have := HJ1.out; first | omega | exact Nat.le_refl _⟩, ⟨by (with_reducible repeat (first | refine blk_drewN ?_ _ | refine blk_drew ?_ | refine blk_alloc ?_ _)); exact BK105.out⟩, ⟨by repeat (first | (with_reducible first | exact HB.out | apply below_alloc | apply pw_below_drewN | apply below_drew1 | refine below_set ?_ GE105.out) | exact HB.out)⟩⟩
        · rw [if_neg c10] at H
          have c10b0 : decide ((a0_3.size : Int) ≤ 2) = false := decide_eq_false c10
          have c10b1 : decide (a0_3.size ≤ 2) = false := decide_eq_false (by omega)
          clear c10
          (first | rw [c10b0] | (simp only [i64_w, i32_w]; rw [c10b0]) | skip)
          have H' := Aside0.mk H
          clear H
          have hcz14_0 : wc.cell? ⟨gb105, 0, none⟩ = some (.int .i64 a0_0) := (blk_cell BK105.out 0).trans rfl
          have hcz14_1 : wc.cell? ⟨gb105, 1, none⟩ = some (.int .u8 a0_1) := (blk_cell BK105.out 1).trans rfl
          have hcz14_2 : wc.cell? ⟨gb105, 2, none⟩ = some (.slice A0_2 l0_2.length c0_2) := (blk_cell BK105.out 2).trans rfl
          have hcz14_3 : wc.cell? ⟨gb105, 3, none⟩ = some (.string a0_3) := (blk_cell BK105.out 3).trans rfl
          have hcz14_4 : wc.cell? ⟨gb105, 4, none⟩ = some (.int .u8 a0_4) := (blk_cell BK105.out 4).trans rfl
          have hcz14_5 : wc.cell? ⟨gb105, 5, none⟩ = some (.string a0_5) := (blk_cell BK105.out 5).trans rfl
          have hfz14_0 := blk_frozen BK105.out 0
          have hfz14_1 := blk_frozen BK105.out 1
          have hfz14_2 := blk_frozen BK105.out 2
          have hfz14_3 := blk_frozen BK105.out 3
          have hfz14_4 := blk_frozen BK105.out 4
          have hfz14_5 := blk_frozen BK105.out 5
          go_wp2
          go_meet
          case rel => exact ⟨_, (false), (by first | rfl | (simp; done) | (simp [*]; done)), H', ⟨by have := HJ1.out; first | omega | exact Nat.le_refl _⟩, ⟨by (with_reducible repeat (first | refine blk_drewN ?_ _ | refine blk_drew ?_ | refine blk_alloc ?_ _)); exact BK105.out⟩, ⟨by repeat (first | (with_reducible first | exact HB.out | apply below_alloc | apply pw_below_drewN | apply below_drew1 | refine below_set ?_ GE105.out) | exact HB.out)⟩⟩
      case rest =>
        clear HC9
        try clear c1
        try clear c2
        try clear p2
        try clear c4
        try clear c4b0
        try clear c4b1
        try clear c6
        try clear c6b0
        try clear c10
        try clear c10b0
        try clear c10b1
        try clear hcz12_0
        try clear hcz12_1
        try clear hcz12_2
        try clear hcz12_3
        try clear hcz12_4
        try clear hcz12_5
        try clear hcz14_0
        try clear hcz14_1
        try clear hcz14_2
        try clear hcz14_3
        try clear hcz14_4
        try clear hcz14_5
        try clear hcz5_0
        try clear hcz5_1
        try clear hcz5_2
        try clear hcz5_3
        try clear hcz5_4
        try clear hcz5_5
        try clear hcz7_0
        try clear hcz7_1
        try clear hcz7_2
        try clear hcz7_3
        try clear hcz7_4
        try clear hcz7_5
        try clear hcz8_0
        try clear hcz8_1
        try clear hcz8_2
        try clear hcz8_3
        try clear hcz8_4
        try clear hcz8_5
        try clear hfz12_0
        try clear hfz12_1
        try clear hfz12_2
        try clear hfz12_3
        try clear hfz12_4
        try clear hfz12_5
        try clear hfz14_0
        try clear hfz14_1
        try clear hfz14_2
        try clear hfz14_3
        try clear hfz14_4
        try clear hfz14_5
        try clear hfz5_0
        try clear hfz5_1
        try clear hfz5_2
        try clear hfz5_3
        try clear hfz5_4
        try clear hfz5_5
        try clear hfz7_0
        try clear hfz7_1
        try clear hfz7_2
        try clear hfz7_3
        try clear hfz7_4
        try clear hfz7_5
        try clear hfz8_0
        try clear hfz8_1
        try clear hfz8_2
        try clear hfz8_3
        try clear hfz8_4
        try clear hfz8_5
        try clear p2
        obtain ⟨kq, x4_8, rfl, HA, HJ8, BK105, HB⟩ := hcut
        cases kq with
        | zero => exact absurd HA.out (by simp [wire_May.j1])
        | succ kj8 =>
          have H := HA.out
          clear HA
          simp only [wire_May.j1] at H
          by_cases c15 : (a0_5.size : Int) > 4096
          · rw [if_pos c15] at H
            have c15b0 : decide (4096 < (a0_5.size : Int)) = true := decide_eq_true c15
            have c15b1 : decide (4096 < a0_5.size) = true := decide_eq_true (by omega)
            clear c15
            obtain rfl := Option.some.inj H
            have hcz16_0 : wc.cell? ⟨gb105, 0, none⟩ = some (.int .i64 a0_0) := (blk_cell BK105.out 0).trans rfl
            have hcz16_1 : wc.cell? ⟨gb105, 1, none⟩ = some (.int .u8 a0_1) := (blk_cell BK105.out 1).trans rfl
            have hcz16_2 : wc.cell? ⟨gb105, 2, none⟩ = some (.slice A0_2 l0_2.length c0_2) := (blk_cell BK105.out 2).trans rfl
            have hcz16_3 : wc.cell? ⟨gb105, 3, none⟩ = some (.string a0_3) := (blk_cell BK105.out 3).trans rfl
            have hcz16_4 : wc.cell? ⟨gb105, 4, none⟩ = some (.int .u8 a0_4) := (blk_cell BK105.out 4).trans rfl
            have hcz16_5 : wc.cell? ⟨gb105, 5, none⟩ = some (.string a0_5) := (blk_cell BK105.out 5).trans rfl
            have hfz16_0 := blk_frozen BK105.out 0
            have hfz16_1 := blk_frozen BK105.out 1
            have hfz16_2 := blk_frozen BK105.out 2
            have hfz16_3 := blk_frozen BK105.out 3
            have hfz16_4 := blk_frozen BK105.out 4
            have hfz16_5 := blk_frozen BK105.out 5
            go_wp2
            go_ret
            exact ⟨by first | rfl | (simp [errW_none, errW_some] <;> rfl) | (simp [*, errW_none, errW_some] <;> rfl), by repeat (first | (with_reducible first | exact HB.out | apply below_alloc | apply pw_below_drewN | apply below_drew1 | refine below_set ?_ GE105.out) | exact HB.out)⟩
          · rw [if_neg c15] at H
            have c15b0 : decide (4096 < (a0_5.size : Int)) = false := decide_eq_false c15
            have c15b1 : decide (4096 < a0_5.size) = false := decide_eq_false (by omega)
            clear c15
            by_cases c17 : x3_1 = true
            · subst c17
              have H1 : (if x4_8 = true then ((wire_listed.f l0_2).bind fun t107 => (if t107 = true then ((wire_between.f a0_5 32 126).bind fun t108 => (if t108 = true then ((wire_shaped.f kj8 a0_0 a0_1 l0_2 a0_3 a0_4 a0_5).bind fun t109 => (if t109 = true then (some 0) else (some 1))) else (some 1))) else (some 1))) else (some 1)) = some r := by rw [if_pos rfl] at H; exact H
              clear H
              have H := H1
              clear H1
              by_cases c18 : x4_8 = true
              · subst c18
                have H1 : ((wire_listed.f l0_2).bind fun t107 => (if t107 = true then ((wire_between.f a0_5 32 126).bind fun t108 => (if t108 = true then ((wire_shaped.f kj8 a0_0 a0_1 l0_2 a0_3 a0_4 a0_5).bind fun t109 => (if t109 = true then (some 0) else (some 1))) else (some 1))) else (some 1))) = some r := by rw [if_pos rfl] at H; exact H
                clear H
                have H := H1
                clear H1
                replace H := Option.bind_eq_some_iff.mp H
                obtain ⟨t107, A190, H⟩ := H
                replace H : (if t107 = true then ((wire_between.f a0_5 32 126).bind fun t108 => (if t108 = true then ((wire_shaped.f kj8 a0_0 a0_1 l0_2 a0_3 a0_4 a0_5).bind fun t109 => (if t109 = true then (some 0) else (some 1))) else (some 1))) else (some 1)) = some r := H
                have A19 := Aside0.mk A190
                clear A190
                by_cases c20 : t107 = true
                · subst c20
                  have H1 : ((wire_between.f a0_5 32 126).bind fun t108 => (if t108 = true then ((wire_shaped.f kj8 a0_0 a0_1 l0_2 a0_3 a0_4 a0_5).bind fun t109 => (if t109 = true then (some 0) else (some 1))) else (some 1))) = some r := by rw [if_pos rfl] at H; exact H
                  clear H
                  have H := H1
                  clear H1
                  replace H := Option.bind_eq_some_iff.mp H
                  obtain ⟨t108, A210, H⟩ := H
                  replace H : (if t108 = true then ((wire_shaped.f kj8 a0_0 a0_1 l0_2 a0_3 a0_4 a0_5).bind fun t109 => (if t109 = true then (some 0) else (some 1))) else (some 1)) = some r := H
                  have A21 := Aside0.mk A210
                  clear A210
                  by_cases c22 : t108 = true
                  · subst c22
                    have H1 : ((wire_shaped.f kj8 a0_0 a0_1 l0_2 a0_3 a0_4 a0_5).bind fun t109 => (if t109 = true then (some 0) else (some 1))) = some r := by rw [if_pos rfl] at H; exact H
                    clear H
                    have H := H1
                    clear H1
                    replace H := Option.bind_eq_some_iff.mp H
                    obtain ⟨t109, A230, H⟩ := H
                    replace H : (if t109 = true then (some 0) else (some 1)) = some r := H
                    have A23 := Aside0.mk A230
                    clear A230
                    by_cases c24 : t109 = true
                    · subst c24
                      have H1 : (some 0) = some r := by rw [if_pos rfl] at H; exact H
                      clear H
                      have H := H1
                      clear H1
                      obtain rfl := Option.some.inj H
                      have hcz25_0 : wc.cell? ⟨gb105, 0, none⟩ = some (.int .i64 a0_0) := (blk_cell BK105.out 0).trans rfl
                      have hcz25_1 : wc.cell? ⟨gb105, 1, none⟩ = some (.int .u8 a0_1) := (blk_cell BK105.out 1).trans rfl
                      have hcz25_2 : wc.cell? ⟨gb105, 2, none⟩ = some (.slice A0_2 l0_2.length c0_2) := (blk_cell BK105.out 2).trans rfl
                      have hcz25_3 : wc.cell? ⟨gb105, 3, none⟩ = some (.string a0_3) := (blk_cell BK105.out 3).trans rfl
                      have hcz25_4 : wc.cell? ⟨gb105, 4, none⟩ = some (.int .u8 a0_4) := (blk_cell BK105.out 4).trans rfl
                      have hcz25_5 : wc.cell? ⟨gb105, 5, none⟩ = some (.string a0_5) := (blk_cell BK105.out 5).trans rfl
                      have hfz25_0 := blk_frozen BK105.out 0
                      have hfz25_1 := blk_frozen BK105.out 1
                      have hfz25_2 := blk_frozen BK105.out 2
                      have hfz25_3 := blk_frozen BK105.out 3
                      have hfz25_4 := blk_frozen BK105.out 4
                      have hfz25_5 := blk_frozen BK105.out 5
                      go_wp2_with (first | (go_at_call 45; (with_reducible refine (wire_listed.calls _ _ l0_2 true _ ?side1 ?side2 A19.out).mono ?_); (case side1 => repeat (first | exact (Kd.C_below HR0_2.out HB.out) | (with_reducible refine Kd.C_alloc ?_ _) | (with_reducible refine Kd.C_drewN ?_ _) | (with_reducible refine Kd.C_drew ?_))); (case side2 => exact HC0_2.out); rintro e w26 ⟨rfl, hb⟩; have n0_ := Aside0.mk (blk_below (g := gb105) (o := .cells #[.int .i64 a0_0, .int .u8 a0_1, .slice A0_2 l0_2.length c0_2, .string a0_3, .int .u8 a0_4, .string a0_5] 28 (0, 0)) (by (with_reducible repeat (first | refine blk_drewN ?_ _ | refine blk_drew ?_ | refine blk_alloc ?_ _)); exact BK105.out) hb); have n1_ := Aside0.mk (below_step (by repeat (first | (with_reducible first | exact HB.out | apply below_alloc | apply pw_below_drewN | apply below_drew1 | refine below_set ?_ GE105.out) | exact HB.out)) hb); clear BK105; clear HB; have BK105 := n0_; have HB := n1_; clear n0_ n1_; (try clear hb); (try clear hb2); (try clear hk); (try clear hi); have hcz27_0 : w26.cell? ⟨gb105, 0, none⟩ = some (.int .i64 a0_0) := (blk_cell BK105.out 0).trans rfl; have hcz27_1 : w26.cell? ⟨gb105, 1, none⟩ = some (.int .u8 a0_1) := (blk_cell BK105.out 1).trans rfl; have hcz27_2 : w26.cell? ⟨gb105, 2, none⟩ = some (.slice A0_2 l0_2.length c0_2) := (blk_cell BK105.out 2).trans rfl; have hcz27_3 : w26.cell? ⟨gb105, 3, none⟩ = some (.string a0_3) := (blk_cell BK105.out 3).trans rfl; have hcz27_4 : w26.cell? ⟨gb105, 4, none⟩ = some (.int .u8 a0_4) := (blk_cell BK105.out 4).trans rfl; have hcz27_5 : w26.cell? ⟨gb105, 5, none⟩ = some (.string a0_5) := (blk_cell BK105.out 5).trans rfl; have hfz27_0 := blk_frozen BK105.out 0; have hfz27_1 := blk_frozen BK105.out 1; have hfz27_2 := blk_frozen BK105.out 2; have hfz27_3 := blk_frozen BK105.out 3; have hfz27_4 := blk_frozen BK105.out 4; have hfz27_5 := blk_frozen BK105.out 5) | (go_at_call 44; (with_reducible refine (wire_between.calls a0_5 32 126 true _ A21.out).mono ?_); rintro e w28 ⟨rfl, hb⟩; have n0_ := Aside0.mk (blk_below (g := gb105) (o := .cells #[.int .i64 a0_0, .int .u8 a0_1, .slice A0_2 l0_2.length c0_2, .string a0_3, .int .u8 a0_4, .string a0_5] 28 (0, 0)) (by (with_reducible repeat (first | refine blk_drewN ?_ _ | refine blk_drew ?_ | refine blk_alloc ?_ _)); exact BK105.out) hb); have n1_ := Aside0.mk (below_step (by repeat (first | (with_reducible first | exact HB.out | apply below_alloc | apply pw_below_drewN | apply below_drew1 | refine below_set ?_ GE105.out) | exact HB.out)) hb); clear BK105; clear HB; have BK105 := n0_; have HB := n1_; clear n0_ n1_; (try clear hb); (try clear hb2); (try clear hk); (try clear hi); have hcz29_0 : w28.cell? ⟨gb105, 0, none⟩ = some (.int .i64 a0_0) := (blk_cell BK105.out 0).trans rfl; have hcz29_1 : w28.cell? ⟨gb105, 1, none⟩ = some (.int .u8 a0_1) := (blk_cell BK105.out 1).trans rfl; have hcz29_2 : w28.cell? ⟨gb105, 2, none⟩ = some (.slice A0_2 l0_2.length c0_2) := (blk_cell BK105.out 2).trans rfl; have hcz29_3 : w28.cell? ⟨gb105, 3, none⟩ = some (.string a0_3) := (blk_cell BK105.out 3).trans rfl; have hcz29_4 : w28.cell? ⟨gb105, 4, none⟩ = some (.int .u8 a0_4) := (blk_cell BK105.out 4).trans rfl; have hcz29_5 : w28.cell? ⟨gb105, 5, none⟩ = some (.string a0_5) := (blk_cell BK105.out 5).trans rfl; have hfz29_0 := blk_frozen BK105.out 0; have hfz29_1 := blk_frozen BK105.out 1; have hfz29_2 := blk_frozen BK105.out 2; have hfz29_3 := blk_frozen BK105.out 3; have hfz29_4 := blk_frozen BK105.out 4; have hfz29_5 := blk_frozen BK105.out 5) | (go_at_call 46; (with_reducible refine (wire_shaped.calls kj8 a0_0 a0_1 _ _ l0_2 a0_3 a0_4 a0_5 true _ ?side1 ?side2 A23.out).mono ?_); (case side1 => repeat (first | exact (Kd.C_below HR0_2.out HB.out) | (with_reducible refine Kd.C_alloc ?_ _) | (with_reducible refine Kd.C_drewN ?_ _) | (with_reducible refine Kd.C_drew ?_))); (case side2 => exact HC0_2.out); rintro e w30 ⟨rfl, hb⟩; have n0_ := Aside0.mk (blk_below (g := gb105) (o := .cells #[.int .i64 a0_0, .int .u8 a0_1, .slice A0_2 l0_2.length c0_2, .string a0_3, .int .u8 a0_4, .string a0_5] 28 (0, 0)) (by (with_reducible repeat (first | refine blk_drewN ?_ _ | refine blk_drew ?_ | refine blk_alloc ?_ _)); exact BK105.out) hb); have n1_ := Aside0.mk (below_step (by repeat (first | (with_reducible first | exact HB.out | apply below_alloc | apply pw_below_drewN | apply below_drew1 | refine below_set ?_ GE105.out) | exact HB.out)) hb); clear BK105; clear HB; have BK105 := n0_; have HB := n1_; clear n0_ n1_; (try clear hb); (try clear hb2); (try clear hk); (try clear hi)))
                      go_ret
                      exact ⟨by first | rfl | (simp [errW_none, errW_some] <;> rfl) | (simp [*, errW_none, errW_some] <;> rfl), by repeat (first | (with_reducible first | exact HB.out | apply below_alloc | apply pw_below_drewN | apply below_drew1 | refine below_set ?_ GE105.out) | exact HB.out)⟩
                    · replace c24 := Bool.eq_false_iff.mpr c24
                      subst c24
                      have H1 : (some 1) = some r := by rw [if_neg (show ¬ (false = true) by decide)] at H; exact H
                      clear H
                      have H := H1
                      clear H1
                      obtain rfl := Option.some.inj H
                      have hcz31_0 : wc.cell? ⟨gb105, 0, none⟩ = some (.int .i64 a0_0) := (blk_cell BK105.out 0).trans rfl
                      have hcz31_1 : wc.cell? ⟨gb105, 1, none⟩ = some (.int .u8 a0_1) := (blk_cell BK105.out 1).trans rfl
                      have hcz31_2 : wc.cell? ⟨gb105, 2, none⟩ = some (.slice A0_2 l0_2.length c0_2) := (blk_cell BK105.out 2).trans rfl
                      have hcz31_3 : wc.cell? ⟨gb105, 3, none⟩ = some (.string a0_3) := (blk_cell BK105.out 3).trans rfl
                      have hcz31_4 : wc.cell? ⟨gb105, 4, none⟩ = some (.int .u8 a0_4) := (blk_cell BK105.out 4).trans rfl
                      have hcz31_5 : wc.cell? ⟨gb105, 5, none⟩ = some (.string a0_5) := (blk_cell BK105.out 5).trans rfl
                      have hfz31_0 := blk_frozen BK105.out 0
                      have hfz31_1 := blk_frozen BK105.out 1
                      have hfz31_2 := blk_frozen BK105.out 2
                      have hfz31_3 := blk_frozen BK105.out 3
                      have hfz31_4 := blk_frozen BK105.out 4
                      have hfz31_5 := blk_frozen BK105.out 5
                      go_wp2_with (first | (go_at_call 45; (with_reducible refine (wire_listed.calls _ _ l0_2 true _ ?side1 ?side2 A19.out).mono ?_); (case side1 => repeat (first | exact (Kd.C_below HR0_2.out HB.out) | (with_reducible refine Kd.C_alloc ?_ _) | (with_reducible refine Kd.C_drewN ?_ _) | (with_reducible refine Kd.C_drew ?_))); (case side2 => exact HC0_2.out); rintro e w32 ⟨rfl, hb⟩; have n0_ := Aside0.mk (blk_below (g := gb105) (o := .cells #[.int .i64 a0_0, .int .u8 a0_1, .slice A0_2 l0_2.length c0_2, .string a0_3, .int .u8 a0_4, .string a0_5] 28 (0, 0)) (by (with_reducible repeat (first | refine blk_drewN ?_ _ | refine blk_drew ?_ | refine blk_alloc ?_ _)); exact BK105.out) hb); have n1_ := Aside0.mk (below_step (by repeat (first | (with_reducible first | exact HB.out | apply below_alloc | apply pw_below_drewN | apply below_drew1 | refine below_set ?_ GE105.out) | exact HB.out)) hb); clear BK105; clear HB; have BK105 := n0_; have HB := n1_; clear n0_ n1_; (try clear hb); (try clear hb2); (try clear hk); (try clear hi); have hcz33_0 : w32.cell? ⟨gb105, 0, none⟩ = some (.int .i64 a0_0) := (blk_cell BK105.out 0).trans rfl; have hcz33_1 : w32.cell? ⟨gb105, 1, none⟩ = some (.int .u8 a0_1) := (blk_cell BK105.out 1).trans rfl; have hcz33_2 : w32.cell? ⟨gb105, 2, none⟩ = some (.slice A0_2 l0_2.length c0_2) := (blk_cell BK105.out 2).trans rfl; have hcz33_3 : w32.cell? ⟨gb105, 3, none⟩ = some (.string a0_3) := (blk_cell BK105.out 3).trans rfl; have hcz33_4 : w32.cell? ⟨gb105, 4, none⟩ = some (.int .u8 a0_4) := (blk_cell BK105.out 4).trans rfl; have hcz33_5 : w32.cell? ⟨gb105, 5, none⟩ = some (.string a0_5) := (blk_cell BK105.out 5).trans rfl; have hfz33_0 := blk_frozen BK105.out 0; have hfz33_1 := blk_frozen BK105.out 1; have hfz33_2 := blk_frozen BK105.out 2; have hfz33_3 := blk_frozen BK105.out 3; have hfz33_4 := blk_frozen BK105.out 4; have hfz33_5 := blk_frozen BK105.out 5) | (go_at_call 44; (with_reducible refine (wire_between.calls a0_5 32 126 true _ A21.out).mono ?_); rintro e w34 ⟨rfl, hb⟩; have n0_ := Aside0.mk (blk_below (g := gb105) (o := .cells #[.int .i64 a0_0, .int .u8 a0_1, .slice A0_2 l0_2.length c0_2, .string a0_3, .int .u8 a0_4, .string a0_5] 28 (0, 0)) (by (with_reducible repeat (first | refine blk_drewN ?_ _ | refine blk_drew ?_ | refine blk_alloc ?_ _)); exact BK105.out) hb); have n1_ := Aside0.mk (below_step (by repeat (first | (with_reducible first | exact HB.out | apply below_alloc | apply pw_below_drewN | apply below_drew1 | refine below_set ?_ GE105.out) | exact HB.out)) hb); clear BK105; clear HB; have BK105 := n0_; have HB := n1_; clear n0_ n1_; (try clear hb); (try clear hb2); (try clear hk); (try clear hi); have hcz35_0 : w34.cell? ⟨gb105, 0, none⟩ = some (.int .i64 a0_0) := (blk_cell BK105.out 0).trans rfl; have hcz35_1 : w34.cell? ⟨gb105, 1, none⟩ = some (.int .u8 a0_1) := (blk_cell BK105.out 1).trans rfl; have hcz35_2 : w34.cell? ⟨gb105, 2, none⟩ = some (.slice A0_2 l0_2.length c0_2) := (blk_cell BK105.out 2).trans rfl; have hcz35_3 : w34.cell? ⟨gb105, 3, none⟩ = some (.string a0_3) := (blk_cell BK105.out 3).trans rfl; have hcz35_4 : w34.cell? ⟨gb105, 4, none⟩ = some (.int .u8 a0_4) := (blk_cell BK105.out 4).trans rfl; have hcz35_5 : w34.cell? ⟨gb105, 5, none⟩ = some (.string a0_5) := (blk_cell BK105.out 5).trans rfl; have hfz35_0 := blk_frozen BK105.out 0; have hfz35_1 := blk_frozen BK105.out 1; have hfz35_2 := blk_frozen BK105.out 2; have hfz35_3 := blk_frozen BK105.out 3; have hfz35_4 := blk_frozen BK105.out 4; have hfz35_5 := blk_frozen BK105.out 5) | (go_at_call 46; (with_reducible refine (wire_shaped.calls kj8 a0_0 a0_1 _ _ l0_2 a0_3 a0_4 a0_5 false _ ?side1 ?side2 A23.out).mono ?_); (case side1 => repeat (first | exact (Kd.C_below HR0_2.out HB.out) | (with_reducible refine Kd.C_alloc ?_ _) | (with_reducible refine Kd.C_drewN ?_ _) | (with_reducible refine Kd.C_drew ?_))); (case side2 => exact HC0_2.out); rintro e w36 ⟨rfl, hb⟩; have n0_ := Aside0.mk (blk_below (g := gb105) (o := .cells #[.int .i64 a0_0, .int .u8 a0_1, .slice A0_2 l0_2.length c0_2, .string a0_3, .int .u8 a0_4, .string a0_5] 28 (0, 0)) (by (with_reducible repeat (first | refine blk_drewN ?_ _ | refine blk_drew ?_ | refine blk_alloc ?_ _)); exact BK105.out) hb); have n1_ := Aside0.mk (below_step (by repeat (first | (with_reducible first | exact HB.out | apply below_alloc | apply pw_below_drewN | apply below_drew1 | refine below_set ?_ GE105.out) | exact HB.out)) hb); clear BK105; clear HB; have BK105 := n0_; have HB := n1_; clear n0_ n1_; (try clear hb); (try clear hb2); (try clear hk); (try clear hi)))
                      go_ret
                      exact ⟨by first | rfl | (simp [errW_none, errW_some] <;> rfl) | (simp [*, errW_none, errW_some] <;> rfl), by repeat (first | (with_reducible first | exact HB.out | apply below_alloc | apply pw_below_drewN | apply below_drew1 | refine below_set ?_ GE105.out) | exact HB.out)⟩
                  · replace c22 := Bool.eq_false_iff.mpr c22
                    subst c22
                    have H1 : (some 1) = some r := by rw [if_neg (show ¬ (false = true) by decide)] at H; exact H
                    clear H
                    have H := H1
                    clear H1
                    obtain rfl := Option.some.inj H
                    have hcz37_0 : wc.cell? ⟨gb105, 0, none⟩ = some (.int .i64 a0_0) := (blk_cell BK105.out 0).trans rfl
                    have hcz37_1 : wc.cell? ⟨gb105, 1, none⟩ = some (.int .u8 a0_1) := (blk_cell BK105.out 1).trans rfl
                    have hcz37_2 : wc.cell? ⟨gb105, 2, none⟩ = some (.slice A0_2 l0_2.length c0_2) := (blk_cell BK105.out 2).trans rfl
                    have hcz37_3 : wc.cell? ⟨gb105, 3, none⟩ = some (.string a0_3) := (blk_cell BK105.out 3).trans rfl
                    have hcz37_4 : wc.cell? ⟨gb105, 4, none⟩ = some (.int .u8 a0_4) := (blk_cell BK105.out 4).trans rfl
                    have hcz37_5 : wc.cell? ⟨gb105, 5, none⟩ = some (.string a0_5) := (blk_cell BK105.out 5).trans rfl
                    have hfz37_0 := blk_frozen BK105.out 0
                    have hfz37_1 := blk_frozen BK105.out 1
                    have hfz37_2 := blk_frozen BK105.out 2
                    have hfz37_3 := blk_frozen BK105.out 3
                    have hfz37_4 := blk_frozen BK105.out 4
                    have hfz37_5 := blk_frozen BK105.out 5
                    go_wp2_with (first | (go_at_call 45; (with_reducible refine (wire_listed.calls _ _ l0_2 true _ ?side1 ?side2 A19.out).mono ?_); (case side1 => repeat (first | exact (Kd.C_below HR0_2.out HB.out) | (with_reducible refine Kd.C_alloc ?_ _) | (with_reducible refine Kd.C_drewN ?_ _) | (with_reducible refine Kd.C_drew ?_))); (case side2 => exact HC0_2.out); rintro e w38 ⟨rfl, hb⟩; have n0_ := Aside0.mk (blk_below (g := gb105) (o := .cells #[.int .i64 a0_0, .int .u8 a0_1, .slice A0_2 l0_2.length c0_2, .string a0_3, .int .u8 a0_4, .string a0_5] 28 (0, 0)) (by (with_reducible repeat (first | refine blk_drewN ?_ _ | refine blk_drew ?_ | refine blk_alloc ?_ _)); exact BK105.out) hb); have n1_ := Aside0.mk (below_step (by repeat (first | (with_reducible first | exact HB.out | apply below_alloc | apply pw_below_drewN | apply below_drew1 | refine below_set ?_ GE105.out) | exact HB.out)) hb); clear BK105; clear HB; have BK105 := n0_; have HB := n1_; clear n0_ n1_; (try clear hb); (try clear hb2); (try clear hk); (try clear hi); have hcz39_0 : w38.cell? ⟨gb105, 0, none⟩ = some (.int .i64 a0_0) := (blk_cell BK105.out 0).trans rfl; have hcz39_1 : w38.cell? ⟨gb105, 1, none⟩ = some (.int .u8 a0_1) := (blk_cell BK105.out 1).trans rfl; have hcz39_2 : w38.cell? ⟨gb105, 2, none⟩ = some (.slice A0_2 l0_2.length c0_2) := (blk_cell BK105.out 2).trans rfl; have hcz39_3 : w38.cell? ⟨gb105, 3, none⟩ = some (.string a0_3) := (blk_cell BK105.out 3).trans rfl; have hcz39_4 : w38.cell? ⟨gb105, 4, none⟩ = some (.int .u8 a0_4) := (blk_cell BK105.out 4).trans rfl; have hcz39_5 : w38.cell? ⟨gb105, 5, none⟩ = some (.string a0_5) := (blk_cell BK105.out 5).trans rfl; have hfz39_0 := blk_frozen BK105.out 0; have hfz39_1 := blk_frozen BK105.out 1; have hfz39_2 := blk_frozen BK105.out 2; have hfz39_3 := blk_frozen BK105.out 3; have hfz39_4 := blk_frozen BK105.out 4; have hfz39_5 := blk_frozen BK105.out 5) | (go_at_call 44; (with_reducible refine (wire_between.calls a0_5 32 126 false _ A21.out).mono ?_); rintro e w40 ⟨rfl, hb⟩; have n0_ := Aside0.mk (blk_below (g := gb105) (o := .cells #[.int .i64 a0_0, .int .u8 a0_1, .slice A0_2 l0_2.length c0_2, .string a0_3, .int .u8 a0_4, .string a0_5] 28 (0, 0)) (by (with_reducible repeat (first | refine blk_drewN ?_ _ | refine blk_drew ?_ | refine blk_alloc ?_ _)); exact BK105.out) hb); have n1_ := Aside0.mk (below_step (by repeat (first | (with_reducible first | exact HB.out | apply below_alloc | apply pw_below_drewN | apply below_drew1 | refine below_set ?_ GE105.out) | exact HB.out)) hb); clear BK105; clear HB; have BK105 := n0_; have HB := n1_; clear n0_ n1_; (try clear hb); (try clear hb2); (try clear hk); (try clear hi)))
                    go_ret
                    exact ⟨by first | rfl | (simp [errW_none, errW_some] <;> rfl) | (simp [*, errW_none, errW_some] <;> rfl), by repeat (first | (with_reducible first | exact HB.out | apply below_alloc | apply pw_below_drewN | apply below_drew1 | refine below_set ?_ GE105.out) | exact HB.out)⟩
                · replace c20 := Bool.eq_false_iff.mpr c20
                  subst c20
                  have H1 : (some 1) = some r := by rw [if_neg (show ¬ (false = true) by decide)] at H; exact H
                  clear H
                  have H := H1
                  clear H1
                  obtain rfl := Option.some.inj H
                  have hcz41_0 : wc.cell? ⟨gb105, 0, none⟩ = some (.int .i64 a0_0) := (blk_cell BK105.out 0).trans rfl
                  have hcz41_1 : wc.cell? ⟨gb105, 1, none⟩ = some (.int .u8 a0_1) := (blk_cell BK105.out 1).trans rfl
                  have hcz41_2 : wc.cell? ⟨gb105, 2, none⟩ = some (.slice A0_2 l0_2.length c0_2) := (blk_cell BK105.out 2).trans rfl
                  have hcz41_3 : wc.cell? ⟨gb105, 3, none⟩ = some (.string a0_3) := (blk_cell BK105.out 3).trans rfl
                  have hcz41_4 : wc.cell? ⟨gb105, 4, none⟩ = some (.int .u8 a0_4) := (blk_cell BK105.out 4).trans rfl
                  have hcz41_5 : wc.cell? ⟨gb105, 5, none⟩ = some (.string a0_5) := (blk_cell BK105.out 5).trans rfl
                  have hfz41_0 := blk_frozen BK105.out 0
                  have hfz41_1 := blk_frozen BK105.out 1
                  have hfz41_2 := blk_frozen BK105.out 2
                  have hfz41_3 := blk_frozen BK105.out 3
                  have hfz41_4 := blk_frozen BK105.out 4
                  have hfz41_5 := blk_frozen BK105.out 5
                  go_wp2_with (first | (go_at_call 45; (with_reducible refine (wire_listed.calls _ _ l0_2 false _ ?side1 ?side2 A19.out).mono ?_); (case side1 => repeat (first | exact (Kd.C_below HR0_2.out HB.out) | (with_reducible refine Kd.C_alloc ?_ _) | (with_reducible refine Kd.C_drewN ?_ _) | (with_reducible refine Kd.C_drew ?_))); (case side2 => exact HC0_2.out); rintro e w42 ⟨rfl, hb⟩; have n0_ := Aside0.mk (blk_below (g := gb105) (o := .cells #[.int .i64 a0_0, .int .u8 a0_1, .slice A0_2 l0_2.length c0_2, .string a0_3, .int .u8 a0_4, .string a0_5] 28 (0, 0)) (by (with_reducible repeat (first | refine blk_drewN ?_ _ | refine blk_drew ?_ | refine blk_alloc ?_ _)); exact BK105.out) hb); have n1_ := Aside0.mk (below_step (by repeat (first | (with_reducible first | exact HB.out | apply below_alloc | apply pw_below_drewN | apply below_drew1 | refine below_set ?_ GE105.out) | exact HB.out)) hb); clear BK105; clear HB; have BK105 := n0_; have HB := n1_; clear n0_ n1_; (try clear hb); (try clear hb2); (try clear hk); (try clear hi)))
                  go_ret
                  exact ⟨by first | rfl | (simp [errW_none, errW_some] <;> rfl) | (simp [*, errW_none, errW_some] <;> rfl), by repeat (first | (with_reducible first | exact HB.out | apply below_alloc | apply pw_below_drewN | apply below_drew1 | refine below_set ?_ GE105.out) | exact HB.out)⟩
              · replace c18 := Bool.eq_false_iff.mpr c18
                subst c18
                have H1 : (some 1) = some r := by rw [if_neg (show ¬ (false = true) by decide)] at H; exact H
                clear H
                have H := H1
                clear H1
                obtain rfl := Option.some.inj H
                have hcz43_0 : wc.cell? ⟨gb105, 0, none⟩ = some (.int .i64 a0_0) := (blk_cell BK105.out 0).trans rfl
                have hcz43_1 : wc.cell? ⟨gb105, 1, none⟩ = some (.int .u8 a0_1) := (blk_cell BK105.out 1).trans rfl
                have hcz43_2 : wc.cell? ⟨gb105, 2, none⟩ = some (.slice A0_2 l0_2.length c0_2) := (blk_cell BK105.out 2).trans rfl
                have hcz43_3 : wc.cell? ⟨gb105, 3, none⟩ = some (.string a0_3) := (blk_cell BK105.out 3).trans rfl
                have hcz43_4 : wc.cell? ⟨gb105, 4, none⟩ = some (.int .u8 a0_4) := (blk_cell BK105.out 4).trans rfl
                have hcz43_5 : wc.cell? ⟨gb105, 5, none⟩ = some (.string a0_5) := (blk_cell BK105.out 5).trans rfl
                have hfz43_0 := blk_frozen BK105.out 0
                have hfz43_1 := blk_frozen BK105.out 1
                have hfz43_2 := blk_frozen BK105.out 2
                have hfz43_3 := blk_frozen BK105.out 3
                have hfz43_4 := blk_frozen BK105.out 4
                have hfz43_5 := blk_frozen BK105.out 5
                go_wp2
                go_ret
                exact ⟨by first | rfl | (simp [errW_none, errW_some] <;> rfl) | (simp [*, errW_none, errW_some] <;> rfl), by repeat (first | (with_reducible first | exact HB.out | apply below_alloc | apply pw_below_drewN | apply below_drew1 | refine below_set ?_ GE105.out) | exact HB.out)⟩
            · replace c17 := Bool.eq_false_iff.mpr c17
              subst c17
              have H1 : (some 1) = some r := by rw [if_neg (show ¬ (false = true) by decide)] at H; exact H
              clear H
              have H := H1
              clear H1
              obtain rfl := Option.some.inj H
              have hcz44_0 : wc.cell? ⟨gb105, 0, none⟩ = some (.int .i64 a0_0) := (blk_cell BK105.out 0).trans rfl
              have hcz44_1 : wc.cell? ⟨gb105, 1, none⟩ = some (.int .u8 a0_1) := (blk_cell BK105.out 1).trans rfl
              have hcz44_2 : wc.cell? ⟨gb105, 2, none⟩ = some (.slice A0_2 l0_2.length c0_2) := (blk_cell BK105.out 2).trans rfl
              have hcz44_3 : wc.cell? ⟨gb105, 3, none⟩ = some (.string a0_3) := (blk_cell BK105.out 3).trans rfl
              have hcz44_4 : wc.cell? ⟨gb105, 4, none⟩ = some (.int .u8 a0_4) := (blk_cell BK105.out 4).trans rfl
              have hcz44_5 : wc.cell? ⟨gb105, 5, none⟩ = some (.string a0_5) := (blk_cell BK105.out 5).trans rfl
              have hfz44_0 := blk_frozen BK105.out 0
              have hfz44_1 := blk_frozen BK105.out 1
              have hfz44_2 := blk_frozen BK105.out 2
              have hfz44_3 := blk_frozen BK105.out 3
              have hfz44_4 := blk_frozen BK105.out 4
              have hfz44_5 := blk_frozen BK105.out 5
              go_wp2
              go_ret
              exact ⟨by first | rfl | (simp [errW_none, errW_some] <;> rfl) | (simp [*, errW_none, errW_some] <;> rfl), by repeat (first | (with_reducible first | exact HB.out | apply below_alloc | apply pw_below_drewN | apply below_drew1 | refine below_set ?_ GE105.out) | exact HB.out)⟩
end Go.Proofs.YtclnanhgcnopdaaDoor.G
end
section
namespace Go.Proofs.YtclnanhgcnopdaaDoor
set_option linter.unusedVariables false
set_option linter.unusedSimpArgs false
open Go.RowKit Kit G Go.Proofs.YtclnanhgcnopdaaDoorW.PrintWords
def finB (a b : Nat) (n : Int) : Bool := decide ((a : Int) ≤ n) && decide (n ≤ (b : Int))
def shapedB (q : Sr) : Bool :=
  let plain := decide (q.priv = 0) && decide (q.rows.length = 0)
  let noInter := decide (q.inter = ⟨#[]⟩)
  let noData := decide (q.data = ⟨#[]⟩)
  if q.kind = 1 then noData && finB 64 126 q.fin
  else if q.kind = 3 then finB 64 126 q.fin
  else if q.kind = 2 then plain && noInter && noData && finB 64 126 q.fin
  else if q.kind = 4 then plain && noInter && decide (q.fin = 0)
  else if q.kind = 5 then plain && noData && (!noInter || decide (Lib.indexByte [79, 80, 88, 91, 93, 92, 94, 95] q.fin.toNat.toUInt8 < 0)) && finB 48 126 q.fin
  else false
def mayI (q : Sr) : Int :=
  if 4096 < q.data.size then 4
  else if (decide (q.priv = 0) || finB 60 63 q.priv) && (decide (q.inter.size ≤ 2) && btwL 32 47 q.inter.data.toList) && listedB q.rows && btwL 32 126 q.data.data.toList && shapedB q then 0 else 1
theorem toL_nil (s : ByteArray) : (s.toList = ([] : List UInt8)) ↔ s = ⟨#[]⟩ := by
  rw [Lib.toList_data]
  constructor
  · intro h
    cases s
    exact congrArg ByteArray.mk (Array.toList_eq_nil_iff.1 h)
  · rintro rfl; rfl
theorem fin_ite (a b : Nat) (n : Int) : (if n ≥ (a : Int) then some (decide (n ≤ (b : Int))) else some false) = some (finB a b n) := by
  unfold finB
  by_cases h : (a : Int) ≤ n
  · rw [if_pos h, decide_eq_true h]; rfl
  · rw [if_neg h, decide_eq_false h]; rfl
theorem ite_and {c : Prop} [Decidable c] {b : Bool} {x : Option Bool} (h : x = some b) : (if c then x else some false) = some (decide c && b) := by
  by_cases hc : c
  · rw [if_pos hc, decide_eq_true hc, h]; rfl
  · rw [if_neg hc, decide_eq_false hc]; rfl
theorem shaped_j (k : Nat) (q : Sr) (hq : q.kind = 5 → q.inter = ⟨#[]⟩ → 0 ≤ q.fin ∧ q.fin < 128) (p : Bool) (hp : p = (decide (q.priv = 0) && decide (q.rows.length = 0))) : wire_shaped.j0 (k + 1) p q.kind q.priv q.rows q.inter q.fin q.data = some (shapedB q) := by
  rw [wire_shaped.j0]
  unfold shapedB
  simp only [toL_nil]
  rw [hp]
  by_cases h1 : q.kind = 1
  · rw [if_pos h1, if_pos h1]
    exact ite_and (fin_ite 64 126 _)
  rw [if_neg h1, if_neg h1]
  by_cases h3 : q.kind = 3
  · rw [if_pos h3, if_pos h3]
    exact fin_ite 64 126 _
  rw [if_neg h3, if_neg h3]
  by_cases h2 : q.kind = 2
  · rw [if_pos h2, if_pos h2]
    refine (ite_and (ite_and (ite_and (fin_ite 64 126 _)))).trans ?_
    simp [Bool.and_assoc]
  rw [if_neg h2, if_neg h2]
  by_cases h4 : q.kind = 4
  · rw [if_pos h4, if_pos h4]
    refine (ite_and (ite_and rfl)).trans ?_
    rw [show (q.fin == 0) = decide (q.fin = 0) from rfl]
    simp [Bool.and_assoc]
  rw [if_neg h4, if_neg h4]
  by_cases h5 : q.kind = 5
  · rw [if_pos h5, if_pos h5]
    by_cases hi : q.inter = ⟨#[]⟩
    · obtain ⟨f0, f1⟩ := hq h5 hi
      have hw : wrap32 q.fin = q.fin := by unfold wrap32; omega
      rw [if_pos hi, hw]
      unfold strings_ContainsRune.f
      rw [if_pos ⟨f0, f1⟩]
      simp only [Option.bind_some]
      rw [decide_eq_true hi]
      generalize hI : Lib.indexByte _ q.fin.toNat.toUInt8 = I
      have e : (if decide (0 ≤ I) = true then some false else if q.fin ≥ 48 then some (decide (q.fin ≤ 126)) else some false) = some (decide (I < 0) && finB 48 126 q.fin) := by
        by_cases hI0 : 0 ≤ I
        · rw [if_pos (decide_eq_true hI0), decide_eq_false (show ¬ I < 0 by omega)]; rfl
        · rw [if_neg (by simpa using hI0), decide_eq_true (show I < 0 by omega)]; exact fin_ite 48 126 _
      refine (ite_and (ite_and e)).trans ?_
      simp [Bool.and_assoc]
    · rw [if_neg hi]
      refine (ite_and (ite_and (fin_ite 48 126 _))).trans ?_
      rw [decide_eq_false hi]
      simp [Bool.and_assoc]
  rw [if_neg h5, if_neg h5]
theorem shaped_f (k : Nat) (q : Sr) (hq : q.kind = 5 → q.inter = ⟨#[]⟩ → 0 ≤ q.fin ∧ q.fin < 128) : wire_shaped.f (k + 1) q.kind q.priv q.rows q.inter q.fin q.data = some (shapedB q) := by
  unfold wire_shaped.f
  by_cases h : q.priv = 0
  · rw [if_pos h]
    refine shaped_j k q hq _ ?_
    rw [decide_eq_true h, Bool.true_and, Bool.eq_iff_iff]
    simp
  · rw [if_neg h]
    exact shaped_j k q hq _ (by rw [decide_eq_false h]; rfl)
theorem may_j1 (k : Nat) (q : Sr) (hq : q.kind = 5 → q.inter = ⟨#[]⟩ → 0 ≤ q.fin ∧ q.fin < 128) (x y : Bool) (hx : x = (decide (q.priv = 0) || finB 60 63 q.priv)) (hy : y = (decide (q.inter.size ≤ 2) && btwL 32 47 q.inter.data.toList)) :
    wire_May.j1 (k + 2) x y q.kind q.priv q.rows q.inter q.fin q.data = some (mayI q) := by
  rw [wire_May.j1]
  unfold mayI
  rw [← hx, ← hy]
  by_cases h : 4096 < q.data.size
  · rw [if_pos (by omega), if_pos h]
  · rw [if_neg (by omega), if_neg h]
    have hl : wire_listed.f q.rows = some (listedB q.rows) := rfl
    have hb : wire_between.f q.data 32 126 = some (btwL 32 126 q.data.data.toList) := rfl
    rw [hl, hb, shaped_f k q hq]
    simp only [Option.bind_some]
    cases x <;> cases y <;> cases listedB q.rows <;> cases btwL 32 126 q.data.data.toList <;> cases shapedB q <;> rfl
theorem may_j0 (k : Nat) (q : Sr) (hq : q.kind = 5 → q.inter = ⟨#[]⟩ → 0 ≤ q.fin ∧ q.fin < 128) (x : Bool) (hx : x = (decide (q.priv = 0) || finB 60 63 q.priv)) :
    wire_May.j0 (k + 3) x q.kind q.priv q.rows q.inter q.fin q.data = some (mayI q) := by
  rw [wire_May.j0]
  have hb : wire_between.f q.inter 32 47 = some (btwL 32 47 q.inter.data.toList) := rfl
  by_cases h : q.inter.size ≤ 2
  · rw [if_pos (by omega), hb]
    exact may_j1 k q hq x _ hx (by rw [decide_eq_true h]; rfl)
  · rw [if_neg (by omega)]
    exact may_j1 k q hq x _ hx (by rw [decide_eq_false h]; rfl)
theorem may_f (q : Sr) (hq : q.kind = 5 → q.inter = ⟨#[]⟩ → 0 ≤ q.fin ∧ q.fin < 128) : wire_May.f 3 q.kind q.priv q.rows q.inter q.fin q.data = some (mayI q) := by
  unfold wire_May.f
  by_cases h : q.priv = 0
  · rw [if_pos h]
    exact may_j0 0 q hq _ (by rw [decide_eq_true h]; rfl)
  · rw [if_neg h]
    by_cases h6 : q.priv ≥ 60
    · rw [if_pos h6]
      exact may_j0 0 q hq _ (by rw [decide_eq_false h, Bool.false_or]; unfold finB; rw [show decide (((60 : Nat) : Int) ≤ q.priv) = true from decide_eq_true h6]; rfl)
    · rw [if_neg h6]
      exact may_j0 0 q hq _ (by rw [decide_eq_false h, Bool.false_or]; unfold finB; rw [show decide (((60 : Nat) : Int) ≤ q.priv) = false from decide_eq_false h6]; rfl)
theorem may_calls (q : Sr) (hq : q.kind = 5 → q.inter = ⟨#[]⟩ → 0 ≤ q.fin ∧ q.fin < 128) (A : Option Addr) (c : Nat) (w : World) (hC : RowsC w A q.rows) (hc : q.rows.length ≤ c) :
    Calls Tryd.prog 24 #[q.v A c] w fun e w' => e = .returned (.int .i64 (mayI q)) ∧ Below w.heap.size w w' :=
  wire_May.calls 3 q.kind q.priv A c q.rows q.inter q.fin q.data (mayI q) w hC hc (may_f q hq)
theorem sameS_calls (q r : Sr) (A B : Option Addr) (c d : Nat) (w : World) (hA : RowsC w A q.rows) (hB : RowsC w B r.rows) :
    Calls Tryd.prog 35 #[q.v A c, r.v B d] w fun e w' => e = .returned (.bool (decide (q = r))) ∧ Below w.heap.size w w' :=
  same_calls q.kind q.priv q.fin r.kind r.priv r.fin q.inter q.data r.inter r.data A B c d q.rows r.rows w hA hB _ (by
    rw [Bool.eq_iff_iff]
    cases q; cases r
    simp
    constructor
    · rintro ⟨rfl, rfl, rfl, rfl, rfl, rfl⟩; simp
    · rintro ⟨rfl, rfl, rfl, rfl, rfl, rfl⟩; simp)
end Go.Proofs.YtclnanhgcnopdaaDoor
end
section
namespace Go.Proofs.YtclnanhgcnopdaaDoor
set_option linter.unusedVariables false
set_option linter.unusedSimpArgs false
open Go.RowKit Kit Go.Shelf Go.Proofs.YtclnanhgcnopdaaDoorW.PrintWords
attribute [local go_sem] Oper.semAt_some
def joinB (sep : List UInt8) (l : List ByteArray) : ByteArray := ⟨(Lib.join (l.map (·.data.toList)) sep).toArray⟩
theorem joinR_calls (p : Option Addr) (c : Nat) (xs : List ByteArray) (sep : ByteArray) (w : World) (hr : Reads w p (xs.map Value.string)) (hc : xs.length ≤ c) (h1 : xs.length ≤ 140737488355328) (h2 : (Lib.join (xs.map (·.data.toList)) sep.data.toList).length ≤ 140737488355328) :
    Calls Tryd.prog 23 #[.slice p xs.length c, .string sep] w fun e w' => e = .returned (.string (joinB sep.data.toList xs)) ∧ Below w.heap.size w w' := by
  cases xs with
  | nil => exact (Tryd.strings_Join_none p c sep w).mono fun _ _ h => ⟨h.1, by rw [h.2]; exact Below.refl _ _⟩
  | cons x xs =>
    obtain ⟨b, o, rfl, hcell⟩ := hr 0 _ rfl
    refine Tryd.strings_Join b o c (x :: xs) sep w (fun j y hy => ?_) (World.block_lt_of_cell? w _ hcell) h1 hc h2
    obtain ⟨b', o', he, hc'⟩ := hr j (.string y) (by rw [List.getElem?_map, hy]; rfl)
    cases he
    exact hc'
theorem joinTail_len (sep : List UInt8) (M : Nat) : ∀ l : List (List UInt8), (∀ x ∈ l, x.length ≤ M) → (Lib.joinTail sep l).length ≤ l.length * (M + sep.length)
  | [], _ => by simp [Lib.joinTail]
  | x :: l, h => by
    have ih := joinTail_len sep M l fun y hy => h y (.tail _ hy)
    have h1 := h x (.head _)
    have e : Lib.joinTail sep (x :: l) = sep ++ x ++ Lib.joinTail sep l := by simp [Lib.joinTail]
    rw [e]
    simp only [List.length_append, List.length_cons, Nat.add_mul, Nat.one_mul]
    omega
theorem join_len (sep : List UInt8) (M : Nat) (l : List (List UInt8)) (h : ∀ x ∈ l, x.length ≤ M) : (Lib.join l sep).length ≤ l.length * (M + sep.length) := by
  cases l with
  | nil => simp [Lib.join_nil]
  | cons x l =>
    rw [Lib.join_cons]
    have h1 := joinTail_len sep M l fun y hy => h y (.tail _ hy)
    have h2 := h x (.head _)
    simp only [List.length_append, List.length_cons, Nat.add_mul, Nat.one_mul]
    omega
theorem splitL_count (c : UInt8) : ∀ l : List UInt8, (splitL c l).length ≤ l.length + 1
  | [] => by simp [splitL]
  | x :: l => by
    have ih := splitL_count c l
    unfold splitL
    split
    · simp; omega
    · cases h : splitL c l with
      | nil => simp
      | cons p ps => rw [h] at ih; simp at ih ⊢; omega
theorem askedL_count (s : ByteArray) : (askedL s).length ≤ s.size + 1 := by
  have h := splitL_count 59 s.data.toList
  have e : s.data.toList.length = s.size := by simp
  simp only [askedL, splitS, List.length_map]
  omega
theorem askedP_len (x : ByteArray) : (askedP x).1.size ≤ 2 * x.size + 15 := by
  have h1 := unhexD_len x.data.toList
  have h2 := lookB_len (ofL ((unhexL x.data.toList).getD []))
  have e : x.data.toList.length = x.size := by simp
  have e2 : ∀ s : ByteArray, s.data.toList.length = s.size := fun s => by simp
  have e3 : (askedP x).1.size = (hexL ((unhexL x.data.toList).getD []) ++ 61 :: hexL (lookB (ofL ((unhexL x.data.toList).getD []))).1.data.toList).length := by simp [askedP, ofL, ByteArray.size]
  rw [e3, List.length_append, List.length_cons, hexL_len, hexL_len, e2]
  omega
theorem askedL_len {s : ByteArray} {p : ByteArray × Bool} (h : p ∈ askedL s) : p.1.size ≤ 2 * s.size + 15 := by
  obtain ⟨x, hx, rfl⟩ := List.mem_map.1 h
  have h1 := askedP_len x
  have h2 := splitS_len hx
  omega
def capsNo : Sr := ⟨3, 0, [[0]], ⟨#[43]⟩, 114, ⟨#[]⟩⟩
def capsYes (d : ByteArray) : Sr := ⟨3, 0, [[1]], ⟨#[43]⟩, 114, d⟩
def capsData (s : ByteArray) : ByteArray := joinB [59] ((askedL s).map (·.1))
def capsS (s : ByteArray) : Sr := if (askedL s).all (·.2) = true then (if mayI (capsYes (capsData s)) = 0 then capsYes (capsData s) else capsNo) else capsNo
theorem capsData_len {s : ByteArray} (hs : s.size ≤ 100000) : (Lib.join (((askedL s).map (·.1)).map (·.data.toList)) [59]).length ≤ 140737488355328 := by
  have h := join_len [59] 200015 (((askedL s).map (·.1)).map (·.data.toList)) (fun x hx => by
    obtain ⟨y, hy, rfl⟩ := List.mem_map.1 hx
    obtain ⟨z, hz, rfl⟩ := List.mem_map.1 hy
    have := askedL_len hz
    have e : z.1.data.toList.length = z.1.size := by simp
    omega)
  have h2 := askedL_count s
  simp only [List.length_map, List.length_cons, List.length_nil] at h
  have h3 : (askedL s).length * (200015 + (0 + 1)) ≤ 100001 * 200016 := Nat.mul_le_mul (by omega) (by omega)
  omega
theorem all_snoc {α : Type} (p : α → Bool) (l : List α) (x : α) : (l ++ [x]).all p = (l.all p && p x) := by simp
theorem all_prefix {α : Type} {p : α → Bool} {l m : List α} (h : l <+: m) (hf : l.all p = false) : m.all p = false := by
  obtain ⟨t, rfl⟩ := h
  rw [List.all_append, hf, Bool.false_and]
theorem pre_len {α : Type} {l m : List α} {x : α} {post : List α} (h : m = l ++ x :: post) : l.length + 1 ≤ m.length := by
  rw [h]; simp
attribute [local irreducible] wpList Calls wpQuiet
abbrev AnsRes (gL gN g2 g1 gR : Nat) (v : Value) (R : Res) : Res := (gL, IsCells [v] 34) :: (gN, IsCells (capsNo.cells (some ⟨g2, 0, none⟩) 1) 28) :: (g2, IsCells [.slice (some ⟨g1, 0, none⟩) 1 1] 45) :: (g1, IsCells [.int .i64 0] 3) :: (gR, IsCells [.int .i64 0, .int .u8 0, .slice none 0 0, .string ⟨#[]⟩, .int .u8 0, .string ⟨#[]⟩] 28) :: R
abbrev NoRes (gN g2 g1 gR : Nat) : Res := (gN, IsCells (capsNo.cells (some ⟨g2, 0, none⟩) 1) 28) :: (g2, IsCells [.slice (some ⟨g1, 0, none⟩) 1 1] 45) :: (g1, IsCells [.int .i64 0] 3) :: (gR, IsCells (capsNo.cells (some ⟨g2, 0, none⟩) 1) 28) :: []
set_option maxRecDepth 100000 in
set_option maxHeartbeats 4000000 in
theorem answer_calls (s : ByteArray) (hs : s.size ≤ 100000) (w : World) : GivesOne 12 #[.string s] (capsS s) w := by
  unfold GivesOne
  refine (callsIn_wide (n := 5)).1 ?_
  have HO := Mine.start w
  have HS := Lib.hid hs
  have HCNT := Lib.hid (askedL_count s)
  have HYL := Lib.hid (asked_yields w s)
  clear hs
  refine callsIn_of_wp_marks Tryd.func12 rfl trivial ?_ rfl
  simp only [Tryd.ntmps12, List.size_toArray, List.length_cons, List.length_nil, Nat.reduceAdd, Nat.reduceSub, Array.replicate_succ, Array.replicate_zero, List.push_toArray, List.append_toArray, List.nil_append, List.cons_append]
  refine wpIn_seq ?_
  refine wideRegion ?_
  go_wp2_with (first
      | ((with_reducible refine gate ?_); (first
      | ((with_reducible refine gateAt (N := 2) rfl ?_); refine own_allocF (T := 28) HO rfl rfl Tryd.zeroValue28 rfl ?_; clear HO; intro gR wN hggR HO; (try simp only [Act.put, List.setIfInBounds_toArray, List.set_cons_zero, List.set_cons_succ])))))
  refine wpIn_seq ?_
  refine wideRegion ?_
  go_wp2_with (first
      | ((with_reducible refine gate ?_); (first
      | ((with_reducible refine gateAt (N := 8) rfl ?_); refine own_litF HO rfl (n := 1) (cs := [.int .i64 0]) (T := 3) (by first | (go_simp; done) | (go_simp; rfl)) ?_; clear HO; intro g1 wN hgg1 HO; (try simp only [Act.put, List.setIfInBounds_toArray, List.set_cons_zero, List.set_cons_succ]))
      | ((with_reducible refine gateAt (N := 9) rfl ?_); refine own_litF HO rfl (n := 1) (cs := [.slice (some ⟨g1, 0, none⟩) 1 1]) (T := 45) (by first | (go_simp; done) | (go_simp; rfl)) ?_; clear HO; intro g2 wN hgg2 HO; (try simp only [Act.put, List.setIfInBounds_toArray, List.set_cons_zero, List.set_cons_succ]))
      | ((with_reducible refine gateAt (N := 3) rfl ?_); refine own_allocF (T := 28) HO rfl rfl Tryd.zeroValue28 rfl ?_; clear HO; intro gN wN hggN HO; (try simp only [Act.put, List.setIfInBounds_toArray, List.set_cons_zero, List.set_cons_succ]))
      | ((refine own_load (T := 28) HO rfl rfl rfl (by first | exact .head _ | exact .tail _ (.head _) | exact .tail _ (.tail _ (.head _)) | exact .tail _ (.tail _ (.tail _ (.head _))) | exact .tail _ (.tail _ (.tail _ (.tail _ (.head _)))) | exact .tail _ (.tail _ (.tail _ (.tail _ (.tail _ (.head _))))) | exact .tail _ (.tail _ (.tail _ (.tail _ (.tail _ (.tail _ (.head _)))))) | exact .tail _ (.tail _ (.tail _ (.tail _ (.tail _ (.tail _ (.tail _ (.head _)))))))) Tryd.isAgg28 Tryd.sizeOf28 (by repeat constructor) ?_); (try simp only [Act.put, List.setIfInBounds_toArray, List.set_cons_zero, List.set_cons_succ]))
      | ((refine own_store (T := 28) HO rfl rfl rfl rfl (by first | exact .here | exact .there (.here) | exact .there (.there (.here)) | exact .there (.there (.there (.here))) | exact .there (.there (.there (.there (.here)))) | exact .there (.there (.there (.there (.there (.here))))) | exact .there (.there (.there (.there (.there (.there (.here)))))) | exact .there (.there (.there (.there (.there (.there (.there (.here)))))))) Tryd.sizeOf28 (by repeat constructor) rfl ?_); clear HO; intro wN HO; (try simp only [Act.put, List.setIfInBounds_toArray, List.set_cons_zero, List.set_cons_succ])))))
  refine wpIn_seq ?_
  refine wideRegion ?_
  go_wp2_with (first
      | ((with_reducible refine gate ?_); (first
      | ((with_reducible refine gateAt (N := 4) rfl ?_); refine own_allocF (T := 34) HO rfl rfl Tryd.zeroValue34 rfl ?_; clear HO; intro gL wN hggL HO; (try simp only [Act.put, List.setIfInBounds_toArray, List.set_cons_zero, List.set_cons_succ])))))
  refine wpIn_seq ?_
  refine wpIn_seq ?_
  refine wideRegion ?_
  go_wp2_with (go_at_call 22; refine (asked_calls s _).mono ?_; rintro eN wN ⟨gD, rfl, HM⟩; have HON := HO.join HM; clear HO HM; have HO := HON; clear HON)
  refine wpIn_block ?_
  refine wpIn_range_mine (gf := 40) (lb := #[.pointer (some ⟨gD, 0, none⟩)]) rfl (enters_of Tryd.func40 (by kernel_rfl) rfl) (HYL.out gD HS.out) (fun _ => rfl)
    (fun pre b2 => ∃ p n c R, GRow 9 (.slice p n c) (pre.map fun p => Value.string p.1) R ∧ pre.all (·.2) = true ∧ b2 = AnsRes gL gN g2 g1 gR (.slice p n c) R) (fun c pre b2 => c = .ret ∧ pre.all (·.2) = false ∧ b2 = NoRes gN g2 g1 gR) HO ⟨none, 0, 0, [], GRow.nil _, rfl, rfl⟩
    (fun x => { tmps := #[.string s, undef, .pointer (some ⟨gR, 0, none⟩), .pointer (some ⟨gN, 0, none⟩), .pointer (some ⟨gL, 0, none⟩), .string x.1, .bool x.2, undef, .slice (some ⟨g1, 0, none⟩) 1 1, .slice (some ⟨g2, 0, none⟩) 1 1, capsNo.v (some ⟨g2, 0, none⟩) 1, .string s, .func (.func 40) #[] #[.pointer (some ⟨gD, 0, none⟩)], .string x.1, .bool x.2, undef, undef, undef, undef, undef, undef, undef, undef, undef, undef, undef, undef, undef, undef, undef, undef, undef, undef, undef], defers := [] }) ?assign ?body ?done ?stop
  case assign =>
    intro m l2 x W3 K hK
    gi_wp2
    exact hK
  case body =>
    rintro m l2 pre ⟨t, ok⟩ post W2 bs2 fr hxs ⟨p, n, c, R, hR, hall, rfl⟩ HM
    have hlen := pre_len hxs
    have H63 : Hid ((pre.map fun p => Value.string p.1).length + 1 ≤ maxLen ∧ ((pre.map fun p => Value.string p.1).length + 1) * 16 ≤ 140737488355328) := Lib.hid (by
      have h1 := HCNT.out
      have h2 := HS.out
      rw [List.length_map]
      unfold maxLen
      omega)
    clear hlen
    have HO := HM
    clear HM
    simp only [AnsRes, List.cons_append] at HO
    have HR := Lib.hid hR
    have HALL := Lib.hid hall
    clear hR hall hxs
    refine wpIn_block ?_
    refine wpIn_seq ?_
    refine wpIn_seq ?_
    refine inRegion (fun ⟨_, _, h⟩ => h) rfl ?_
    cases ok
    · go_wp2
      refine wpIn_cond_true rfl ?_
      refine wpIn_seq ?_
      refine inRegion (fun ⟨_, _, h⟩ => h) rfl ?_
      have HO2 : Mine w W2 ((gN, IsCells (capsNo.cells (some ⟨g2, 0, none⟩) 1) 28) :: (g2, IsCells [.slice (some ⟨g1, 0, none⟩) 1 1] 45) :: (g1, IsCells [.int .i64 0] 3) :: (gR, IsCells [.int .i64 0, .int .u8 0, .slice none 0 0, .string ⟨#[]⟩, .int .u8 0, .string ⟨#[]⟩] 28) :: fr) :=
        HO.less (.cons _ (.cons_cons _ (.cons_cons _ (.cons_cons _ (.cons_cons _ (List.sublist_append_right _ _))))))
      clear HO
      have HO := HO2
      clear HO2
      simp only [capsNo, Sr.cells] at HO
      go_wp2_with (first
      | ((with_reducible refine gate ?_); (first
      | ((refine own_load (T := 28) HO rfl rfl rfl (by first | exact .head _ | exact .tail _ (.head _) | exact .tail _ (.tail _ (.head _)) | exact .tail _ (.tail _ (.tail _ (.head _))) | exact .tail _ (.tail _ (.tail _ (.tail _ (.head _)))) | exact .tail _ (.tail _ (.tail _ (.tail _ (.tail _ (.head _))))) | exact .tail _ (.tail _ (.tail _ (.tail _ (.tail _ (.tail _ (.head _)))))) | exact .tail _ (.tail _ (.tail _ (.tail _ (.tail _ (.tail _ (.tail _ (.head _)))))))) Tryd.isAgg28 Tryd.sizeOf28 (by repeat constructor) ?_); (try simp only [Act.put, List.setIfInBounds_toArray, List.set_cons_zero, List.set_cons_succ]))
      | ((refine own_store (T := 28) HO rfl rfl rfl rfl (by first | exact .here | exact .there (.here) | exact .there (.there (.here)) | exact .there (.there (.there (.here))) | exact .there (.there (.there (.there (.here)))) | exact .there (.there (.there (.there (.there (.here))))) | exact .there (.there (.there (.there (.there (.there (.here)))))) | exact .there (.there (.there (.there (.there (.there (.there (.here)))))))) Tryd.sizeOf28 (by repeat constructor) rfl ?_); clear HO; intro wN HO; (try simp only [Act.put, List.setIfInBounds_toArray, List.set_cons_zero, List.set_cons_succ])))))
      refine wpIn_ret ?_
      exact ⟨NoRes gN g2 g1 gR, ⟨rfl, by rw [all_snoc, Bool.and_false], rfl⟩, HO⟩
    · go_wp2
      refine wpIn_cond_false rfl ?_
      refine wpIn_skip ?_
      have HO2 : Mine w W2 ((gL, IsCells [.slice p n c] 34) :: (gN, IsCells (capsNo.cells (some ⟨g2, 0, none⟩) 1) 28) :: (g2, IsCells [.slice (some ⟨g1, 0, none⟩) 1 1] 45) :: (g1, IsCells [.int .i64 0] 3) :: (gR, IsCells [.int .i64 0, .int .u8 0, .slice none 0 0, .string ⟨#[]⟩, .int .u8 0, .string ⟨#[]⟩] 28) :: (fr ++ R)) :=
        HO.perm (.cons _ (.cons _ (.cons _ (.cons _ (.cons _ List.perm_append_comm)))))
      clear HO
      have HO := HO2
      clear HO2
      simp only [capsNo, Sr.cells] at HO
      refine inRegion (fun ⟨_, _, h⟩ => h) rfl ?_
      go_wp2_with (first
      | ((with_reducible refine gate ?_); (first
      | ((with_reducible refine gateAt (N := 20) rfl ?_); refine own_litF HO rfl (n := 1) (cs := [.string t]) (T := 9) (by first | (go_simp; done) | (go_simp; rfl)) ?_; clear HO; intro gE wN hggE HO; (try simp only [Act.put, List.setIfInBounds_toArray, List.set_cons_zero, List.set_cons_succ]))
      | ((with_reducible refine gateAt (N := 21) rfl ?_); refine own_append1 (T := 9) (t := 34) (z := .string ⟨#[]⟩) (bytes := 16) HO HR.out (by repeat (first | exact Tl.here | exact Tl.app | apply Tl.cons)) rfl rfl (.tmp rfl) (.tmp rfl) (by first | exact .head _ | exact .tail _ (.head _) | exact .tail _ (.tail _ (.head _)) | exact .tail _ (.tail _ (.tail _ (.head _))) | exact .tail _ (.tail _ (.tail _ (.tail _ (.head _)))) | exact .tail _ (.tail _ (.tail _ (.tail _ (.tail _ (.head _))))) | exact .tail _ (.tail _ (.tail _ (.tail _ (.tail _ (.tail _ (.head _)))))) | exact .tail _ (.tail _ (.tail _ (.tail _ (.tail _ (.tail _ (.tail _ (.head _)))))))) Tryd.underlying34 (by kernel_rfl) (by rfl) (by rfl) H63.out ?_; clear HO; intro p2 n2 c2 wN R2 hR2 HO; (simp only [List.nil_append, List.cons_append] at HO); (try simp only [Act.put, List.setIfInBounds_toArray, List.set_cons_zero, List.set_cons_succ]))
      | ((refine own_load1 (T := 34) HO rfl rfl rfl (by first | exact .head _ | exact .tail _ (.head _) | exact .tail _ (.tail _ (.head _)) | exact .tail _ (.tail _ (.tail _ (.head _))) | exact .tail _ (.tail _ (.tail _ (.tail _ (.head _)))) | exact .tail _ (.tail _ (.tail _ (.tail _ (.tail _ (.head _))))) | exact .tail _ (.tail _ (.tail _ (.tail _ (.tail _ (.tail _ (.head _)))))) | exact .tail _ (.tail _ (.tail _ (.tail _ (.tail _ (.tail _ (.tail _ (.head _)))))))) Tryd.isAgg34 rfl ?_); (try simp only [Act.put, List.setIfInBounds_toArray, List.set_cons_zero, List.set_cons_succ]))
      | ((refine own_store1 (T := 34) HO rfl rfl rfl (by first | exact .const | exact .tmp rfl | exact .func) (by rfl) (by first | exact .here | exact .there (.here) | exact .there (.there (.here)) | exact .there (.there (.there (.here))) | exact .there (.there (.there (.there (.here)))) | exact .there (.there (.there (.there (.there (.here))))) | exact .there (.there (.there (.there (.there (.there (.here)))))) | exact .there (.there (.there (.there (.there (.there (.there (.here)))))))) Tryd.sizeOf34 (by repeat constructor) (by rfl) ?_); clear HO; intro wN HO; (try simp only [Act.put, List.setIfInBounds_toArray, List.set_cons_zero, List.set_cons_succ])))))
      refine ⟨AnsRes gL gN g2 g1 gR (.slice p2 n2 c2) R2, ⟨p2, n2, c2, R2, by rw [List.map_append]; exact hR2, by rw [all_snoc, HALL.out]; rfl, rfl⟩, ?_⟩
      exact (HO.less (List.sublist_cons_self _ _)).perm (.cons _ (.cons _ (.cons _ (.cons _ (.cons _ List.perm_append_comm)))))
  case done =>
    rintro D W2 bs2 ⟨p, n, c, R, hR, hall, rfl⟩ HM
    have hno : mayI (capsYes (capsData s)) ≠ 0 → capsS s = capsNo := fun h => by
      unfold capsS
      rw [if_pos hall, if_neg h]
    have hyes : mayI (capsYes (capsData s)) = 0 → capsS s = capsYes (capsData s) := fun h => by
      unfold capsS
      rw [if_pos hall, if_pos h]
    have hln := capsData_len HS.out
    have hjoin : joinB [59] ((askedL s).map (·.1)) = capsData s := rfl
    obtain ⟨d, hd⟩ : ∃ d, capsData s = d := ⟨_, rfl⟩
    rw [hd] at hno hyes hjoin
    obtain ⟨I, hI⟩ : ∃ I, mayI (capsYes d) = I := ⟨_, rfl⟩
    have HJ : Hid (∀ W bs b0, Mine w W bs → Tl bs R b0 → Calls Tryd.prog 23 #[.slice p n c, .string ⟨#[59]⟩] W fun e w' => e = .returned (.string d) ∧ Below W.heap.size W w') := Lib.hid fun W bs b0 hm ht => by
      obtain ⟨h1, h2, h3, h4⟩ := hR.readsT hm ht
      have e : (askedL s).map (fun p => Value.string p.1) = ((askedL s).map (·.1)).map Value.string := by rw [List.map_map]; rfl
      rw [e] at h1 h2 h3
      rw [List.length_map] at h1 h3
      have h5 := joinR_calls p c ((askedL s).map (·.1)) ⟨#[59]⟩ W h2 h3 (by have := HCNT.out; have := HS.out; rw [List.length_map]; omega) hln
      rw [h1]
      have e2 : joinB (⟨#[59]⟩ : ByteArray).data.toList ((askedL s).map (·.1)) = d := hjoin
      rw [e2] at h5
      exact h5
    have HY : Hid (∀ (W : World) (g3 g4 : Nat), W.heap[g3]? = some (.cells [Value.int .i64 1].toArray 3 (0, 0)) → W.heap[g4]? = some (.cells [Value.slice (some ⟨g3, 0, none⟩) 1 1].toArray 45 (0, 0)) →
        Calls Tryd.prog 24 #[.agg #[.int .i64 3, .int .u8 0, .slice (some ⟨g4, 0, none⟩) 1 1, .string ⟨#[43]⟩, .int .u8 114, .string d]] W fun e w' => e = .returned (.int .i64 I) ∧ Below W.heap.size W w') := Lib.hid fun W g3 g4 h3 h4 => by
      have h := may_calls (capsYes d) (fun h => absurd h (by show ¬ ((3 : Int) = 5); decide)) (some ⟨g4, 0, none⟩) 1 W (rows_one1 h3 h4) (Nat.le_refl _)
      rw [hI] at h
      exact h
    have HO := HM
    clear HM
    have HO2 : Mine w W2 ((gL, IsCells [.slice p n c] 34) :: (gN, IsCells (capsNo.cells (some ⟨g2, 0, none⟩) 1) 28) :: (g2, IsCells [.slice (some ⟨g1, 0, none⟩) 1 1] 45) :: (g1, IsCells [.int .i64 0] 3) :: (gR, IsCells [.int .i64 0, .int .u8 0, .slice none 0 0, .string ⟨#[]⟩, .int .u8 0, .string ⟨#[]⟩] 28) :: (D, IsDef) :: R) :=
      HO.perm (.cons _ (.cons _ (.cons _ (.cons _ (.cons _ List.perm_append_comm)))))
    clear HO
    have HO := HO2
    clear HO2
    simp only [capsNo, Sr.cells] at HO
    have HNO := Lib.hid hno
    have HYES := Lib.hid hyes
    clear hno hyes hR hln hjoin hd hall
    refine wpIn_seq ?_
    refine wideRegion ?_
    go_wp2_with (first
      | ((with_reducible refine gate ?_); (first
      | ((with_reducible refine gateAt (N := 7) rfl ?_); refine own_allocF (T := 28) HO rfl rfl Tryd.zeroValue28 rfl ?_; clear HO; intro g7 wN hgg7 HO; (try simp only [Act.put, List.setIfInBounds_toArray, List.set_cons_zero, List.set_cons_succ]))
      | ((refine own_load (T := 28) HO rfl rfl rfl (by first | exact .head _ | exact .tail _ (.head _) | exact .tail _ (.tail _ (.head _)) | exact .tail _ (.tail _ (.tail _ (.head _))) | exact .tail _ (.tail _ (.tail _ (.tail _ (.head _)))) | exact .tail _ (.tail _ (.tail _ (.tail _ (.tail _ (.head _))))) | exact .tail _ (.tail _ (.tail _ (.tail _ (.tail _ (.tail _ (.head _)))))) | exact .tail _ (.tail _ (.tail _ (.tail _ (.tail _ (.tail _ (.tail _ (.head _)))))))) Tryd.isAgg28 Tryd.sizeOf28 (by repeat constructor) ?_); (try simp only [Act.put, List.setIfInBounds_toArray, List.set_cons_zero, List.set_cons_succ]))
      | ((refine own_store (T := 28) HO rfl rfl rfl rfl (by first | exact .here | exact .there (.here) | exact .there (.there (.here)) | exact .there (.there (.there (.here))) | exact .there (.there (.there (.there (.here)))) | exact .there (.there (.there (.there (.there (.here))))) | exact .there (.there (.there (.there (.there (.there (.here)))))) | exact .there (.there (.there (.there (.there (.there (.there (.here)))))))) Tryd.sizeOf28 (by repeat constructor) rfl ?_); clear HO; intro wN HO; (try simp only [Act.put, List.setIfInBounds_toArray, List.set_cons_zero, List.set_cons_succ])))))
    refine wpIn_seq ?_
    refine wideRegion ?_
    go_wp2_with (first
      | (go_at_call 23; refine (HJ.out _ _ _ HO (by repeat (first | exact Tl.here | exact Tl.app | apply Tl.cons))).mono ?_; rintro eN wN ⟨rfl, hbN⟩; have HON := HO.call hbN; clear HO hbN; have HO := HON; clear HON)
      | ((with_reducible refine gate ?_); (first
      | ((with_reducible refine gateAt (N := 23) rfl ?_); refine own_litF HO rfl (n := 1) (cs := [.int .i64 1]) (T := 3) (by first | (go_simp; done) | (go_simp; rfl)) ?_; clear HO; intro g3 wN hgg3 HO; (try simp only [Act.put, List.setIfInBounds_toArray, List.set_cons_zero, List.set_cons_succ]))
      | ((with_reducible refine gateAt (N := 24) rfl ?_); refine own_litF HO rfl (n := 1) (cs := [.slice (some ⟨g3, 0, none⟩) 1 1]) (T := 45) (by first | (go_simp; done) | (go_simp; rfl)) ?_; clear HO; intro g4 wN hgg4 HO; (try simp only [Act.put, List.setIfInBounds_toArray, List.set_cons_zero, List.set_cons_succ]))
      | ((refine own_load1 (T := 34) HO rfl rfl rfl (by first | exact .head _ | exact .tail _ (.head _) | exact .tail _ (.tail _ (.head _)) | exact .tail _ (.tail _ (.tail _ (.head _))) | exact .tail _ (.tail _ (.tail _ (.tail _ (.head _)))) | exact .tail _ (.tail _ (.tail _ (.tail _ (.tail _ (.head _))))) | exact .tail _ (.tail _ (.tail _ (.tail _ (.tail _ (.tail _ (.head _)))))) | exact .tail _ (.tail _ (.tail _ (.tail _ (.tail _ (.tail _ (.tail _ (.head _)))))))) Tryd.isAgg34 rfl ?_); (try simp only [Act.put, List.setIfInBounds_toArray, List.set_cons_zero, List.set_cons_succ]))
      | ((refine own_load1 (T := 26) HO rfl rfl rfl (by first | exact .head _ | exact .tail _ (.head _) | exact .tail _ (.tail _ (.head _)) | exact .tail _ (.tail _ (.tail _ (.head _))) | exact .tail _ (.tail _ (.tail _ (.tail _ (.head _)))) | exact .tail _ (.tail _ (.tail _ (.tail _ (.tail _ (.head _))))) | exact .tail _ (.tail _ (.tail _ (.tail _ (.tail _ (.tail _ (.head _)))))) | exact .tail _ (.tail _ (.tail _ (.tail _ (.tail _ (.tail _ (.tail _ (.head _)))))))) Tryd.isAgg26 rfl ?_); (try simp only [Act.put, List.setIfInBounds_toArray, List.set_cons_zero, List.set_cons_succ]))
      | ((refine own_load1 (T := 9) HO rfl rfl rfl (by first | exact .head _ | exact .tail _ (.head _) | exact .tail _ (.tail _ (.head _)) | exact .tail _ (.tail _ (.tail _ (.head _))) | exact .tail _ (.tail _ (.tail _ (.tail _ (.head _)))) | exact .tail _ (.tail _ (.tail _ (.tail _ (.tail _ (.head _))))) | exact .tail _ (.tail _ (.tail _ (.tail _ (.tail _ (.tail _ (.head _)))))) | exact .tail _ (.tail _ (.tail _ (.tail _ (.tail _ (.tail _ (.tail _ (.head _)))))))) Tryd.isAgg9 rfl ?_); (try simp only [Act.put, List.setIfInBounds_toArray, List.set_cons_zero, List.set_cons_succ]))
      | ((refine own_store1 (T := 34) HO rfl rfl rfl (by first | exact .const | exact .tmp rfl | exact .func) (by rfl) (by first | exact .here | exact .there (.here) | exact .there (.there (.here)) | exact .there (.there (.there (.here))) | exact .there (.there (.there (.there (.here)))) | exact .there (.there (.there (.there (.there (.here))))) | exact .there (.there (.there (.there (.there (.there (.here)))))) | exact .there (.there (.there (.there (.there (.there (.there (.here)))))))) Tryd.sizeOf34 (by repeat constructor) (by rfl) ?_); clear HO; intro wN HO; (try simp only [Act.put, List.setIfInBounds_toArray, List.set_cons_zero, List.set_cons_succ]))
      | ((refine own_store1 (T := 26) HO rfl rfl rfl (by first | exact .const | exact .tmp rfl | exact .func) (by rfl) (by first | exact .here | exact .there (.here) | exact .there (.there (.here)) | exact .there (.there (.there (.here))) | exact .there (.there (.there (.there (.here)))) | exact .there (.there (.there (.there (.there (.here))))) | exact .there (.there (.there (.there (.there (.there (.here)))))) | exact .there (.there (.there (.there (.there (.there (.there (.here)))))))) Tryd.sizeOf26 (by repeat constructor) (by rfl) ?_); clear HO; intro wN HO; (try simp only [Act.put, List.setIfInBounds_toArray, List.set_cons_zero, List.set_cons_succ]))
      | ((refine own_store1 (T := 9) HO rfl rfl rfl (by first | exact .const | exact .tmp rfl | exact .func) (by rfl) (by first | exact .here | exact .there (.here) | exact .there (.there (.here)) | exact .there (.there (.there (.here))) | exact .there (.there (.there (.there (.here)))) | exact .there (.there (.there (.there (.there (.here))))) | exact .there (.there (.there (.there (.there (.there (.here)))))) | exact .there (.there (.there (.there (.there (.there (.there (.here)))))))) Tryd.sizeOf9 (by repeat constructor) (by rfl) ?_); clear HO; intro wN HO; (try simp only [Act.put, List.setIfInBounds_toArray, List.set_cons_zero, List.set_cons_succ])))))
    by_cases hI0 : I = 0
    · subst hI0
      refine wpIn_seq ?_
      refine wpIn_seq ?_
      refine wideRegion ?_
      go_wp2_with (first
      | (go_at_call 24; refine (HY.out _ g3 g4 (HO.at (by first | exact .head _ | exact .tail _ (.head _) | exact .tail _ (.tail _ (.head _)) | exact .tail _ (.tail _ (.tail _ (.head _))) | exact .tail _ (.tail _ (.tail _ (.tail _ (.head _)))) | exact .tail _ (.tail _ (.tail _ (.tail _ (.tail _ (.head _))))) | exact .tail _ (.tail _ (.tail _ (.tail _ (.tail _ (.tail _ (.head _)))))) | exact .tail _ (.tail _ (.tail _ (.tail _ (.tail _ (.tail _ (.tail _ (.head _))))))))) (HO.at (by first | exact .head _ | exact .tail _ (.head _) | exact .tail _ (.tail _ (.head _)) | exact .tail _ (.tail _ (.tail _ (.head _))) | exact .tail _ (.tail _ (.tail _ (.tail _ (.head _)))) | exact .tail _ (.tail _ (.tail _ (.tail _ (.tail _ (.head _))))) | exact .tail _ (.tail _ (.tail _ (.tail _ (.tail _ (.tail _ (.head _)))))) | exact .tail _ (.tail _ (.tail _ (.tail _ (.tail _ (.tail _ (.tail _ (.head _)))))))))).mono ?_; rintro eN wN ⟨rfl, hbN⟩; have HON := HO.call hbN; clear HO hbN; have HO := HON; clear HON)
      | ((with_reducible refine gate ?_); (first
      | ((refine own_load (T := 28) HO rfl rfl rfl (by first | exact .head _ | exact .tail _ (.head _) | exact .tail _ (.tail _ (.head _)) | exact .tail _ (.tail _ (.tail _ (.head _))) | exact .tail _ (.tail _ (.tail _ (.tail _ (.head _)))) | exact .tail _ (.tail _ (.tail _ (.tail _ (.tail _ (.head _))))) | exact .tail _ (.tail _ (.tail _ (.tail _ (.tail _ (.tail _ (.head _)))))) | exact .tail _ (.tail _ (.tail _ (.tail _ (.tail _ (.tail _ (.tail _ (.head _)))))))) Tryd.isAgg28 Tryd.sizeOf28 (by repeat constructor) ?_); (try simp only [Act.put, List.setIfInBounds_toArray, List.set_cons_zero, List.set_cons_succ]))
      | ((refine own_store (T := 28) HO rfl rfl rfl rfl (by first | exact .here | exact .there (.here) | exact .there (.there (.here)) | exact .there (.there (.there (.here))) | exact .there (.there (.there (.there (.here)))) | exact .there (.there (.there (.there (.there (.here))))) | exact .there (.there (.there (.there (.there (.there (.here)))))) | exact .there (.there (.there (.there (.there (.there (.there (.here)))))))) Tryd.sizeOf28 (by repeat constructor) rfl ?_); clear HO; intro wN HO; (try simp only [Act.put, List.setIfInBounds_toArray, List.set_cons_zero, List.set_cons_succ])))))
      refine wpIn_cond_false rfl ?_
      refine wpIn_skip ?_
      refine wpIn_seq ?_
      refine wideRegion ?_
      go_wp2_with (first
      | ((with_reducible refine gate ?_); (first
      | ((refine own_load (T := 28) HO rfl rfl rfl (by first | exact .head _ | exact .tail _ (.head _) | exact .tail _ (.tail _ (.head _)) | exact .tail _ (.tail _ (.tail _ (.head _))) | exact .tail _ (.tail _ (.tail _ (.tail _ (.head _)))) | exact .tail _ (.tail _ (.tail _ (.tail _ (.tail _ (.head _))))) | exact .tail _ (.tail _ (.tail _ (.tail _ (.tail _ (.tail _ (.head _)))))) | exact .tail _ (.tail _ (.tail _ (.tail _ (.tail _ (.tail _ (.tail _ (.head _))))))) | exact .tail _ (.tail _ (.tail _ (.tail _ (.tail _ (.tail _ (.tail _ (.tail _ (.head _)))))))) | exact .tail _ (.tail _ (.tail _ (.tail _ (.tail _ (.tail _ (.tail _ (.tail _ (.tail _ (.head _)))))))))) Tryd.isAgg28 Tryd.sizeOf28 (by repeat constructor) ?_); (try simp only [Act.put, List.setIfInBounds_toArray, List.set_cons_zero, List.set_cons_succ]))
      | ((refine own_store (T := 28) HO rfl rfl rfl rfl (by first | exact .here | exact .there (.here) | exact .there (.there (.here)) | exact .there (.there (.there (.here))) | exact .there (.there (.there (.there (.here)))) | exact .there (.there (.there (.there (.there (.here))))) | exact .there (.there (.there (.there (.there (.there (.here)))))) | exact .there (.there (.there (.there (.there (.there (.there (.here))))))) | exact .there (.there (.there (.there (.there (.there (.there (.there (.here)))))))) | exact .there (.there (.there (.there (.there (.there (.there (.there (.there (.here)))))))))) Tryd.sizeOf28 (by repeat constructor) rfl ?_); clear HO; intro wN HO; (try simp only [Act.put, List.setIfInBounds_toArray, List.set_cons_zero, List.set_cons_succ])))))
      refine wpIn_ret ?_
      refine leaves_mark (bs := [_, _, _]) (HO.less (.cons_cons _ (.cons_cons _ (.cons _ (.cons _ (.cons _ (.cons _ (.cons _ (.cons_cons _ (.cons_cons _ (List.nil_sublist _))))))))))) fun W3 HM3 => ?_
      refine ⟨_, own_results1 HM3 Tryd.results12 rfl (.tail _ (.tail _ (.head _))) Tryd.isAgg28 Tryd.sizeOf28 (by repeat constructor), 1, g3, g4, ?_, ?_, HM3.less (.cons_cons _ (.cons_cons _ (List.nil_sublist _)))⟩
      · rw [HYES.out hI]; rfl
      · rw [HYES.out hI]; rfl
    · have e1 : (I == 0) = false := beq_eq_false_iff_ne.2 hI0
      have e2 : (I != 0) = true := bne_iff_ne.2 hI0
      have HI0 := Lib.hid hI0
      have HIE := Lib.hid hI
      clear hI0 hI
      refine wpIn_seq ?_
      refine wpIn_seq ?_
      refine wideRegion ?_
      go_wp2_with (first
      | (go_at_call 24; refine (HY.out _ g3 g4 (HO.at (by first | exact .head _ | exact .tail _ (.head _) | exact .tail _ (.tail _ (.head _)) | exact .tail _ (.tail _ (.tail _ (.head _))) | exact .tail _ (.tail _ (.tail _ (.tail _ (.head _)))) | exact .tail _ (.tail _ (.tail _ (.tail _ (.tail _ (.head _))))) | exact .tail _ (.tail _ (.tail _ (.tail _ (.tail _ (.tail _ (.head _)))))) | exact .tail _ (.tail _ (.tail _ (.tail _ (.tail _ (.tail _ (.tail _ (.head _))))))))) (HO.at (by first | exact .head _ | exact .tail _ (.head _) | exact .tail _ (.tail _ (.head _)) | exact .tail _ (.tail _ (.tail _ (.head _))) | exact .tail _ (.tail _ (.tail _ (.tail _ (.head _)))) | exact .tail _ (.tail _ (.tail _ (.tail _ (.tail _ (.head _))))) | exact .tail _ (.tail _ (.tail _ (.tail _ (.tail _ (.tail _ (.head _)))))) | exact .tail _ (.tail _ (.tail _ (.tail _ (.tail _ (.tail _ (.tail _ (.head _)))))))))).mono ?_; rintro eN wN ⟨rfl, hbN⟩; have HON := HO.call hbN; clear HO hbN; have HO := HON; clear HON)
      | ((with_reducible refine gate ?_); (first
      | ((refine own_load (T := 28) HO rfl rfl rfl (by first | exact .head _ | exact .tail _ (.head _) | exact .tail _ (.tail _ (.head _)) | exact .tail _ (.tail _ (.tail _ (.head _))) | exact .tail _ (.tail _ (.tail _ (.tail _ (.head _)))) | exact .tail _ (.tail _ (.tail _ (.tail _ (.tail _ (.head _))))) | exact .tail _ (.tail _ (.tail _ (.tail _ (.tail _ (.tail _ (.head _)))))) | exact .tail _ (.tail _ (.tail _ (.tail _ (.tail _ (.tail _ (.tail _ (.head _)))))))) Tryd.isAgg28 Tryd.sizeOf28 (by repeat constructor) ?_); (try simp only [Act.put, List.setIfInBounds_toArray, List.set_cons_zero, List.set_cons_succ]))
      | ((refine own_store (T := 28) HO rfl rfl rfl rfl (by first | exact .here | exact .there (.here) | exact .there (.there (.here)) | exact .there (.there (.there (.here))) | exact .there (.there (.there (.there (.here)))) | exact .there (.there (.there (.there (.there (.here))))) | exact .there (.there (.there (.there (.there (.there (.here)))))) | exact .there (.there (.there (.there (.there (.there (.there (.here)))))))) Tryd.sizeOf28 (by repeat constructor) rfl ?_); clear HO; intro wN HO; (try simp only [Act.put, List.setIfInBounds_toArray, List.set_cons_zero, List.set_cons_succ])))))
      refine wpIn_cond_true rfl ?_
      refine wpIn_seq ?_
      refine wideRegion ?_
      go_wp2_with (first
      | ((with_reducible refine gate ?_); (first
      | ((refine own_load (T := 28) HO rfl rfl rfl (by first | exact .head _ | exact .tail _ (.head _) | exact .tail _ (.tail _ (.head _)) | exact .tail _ (.tail _ (.tail _ (.head _))) | exact .tail _ (.tail _ (.tail _ (.tail _ (.head _)))) | exact .tail _ (.tail _ (.tail _ (.tail _ (.tail _ (.head _))))) | exact .tail _ (.tail _ (.tail _ (.tail _ (.tail _ (.tail _ (.head _)))))) | exact .tail _ (.tail _ (.tail _ (.tail _ (.tail _ (.tail _ (.tail _ (.head _))))))) | exact .tail _ (.tail _ (.tail _ (.tail _ (.tail _ (.tail _ (.tail _ (.tail _ (.head _)))))))) | exact .tail _ (.tail _ (.tail _ (.tail _ (.tail _ (.tail _ (.tail _ (.tail _ (.tail _ (.head _)))))))))) Tryd.isAgg28 Tryd.sizeOf28 (by repeat constructor) ?_); (try simp only [Act.put, List.setIfInBounds_toArray, List.set_cons_zero, List.set_cons_succ]))
      | ((refine own_store (T := 28) HO rfl rfl rfl rfl (by first | exact .here | exact .there (.here) | exact .there (.there (.here)) | exact .there (.there (.there (.here))) | exact .there (.there (.there (.there (.here)))) | exact .there (.there (.there (.there (.there (.here))))) | exact .there (.there (.there (.there (.there (.there (.here)))))) | exact .there (.there (.there (.there (.there (.there (.there (.here))))))) | exact .there (.there (.there (.there (.there (.there (.there (.there (.here)))))))) | exact .there (.there (.there (.there (.there (.there (.there (.there (.there (.here)))))))))) Tryd.sizeOf28 (by repeat constructor) rfl ?_); clear HO; intro wN HO; (try simp only [Act.put, List.setIfInBounds_toArray, List.set_cons_zero, List.set_cons_succ])))))
      refine wpIn_ret ?_
      refine leaves_mark (bs := [_, _, _]) (HO.less (.cons _ (.cons _ (.cons _ (.cons _ (.cons _ (.cons_cons _ (.cons_cons _ (.cons_cons _ (.cons_cons _ (List.nil_sublist _))))))))))) fun W3 HM3 => ?_
      refine ⟨_, own_results1 HM3 Tryd.results12 rfl (.tail _ (.tail _ (.head _))) Tryd.isAgg28 Tryd.sizeOf28 (by repeat constructor), 0, g1, g2, ?_, ?_, HM3.less (.cons_cons _ (.cons_cons _ (List.nil_sublist _)))⟩
      · rw [HNO.out (by rw [HIE.out]; exact HI0.out)]; rfl
      · rw [HNO.out (by rw [HIE.out]; exact HI0.out)]; rfl
  case stop =>
    rintro D c pre W2 bs2 hpre ⟨rfl, hall, rfl⟩ HM
    refine wpIn_ret ?_
    refine leaves_mark HM fun W3 HM3 => ?_
    have hno : capsS s = capsNo := by
      unfold capsS
      rw [if_neg (by rw [all_prefix hpre hall]; decide)]
    refine ⟨_, own_results1 HM3 Tryd.results12 rfl (.tail _ (.tail _ (.tail _ (.head _)))) Tryd.isAgg28 Tryd.sizeOf28 (by unfold capsNo Sr.cells; repeat constructor), 0, g1, g2, ?_, ?_, HM3.less (.cons _ (.cons_cons _ (.cons_cons _ (List.nil_sublist _))))⟩
    · rw [hno]; rfl
    · rw [hno]; rfl
end Go.Proofs.YtclnanhgcnopdaaDoor
end
section
namespace Go.Proofs.YtclnanhgcnopdaaDoor.Kit
set_option linter.unusedVariables false
set_option linter.unusedSimpArgs false
open Go Go.RowKit Go.Proofs.YtclnanhgcnopdaaDoorW.PrintWords
section
variable {P : Program} {ops : Array Oper} {Q : Exit → Act → World → Prop} {a : Act} {w W0 : World} {rest : List Oper} {o : Oper} {bs b0 R : Res} {cs : List Value} {T : TypeId} {v : Value} {k n : Nat}
def GRowK (T : TypeId) (k : Nat) (v : Value) (n : Nat) (xs : List Value) (R : Res) : Prop :=
  (v = .slice none 0 0 ∧ n = 0 ∧ xs = [] ∧ R = []) ∨ ∃ g cap cur, v = .slice (some ⟨g, 0, none⟩) n cap ∧ xs.length = n * k ∧ n ≤ cap ∧ cap ≤ maxLen ∧ cur.length = cap * k ∧ cur.take (n * k) = xs ∧ R = [(g, IsCells cur T)]
theorem GRowK.nil (T : TypeId) (k : Nat) : GRowK T k (.slice none 0 0) 0 [] [] := .inl ⟨rfl, rfl, rfl, rfl⟩
theorem GRowK.own {xs : List Value} (h : GRowK T k v n xs R) (HO : Mine W0 w (bs ++ R)) : w.ownsRow W0.heap.size T k v n xs := by
  rcases h with ⟨rfl, rfl, rfl, rfl⟩ | ⟨g, cap, cur, rfl, h0, h1, h2, h3, h4, rfl⟩
  · exact World.ownsRow_nil _ _ _ _
  · have hm : (g, IsCells cur T) ∈ bs ++ [(g, IsCells cur T)] := by simp
    exact ⟨h0, .inr ⟨g, cap, cur.toArray, rfl, (HO.held _ hm).1, HO.at hm, h1, h2, by simp [h3], by simpa using h4⟩⟩
theorem GRowK.reads {xs : List Value} (h : GRowK T k v n xs R) (HO : Mine W0 w (bs ++ R)) : ∃ p c, v = .slice p n c ∧ Reads w p xs ∧ n ≤ c ∧ c ≤ maxLen ∧ xs.length = n * k := by
  rcases h with ⟨rfl, rfl, rfl, rfl⟩ | ⟨g, cap, cur, rfl, h0, h1, h2, h3, h4, rfl⟩
  · exact ⟨none, 0, rfl, Reads.nil _ _, Nat.le_refl _, Nat.zero_le _, by simp⟩
  · have hm : (g, IsCells cur T) ∈ bs ++ [(g, IsCells cur T)] := by simp
    exact ⟨_, _, rfl, Reads.row (HO.at hm) (by simpa using h4), h1, h2, h0⟩
theorem GRowK.append1 {t ty : TypeId} {i : TypeInfo} {z : Value} {bytes : Nat} (ht : P.underlying t = some (.slice T)) (hi : P.info? T = some i) (hz : i.zero = some z) (hs : i.size = k) (hb : i.bytes = bytes) (hzs : z.cells.size = k) (hk : 0 < k)
    {xs news : List Value} (hR : GRowK T k v n xs R) (HO : Mine W0 w (bs ++ R)) {gl : Nat} (hm : (gl, IsCells news T) ∈ bs) (hl : news.length = k) (h1 : ∀ u ∈ news, u.oneCell' = true)
    (h63 : n + 1 ≤ maxLen) (hby : (n + 1) * bytes ≤ 140737488355328) :
    ∃ v' w' R', (Builtin.append_ #[t, t] ty #[v, .slice (some ⟨gl, 0, none⟩) 1 1]).run P w = .ok v' w' ∧ GRowK T k v' (n + 1) (xs ++ news) R' ∧ Mine W0 w' (bs ++ R') := by
  have hown := hR.own HO
  have hg0 := HO.at (List.mem_append_left R hm)
  have hcells : ∀ j u, news[j]? = some u → w.cell? ((⟨gl, 0, none⟩ : Addr).add j) = some u := by
    intro j u hj
    have hadd : (⟨gl, 0, none⟩ : Addr).add j = ⟨gl, 0 + j, none⟩ := by unfold Addr.add; split <;> simp_all
    rw [hadd]
    simp [World.cell?, hg0, hj]
  obtain ⟨v', w', hap, hown', hgr, hnil, hat⟩ := run_append_own_at (P := P) (w := w) W0.heap.size t ty T i z k bytes ht hi hz hs hb hzs hk v n xs hown ⟨gl, 0, none⟩ 1 1 news (by omega) hcells h1 h63 hby HO.below.size
  have hrow : ∀ q, v.ownBlock = some q → W0.heap.size ≤ q := fun q hq => (hown.lt q hq).1
  have hold : ∀ q ∈ bs, some q.1 ≠ v.ownBlock := by
    intro q hq e
    rcases hR with ⟨rfl, _, _, _⟩ | ⟨g, cap, cur, rfl, _, _, _, _, _, rfl⟩
    · cases e
    · have hg : q.1 = g := Option.some.inj e
      have hn := HO.nodup
      rw [List.map_append, List.nodup_append] at hn
      exact hn.2.2 q.1 (List.mem_map.2 ⟨q, hq, rfl⟩) g (by simp) hg
  have keep : ∀ q ∈ bs, W0.heap.size ≤ q.1 ∧ ∃ o, w'.heap[q.1]? = some o ∧ q.2 o := fun q hq => by
    have hq' : q ∈ bs ++ R := List.mem_append_left _ hq
    obtain ⟨h2, o, h3, h4⟩ := HO.held q hq'
    exact ⟨h2, o, (hgr.block _ (HO.lt hq') (hold q hq)).trans h3, h4⟩
  have hbel : Below W0.heap.size W0 w' := HO.below.grown hgr HO.below.size hrow
  have hnd : (bs.map (·.1)).Nodup := (HO.left).nodup
  rcases hown'.2 with ⟨_, h0⟩ | ⟨g, cap, cur, rfl, hg1, hg2, hg3, hg4, hg5, hg6⟩
  · omega
  · refine ⟨_, _, [(g, IsCells cur.toList T)], hap, .inr ⟨g, cap, cur.toList, rfl, hown'.1, hg3, hg4, by simpa using hg5, by simpa using hg6, rfl⟩, hbel, ?_, ?_⟩
    · rw [List.map_append, List.nodup_append]
      refine ⟨hnd, by simp, ?_⟩
      intro x hx y hy e
      obtain ⟨q, hq, rfl⟩ := List.mem_map.1 hx
      have hy2 : y = g := by simpa using hy
      rw [hy2] at e
      rcases hat with hat | hat
      · exact hold q hq (by rw [← hat, e]; rfl)
      · have h5 : g = w.heap.size := Option.some.inj hat
        have h6 := HO.lt (List.mem_append_left R hq)
        omega
    · intro q hq
      rcases List.mem_append.1 hq with hq | hq
      · exact keep q hq
      · rw [List.mem_singleton.1 hq]
        exact ⟨hg1, _, hg2, by simp [IsCells]⟩
theorem GRowK.form {xs : List Value} (h : GRowK T k v n xs R) : ∃ p c, v = .slice p n c := by
  rcases h with ⟨rfl, rfl, _⟩ | ⟨g, cap, cur, rfl, _⟩
  · exact ⟨_, _, rfl⟩
  · exact ⟨_, _, rfl⟩
theorem own_appendK {s x : Operand} {t : TypeId} {z : Value} {bytes gl : Nat} {xs news : List Value} (HO : Mine W0 w bs) (hR : GRowK T k v n xs R) (htl : Tl bs R b0) (ho : o.op = .call { callee := .builtin .append, args := #[s, x], argTypes := #[t, t] })
    (hgd : Region.wanted o (yielded ops a.tmps) = true) (hs : EvalTo a s v) (hx : EvalTo a x (.slice (some ⟨gl, 0, none⟩) 1 1)) (hm : (gl, IsCells news T) ∈ b0) (ht : P.underlying t = some (.slice T)) (hinfo : (P.info? T).map (fun i => (i.zero, i.size, i.bytes)) = some (some z, k, bytes)) (hzs : z.cells.size = k) (hk : 0 < k)
    (hl : news.length = k) (h1 : ∀ u ∈ news, u.oneCell' = true) (h63 : n + 1 ≤ maxLen ∧ (n + 1) * bytes ≤ 140737488355328)
    (h : ∀ p' c' w' R', GRowK T k (.slice p' (n + 1) c') (n + 1) (xs ++ news) R' → Mine W0 w' (b0 ++ R') → wpList P ops Q rest (a.put o.dst (.slice p' (n + 1) c')) w') : wpList P ops Q (o :: rest) a w :=
  wpList_want hgd fun _ hK => by
    obtain ⟨i, hi, hz, hsz, hb⟩ : ∃ i, P.info? T = some i ∧ i.zero = some z ∧ i.size = k ∧ i.bytes = bytes := by
      cases hi : P.info? T with
      | none => rw [hi] at hinfo; cases hinfo
      | some i => rw [hi] at hinfo; simp at hinfo; exact ⟨i, rfl, hinfo.1, hinfo.2.1, hinfo.2.2⟩
    rw [htl.eq] at HO
    obtain ⟨v', w', R', hap, hR', HO'⟩ := GRowK.append1 (P := P) (t := t) (ty := o.type) ht hi hz hsz hb hzs hk hR HO hm hl h1 h63.1 h63.2
    unfold Oper.wp execOp
    simp only [ho, resolve, invoke, builtin, Sem.run_bind, Sem.run_pure, Result.andThen_ok, List.map_toArray, List.map_cons, List.map_nil, hs.eq, hx.eq, hap]
    obtain ⟨p', c', rfl⟩ := hR'.form
    exact hK _ _ (h _ _ _ _ hR' HO')
end
end Go.Proofs.YtclnanhgcnopdaaDoor.Kit
end
section
namespace Go.Proofs.YtclnanhgcnopdaaDoor
set_option linter.unusedVariables false
set_option linter.unusedSimpArgs false
open Go.RowKit Kit Go.Shelf Go.Proofs.YtclnanhgcnopdaaDoorW.PrintWords
attribute [local go_sem] Oper.semAt_some
def cutS (c : UInt8) (s : ByteArray) : ByteArray × ByteArray × Bool :=
  if Lib.indexByte s.data.toList c = -1 then (s, ⟨#[]⟩, false) else (s.extract 0 (Lib.indexByte s.data.toList c).toNat, s.extract ((Lib.indexByte s.data.toList c).toNat + 1) s.size, true)
attribute [local irreducible] wpList Calls wpQuiet
set_option maxHeartbeats 1000000 in
theorem cut_calls (c : UInt8) (s a b : ByteArray) (k : Bool) (h : cutS c s = (a, b, k)) (hs : s.size ≤ 1000000000) (w : World) :
    Calls Tryd.prog 37 #[.string s, .string ⟨#[c]⟩] w fun e w' => e = .returned (.tuple #[.string a, .string b, .bool k]) ∧ Below w.heap.size w w' := by
  have hl : Calls Tryd.prog 54 #[.string s, .string ⟨#[c]⟩] w fun e w' => e = .returned (.tuple #[.string a, .string b, .bool k]) ∧ Below w.heap.size w w' := by
    have cI := Tryd.stringslite_Index_one s c w
    unfold cutS at h
    by_cases hi : Lib.indexByte s.data.toList c = -1
    · rw [if_pos hi] at h
      rw [hi] at cI
      cases h
      clear hi
      go_enter Tryd.func54, Tryd.ntmps54
      go_wp2_with (go_at_call 69; refine cI.mono ?_; rintro e w' ⟨rfl, rfl⟩)
      exact bodyPost_ret (v := .tuple #[.string s, .string ⟨#[]⟩, .bool false]) (by simp [results, Tryd.results54, go_sem]) rfl ⟨rfl, Below.refl _ _⟩
    · rw [if_neg hi] at h
      obtain ⟨j, hj⟩ : ∃ j : Nat, Lib.indexByte s.data.toList c = (j : Int) := ⟨(Lib.indexByte s.data.toList c).toNat, by have := Lib.indexByte_ge s.data.toList c; omega⟩
      rw [hj] at cI h
      rw [Int.toNat_natCast] at h
      obtain ⟨hkl, _⟩ := splitS_some c s j hj
      cases h
      have b1 : decide ((0 : Int) ≤ (j : Int)) = true := decide_eq_true (by omega)
      have b2 : decide ((j : Int) ≤ (s.size : Int)) = true := decide_eq_true (by omega)
      have b3 : (j : Int) ≤ (s.size : Int) := by omega
      have b4 : (j : Int) + 1 ≤ (s.size : Int) := by omega
      have b5 : IntKind.i64.wrap ((j : Int) + 1) = (j : Int) + 1 := IntWalk.i64_in _ (by omega)
      have b6 : decide ((j : Int) + 1 ≤ (s.size : Int)) = true := decide_eq_true (by omega)
      clear hi hj hkl hs
      go_enter Tryd.func54, Tryd.ntmps54
      go_wp2_with (go_at_call 69; refine cI.mono ?_; rintro e w' ⟨rfl, rfl⟩)
      go_quiet ((fail))
      go_wp2
      exact bodyPost_ret (v := .tuple #[.string (s.extract 0 j), .string (s.extract (j + 1) s.size), .bool true]) (by simp [results, Tryd.results54, go_sem]) rfl ⟨rfl, pw_below_drewN (Below.refl _ _) _⟩
  have HL := Lib.hid hl
  clear h hl hs
  go_enter Tryd.func37, Tryd.ntmps37
  go_wp2_with (go_at_call 54; refine HL.out.mono ?_; rintro eN wN ⟨rfl, hb⟩; have HB := Lib.hid hb; clear hb)
  exact bodyPost_ret (v := .tuple #[.string a, .string b, .bool k]) (by simp [results, Tryd.results37, go_sem]) rfl ⟨rfl, HB.out⟩
end Go.Proofs.YtclnanhgcnopdaaDoor
end
section
namespace Go.Proofs.YtclnanhgcnopdaaDoor
set_option linter.unusedVariables false
set_option linter.unusedSimpArgs false
open Go.RowKit Kit Go.Shelf Go.Proofs.YtclnanhgcnopdaaDoorW.PrintWords
attribute [local go_sem] Oper.semAt_some
def pairP (x : ByteArray) : Option (ByteArray × ByteArray) :=
  let r := cutS 61 x
  let oa := unhexL r.1.data.toList
  let ob := unhexL r.2.1.data.toList
  if (r.2.2 && oa.isSome && ob.isSome && decide (ofL (hexL (oa.getD []) ++ 61 :: hexL (ob.getD [])) = x)) = true then some (ofL (oa.getD []), ofL (ob.getD [])) else none
def isReply (q : Sr) : Bool := decide (q = capsYes q.data)
def readS (q : Sr) : Option (List (ByteArray × ByteArray)) :=
  if isReply q = true then (if ((splitS 59 q.data).map pairP).all (·.isSome) = true then some ((splitS 59 q.data).filterMap pairP) else none) else none
def flatP (l : List (ByteArray × ByteArray)) : List Value := l.flatMap fun x => [.string x.1, .string x.2]
def ReadAns (o : Option (List (ByteArray × ByteArray))) (w : World) (e : Ending) (w' : World) : Prop :=
  match o with
  | none => e = .returned (.tuple #[.slice none 0 0, .bool false]) ∧ Below w.heap.size w w'
  | some l => (∃ p c, e = .returned (.tuple #[.slice p l.length c, .bool true]) ∧ l.length ≤ c ∧ Reads w' p (flatP l)) ∧ Below w.heap.size w w'
theorem cutS_len (c : UInt8) (s : ByteArray) : (cutS c s).1.size ≤ s.size ∧ (cutS c s).2.1.size ≤ s.size := by
  unfold cutS
  split
  · exact ⟨Nat.le_refl _, Nat.zero_le _⟩
  · refine ⟨?_, ?_⟩
    · show (s.extract 0 _).size ≤ s.size
      rw [ByteArray.size_extract]; omega
    · show (s.extract _ s.size).size ≤ s.size
      rw [ByteArray.size_extract]; omega
theorem str_ne (a b : ByteArray) (h : a ≠ b) : (a.toList == b.toList) = false := by
  rw [beq_eq_false_iff_ne]; exact fun e => h (by rw [Lib.toList_data, Lib.toList_data] at e; exact ByteArray.ext (Array.toList_inj.1 e))
theorem flatP_snoc (l : List (ByteArray × ByteArray)) (x : ByteArray × ByteArray) : flatP (l ++ [x]) = flatP l ++ [.string x.1, .string x.2] := by simp [flatP]
theorem filterMap_len {α β : Type} {f : α → Option β} : ∀ (l : List α), (l.map f).all (·.isSome) = true → (l.filterMap f).length = l.length
  | [], _ => rfl
  | x :: l, h => by
    rw [List.map_cons, List.all_cons, Bool.and_eq_true] at h
    obtain ⟨y, hy⟩ := Option.isSome_iff_exists.1 h.1
    rw [List.filterMap_cons, hy]
    exact congrArg (· + 1) (filterMap_len l h.2)
attribute [local irreducible] wpList Calls wpQuiet
abbrev ReadRes (gL gB gR : Nat) (v : Value) (R : Res) : Res := (gL, IsCells [v] 37) :: (gB, IsCells [.bool false] 4) :: (gR, IsCells [.slice none 0 0] 37) :: R
abbrev BadRes (gB gR : Nat) : Res := (gB, IsCells [.bool false] 4) :: (gR, IsCells [.slice none 0 0] 37) :: []
theorem results_cell2 {P : Program} {w W0 : World} {bs : Res} {fn : Func} {tmps : Array Value} {p q : Tmp} {T1 T2 : TypeId} {g1 g2 : Nat} {v1 v2 : Value} (HO : Mine W0 w bs) (h : fn.results = #[.cell p T1, .cell q T2]) (hp : tmps.getD p undef = .pointer (some ⟨g1, 0, none⟩)) (hq : tmps.getD q undef = .pointer (some ⟨g2, 0, none⟩))
    (h1 : (g1, IsCells [v1] T1) ∈ bs) (h2 : (g2, IsCells [v2] T2) ∈ bs) (ha1 : ∀ w, (isAgg T1).run P w = .ok false w) (ha2 : ∀ w, (isAgg T2).run P w = .ok false w) : (results fn tmps).run P w = .ok (.tuple #[v1, v2]) w := by
  have hp' : tmps[p]?.getD undef = .pointer (some ⟨g1, 0, none⟩) := by simpa using hp
  have hq' : tmps[q]?.getD undef = .pointer (some ⟨g2, 0, none⟩) := by simpa using hq
  simp [results, h, hp', hq', asAddr, run_load1_own (off := 0) (v := v1) (HO.at h1) ha1 rfl, run_load1_own (off := 0) (v := v2) (HO.at h2) ha2 rfl]
set_option maxRecDepth 100000 in
set_option maxHeartbeats 8000000 in
theorem read_calls (q : Sr) (A : Option Addr) (cA : Nat) (w : World) (hC : RowsC w A q.rows) (hs : q.data.size ≤ 100000) : Calls Tryd.prog 17 #[q.v A cA] w (ReadAns (readS q) w) := by
  refine (callsIn_wide (n := 5)).1 ?_
  have HO := Mine.start w
  obtain ⟨t, ht⟩ : ∃ t, isReply q = t := ⟨_, rfl⟩
  have HSAME : Hid (∀ (W : World) (g3 g4 : Nat), Below w.heap.size w W → W.heap[g3]? = some (.cells [Value.int .i64 1].toArray 3 (0, 0)) → W.heap[g4]? = some (.cells [Value.slice (some ⟨g3, 0, none⟩) 1 1].toArray 45 (0, 0)) →
      Calls Tryd.prog 35 #[q.v A cA, (capsYes q.data).v (some ⟨g4, 0, none⟩) 1] W fun e w' => e = .returned (.bool t) ∧ Below W.heap.size W w') := Lib.hid fun W g3 g4 hW h3 h4 => by
    have h := sameS_calls q (capsYes q.data) A (some ⟨g4, 0, none⟩) cA 1 W (Kd.C_below hC hW) (rows_one1 h3 h4)
    rw [show decide (q = capsYes q.data) = t from ht] at h
    exact h
  have HT := Lib.hid ht
  clear hC ht
  have HBAD : Hid ((t = false ∨ ((splitS 59 q.data).map pairP).all (·.isSome) = false) → readS q = none) := Lib.hid fun h => by
    unfold readS
    rw [HT.out]
    rcases h with rfl | h
    · rfl
    · cases t
      · rfl
      · rw [if_pos rfl, if_neg (by rw [h]; decide)]
  have HGOOD : Hid (t = true → ((splitS 59 q.data).map pairP).all (·.isSome) = true → readS q = some ((splitS 59 q.data).filterMap pairP)) := Lib.hid fun h1 h2 => by
    unfold readS
    rw [HT.out, h1, if_pos rfl, if_pos h2]
  obtain ⟨kd, pv, rows, inter, fin, data⟩ := q
  simp only [Sr.v, capsYes] at HSAME HBAD HGOOD hs ⊢
  have HS := Lib.hid hs
  have HCNT : Hid ((splitS 59 data).length ≤ data.size + 1) := Lib.hid (by have h := splitL_count 59 data.data.toList; have e : data.data.toList.length = data.size := (by simp); simp only [splitS, List.length_map]; omega)
  clear hs
  refine callsIn_of_wp_marks Tryd.func17 rfl trivial ?_ rfl
  simp only [Tryd.ntmps17, List.size_toArray, List.length_cons, List.length_nil, Nat.reduceAdd, Nat.reduceSub, Array.replicate_succ, Array.replicate_zero, List.push_toArray, List.append_toArray, List.nil_append, List.cons_append]
  refine wpIn_seq ?_
  refine wideRegion ?_
  go_wp2_with (first
      | ((with_reducible refine gate ?_); (first
      | ((with_reducible refine gateAt (N := 1) rfl ?_); refine own_boxF (T := 28) HO rfl rfl rfl ?_; clear HO; intro gS wN hggS HO; (try simp only [Act.put, List.setIfInBounds_toArray, List.set_cons_zero, List.set_cons_succ]))
      | ((with_reducible refine gateAt (N := 2) rfl ?_); refine own_allocF (T := 37) HO rfl rfl Tryd.zeroValue37 rfl ?_; clear HO; intro gR wN hggR HO; (try simp only [Act.put, List.setIfInBounds_toArray, List.set_cons_zero, List.set_cons_succ]))
      | ((with_reducible refine gateAt (N := 3) rfl ?_); refine own_allocF (T := 4) HO rfl rfl Tryd.zeroValue4 rfl ?_; clear HO; intro gB wN hggB HO; (try simp only [Act.put, List.setIfInBounds_toArray, List.set_cons_zero, List.set_cons_succ])))))
  refine wpIn_seq ?_
  refine wpIn_seq ?_
  refine wideRegion ?_
  go_wp2_with (first
      | (go_at_call 35; refine (HSAME.out _ g3 g4 HO.below (HO.at (by first | exact .head _ | exact .tail _ (.head _) | exact .tail _ (.tail _ (.head _)) | exact .tail _ (.tail _ (.tail _ (.head _))) | exact .tail _ (.tail _ (.tail _ (.tail _ (.head _)))) | exact .tail _ (.tail _ (.tail _ (.tail _ (.tail _ (.head _))))) | exact .tail _ (.tail _ (.tail _ (.tail _ (.tail _ (.tail _ (.head _)))))) | exact .tail _ (.tail _ (.tail _ (.tail _ (.tail _ (.tail _ (.tail _ (.head _))))))))) (HO.at (by first | exact .head _ | exact .tail _ (.head _) | exact .tail _ (.tail _ (.head _)) | exact .tail _ (.tail _ (.tail _ (.head _))) | exact .tail _ (.tail _ (.tail _ (.tail _ (.head _)))) | exact .tail _ (.tail _ (.tail _ (.tail _ (.tail _ (.head _))))) | exact .tail _ (.tail _ (.tail _ (.tail _ (.tail _ (.tail _ (.head _)))))) | exact .tail _ (.tail _ (.tail _ (.tail _ (.tail _ (.tail _ (.tail _ (.head _)))))))))).mono ?_; rintro eN wN ⟨rfl, hbN⟩; have HON := HO.call hbN; clear HO hbN; have HO := HON; clear HON)
      | ((with_reducible refine gate ?_); (first
      | ((with_reducible refine gateAt (N := 14) rfl ?_); refine own_litF HO rfl (n := 1) (cs := [.int .i64 1]) (T := 3) (by first | (go_simp; done) | (go_simp; rfl)) ?_; clear HO; intro g3 wN hgg3 HO; (try simp only [Act.put, List.setIfInBounds_toArray, List.set_cons_zero, List.set_cons_succ]))
      | ((with_reducible refine gateAt (N := 15) rfl ?_); refine own_litF HO rfl (n := 1) (cs := [.slice (some ⟨g3, 0, none⟩) 1 1]) (T := 45) (by first | (go_simp; done) | (go_simp; rfl)) ?_; clear HO; intro g4 wN hgg4 HO; (try simp only [Act.put, List.setIfInBounds_toArray, List.set_cons_zero, List.set_cons_succ]))
      | ((refine own_load (T := 28) HO rfl rfl rfl (by first | exact .head _ | exact .tail _ (.head _) | exact .tail _ (.tail _ (.head _)) | exact .tail _ (.tail _ (.tail _ (.head _))) | exact .tail _ (.tail _ (.tail _ (.tail _ (.head _)))) | exact .tail _ (.tail _ (.tail _ (.tail _ (.tail _ (.head _))))) | exact .tail _ (.tail _ (.tail _ (.tail _ (.tail _ (.tail _ (.head _)))))) | exact .tail _ (.tail _ (.tail _ (.tail _ (.tail _ (.tail _ (.tail _ (.head _)))))))) Tryd.isAgg28 Tryd.sizeOf28 (by repeat constructor) ?_); (try simp only [Act.put, List.setIfInBounds_toArray, List.set_cons_zero, List.set_cons_succ]))
      | ((refine own_load1 (T := 9) HO rfl rfl rfl (by first | exact .head _ | exact .tail _ (.head _) | exact .tail _ (.tail _ (.head _)) | exact .tail _ (.tail _ (.tail _ (.head _))) | exact .tail _ (.tail _ (.tail _ (.tail _ (.head _)))) | exact .tail _ (.tail _ (.tail _ (.tail _ (.tail _ (.head _))))) | exact .tail _ (.tail _ (.tail _ (.tail _ (.tail _ (.tail _ (.head _)))))) | exact .tail _ (.tail _ (.tail _ (.tail _ (.tail _ (.tail _ (.tail _ (.head _)))))))) Tryd.isAgg9 rfl ?_); (try simp only [Act.put, List.setIfInBounds_toArray, List.set_cons_zero, List.set_cons_succ]))
      | ((refine own_store1 (T := 9) HO rfl rfl rfl (by first | exact .const | exact .tmp rfl | exact .func) (by rfl) (by first | exact .here | exact .there (.here) | exact .there (.there (.here)) | exact .there (.there (.there (.here))) | exact .there (.there (.there (.there (.here)))) | exact .there (.there (.there (.there (.there (.here))))) | exact .there (.there (.there (.there (.there (.there (.here)))))) | exact .there (.there (.there (.there (.there (.there (.there (.here)))))))) Tryd.sizeOf9 (by repeat constructor) (by rfl) ?_); clear HO; intro wN HO; (try simp only [Act.put, List.setIfInBounds_toArray, List.set_cons_zero, List.set_cons_succ]))
      | ((refine own_store (T := 28) HO rfl rfl rfl rfl (by first | exact .here | exact .there (.here) | exact .there (.there (.here)) | exact .there (.there (.there (.here))) | exact .there (.there (.there (.there (.here)))) | exact .there (.there (.there (.there (.there (.here))))) | exact .there (.there (.there (.there (.there (.there (.here)))))) | exact .there (.there (.there (.there (.there (.there (.there (.here)))))))) Tryd.sizeOf28 (by repeat constructor) rfl ?_); clear HO; intro wN HO; (try simp only [Act.put, List.setIfInBounds_toArray, List.set_cons_zero, List.set_cons_succ])))))
  cases t
  · refine wpIn_cond_true rfl ?_
    refine wpIn_seq ?_
    refine wideRegion ?_
    go_wp2_with (first
      | ((with_reducible refine gate ?_); (first
      | ((refine own_load1 (T := 37) HO rfl rfl rfl (by first | exact .head _ | exact .tail _ (.head _) | exact .tail _ (.tail _ (.head _)) | exact .tail _ (.tail _ (.tail _ (.head _))) | exact .tail _ (.tail _ (.tail _ (.tail _ (.head _)))) | exact .tail _ (.tail _ (.tail _ (.tail _ (.tail _ (.head _))))) | exact .tail _ (.tail _ (.tail _ (.tail _ (.tail _ (.tail _ (.head _)))))) | exact .tail _ (.tail _ (.tail _ (.tail _ (.tail _ (.tail _ (.tail _ (.head _)))))))) Tryd.isAgg37 rfl ?_); (try simp only [Act.put, List.setIfInBounds_toArray, List.set_cons_zero, List.set_cons_succ]))
      | ((refine own_load1 (T := 4) HO rfl rfl rfl (by first | exact .head _ | exact .tail _ (.head _) | exact .tail _ (.tail _ (.head _)) | exact .tail _ (.tail _ (.tail _ (.head _))) | exact .tail _ (.tail _ (.tail _ (.tail _ (.head _)))) | exact .tail _ (.tail _ (.tail _ (.tail _ (.tail _ (.head _))))) | exact .tail _ (.tail _ (.tail _ (.tail _ (.tail _ (.tail _ (.head _)))))) | exact .tail _ (.tail _ (.tail _ (.tail _ (.tail _ (.tail _ (.tail _ (.head _)))))))) Tryd.isAgg4 rfl ?_); (try simp only [Act.put, List.setIfInBounds_toArray, List.set_cons_zero, List.set_cons_succ]))
      | ((refine own_store1 (T := 37) HO rfl rfl rfl (by first | exact .const | exact .tmp rfl | exact .func) (by rfl) (by first | exact .here | exact .there (.here) | exact .there (.there (.here)) | exact .there (.there (.there (.here))) | exact .there (.there (.there (.there (.here)))) | exact .there (.there (.there (.there (.there (.here))))) | exact .there (.there (.there (.there (.there (.there (.here)))))) | exact .there (.there (.there (.there (.there (.there (.there (.here)))))))) Tryd.sizeOf37 (by repeat constructor) (by rfl) ?_); clear HO; intro wN HO; (try simp only [Act.put, List.setIfInBounds_toArray, List.set_cons_zero, List.set_cons_succ]))
      | ((refine own_store1 (T := 4) HO rfl rfl rfl (by first | exact .const | exact .tmp rfl | exact .func) (by rfl) (by first | exact .here | exact .there (.here) | exact .there (.there (.here)) | exact .there (.there (.there (.here))) | exact .there (.there (.there (.there (.here)))) | exact .there (.there (.there (.there (.there (.here))))) | exact .there (.there (.there (.there (.there (.there (.here)))))) | exact .there (.there (.there (.there (.there (.there (.there (.here)))))))) Tryd.sizeOf4 (by repeat constructor) (by rfl) ?_); clear HO; intro wN HO; (try simp only [Act.put, List.setIfInBounds_toArray, List.set_cons_zero, List.set_cons_succ])))))
    refine wpIn_ret ?_
    rw [HBAD.out (.inl (by simp))]
    exact ⟨_, results_cell2 HO Tryd.results17 rfl rfl (by first | exact .head _ | exact .tail _ (.head _) | exact .tail _ (.tail _ (.head _)) | exact .tail _ (.tail _ (.tail _ (.head _))) | exact .tail _ (.tail _ (.tail _ (.tail _ (.head _)))) | exact .tail _ (.tail _ (.tail _ (.tail _ (.tail _ (.head _))))) | exact .tail _ (.tail _ (.tail _ (.tail _ (.tail _ (.tail _ (.head _)))))) | exact .tail _ (.tail _ (.tail _ (.tail _ (.tail _ (.tail _ (.tail _ (.head _)))))))) (by first | exact .head _ | exact .tail _ (.head _) | exact .tail _ (.tail _ (.head _)) | exact .tail _ (.tail _ (.tail _ (.head _))) | exact .tail _ (.tail _ (.tail _ (.tail _ (.head _)))) | exact .tail _ (.tail _ (.tail _ (.tail _ (.tail _ (.head _))))) | exact .tail _ (.tail _ (.tail _ (.tail _ (.tail _ (.tail _ (.head _)))))) | exact .tail _ (.tail _ (.tail _ (.tail _ (.tail _ (.tail _ (.tail _ (.head _)))))))) Tryd.isAgg37 Tryd.isAgg4, rfl, HO.below⟩
  · refine wpIn_cond_false rfl ?_
    refine wpIn_skip ?_
    refine wpIn_seq ?_
    refine wideRegion ?_
    go_wp2_with (first
      | ((with_reducible refine gate ?_); (first
      | ((with_reducible refine gateAt (N := 4) rfl ?_); refine own_allocF (T := 37) HO rfl rfl Tryd.zeroValue37 rfl ?_; clear HO; intro gL wN hggL HO; (try simp only [Act.put, List.setIfInBounds_toArray, List.set_cons_zero, List.set_cons_succ])))))
    refine wpIn_seq ?_
    refine wpIn_seq ?_
    refine wideRegion ?_
    go_wp2_with (first
      | (go_at_call 36; refine (splitSeq_calls data 59 _).mono ?_; rintro eN wN ⟨gX, gP, gZ, rfl, HM⟩; have HON := HO.join HM; clear HO HM; have HO := HON; clear HON)
      | ((with_reducible refine gate ?_); (first
      | ((refine own_load1 (T := 9) HO rfl rfl rfl (by first | exact .head _ | exact .tail _ (.head _) | exact .tail _ (.tail _ (.head _)) | exact .tail _ (.tail _ (.tail _ (.head _))) | exact .tail _ (.tail _ (.tail _ (.tail _ (.head _)))) | exact .tail _ (.tail _ (.tail _ (.tail _ (.tail _ (.head _))))) | exact .tail _ (.tail _ (.tail _ (.tail _ (.tail _ (.tail _ (.head _)))))) | exact .tail _ (.tail _ (.tail _ (.tail _ (.tail _ (.tail _ (.tail _ (.head _)))))))) Tryd.isAgg9 rfl ?_); (try simp only [Act.put, List.setIfInBounds_toArray, List.set_cons_zero, List.set_cons_succ]))
      | ((refine own_store1 (T := 9) HO rfl rfl rfl (by first | exact .const | exact .tmp rfl | exact .func) (by rfl) (by first | exact .here | exact .there (.here) | exact .there (.there (.here)) | exact .there (.there (.there (.here))) | exact .there (.there (.there (.there (.here)))) | exact .there (.there (.there (.there (.there (.here))))) | exact .there (.there (.there (.there (.there (.there (.here)))))) | exact .there (.there (.there (.there (.there (.there (.there (.here)))))))) Tryd.sizeOf9 (by repeat constructor) (by rfl) ?_); clear HO; intro wN HO; (try simp only [Act.put, List.setIfInBounds_toArray, List.set_cons_zero, List.set_cons_succ])))))
    refine wpIn_block ?_
    have HO2 : Mine w wN (ReadRes gL gB gR (.slice none 0 0) [] ++ SplitRes gX gP gZ data 59) := by
      simp only [ReadRes, List.cons_append, List.nil_append] at HO ⊢
      exact HO.less (.cons_cons _ (.cons _ (.cons _ (.cons_cons _ (.cons_cons _ (.cons _ (List.Sublist.refl _)))))))
    clear HO
    refine wpIn_range_mine (gf := 66) (lb := #[.pointer (some ⟨gP, 0, none⟩), .pointer (some ⟨gX, 0, none⟩), .pointer (some ⟨gZ, 0, none⟩)]) rfl (enters_of Tryd.func66 (by kernel_rfl) rfl) (split_yields w data 59 gX gP gZ (by have := HS.out; omega)) (fun _ => rfl)
      (fun pre b2 => ∃ p c R, GRowK 41 2 (.slice p pre.length c) pre.length (flatP (pre.filterMap pairP)) R ∧ (pre.map pairP).all (·.isSome) = true ∧ b2 = ReadRes gL gB gR (.slice p pre.length c) R) (fun c pre b2 => c = .ret ∧ (pre.map pairP).all (·.isSome) = false ∧ b2 = BadRes gB gR) HO2 ⟨none, 0, [], GRowK.nil _ _, rfl, rfl⟩
      (fun x => { tmps := #[.agg #[.int .i64 kd, .int .u8 pv, .slice A rows.length cA, .string inter, .int .u8 fin, .string data], .pointer (some ⟨gS, 0, none⟩), .pointer (some ⟨gR, 0, none⟩), .pointer (some ⟨gB, 0, none⟩), .pointer (some ⟨gL, 0, none⟩), .string x, undef, undef, undef, undef, undef, undef, undef, .agg #[.int .i64 kd, .int .u8 pv, .slice A rows.length cA, .string inter, .int .u8 fin, .string data], .slice (some ⟨g3, 0, none⟩) 1 1, .slice (some ⟨g4, 0, none⟩) 1 1, .pointer (some ⟨gS, 5, none⟩), .string data, .agg #[.int .i64 3, .int .u8 0, .slice (some ⟨g4, 0, none⟩) 1 1, .string ⟨#[43]⟩, .int .u8 114, .string data], .bool true, .bool false, .pointer (some ⟨gS, 5, none⟩), .string data, .func (.func 66) #[] #[.pointer (some ⟨gP, 0, none⟩), .pointer (some ⟨gX, 0, none⟩), .pointer (some ⟨gZ, 0, none⟩)], .string x, undef, undef, undef, undef, undef, undef, undef, undef, undef, undef, undef, undef, undef, undef, undef, undef, undef, undef, undef, undef, undef, undef, undef, undef, undef, undef, undef, undef, undef, undef, undef, undef, undef, undef, undef, undef, undef, undef, undef, undef, undef, undef, undef, undef, undef], defers := [] }) ?assign ?body ?done ?stop
    case assign =>
      intro m l2 x W3 K hK
      gi_wp2
      exact hK
    case body =>
      rintro m l2 pre x post W2 bs2 fr hxs ⟨p, c, R, hR, hall, rfl⟩ HM
      have hx1 : x.size ≤ data.size := splitS_len (c := 59) (s := data) (by rw [hxs]; simp)
      have hlen := pre_len hxs
      obtain ⟨a, b, k, hcut⟩ : ∃ a b k, cutS 61 x = (a, b, k) := ⟨_, _, _, rfl⟩
      have hcl := cutS_len 61 x
      rw [hcut] at hcl
      have hca : a.size ≤ x.size := hcl.1
      have hcb : b.size ≤ x.size := hcl.2
      obtain ⟨oa, hoa⟩ : ∃ oa, unhexL a.data.toList = oa := ⟨_, rfl⟩
      obtain ⟨ob, hob⟩ : ∃ ob, unhexL b.data.toList = ob := ⟨_, rfl⟩
      have hna := unhexD_len a.data.toList
      have hnb := unhexD_len b.data.toList
      rw [hoa] at hna
      rw [hob] at hnb
      have ea : a.data.toList.length = a.size := by simp
      have eb : b.data.toList.length = b.size := by simp
      have hS := HS.out
      have cC := cut_calls 61 x a b k hcut (by omega)
      have cA := unhex_calls a
      have cB := unhex_calls b
      rw [hoa] at cA
      rw [hob] at cB
      unfold UnhexAns at cA cB
      obtain ⟨na, hnaE⟩ : ∃ na, oa.getD [] = na := ⟨_, rfl⟩
      obtain ⟨nb, hnbE⟩ : ∃ nb, ob.getD [] = nb := ⟨_, rfl⟩
      obtain ⟨sa, hsaE⟩ : ∃ sa, oa.isSome = sa := ⟨_, rfl⟩
      obtain ⟨sb, hsbE⟩ : ∃ sb, ob.isSome = sb := ⟨_, rfl⟩
      rw [hnaE] at hna
      rw [hnbE] at hnb
      rw [hnaE, hsaE] at cA
      rw [hnbE, hsbE] at cB
      have HPP : Hid (pairP x = if (k && sa && sb && decide (ofL (hexL na ++ 61 :: hexL nb) = x)) = true then some (ofL na, ofL nb) else none) := Lib.hid (by unfold pairP; simp only [hcut, hoa, hob, hnaE, hnbE, hsaE, hsbE])
      have HNA : Hid (na.length ≤ 100000) := Lib.hid (by omega)
      have HNB : Hid (nb.length ≤ 100000) := Lib.hid (by omega)
      have HAS : Hid (a.size ≤ 1000000 ∧ b.size ≤ 1000000) := Lib.hid ⟨by omega, by omega⟩
      have HCC := Lib.hid cC
      have HCA := Lib.hid cA
      have HCB := Lib.hid cB
      have H63 : Hid (pre.length + 1 ≤ maxLen ∧ (pre.length + 1) * 32 ≤ 140737488355328) := Lib.hid (by have h1 := HCNT.out; unfold maxLen; omega)
      have HR := Lib.hid hR
      have HALL := Lib.hid hall
      have HO := HM
      simp only [ReadRes, List.cons_append] at HO
      clear HM hx1 hlen hcut hcl hca hcb hoa hob hna hnb ea eb hS cC cA cB hnaE hnbE hsaE hsbE hR hall hxs HO2
      refine wpIn_block ?_
      refine wpIn_seq ?_
      refine inRegion (fun ⟨_, _, h⟩ => h) rfl ?_
      go_wp2_with (go_at_call 37; refine (HCC.out _).mono ?_; rintro eN wN ⟨rfl, hbN⟩; have HON := HO.call hbN; clear HO hbN; have HO := HON; clear HON)
      refine wpIn_seq ?_
      refine inRegion (fun ⟨_, _, h⟩ => h) rfl ?_
      go_wp2_with (go_at_call 38; refine (HCA.out _ HAS.out.1).mono ?_; rintro eN wN ⟨va, rfl, hown, hbN⟩; obtain ⟨pa, ca, rfl, hr, hc, _⟩ := hown.reads; have HON := HO.call hbN; have HRA := Lib.hid hr; clear HO hbN hown hc hr; have HO := HON; clear HON)
      refine wpIn_seq ?_
      refine inRegion (fun ⟨_, _, h⟩ => h) rfl ?_
      go_wp2_with (go_at_call 38; refine (HCB.out _ HAS.out.2).mono ?_; rintro eN w6 ⟨vb, rfl, hown, hbN⟩; obtain ⟨pb, cb, rfl, hr, hc, _⟩ := hown.reads; have HON := HO.call hbN; have HRA2 := Lib.hid (HRA.out.below hbN); have HRB := Lib.hid hr; clear HO hbN hown hc hr HRA; have HO := HON; clear HON)
      refine wpIn_seq ?_
      refine wpIn_seq ?_
      have HHA : Hid (∀ W, Below w6.heap.size w6 W → Calls Tryd.prog 39 #[.slice pa na.length ca] W fun e w' => e = .returned (.string ⟨(hexL na).toArray⟩) ∧ Below W.heap.size W w') := Lib.hid fun W hW => hex_calls pa na.length ca na W rfl (by have := HNA.out; omega) (HRA2.out.below hW)
      have HHB : Hid (∀ W, Below w6.heap.size w6 W → Calls Tryd.prog 39 #[.slice pb nb.length cb] W fun e w' => e = .returned (.string ⟨(hexL nb).toArray⟩) ∧ Below W.heap.size W w') := Lib.hid fun W hW => hex_calls pb nb.length cb nb W rfl (by have := HNB.out; omega) (HRB.out.below hW)
      have HSZ : Hid ((hexL na).length ≤ 200000 ∧ (hexL nb).length ≤ 200000) := Lib.hid (by rw [hexL_len, hexL_len]; have := HNA.out; have := HNB.out; omega)
      cases k
      · have HBADP : Hid (pairP x = none) := Lib.hid (by rw [HPP.out]; rfl)
        refine inRegion (fun ⟨_, _, h⟩ => h) rfl ?_
        go_wp2
        refine wpIn_cond_true rfl ?_
        refine wpIn_seq ?_
        refine inRegion (fun ⟨_, _, h⟩ => h) rfl ?_
        have HO2 : Mine w _ ((gB, IsCells [.bool false] 4) :: (gR, IsCells [.slice none 0 0] 37) :: fr) := HO.less (.cons _ (.cons_cons _ (.cons_cons _ (List.sublist_append_right _ _))))
        clear HO
        have HO := HO2
        clear HO2
        go_wp2_with (first
      | ((with_reducible refine gate ?_); (first
      | ((refine own_load1 (T := 37) HO rfl rfl rfl (by first | exact .head _ | exact .tail _ (.head _) | exact .tail _ (.tail _ (.head _)) | exact .tail _ (.tail _ (.tail _ (.head _))) | exact .tail _ (.tail _ (.tail _ (.tail _ (.head _)))) | exact .tail _ (.tail _ (.tail _ (.tail _ (.tail _ (.head _))))) | exact .tail _ (.tail _ (.tail _ (.tail _ (.tail _ (.tail _ (.head _)))))) | exact .tail _ (.tail _ (.tail _ (.tail _ (.tail _ (.tail _ (.tail _ (.head _)))))))) Tryd.isAgg37 rfl ?_); (try simp only [Act.put, List.setIfInBounds_toArray, List.set_cons_zero, List.set_cons_succ]))
      | ((refine own_load1 (T := 4) HO rfl rfl rfl (by first | exact .head _ | exact .tail _ (.head _) | exact .tail _ (.tail _ (.head _)) | exact .tail _ (.tail _ (.tail _ (.head _))) | exact .tail _ (.tail _ (.tail _ (.tail _ (.head _)))) | exact .tail _ (.tail _ (.tail _ (.tail _ (.tail _ (.head _))))) | exact .tail _ (.tail _ (.tail _ (.tail _ (.tail _ (.tail _ (.head _)))))) | exact .tail _ (.tail _ (.tail _ (.tail _ (.tail _ (.tail _ (.tail _ (.head _)))))))) Tryd.isAgg4 rfl ?_); (try simp only [Act.put, List.setIfInBounds_toArray, List.set_cons_zero, List.set_cons_succ]))
      | ((refine own_store1 (T := 37) HO rfl rfl rfl (by first | exact .const | exact .tmp rfl | exact .func) (by rfl) (by first | exact .here | exact .there (.here) | exact .there (.there (.here)) | exact .there (.there (.there (.here))) | exact .there (.there (.there (.there (.here)))) | exact .there (.there (.there (.there (.there (.here))))) | exact .there (.there (.there (.there (.there (.there (.here)))))) | exact .there (.there (.there (.there (.there (.there (.there (.here)))))))) Tryd.sizeOf37 (by repeat constructor) (by rfl) ?_); clear HO; intro wN HO; (try simp only [Act.put, List.setIfInBounds_toArray, List.set_cons_zero, List.set_cons_succ]))
      | ((refine own_store1 (T := 4) HO rfl rfl rfl (by first | exact .const | exact .tmp rfl | exact .func) (by rfl) (by first | exact .here | exact .there (.here) | exact .there (.there (.here)) | exact .there (.there (.there (.here))) | exact .there (.there (.there (.there (.here)))) | exact .there (.there (.there (.there (.there (.here))))) | exact .there (.there (.there (.there (.there (.there (.here)))))) | exact .there (.there (.there (.there (.there (.there (.there (.here)))))))) Tryd.sizeOf4 (by repeat constructor) (by rfl) ?_); clear HO; intro wN HO; (try simp only [Act.put, List.setIfInBounds_toArray, List.set_cons_zero, List.set_cons_succ])))))
        refine wpIn_ret ?_
        exact ⟨BadRes gB gR, ⟨rfl, by rw [List.map_append, List.map_cons, List.map_nil, all_snoc, HBADP.out]; exact Bool.and_false _, rfl⟩, HO⟩
      cases sa
      · have HBADP : Hid (pairP x = none) := Lib.hid (by rw [HPP.out]; rfl)
        refine inRegion (fun ⟨_, _, h⟩ => h) rfl ?_
        go_wp2
        refine wpIn_cond_true rfl ?_
        refine wpIn_seq ?_
        refine inRegion (fun ⟨_, _, h⟩ => h) rfl ?_
        have HO2 : Mine w _ ((gB, IsCells [.bool false] 4) :: (gR, IsCells [.slice none 0 0] 37) :: fr) := HO.less (.cons _ (.cons_cons _ (.cons_cons _ (List.sublist_append_right _ _))))
        clear HO
        have HO := HO2
        clear HO2
        go_wp2_with (first
      | ((with_reducible refine gate ?_); (first
      | ((refine own_load1 (T := 37) HO rfl rfl rfl (by first | exact .head _ | exact .tail _ (.head _) | exact .tail _ (.tail _ (.head _)) | exact .tail _ (.tail _ (.tail _ (.head _))) | exact .tail _ (.tail _ (.tail _ (.tail _ (.head _)))) | exact .tail _ (.tail _ (.tail _ (.tail _ (.tail _ (.head _))))) | exact .tail _ (.tail _ (.tail _ (.tail _ (.tail _ (.tail _ (.head _)))))) | exact .tail _ (.tail _ (.tail _ (.tail _ (.tail _ (.tail _ (.tail _ (.head _)))))))) Tryd.isAgg37 rfl ?_); (try simp only [Act.put, List.setIfInBounds_toArray, List.set_cons_zero, List.set_cons_succ]))
      | ((refine own_load1 (T := 4) HO rfl rfl rfl (by first | exact .head _ | exact .tail _ (.head _) | exact .tail _ (.tail _ (.head _)) | exact .tail _ (.tail _ (.tail _ (.head _))) | exact .tail _ (.tail _ (.tail _ (.tail _ (.head _)))) | exact .tail _ (.tail _ (.tail _ (.tail _ (.tail _ (.head _))))) | exact .tail _ (.tail _ (.tail _ (.tail _ (.tail _ (.tail _ (.head _)))))) | exact .tail _ (.tail _ (.tail _ (.tail _ (.tail _ (.tail _ (.tail _ (.head _)))))))) Tryd.isAgg4 rfl ?_); (try simp only [Act.put, List.setIfInBounds_toArray, List.set_cons_zero, List.set_cons_succ]))
      | ((refine own_store1 (T := 37) HO rfl rfl rfl (by first | exact .const | exact .tmp rfl | exact .func) (by rfl) (by first | exact .here | exact .there (.here) | exact .there (.there (.here)) | exact .there (.there (.there (.here))) | exact .there (.there (.there (.there (.here)))) | exact .there (.there (.there (.there (.there (.here))))) | exact .there (.there (.there (.there (.there (.there (.here)))))) | exact .there (.there (.there (.there (.there (.there (.there (.here)))))))) Tryd.sizeOf37 (by repeat constructor) (by rfl) ?_); clear HO; intro wN HO; (try simp only [Act.put, List.setIfInBounds_toArray, List.set_cons_zero, List.set_cons_succ]))
      | ((refine own_store1 (T := 4) HO rfl rfl rfl (by first | exact .const | exact .tmp rfl | exact .func) (by rfl) (by first | exact .here | exact .there (.here) | exact .there (.there (.here)) | exact .there (.there (.there (.here))) | exact .there (.there (.there (.there (.here)))) | exact .there (.there (.there (.there (.there (.here))))) | exact .there (.there (.there (.there (.there (.there (.here)))))) | exact .there (.there (.there (.there (.there (.there (.there (.here)))))))) Tryd.sizeOf4 (by repeat constructor) (by rfl) ?_); clear HO; intro wN HO; (try simp only [Act.put, List.setIfInBounds_toArray, List.set_cons_zero, List.set_cons_succ])))))
        refine wpIn_ret ?_
        exact ⟨BadRes gB gR, ⟨rfl, by rw [List.map_append, List.map_cons, List.map_nil, all_snoc, HBADP.out]; exact Bool.and_false _, rfl⟩, HO⟩
      cases sb
      · have HBADP : Hid (pairP x = none) := Lib.hid (by rw [HPP.out]; rfl)
        refine inRegion (fun ⟨_, _, h⟩ => h) rfl ?_
        go_wp2
        refine wpIn_cond_true rfl ?_
        refine wpIn_seq ?_
        refine inRegion (fun ⟨_, _, h⟩ => h) rfl ?_
        have HO2 : Mine w _ ((gB, IsCells [.bool false] 4) :: (gR, IsCells [.slice none 0 0] 37) :: fr) := HO.less (.cons _ (.cons_cons _ (.cons_cons _ (List.sublist_append_right _ _))))
        clear HO
        have HO := HO2
        clear HO2
        go_wp2_with (first
      | ((with_reducible refine gate ?_); (first
      | ((refine own_load1 (T := 37) HO rfl rfl rfl (by first | exact .head _ | exact .tail _ (.head _) | exact .tail _ (.tail _ (.head _)) | exact .tail _ (.tail _ (.tail _ (.head _))) | exact .tail _ (.tail _ (.tail _ (.tail _ (.head _)))) | exact .tail _ (.tail _ (.tail _ (.tail _ (.tail _ (.head _))))) | exact .tail _ (.tail _ (.tail _ (.tail _ (.tail _ (.tail _ (.head _)))))) | exact .tail _ (.tail _ (.tail _ (.tail _ (.tail _ (.tail _ (.tail _ (.head _)))))))) Tryd.isAgg37 rfl ?_); (try simp only [Act.put, List.setIfInBounds_toArray, List.set_cons_zero, List.set_cons_succ]))
      | ((refine own_load1 (T := 4) HO rfl rfl rfl (by first | exact .head _ | exact .tail _ (.head _) | exact .tail _ (.tail _ (.head _)) | exact .tail _ (.tail _ (.tail _ (.head _))) | exact .tail _ (.tail _ (.tail _ (.tail _ (.head _)))) | exact .tail _ (.tail _ (.tail _ (.tail _ (.tail _ (.head _))))) | exact .tail _ (.tail _ (.tail _ (.tail _ (.tail _ (.tail _ (.head _)))))) | exact .tail _ (.tail _ (.tail _ (.tail _ (.tail _ (.tail _ (.tail _ (.head _)))))))) Tryd.isAgg4 rfl ?_); (try simp only [Act.put, List.setIfInBounds_toArray, List.set_cons_zero, List.set_cons_succ]))
      | ((refine own_store1 (T := 37) HO rfl rfl rfl (by first | exact .const | exact .tmp rfl | exact .func) (by rfl) (by first | exact .here | exact .there (.here) | exact .there (.there (.here)) | exact .there (.there (.there (.here))) | exact .there (.there (.there (.there (.here)))) | exact .there (.there (.there (.there (.there (.here))))) | exact .there (.there (.there (.there (.there (.there (.here)))))) | exact .there (.there (.there (.there (.there (.there (.there (.here)))))))) Tryd.sizeOf37 (by repeat constructor) (by rfl) ?_); clear HO; intro wN HO; (try simp only [Act.put, List.setIfInBounds_toArray, List.set_cons_zero, List.set_cons_succ]))
      | ((refine own_store1 (T := 4) HO rfl rfl rfl (by first | exact .const | exact .tmp rfl | exact .func) (by rfl) (by first | exact .here | exact .there (.here) | exact .there (.there (.here)) | exact .there (.there (.there (.here))) | exact .there (.there (.there (.there (.here)))) | exact .there (.there (.there (.there (.there (.here))))) | exact .there (.there (.there (.there (.there (.there (.here)))))) | exact .there (.there (.there (.there (.there (.there (.there (.here)))))))) Tryd.sizeOf4 (by repeat constructor) (by rfl) ?_); clear HO; intro wN HO; (try simp only [Act.put, List.setIfInBounds_toArray, List.set_cons_zero, List.set_cons_succ])))))
        refine wpIn_ret ?_
        exact ⟨BadRes gB gR, ⟨rfl, by rw [List.map_append, List.map_cons, List.map_nil, all_snoc, HBADP.out]; exact Bool.and_false _, rfl⟩, HO⟩
      have htx : (⟨(hexL na).toArray⟩ : ByteArray) ++ ⟨#[61]⟩ ++ ⟨(hexL nb).toArray⟩ = ofL (hexL na ++ 61 :: hexL nb) := ofL_add (hexL na) (hexL nb) []
      have hz1 : (hexL na).length ≤ 9223372036854775806 := by have := HSZ.out.1; omega
      have hz2 : (hexL na).length + 1 + (hexL nb).length ≤ 9223372036854775807 := by have := HSZ.out; omega
      by_cases he : ofL (hexL na ++ 61 :: hexL nb) = x
      · have HGP : Hid (pairP x = some (ofL na, ofL nb)) := Lib.hid (by rw [HPP.out, decide_eq_true he]; rfl)
        have d1 : decide ((⟨(hexL na).toArray⟩ : ByteArray) ++ ⟨#[61]⟩ ++ ⟨(hexL nb).toArray⟩ = x) = true := by rw [htx]; exact decide_eq_true he
        have d2 : (((⟨(hexL na).toArray⟩ : ByteArray) ++ ⟨#[61]⟩ ++ ⟨(hexL nb).toArray⟩).toList == x.toList) = true := by rw [htx, he]; exact beq_self_eq_true _
        clear he htx
        refine inRegion (fun ⟨_, _, h⟩ => h) rfl ?_
        have hb0 : Below w6.heap.size w6 w6 := Below.refl _ _
        go_wp2_with (first | (go_at_call 39; refine (HHA.out _ hb0).mono ?_; rintro eN wN ⟨rfl, hbN⟩; have hb1 := hb0.trans (hbN.mono hb0.size); have HON := HO.call hbN; clear HO hbN hb0; have HO := HON; have hb0 := hb1; clear HON hb1) | (go_at_call 39; refine (HHB.out _ hb0).mono ?_; rintro eN wN ⟨rfl, hbN⟩; have hb1 := hb0.trans (hbN.mono hb0.size); have HON := HO.call hbN; clear HO hbN hb0; have HO := HON; have hb0 := hb1; clear HON hb1))
        refine wpIn_cond_false rfl ?_
        refine wpIn_skip ?_
        have HO2 : Mine w _ ((gL, IsCells [.slice p pre.length c] 37) :: (gB, IsCells [.bool false] 4) :: (gR, IsCells [.slice none 0 0] 37) :: (fr ++ R)) := HO.perm (.cons _ (.cons _ (.cons _ List.perm_append_comm)))
        clear HO
        have HO := HO2
        clear HO2
        have hcv1 := run_str_of (P := Tryd.prog) (src := 33) (dst := 9) (c := ca) Tryd.underlying33 Tryd.underlying5 Tryd.underlying9 (HRA2.out.below hb0) rfl
        have hcv2 := run_str_of (P := Tryd.prog) (src := 33) (dst := 9) (c := cb) Tryd.underlying33 Tryd.underlying5 Tryd.underlying9 (HRB.out.below hb0) rfl
        clear hb0
        refine inRegion (fun ⟨_, _, h⟩ => h) rfl ?_
        go_wp2_with (first
      | ((with_reducible refine gate ?_); (first
      | ((with_reducible refine gateAt (N := 67) rfl ?_); refine own_litF HO rfl (n := 1) (cs := [.string ⟨na.toArray⟩, .string ⟨nb.toArray⟩]) (T := 41) (by first | (go_simp; done) | (go_simp; rfl)) ?_; clear HO hcv1 hcv2; intro gE wN hgE HO; (try simp only [Act.put, List.setIfInBounds_toArray, List.set_cons_zero, List.set_cons_succ]))
      | ((with_reducible refine gateAt (N := 68) rfl ?_); refine own_appendK (T := 41) (t := 37) (z := .agg #[.string ⟨#[]⟩, .string ⟨#[]⟩]) (bytes := 32) HO HR.out (by repeat (first | exact Tl.here | exact Tl.app | apply Tl.cons)) rfl rfl (.tmp rfl) (.tmp rfl) (by first | exact .head _ | exact .tail _ (.head _) | exact .tail _ (.tail _ (.head _)) | exact .tail _ (.tail _ (.tail _ (.head _))) | exact .tail _ (.tail _ (.tail _ (.tail _ (.head _)))) | exact .tail _ (.tail _ (.tail _ (.tail _ (.tail _ (.head _))))) | exact .tail _ (.tail _ (.tail _ (.tail _ (.tail _ (.tail _ (.head _)))))) | exact .tail _ (.tail _ (.tail _ (.tail _ (.tail _ (.tail _ (.tail _ (.head _)))))))) Tryd.underlying37 (by kernel_rfl) (by rfl) (by decide) (by rfl) (by intro u hu; simp only [List.mem_cons, List.not_mem_nil, or_false] at hu; rcases hu with rfl | rfl <;> rfl) H63.out ?_; clear HO; intro p2 c2 wN R2 hR2 HO; (simp only [List.nil_append, List.cons_append] at HO); (try simp only [Act.put, List.setIfInBounds_toArray, List.set_cons_zero, List.set_cons_succ]))
      | ((refine own_load1 (T := 37) HO rfl rfl rfl (by first | exact .head _ | exact .tail _ (.head _) | exact .tail _ (.tail _ (.head _)) | exact .tail _ (.tail _ (.tail _ (.head _))) | exact .tail _ (.tail _ (.tail _ (.tail _ (.head _)))) | exact .tail _ (.tail _ (.tail _ (.tail _ (.tail _ (.head _))))) | exact .tail _ (.tail _ (.tail _ (.tail _ (.tail _ (.tail _ (.head _)))))) | exact .tail _ (.tail _ (.tail _ (.tail _ (.tail _ (.tail _ (.tail _ (.head _)))))))) Tryd.isAgg37 rfl ?_); (try simp only [Act.put, List.setIfInBounds_toArray, List.set_cons_zero, List.set_cons_succ]))
      | ((refine own_store1 (T := 37) HO rfl rfl rfl (by first | exact .const | exact .tmp rfl | exact .func) (by rfl) (by first | exact .here | exact .there (.here) | exact .there (.there (.here)) | exact .there (.there (.there (.here))) | exact .there (.there (.there (.there (.here)))) | exact .there (.there (.there (.there (.there (.here))))) | exact .there (.there (.there (.there (.there (.there (.here)))))) | exact .there (.there (.there (.there (.there (.there (.there (.here)))))))) Tryd.sizeOf37 (by repeat constructor) (by rfl) ?_); clear HO; intro wN HO; (try simp only [Act.put, List.setIfInBounds_toArray, List.set_cons_zero, List.set_cons_succ])))))
        refine ⟨ReadRes gL gB gR (.slice p2 (pre ++ [x]).length c2) R2, ⟨p2, c2, R2, ?_, by rw [List.map_append, List.map_cons, List.map_nil, all_snoc, HALL.out, HGP.out]; rfl, rfl⟩, ?_⟩
        · rw [List.length_append, List.filterMap_append, List.filterMap_cons, HGP.out, List.filterMap_nil, flatP_snoc]
          exact hR2
        · rw [List.length_append]
          exact (HO.less (List.sublist_cons_self _ _)).perm (.cons _ (.cons _ (.cons _ List.perm_append_comm)))
      · have HBADP : Hid (pairP x = none) := Lib.hid (by rw [HPP.out, decide_eq_false he]; rfl)
        have d1 : decide ((⟨(hexL na).toArray⟩ : ByteArray) ++ ⟨#[61]⟩ ++ ⟨(hexL nb).toArray⟩ = x) = false := by rw [htx]; exact decide_eq_false he
        have d2 : (((⟨(hexL na).toArray⟩ : ByteArray) ++ ⟨#[61]⟩ ++ ⟨(hexL nb).toArray⟩).toList == x.toList) = false := by rw [htx]; exact str_ne _ _ he
        clear he htx
        refine inRegion (fun ⟨_, _, h⟩ => h) rfl ?_
        have hb0 : Below w6.heap.size w6 w6 := Below.refl _ _
        go_wp2_with (first | (go_at_call 39; refine (HHA.out _ hb0).mono ?_; rintro eN wN ⟨rfl, hbN⟩; have hb1 := hb0.trans (hbN.mono hb0.size); have HON := HO.call hbN; clear HO hbN hb0; have HO := HON; have hb0 := hb1; clear HON hb1) | (go_at_call 39; refine (HHB.out _ hb0).mono ?_; rintro eN wN ⟨rfl, hbN⟩; have hb1 := hb0.trans (hbN.mono hb0.size); have HON := HO.call hbN; clear HO hbN hb0; have HO := HON; have hb0 := hb1; clear HON hb1))
        refine wpIn_cond_true rfl ?_
        refine wpIn_seq ?_
        refine inRegion (fun ⟨_, _, h⟩ => h) rfl ?_
        have HO2 : Mine w _ ((gB, IsCells [.bool false] 4) :: (gR, IsCells [.slice none 0 0] 37) :: fr) := HO.less (.cons _ (.cons_cons _ (.cons_cons _ (List.sublist_append_right _ _))))
        clear HO
        have HO := HO2
        clear HO2
        go_wp2_with (first
      | ((with_reducible refine gate ?_); (first
      | ((refine own_load1 (T := 37) HO rfl rfl rfl (by first | exact .head _ | exact .tail _ (.head _) | exact .tail _ (.tail _ (.head _)) | exact .tail _ (.tail _ (.tail _ (.head _))) | exact .tail _ (.tail _ (.tail _ (.tail _ (.head _)))) | exact .tail _ (.tail _ (.tail _ (.tail _ (.tail _ (.head _))))) | exact .tail _ (.tail _ (.tail _ (.tail _ (.tail _ (.tail _ (.head _)))))) | exact .tail _ (.tail _ (.tail _ (.tail _ (.tail _ (.tail _ (.tail _ (.head _)))))))) Tryd.isAgg37 rfl ?_); (try simp only [Act.put, List.setIfInBounds_toArray, List.set_cons_zero, List.set_cons_succ]))
      | ((refine own_load1 (T := 4) HO rfl rfl rfl (by first | exact .head _ | exact .tail _ (.head _) | exact .tail _ (.tail _ (.head _)) | exact .tail _ (.tail _ (.tail _ (.head _))) | exact .tail _ (.tail _ (.tail _ (.tail _ (.head _)))) | exact .tail _ (.tail _ (.tail _ (.tail _ (.tail _ (.head _))))) | exact .tail _ (.tail _ (.tail _ (.tail _ (.tail _ (.tail _ (.head _)))))) | exact .tail _ (.tail _ (.tail _ (.tail _ (.tail _ (.tail _ (.tail _ (.head _)))))))) Tryd.isAgg4 rfl ?_); (try simp only [Act.put, List.setIfInBounds_toArray, List.set_cons_zero, List.set_cons_succ]))
      | ((refine own_store1 (T := 37) HO rfl rfl rfl (by first | exact .const | exact .tmp rfl | exact .func) (by rfl) (by first | exact .here | exact .there (.here) | exact .there (.there (.here)) | exact .there (.there (.there (.here))) | exact .there (.there (.there (.there (.here)))) | exact .there (.there (.there (.there (.there (.here))))) | exact .there (.there (.there (.there (.there (.there (.here)))))) | exact .there (.there (.there (.there (.there (.there (.there (.here)))))))) Tryd.sizeOf37 (by repeat constructor) (by rfl) ?_); clear HO; intro wN HO; (try simp only [Act.put, List.setIfInBounds_toArray, List.set_cons_zero, List.set_cons_succ]))
      | ((refine own_store1 (T := 4) HO rfl rfl rfl (by first | exact .const | exact .tmp rfl | exact .func) (by rfl) (by first | exact .here | exact .there (.here) | exact .there (.there (.here)) | exact .there (.there (.there (.here))) | exact .there (.there (.there (.there (.here)))) | exact .there (.there (.there (.there (.there (.here))))) | exact .there (.there (.there (.there (.there (.there (.here)))))) | exact .there (.there (.there (.there (.there (.there (.there (.here)))))))) Tryd.sizeOf4 (by repeat constructor) (by rfl) ?_); clear HO; intro wN HO; (try simp only [Act.put, List.setIfInBounds_toArray, List.set_cons_zero, List.set_cons_succ])))))
        refine wpIn_ret ?_
        exact ⟨BadRes gB gR, ⟨rfl, by rw [List.map_append, List.map_cons, List.map_nil, all_snoc, HBADP.out]; exact Bool.and_false _, rfl⟩, HO⟩
    case done =>
      rintro D W2 bs2 ⟨p, c, R, hR, hall, rfl⟩ HM
      have HALL := Lib.hid hall
      have HR := Lib.hid hR
      have HO : Mine w W2 ((gL, IsCells [.slice p (splitS 59 data).length c] 37) :: (gB, IsCells [.bool false] 4) :: (gR, IsCells [.slice none 0 0] 37) :: (D, IsDef) :: R) := HM.perm (.cons _ (.cons _ (.cons _ List.perm_append_comm)))
      clear HM HO2 hR hall
      obtain ⟨n, hn⟩ : ∃ n, (splitS 59 data).length = n := ⟨_, rfl⟩
      rw [hn] at HO HR
      have HN := Lib.hid hn
      clear hn
      refine wpIn_seq ?_
      refine wideRegion ?_
      go_wp2_with (first
      | ((with_reducible refine gate ?_); (first
      | ((refine own_load1 (T := 37) HO rfl rfl rfl (by first | exact .head _ | exact .tail _ (.head _) | exact .tail _ (.tail _ (.head _)) | exact .tail _ (.tail _ (.tail _ (.head _))) | exact .tail _ (.tail _ (.tail _ (.tail _ (.head _)))) | exact .tail _ (.tail _ (.tail _ (.tail _ (.tail _ (.head _))))) | exact .tail _ (.tail _ (.tail _ (.tail _ (.tail _ (.tail _ (.head _)))))) | exact .tail _ (.tail _ (.tail _ (.tail _ (.tail _ (.tail _ (.tail _ (.head _)))))))) Tryd.isAgg37 rfl ?_); (try simp only [Act.put, List.setIfInBounds_toArray, List.set_cons_zero, List.set_cons_succ]))
      | ((refine own_load1 (T := 4) HO rfl rfl rfl (by first | exact .head _ | exact .tail _ (.head _) | exact .tail _ (.tail _ (.head _)) | exact .tail _ (.tail _ (.tail _ (.head _))) | exact .tail _ (.tail _ (.tail _ (.tail _ (.head _)))) | exact .tail _ (.tail _ (.tail _ (.tail _ (.tail _ (.head _))))) | exact .tail _ (.tail _ (.tail _ (.tail _ (.tail _ (.tail _ (.head _)))))) | exact .tail _ (.tail _ (.tail _ (.tail _ (.tail _ (.tail _ (.tail _ (.head _)))))))) Tryd.isAgg4 rfl ?_); (try simp only [Act.put, List.setIfInBounds_toArray, List.set_cons_zero, List.set_cons_succ]))
      | ((refine own_store1 (T := 37) HO rfl rfl rfl (by first | exact .const | exact .tmp rfl | exact .func) (by rfl) (by first | exact .here | exact .there (.here) | exact .there (.there (.here)) | exact .there (.there (.there (.here))) | exact .there (.there (.there (.there (.here)))) | exact .there (.there (.there (.there (.there (.here))))) | exact .there (.there (.there (.there (.there (.there (.here)))))) | exact .there (.there (.there (.there (.there (.there (.there (.here)))))))) Tryd.sizeOf37 (by repeat constructor) (by rfl) ?_); clear HO; intro wN HO; (try simp only [Act.put, List.setIfInBounds_toArray, List.set_cons_zero, List.set_cons_succ]))
      | ((refine own_store1 (T := 4) HO rfl rfl rfl (by first | exact .const | exact .tmp rfl | exact .func) (by rfl) (by first | exact .here | exact .there (.here) | exact .there (.there (.here)) | exact .there (.there (.there (.here))) | exact .there (.there (.there (.there (.here)))) | exact .there (.there (.there (.there (.there (.here))))) | exact .there (.there (.there (.there (.there (.there (.here)))))) | exact .there (.there (.there (.there (.there (.there (.there (.here)))))))) Tryd.sizeOf4 (by repeat constructor) (by rfl) ?_); clear HO; intro wN HO; (try simp only [Act.put, List.setIfInBounds_toArray, List.set_cons_zero, List.set_cons_succ])))))
      refine wpIn_ret ?_
      refine leaves_mark (bs := (gB, _) :: (gR, _) :: R) ((HO.less (List.sublist_cons_self _ _)).perm (.cons _ (.cons _ (List.perm_append_comm (l₁ := [(D, IsDef)]))))) fun W3 HM3 => ?_
      obtain ⟨p', c', e, hrd, hle, _⟩ := HR.out.reads (bs := [_, _]) HM3
      cases e
      rw [HGOOD.out (by simp) HALL.out]
      refine ⟨_, results_cell2 HM3 Tryd.results17 rfl rfl (.tail _ (.head _)) (.head _) Tryd.isAgg37 Tryd.isAgg4, ⟨p, c, ?_, ?_, hrd⟩, HM3.below⟩
      · rw [filterMap_len _ HALL.out, HN.out]
      · rw [filterMap_len _ HALL.out, HN.out]; exact hle
    case stop =>
      rintro D cc pre W2 bs2 hpre ⟨rfl, hall, rfl⟩ HM
      refine wpIn_ret ?_
      refine leaves_mark HM fun W3 HM3 => ?_
      have hno : (List.map pairP (splitS 59 data)).all (·.isSome) = false := all_prefix (hpre.map _) hall
      rw [HBAD.out (.inr hno)]
      exact ⟨_, results_cell2 HM3 Tryd.results17 rfl rfl (.tail _ (.head _)) (.head _) Tryd.isAgg37 Tryd.isAgg4, rfl, HM3.below⟩
end Go.Proofs.YtclnanhgcnopdaaDoor
end
section
namespace Go.Proofs.YtclnanhgcnopdaaDoor.Kit
set_option linter.unusedVariables false
set_option linter.unusedSimpArgs false
open Go Go.RowKit
def IsMapD {H : Type} (P : Program) (k : TypeId) (R : Value → Option (DataW H × List MemPlace)) (n : Nat) (D : DataW H) (o : Obj) : Prop :=
  ∃ es clock, o = .map es clock ∧ Go.WideElems.Fit P k R es clock ∧ es.size ≤ n ∧ D = .map ((es.toList.map (Go.WideElems.rg P k R)).foldr DataW.insert [])
variable {H : Type} {P : Program} {ops : Array Oper} {Q : Exit → Act → World → Prop} {a : Act} {w w' W0 : World} {rest : List Oper} {o : Oper} {bs bs' : Res} {g n : Nat} {t k e : TypeId} {R : Value → Option (DataW H × List MemPlace)} {D d : DataW H} {p p' : Obj → Prop}
theorem Mine.ownsMap (HO : Mine W0 w bs) (hm : (g, IsMapD P k R n D) ∈ bs) : w.ownsMap P k R g n D := by
  obtain ⟨_, o, ho, es, c, rfl, h1, h2, h3⟩ := HO.held _ hm
  exact ⟨es, c, ho, h1, h2, h3⟩
theorem Mine.grown (h : Mine W0 w bs) (hu : Upd bs g p p' bs') (hgr : w.grownBy w' (some g)) (hg : ∃ o, w'.heap[g]? = some o ∧ p' o) : Mine W0 w' bs' := by
  have hge := (h.held _ hu.mem).1
  refine ⟨h.below.grown hgr h.below.size (fun k e => by cases e; exact hge), by rw [hu.keys]; exact h.nodup, fun q hq => ?_⟩
  rcases hu.cases h.nodup q hq with rfl | ⟨hq, hne⟩
  · exact ⟨hge, hg⟩
  · obtain ⟨h1, o, h2, h3⟩ := h.held q hq
    exact ⟨h1, o, (hgr.block q.1 (h.lt hq) (fun e => hne (Option.some.inj e))).trans h2, h3⟩
theorem own_makeMapD (P' : Program) (k : TypeId) (R : Value → Option (DataW H × List MemPlace)) (HO : Mine W0 w bs) {t : TypeId} (ho : o.op = .makeMap t none) (hgd : Region.wanted o (yielded ops a.tmps) = true)
    (h : ∀ g w', W0.heap.size ≤ g → Mine W0 w' (bs ++ [(g, IsMapD P' k R 0 (.map []))]) → wpList P ops Q rest (a.put o.dst (.map (some g))) w') : wpList P ops Q (o :: rest) a w :=
  wpList_want hgd fun _ hK => by
    have hr : (execOp a.eval o).run P w = .ok (.value (.map (some w.heap.size))) (w.alloc (.map #[] 0)) := by
      simp only [execOp, ho]; rfl
    unfold Oper.wp
    rw [hr]
    obtain ⟨es, c, h1, h2, h3, h4⟩ := World.ownsMap_made w P' k R
    refine hK _ _ (h _ _ HO.below.size (HO.new (.map #[] 0) (IsMapD P' k R 0 (.map [])) ?_))
    have e1 := (MapKept.heap_alloc w (.map #[] 0)).1
    rw [e1] at h1
    obtain ⟨rfl, rfl⟩ := Obj.map.inj (Option.some.inj h1)
    exact ⟨_, _, rfl, h2, h3, h4⟩
theorem own_putI (HO : Mine W0 w bs) {m x y : Operand} {key val : Value} {kl : Lit} {ps : List MemPlace} (ho : o.op = .insert t m x y) (hgd : Region.wanted o (yielded ops a.tmps) = true) (hm : a.eval m = .map (some g)) (hkx : EvalTo a x key) (hvy : EvalTo a y val)
    (K : Maps.Keyed P k) (ht : P.underlying t = some (.map k e)) (hu : Upd bs g (IsMapD P k R n D) (IsMapD P k R (n + 1) (D.put kl d)) bs') (hn : n < maxLen) (hkey : Go.keyOf P k key = some kl) (hval : R val = some (d, ps))
    (h : ∀ w', Mine W0 w' bs' → wpList P ops Q rest (a.put o.dst undef) w') : wpList P ops Q (o :: rest) a w :=
  wpList_want hgd fun _ hK => by
    have e1 := hkx.eq
    have e2 := hvy.eq
    obtain ⟨w', hrun, ⟨es, c, h1, h2, h3, h4⟩, r2⟩ := (HO.ownsMap hu.mem).update K ht hn hkey hval
    unfold Oper.wp
    simp [execOp, ho, hm, e1, e2, hrun, Result.andThen]
    exact hK _ _ (h _ (HO.grown hu r2 ⟨_, h1, es, c, rfl, h2, h3, h4⟩))
end Go.Proofs.YtclnanhgcnopdaaDoor.Kit
end
section
namespace Go.Proofs.YtclnanhgcnopdaaDoor
set_option linter.unusedVariables false
set_option linter.unusedSimpArgs false
open Go.RowKit Kit Go.Maps Go.Sort Go.Shelf
def namesL : List (List UInt8) := [[67, 111], [82, 71, 66], [84, 78], [99, 111, 108, 111, 114, 115], [107, 98, 115], [107, 99, 117, 98, 49], [107, 99, 117, 100, 49], [107, 99, 117, 102, 49], [107, 99, 117, 117, 49], [107, 100, 99, 104, 49], [107, 102, 49], [110, 97, 109, 101]]
def capsD : DataW Unit := (((((((((((((DataW.map [])).put (.string [84, 78]) (.lit (.string [99, 108, 97, 118, 105, 101, 114]))).put (.string [110, 97, 109, 101]) (.lit (.string [99, 108, 97, 118, 105, 101, 114]))).put (.string [67, 111]) (.lit (.string [50, 53, 54]))).put (.string [99, 111, 108, 111, 114, 115]) (.lit (.string [50, 53, 54]))).put (.string [82, 71, 66]) (.lit (.string [56]))).put (.string [107, 99, 117, 117, 49]) (.lit (.string [27, 79, 65]))).put (.string [107, 99, 117, 100, 49]) (.lit (.string [27, 79, 66]))).put (.string [107, 99, 117, 102, 49]) (.lit (.string [27, 79, 67]))).put (.string [107, 99, 117, 98, 49]) (.lit (.string [27, 79, 68]))).put (.string [107, 98, 115]) (.lit (.string [127]))).put (.string [107, 102, 49]) (.lit (.string [27, 79, 80]))).put (.string [107, 100, 99, 104, 49]) (.lit (.string [27, 91, 51, 126]))
theorem keysS_of {ss : List (List UInt8)} (h : ss.Perm (strKeys capsD)) : ss.mergeSort (fun x y => decide (x ≤ y)) = namesL := by
  have h2 := mergeSort_of_perm h
  refine h2.trans ((mergeSort_of_perm (l' := namesL) (by decide)).trans (List.mergeSort_of_pairwise (by decide)))
theorem keysS_calls (mb : Option Nat) (W : World) : Calls Tryd.prog 33 #[.map mb] W fun e w' => e = .returned (.func (.func 50) #[] #[.pointer (some ⟨W.heap.size, 0, none⟩)]) ∧ w' = W.alloc (.cells #[.map mb] 46) :=
  (callsIn_wide (n := 5)).1 (AnyZ.keys_in Tryd.keysA Fence.wide 5 trivial rfl mb W)
theorem sortsS (m : Nat) : AnyZ.SortsIn Tryd.prog Tryd.sortedA_ren Fence.wide m :=
  ⟨fun blk off cap ss W hH hblk hsz => callsIn_wide.2 (Tryd.slices_Sort_string blk off cap ss W hH hblk hsz),
   fun p cap W => callsIn_wide.2 (Tryd.slices_Sort_string_none p cap W)⟩
theorem sortedS_calls (g nn : Nat) (D : DataW Unit) (W : World) (hown : W.ownsMap Tryd.prog 9 (plainElem (H := Unit) Tryd.prog 9) g nn D) (hmax : Maps.size D ≤ maxLen) (hbytes : Maps.size D * 16 ≤ 140737488355328) :
    Calls Tryd.prog 32 #[.func (.func 50) #[] #[.pointer (some ⟨W.heap.size, 0, none⟩)]] (W.alloc (.cells #[.map (some g)] 46)) fun e w' => ∃ (v : Value) (ss : List (List UInt8)), e = .returned v ∧ ss.Perm (strKeys D) ∧
      w'.ownsRow (W.heap.size + 1) 9 1 v ss.length ((ss.mergeSort (fun x y => decide (x ≤ y))).map encStr) ∧ Below (W.heap.size + 1) (W.alloc (.cells #[.map (some g)] 46)) w' := by
  refine (callsIn_wide (n := 5)).1 ?_
  have hbl := hown.lt
  have hseq : SeqGives Fence.wide 2 Tryd.prog 50 #[.pointer (some ⟨W.heap.size, 0, none⟩)] encStr (fun ss => ss.Perm (strKeys D)) (Maps.size D) (W.alloc (.cells #[.map (some g)] 46)) :=
    AnyZ.keys_gives (ρ := Tryd.keysA_ren) { Tryd.keysA with } Fence.wide _ trivial rfl (by omega) W.heap.size g nn D _ (by simp) (by simp) (by
      obtain ⟨es, clock, hb, Ft, hs, hD⟩ := hown
      exact ⟨es, clock, (Below.heap_alloc _ _ g hbl).trans hb, Ft, hs, hD⟩)
  have cS := AnyZ.sorted_in Tryd.sortedA Fence.wide 5 trivial trivial trivial trivial rfl (by omega) (sortsS _) (enters_of Tryd.func49 (by kernel_rfl) rfl) 50 #[.pointer (some ⟨W.heap.size, 0, none⟩)] trivial (enters_of Tryd.func50 (by kernel_rfl) rfl) _ _ hmax hbytes _ hseq
  change CallsIn _ _ Tryd.prog 32 _ _ _ at cS
  refine cS.mono ?_
  rintro e w' ⟨v, ss, rfl, hS, hrow, hnil, hb⟩
  rw [Kit.size_alloc] at hrow hb
  exact ⟨v, ss, rfl, hS, hrow, hb⟩
theorem key_str (s : ByteArray) (hs : s.size ≤ maxLen) : Go.keyOf Tryd.prog 9 (.string s) = some (.string s.data.toList) := by
  rw [keyOf_string Tryd.underlying9]
  simp [mapKey, Tryd.underlying9, hs]
attribute [local irreducible] wpList Calls wpQuiet
set_option maxRecDepth 100000 in
set_option maxHeartbeats 4000000 in
theorem tableD_calls (w : World) : Calls Tryd.prog 19 #[] w fun e w' => ∃ g, e = .returned (.map (some g)) ∧ Mine w w' [(g, IsMapD Tryd.prog 9 (plainElem (H := Unit) Tryd.prog 9) 12 capsD)] := by
  have HO := Mine.start w
  go_enter Tryd.func19, Tryd.ntmps19
  go_wp2_with (first
    | ((refine own_makeMapD Tryd.prog 9 (plainElem (H := Unit) Tryd.prog 9) HO rfl rfl ?_); clear HO; intro gM wN hgM HO; (simp only [List.nil_append, List.cons_append] at HO); (try simp only [Act.put, List.setIfInBounds_toArray, List.set_cons_zero, List.set_cons_succ]))
    | ((with_reducible refine gate ?_); refine own_putI (R := (plainElem (H := Unit) Tryd.prog 9)) HO rfl rfl rfl (by first | exact .const | exact .tmp rfl | exact .func) (by first | exact .const | exact .tmp rfl | exact .func) (Maps.string_keyed Tryd.underlying9) Tryd.underlying46 (by first | exact .here | exact .there .here) (by decide) (key_str _ (by decide)) (plainElem_string Tryd.underlying9 (by decide)) ?_; clear HO; intro wN HO; (try simp only [Act.put, List.setIfInBounds_toArray, List.set_cons_zero, List.set_cons_succ])))
  go_ret
  exact ⟨gM, rfl, HO⟩
theorem names_calls (w : World) : Calls Tryd.prog 15 #[] w fun e w' => ∃ p c R, e = .returned (.slice p 12 c) ∧ GRow 9 (.slice p 12 c) (namesL.map encStr) R ∧ Mine w w' R := by
  have HO := Mine.start w
  have hsz : Maps.size capsD = 12 := by decide
  have HZ := Lib.hid hsz
  clear hsz
  go_enter Tryd.func15, Tryd.ntmps15
  go_wp2_with (first
    | (go_at_call 19; refine (tableD_calls _).mono ?_; rintro eN wN ⟨gM, rfl, HM⟩; clear HO; have HO := HM; clear HM)
    | (go_at_call 33; refine (keysS_calls _ _).mono ?_; rintro eN wN ⟨rfl, rfl⟩)
    | (go_at_call 32; refine (sortedS_calls gM _ _ _ (HO.ownsMap (.head _)) (by rw [HZ.out]; decide) (by rw [HZ.out]; decide)).mono ?_; rintro eN wS ⟨v, ss, rfl, hS, hrow, hb⟩))
  go_ret
  have hsl := keysS_of hS
  have hlen : ss.length = 12 := by have := congrArg List.length hsl; rw [List.length_mergeSort] at this; rw [this]; rfl
  rw [hsl, hlen] at hrow
  obtain ⟨p, c, hv, hr, hc, _⟩ := hrow.reads
  subst hv
  have hbb := (HO.below.alloc HO.below.size _).trans (hb.mono (by have := HO.below.size; omega))
  have hrow2 : wS.ownsRow w.heap.size 9 1 (.slice p 12 c) 12 (namesL.map encStr) := by
    obtain ⟨h0, h⟩ := hrow
    refine ⟨h0, ?_⟩
    rcases h with h | ⟨g, cap, cur, h1, h2, h3⟩
    · exact .inl h
    · exact .inr ⟨g, cap, cur, h1, by have := HO.below.size; omega, h3⟩
  obtain ⟨R, hR, hM⟩ := GRow.of_own (T := 9) hrow2 hbb
  exact ⟨p, c, R, rfl, hR, hM⟩
end Go.Proofs.YtclnanhgcnopdaaDoor
end
section
namespace Go.Proofs.YtclnanhgcnopdaaDoor
set_option linter.unusedVariables false
set_option linter.unusedSimpArgs false
open Go.RowKit Kit
def okC (c : UInt8) : Bool := (decide (48 ≤ c.toNat) && decide (c.toNat ≤ 57)) || (decide (65 ≤ c.toNat) && decide (c.toNat ≤ 70))
theorem figV_ok {n : Nat} (h : n < 16) : okC (figV n) = true := by
  have : ∀ m, m < 16 → okC (figV m) = true := by decide
  exact this n h
theorem hexL_ok (l : List UInt8) : ∀ c ∈ hexL l, okC c = true := by
  intro c hc
  obtain ⟨x, hx, h⟩ := List.mem_flatMap.1 hc
  rcases List.mem_cons.1 h with rfl | h
  · exact figV_ok (by have := x.toNat_lt; omega)
  · rw [List.mem_singleton.1 h]
    exact figV_ok (by omega)
def okD (c : UInt8) : Bool := okC c || decide (c.toNat = 61) || decide (c.toNat = 59)
theorem join_mem {c : UInt8} {sep : List UInt8} : ∀ {l : List (List UInt8)}, c ∈ Lib.join l sep → c ∈ sep ∨ ∃ x ∈ l, c ∈ x := by
  intro l h
  cases l with
  | nil => simp [Lib.join_nil] at h
  | cons x l =>
    rw [Lib.join_cons] at h
    rcases List.mem_append.1 h with h | h
    · exact .inr ⟨x, .head _, h⟩
    · obtain ⟨y, hy, hc⟩ := List.mem_flatten.1 h
      obtain ⟨z, hz, rfl⟩ := List.mem_map.1 hy
      rcases List.mem_append.1 hc with hc | hc
      · exact .inl hc
      · exact .inr ⟨z, .tail _ hz, hc⟩
theorem askedP_ok (x : ByteArray) : ∀ c ∈ (askedP x).1.data.toList, okD c = true := by
  intro c hc
  have e : (askedP x).1.data.toList = hexL ((unhexL x.data.toList).getD []) ++ 61 :: hexL (lookB (ofL ((unhexL x.data.toList).getD []))).1.data.toList := rfl
  rw [e] at hc
  unfold okD
  rcases List.mem_append.1 hc with hc | hc
  · rw [hexL_ok _ c hc]; rfl
  · rcases List.mem_cons.1 hc with rfl | hc
    · decide
    · rw [hexL_ok _ c hc]; rfl
theorem capsData_ok (s : ByteArray) : ∀ c ∈ (capsData s).data.toList, okD c = true := by
  intro c hc
  have e : (capsData s).data.toList = Lib.join (((askedL s).map (·.1)).map (·.data.toList)) [59] := rfl
  rw [e] at hc
  rcases join_mem hc with h | ⟨x, hx, h⟩
  · rw [List.mem_singleton.1 h]; decide
  · obtain ⟨y, hy, rfl⟩ := List.mem_map.1 hx
    obtain ⟨z, hz, rfl⟩ := List.mem_map.1 hy
    obtain ⟨u, _, rfl⟩ := List.mem_map.1 hz
    exact askedP_ok u c h
theorem okD_range {c : UInt8} (h : okD c = true) : 32 ≤ c.toNat ∧ c.toNat ≤ 126 := by
  simp [okD, okC] at h
  omega
theorem caps_may (s : ByteArray) : mayI (capsYes (capsData s)) = if 4096 < (capsData s).size then 4 else 0 := by
  unfold mayI
  show (if 4096 < (capsData s).size then (4 : Int) else _) = _
  by_cases h : 4096 < (capsData s).size
  · rw [if_pos h, if_pos h]
  · rw [if_neg h, if_neg h, if_pos]
    have hb : btwL 32 126 (capsData s).data.toList = true := List.all_eq_true.2 fun c hc => by
      have := okD_range (capsData_ok s c hc)
      simp [this]
    show ((decide ((0 : Int) = 0) || finB 60 63 0) && (decide ((⟨#[43]⟩ : ByteArray).size ≤ 2) && btwL 32 47 [43]) && listedB [[1]] && btwL 32 126 (capsData s).data.toList && shapedB (capsYes (capsData s))) = true
    rw [hb]
    have hs : shapedB (capsYes (capsData s)) = true := rfl
    rw [hs]
    decide
theorem capsS_eq (s : ByteArray) : capsS s = if (askedL s).all (·.2) = true ∧ ¬ 4096 < (capsData s).size then capsYes (capsData s) else capsNo := by
  unfold capsS
  rw [caps_may]
  by_cases h1 : (askedL s).all (·.2) = true
  · by_cases h2 : 4096 < (capsData s).size
    · rw [if_pos h1, if_pos h2, if_neg (by decide), if_neg (fun h => h.2 h2)]
    · rw [if_pos h1, if_neg h2, if_pos rfl, if_pos ⟨h1, h2⟩]
  · rw [if_neg h1, if_neg (fun h => h1 h.1)]
theorem one_known {f : FuncId} {args : Array Value} {q : Sr} {w : World} (h : GivesOne f args q w) (n : Int) (hn : q.rows = [[n]]) :
    Calls Tryd.prog f args w fun e w' => ∃ g1 g2, e = .returned (.agg #[.int .i64 q.kind, .int .u8 q.priv, .slice (some ⟨g2, 0, none⟩) 1 1, .string q.inter, .int .u8 q.fin, .string q.data]) ∧ Mine w w' [(g2, IsCells [.slice (some ⟨g1, 0, none⟩) 1 1] 45), (g1, IsCells [.int .i64 n] 3)] := by
  refine h.mono fun e w' ⟨n', g1, g2, h1, h2, h3⟩ => ?_
  rw [hn] at h2
  have e1 : n = n' := by simpa using h2
  subst e1
  refine ⟨g1, g2, ?_, h3⟩
  rw [h1, Sr.v, hn]
  rfl
end Go.Proofs.YtclnanhgcnopdaaDoor
end
section
namespace Go.Proofs.YtclnanhgcnopdaaDoor
set_option linter.unusedVariables false
set_option linter.unusedSimpArgs false
open Go.RowKit Kit Go.Proofs.YtclnanhgcnopdaaDoorW.PrintWords
theorem answer_as (s : ByteArray) (q : Sr) (hq : capsS s = q) (hs : s.size ≤ 100000) (w : World) : GivesOne 12 #[.string s] q w := by
  have h := answer_calls s hs w
  rw [hq] at h
  exact h
theorem eq_tn (w : World) : (Op.equal 41 (.agg #[.string ⟨#[84, 78]⟩, .string ⟨#[99, 108, 97, 118, 105, 101, 114]⟩]) (.agg #[.string ⟨#[84, 78]⟩, .string ⟨#[99, 108, 97, 118, 105, 101, 114]⟩])).run Tryd.prog w = .ok true w := by
  rw [show true = (true && (true && true)) from rfl]
  refine eqStruct_of Tryd.underlying41 (by kernel_rfl) ?_
  refine eqF_cons (by rfl) (by go_simp; rfl) (by go_simp; rfl) (by go_simp; first | done | rfl | decide) ?_
  refine eqF_cons (by rfl) (by go_simp; rfl) (by go_simp; rfl) (by go_simp; first | done | rfl | decide) ?_
  exact eqF_nil
def tnS : Sr := capsYes ⟨#[53, 52, 52, 69, 61, 54, 51, 54, 67, 54, 49, 55, 54, 54, 57, 54, 53, 55, 50]⟩
theorem ans_tn : capsS ⟨#[53, 52, 52, 101]⟩ = tnS := by decide +kernel
theorem ans_xx : capsS ⟨#[53, 56, 53, 56]⟩ = capsNo := by decide +kernel
theorem read_tn : readS tnS = some [(⟨#[84, 78]⟩, ⟨#[99, 108, 97, 118, 105, 101, 114]⟩)] := by decide +kernel
theorem look_co : lookB ⟨#[67, 111]⟩ = (⟨#[50, 53, 54]⟩, true) := by decide +kernel
attribute [local irreducible] wpList Calls wpQuiet
set_option maxRecDepth 100000 in
set_option maxHeartbeats 4000000 in
theorem awake20_calls (w : World) : Calls Tryd.prog 8 #[] w fun e w' => e = .returned (.bool true) ∧ Below w.heap.size w w' := by
  have HO := Mine.start w
  have HT := Lib.hid (answer_as _ _ ans_tn (by decide))
  have HX := Lib.hid (answer_as _ _ ans_xx (by decide))
  have HR : Hid (∀ (A : Option Addr) (c : Nat) (W : World), RowsC W A tnS.rows → Calls Tryd.prog 17 #[tnS.v A c] W fun e w' => ∃ b o c', e = .returned (.tuple #[.slice (some ⟨b, o, none⟩) 1 c', .bool true]) ∧ w'.cell? ⟨b, o, none⟩ = some (.string ⟨#[84, 78]⟩) ∧ w'.cell? ⟨b, o + 1, none⟩ = some (.string ⟨#[99, 108, 97, 118, 105, 101, 114]⟩) ∧ Below W.heap.size W w') := Lib.hid fun A c W h => by
    have h1 := read_calls tnS A c W h (by decide)
    rw [read_tn] at h1
    refine h1.mono fun e w' h2 => ?_
    obtain ⟨⟨p, c', he, _, hr⟩, hb⟩ := h2
    obtain ⟨b, o, rfl, hc0⟩ := hr 0 _ rfl
    obtain ⟨b', o', e2, hc1⟩ := hr 1 _ rfl
    cases e2
    exact ⟨b, o, c', he, hc0, hc1, hb⟩
  have HL := Lib.hid look_co
  unfold tnS capsYes at HT HR
  unfold capsNo at HX
  simp only [Sr.v, GivesOne] at HT HX HR
  go_enter Tryd.func8, Tryd.ntmps8
  go_wp2_with (first
      | (go_at_call 12; first | (refine (HT.out _).mono ?_; rintro eN wN ⟨n, g1, g2, rfl, hn, HM⟩; (obtain rfl : n = 1 := by simpa using hn.symm); have HON := (HO.join HM).perm List.perm_append_comm; clear HO HM hn; have HO := HON; clear HON; (simp only [List.nil_append, List.cons_append] at HO)) | (refine (HX.out _).mono ?_; rintro eN wN ⟨n, g3, g4, rfl, hn, HM⟩; (obtain rfl : n = 0 := by simpa using hn.symm); have HON := (HO.join HM).perm List.perm_append_comm; clear HO HM hn; have HO := HON; clear HON; (simp only [List.nil_append, List.cons_append] at HO)))
      | (go_at_call 9; refine (look_calls _ _ _ HL.out _).mono ?_; rintro eN wN ⟨rfl, hbN⟩; have HON := HO.call hbN; clear HO hbN; have HO := HON; clear HON)
      | (go_at_call 17; refine (HR.out _ _ _ (rows_one1 (HO.at (by first | exact .head _ | exact .tail _ (.head _) | exact .tail _ (.tail _ (.head _)) | exact .tail _ (.tail _ (.tail _ (.head _))) | exact .tail _ (.tail _ (.tail _ (.tail _ (.head _)))) | exact .tail _ (.tail _ (.tail _ (.tail _ (.tail _ (.head _))))) | exact .tail _ (.tail _ (.tail _ (.tail _ (.tail _ (.tail _ (.head _)))))) | exact .tail _ (.tail _ (.tail _ (.tail _ (.tail _ (.tail _ (.tail _ (.head _))))))) | exact .tail _ (.tail _ (.tail _ (.tail _ (.tail _ (.tail _ (.tail _ (.tail _ (.head _)))))))) | exact .tail _ (.tail _ (.tail _ (.tail _ (.tail _ (.tail _ (.tail _ (.tail _ (.tail _ (.head _))))))))))) (HO.at (by first | exact .head _ | exact .tail _ (.head _) | exact .tail _ (.tail _ (.head _)) | exact .tail _ (.tail _ (.tail _ (.head _))) | exact .tail _ (.tail _ (.tail _ (.tail _ (.head _)))) | exact .tail _ (.tail _ (.tail _ (.tail _ (.tail _ (.head _))))) | exact .tail _ (.tail _ (.tail _ (.tail _ (.tail _ (.tail _ (.head _)))))) | exact .tail _ (.tail _ (.tail _ (.tail _ (.tail _ (.tail _ (.tail _ (.head _))))))) | exact .tail _ (.tail _ (.tail _ (.tail _ (.tail _ (.tail _ (.tail _ (.tail _ (.head _)))))))) | exact .tail _ (.tail _ (.tail _ (.tail _ (.tail _ (.tail _ (.tail _ (.tail _ (.tail _ (.head _))))))))))))).mono ?_; rintro eN wN ⟨b, o, cR, rfl, hc0, hc1, hbN⟩; have HON := HO.call hbN; clear HO hbN; have HO := HON; clear HON)
      | ((with_reducible refine gate ?_); (first
      | ((refine own_eql (t := 41) rfl rfl rfl rfl (by kernel_rfl) eq_tn ?_); (try simp only [Act.put, List.setIfInBounds_toArray, List.set_cons_zero, List.set_cons_succ]))
      | ((with_reducible refine gateAt (N := 1) rfl ?_); refine own_allocF (T := 28) HO rfl rfl Tryd.zeroValue28 rfl ?_; clear HO; intro gA wN hggA HO; (try simp only [Act.put, List.setIfInBounds_toArray, List.set_cons_zero, List.set_cons_succ]))
      | ((with_reducible refine gateAt (N := 2) rfl ?_); refine own_allocF (T := 28) HO rfl rfl Tryd.zeroValue28 rfl ?_; clear HO; intro gB wN hggB HO; (try simp only [Act.put, List.setIfInBounds_toArray, List.set_cons_zero, List.set_cons_succ]))
      | ((refine own_load (T := 28) HO rfl rfl rfl (by first | exact .head _ | exact .tail _ (.head _) | exact .tail _ (.tail _ (.head _)) | exact .tail _ (.tail _ (.tail _ (.head _))) | exact .tail _ (.tail _ (.tail _ (.tail _ (.head _)))) | exact .tail _ (.tail _ (.tail _ (.tail _ (.tail _ (.head _))))) | exact .tail _ (.tail _ (.tail _ (.tail _ (.tail _ (.tail _ (.head _)))))) | exact .tail _ (.tail _ (.tail _ (.tail _ (.tail _ (.tail _ (.tail _ (.head _))))))) | exact .tail _ (.tail _ (.tail _ (.tail _ (.tail _ (.tail _ (.tail _ (.tail _ (.head _)))))))) | exact .tail _ (.tail _ (.tail _ (.tail _ (.tail _ (.tail _ (.tail _ (.tail _ (.tail _ (.head _)))))))))) Tryd.isAgg28 Tryd.sizeOf28 (by repeat constructor) ?_); (try simp only [Act.put, List.setIfInBounds_toArray, List.set_cons_zero, List.set_cons_succ]))
      | ((refine own_load1 (T := 9) HO rfl rfl rfl (by first | exact .head _ | exact .tail _ (.head _) | exact .tail _ (.tail _ (.head _)) | exact .tail _ (.tail _ (.tail _ (.head _))) | exact .tail _ (.tail _ (.tail _ (.tail _ (.head _)))) | exact .tail _ (.tail _ (.tail _ (.tail _ (.tail _ (.head _))))) | exact .tail _ (.tail _ (.tail _ (.tail _ (.tail _ (.tail _ (.head _)))))) | exact .tail _ (.tail _ (.tail _ (.tail _ (.tail _ (.tail _ (.tail _ (.head _))))))) | exact .tail _ (.tail _ (.tail _ (.tail _ (.tail _ (.tail _ (.tail _ (.tail _ (.head _)))))))) | exact .tail _ (.tail _ (.tail _ (.tail _ (.tail _ (.tail _ (.tail _ (.tail _ (.tail _ (.head _)))))))))) Tryd.isAgg9 rfl ?_); (try simp only [Act.put, List.setIfInBounds_toArray, List.set_cons_zero, List.set_cons_succ]))
      | ((refine own_load1 (T := 26) HO rfl rfl rfl (by first | exact .head _ | exact .tail _ (.head _) | exact .tail _ (.tail _ (.head _)) | exact .tail _ (.tail _ (.tail _ (.head _))) | exact .tail _ (.tail _ (.tail _ (.tail _ (.head _)))) | exact .tail _ (.tail _ (.tail _ (.tail _ (.tail _ (.head _))))) | exact .tail _ (.tail _ (.tail _ (.tail _ (.tail _ (.tail _ (.head _)))))) | exact .tail _ (.tail _ (.tail _ (.tail _ (.tail _ (.tail _ (.tail _ (.head _))))))) | exact .tail _ (.tail _ (.tail _ (.tail _ (.tail _ (.tail _ (.tail _ (.tail _ (.head _)))))))) | exact .tail _ (.tail _ (.tail _ (.tail _ (.tail _ (.tail _ (.tail _ (.tail _ (.tail _ (.head _)))))))))) Tryd.isAgg26 rfl ?_); (try simp only [Act.put, List.setIfInBounds_toArray, List.set_cons_zero, List.set_cons_succ]))
      | ((refine own_load1 (T := 45) HO rfl rfl rfl (by first | exact .head _ | exact .tail _ (.head _) | exact .tail _ (.tail _ (.head _)) | exact .tail _ (.tail _ (.tail _ (.head _))) | exact .tail _ (.tail _ (.tail _ (.tail _ (.head _)))) | exact .tail _ (.tail _ (.tail _ (.tail _ (.tail _ (.head _))))) | exact .tail _ (.tail _ (.tail _ (.tail _ (.tail _ (.tail _ (.head _)))))) | exact .tail _ (.tail _ (.tail _ (.tail _ (.tail _ (.tail _ (.tail _ (.head _))))))) | exact .tail _ (.tail _ (.tail _ (.tail _ (.tail _ (.tail _ (.tail _ (.tail _ (.head _)))))))) | exact .tail _ (.tail _ (.tail _ (.tail _ (.tail _ (.tail _ (.tail _ (.tail _ (.tail _ (.head _)))))))))) Tryd.isAgg45 rfl ?_); (try simp only [Act.put, List.setIfInBounds_toArray, List.set_cons_zero, List.set_cons_succ]))
      | ((refine own_load1 (T := 3) HO rfl rfl rfl (by first | exact .head _ | exact .tail _ (.head _) | exact .tail _ (.tail _ (.head _)) | exact .tail _ (.tail _ (.tail _ (.head _))) | exact .tail _ (.tail _ (.tail _ (.tail _ (.head _)))) | exact .tail _ (.tail _ (.tail _ (.tail _ (.tail _ (.head _))))) | exact .tail _ (.tail _ (.tail _ (.tail _ (.tail _ (.tail _ (.head _)))))) | exact .tail _ (.tail _ (.tail _ (.tail _ (.tail _ (.tail _ (.tail _ (.head _))))))) | exact .tail _ (.tail _ (.tail _ (.tail _ (.tail _ (.tail _ (.tail _ (.tail _ (.head _)))))))) | exact .tail _ (.tail _ (.tail _ (.tail _ (.tail _ (.tail _ (.tail _ (.tail _ (.tail _ (.head _)))))))))) Tryd.isAgg3 rfl ?_); (try simp only [Act.put, List.setIfInBounds_toArray, List.set_cons_zero, List.set_cons_succ]))
      | ((refine own_store1 (T := 9) HO rfl rfl rfl (by first | exact .const | exact .tmp rfl | exact .func) (by rfl) (by first | exact .here | exact .there (.here) | exact .there (.there (.here)) | exact .there (.there (.there (.here))) | exact .there (.there (.there (.there (.here)))) | exact .there (.there (.there (.there (.there (.here))))) | exact .there (.there (.there (.there (.there (.there (.here)))))) | exact .there (.there (.there (.there (.there (.there (.there (.here))))))) | exact .there (.there (.there (.there (.there (.there (.there (.there (.here)))))))) | exact .there (.there (.there (.there (.there (.there (.there (.there (.there (.here)))))))))) Tryd.sizeOf9 (by repeat constructor) (by rfl) ?_); clear HO; intro wN HO; (try simp only [Act.put, List.setIfInBounds_toArray, List.set_cons_zero, List.set_cons_succ]))
      | ((refine own_store1 (T := 26) HO rfl rfl rfl (by first | exact .const | exact .tmp rfl | exact .func) (by rfl) (by first | exact .here | exact .there (.here) | exact .there (.there (.here)) | exact .there (.there (.there (.here))) | exact .there (.there (.there (.there (.here)))) | exact .there (.there (.there (.there (.there (.here))))) | exact .there (.there (.there (.there (.there (.there (.here)))))) | exact .there (.there (.there (.there (.there (.there (.there (.here))))))) | exact .there (.there (.there (.there (.there (.there (.there (.there (.here)))))))) | exact .there (.there (.there (.there (.there (.there (.there (.there (.there (.here)))))))))) Tryd.sizeOf26 (by repeat constructor) (by rfl) ?_); clear HO; intro wN HO; (try simp only [Act.put, List.setIfInBounds_toArray, List.set_cons_zero, List.set_cons_succ]))
      | ((refine own_store1 (T := 45) HO rfl rfl rfl (by first | exact .const | exact .tmp rfl | exact .func) (by rfl) (by first | exact .here | exact .there (.here) | exact .there (.there (.here)) | exact .there (.there (.there (.here))) | exact .there (.there (.there (.there (.here)))) | exact .there (.there (.there (.there (.there (.here))))) | exact .there (.there (.there (.there (.there (.there (.here)))))) | exact .there (.there (.there (.there (.there (.there (.there (.here))))))) | exact .there (.there (.there (.there (.there (.there (.there (.there (.here)))))))) | exact .there (.there (.there (.there (.there (.there (.there (.there (.there (.here)))))))))) Tryd.sizeOf45 (by repeat constructor) (by rfl) ?_); clear HO; intro wN HO; (try simp only [Act.put, List.setIfInBounds_toArray, List.set_cons_zero, List.set_cons_succ]))
      | ((refine own_store1 (T := 3) HO rfl rfl rfl (by first | exact .const | exact .tmp rfl | exact .func) (by rfl) (by first | exact .here | exact .there (.here) | exact .there (.there (.here)) | exact .there (.there (.there (.here))) | exact .there (.there (.there (.there (.here)))) | exact .there (.there (.there (.there (.there (.here))))) | exact .there (.there (.there (.there (.there (.there (.here)))))) | exact .there (.there (.there (.there (.there (.there (.there (.here))))))) | exact .there (.there (.there (.there (.there (.there (.there (.there (.here)))))))) | exact .there (.there (.there (.there (.there (.there (.there (.there (.there (.here)))))))))) Tryd.sizeOf3 (by repeat constructor) (by rfl) ?_); clear HO; intro wN HO; (try simp only [Act.put, List.setIfInBounds_toArray, List.set_cons_zero, List.set_cons_succ]))
      | ((refine own_store (T := 28) HO rfl rfl rfl rfl (by first | exact .here | exact .there (.here) | exact .there (.there (.here)) | exact .there (.there (.there (.here))) | exact .there (.there (.there (.there (.here)))) | exact .there (.there (.there (.there (.there (.here))))) | exact .there (.there (.there (.there (.there (.there (.here)))))) | exact .there (.there (.there (.there (.there (.there (.there (.here))))))) | exact .there (.there (.there (.there (.there (.there (.there (.there (.here)))))))) | exact .there (.there (.there (.there (.there (.there (.there (.there (.there (.here)))))))))) Tryd.sizeOf28 (by repeat constructor) rfl ?_); clear HO; intro wN HO; (try simp only [Act.put, List.setIfInBounds_toArray, List.set_cons_zero, List.set_cons_succ])))))
  go_ret
  exact ⟨rfl, HO.below⟩
end Go.Proofs.YtclnanhgcnopdaaDoor
end
section
namespace Go.Proofs.YtclnanhgcnopdaaDoor.Kit
set_option linter.unusedVariables false
set_option linter.unusedSimpArgs false
open Go Go.RowKit
section
variable {P : Program} {ops : Array Oper} {Q : Exit → Act → World → Prop} {a : Act} {w W0 : World} {rest : List Oper} {o : Oper} {bs : Res}
def IsBytes (e : TypeId) (n c : Nat) (l : List UInt8) : Obj → Prop := fun o => ∃ cur fz, o = .cells cur e fz ∧ cur.size = c ∧ c ≤ fz.1 ∧ n ≤ c ∧ cur.toList.take n = l.map byV
theorem Mine.row {g n c : Nat} {e : TypeId} {l : List UInt8} (HO : Mine W0 w bs) (hm : (g, IsBytes e n c l) ∈ bs) : Row w g n c e l := by
  obtain ⟨_, o, ho, cur, fz, rfl, h1, h2, h3, h4⟩ := HO.held _ hm
  exact ⟨cur, fz, ho, h1, h2, h3, h4⟩
theorem own_bytesF {src dst e : TypeId} {x : Operand} {s : ByteArray} (HO : Mine W0 w bs) (ho : o.op = .convert src dst x) (hgd : Region.wanted o (yielded ops a.tmps) = true) (hx : EvalTo a x (.string s)) (hs : P.underlying src = some .string) (hd : P.underlying dst = some (.slice e)) (he : P.underlying e = some (.int .u8))
    (h : ∀ g c w', W0.heap.size ≤ g → Mine W0 w' ((g, IsBytes e s.size c s.data.toList) :: bs) → wpList P ops Q rest (a.put o.dst (.slice (some ⟨g, 0, none⟩) s.size c)) w') : wpList P ops Q (o :: rest) a w :=
  wpList_want hgd fun _ hK => by
    obtain ⟨c, w', hr, hb, cur, fz, hg, h1, h2, h3, h4⟩ := run_row_of (P := P) (s := s) hs hd he w
    unfold Oper.wp execOp
    simp only [ho, hx.eq, Sem.run_bind, hr, Sem.run_pure, Result.andThen_ok]
    refine hK _ _ (h _ c w' HO.below.size (((HO.call hb).take (p := IsBytes e s.size c s.data.toList) (fun q hq => HO.lt hq) HO.below.size (Nat.le_refl _) ⟨_, hg, cur, fz, rfl, h1, h2, h3, h4⟩).perm List.perm_append_comm))
end
end Go.Proofs.YtclnanhgcnopdaaDoor.Kit
end
section
namespace Go.Proofs.YtclnanhgcnopdaaDoor
set_option linter.unusedVariables false
set_option linter.unusedSimpArgs false
open Go.RowKit Kit G Go.Proofs.YtclnanhgcnopdaaDoorW.PrintWords
theorem join_snoc (l : List (List UInt8)) (x : List UInt8) (h : l ≠ []) : Lib.join (l ++ [x]) [59] = Lib.join l [59] ++ 59 :: x := by
  cases l with
  | nil => exact absurd rfl h
  | cons y l => rw [List.cons_append, Lib.join_cons, Lib.join_cons]; simp [Lib.joinTail]
attribute [local irreducible] wpList Calls wpQuiet
end Go.Proofs.YtclnanhgcnopdaaDoor
end
section
namespace Go.Proofs.YtclnanhgcnopdaaDoor
set_option linter.unusedVariables false
set_option linter.unusedSimpArgs false
open Go.RowKit Kit
theorem splitL_app (c : UInt8) : ∀ (x r : List UInt8), c ∉ x → splitL c (x ++ c :: r) = x :: splitL c r
  | [], r, _ => by simp [splitL]
  | y :: x, r, h => by
    have h1 : ¬ y = c := fun e => h (by rw [e]; exact .head _)
    rw [List.cons_append, splitL, if_neg h1, splitL_app c x r (fun e => h (.tail _ e))]
theorem join_cons2 (x y : List UInt8) (l : List (List UInt8)) : Lib.join (x :: y :: l) [59] = x ++ 59 :: Lib.join (y :: l) [59] := by
  rw [Lib.join_cons, Lib.join_cons]
  simp [Lib.joinTail]
theorem splitL_join : ∀ (ps : List (List UInt8)), ps ≠ [] → (∀ x ∈ ps, (59 : UInt8) ∉ x) → splitL 59 (Lib.join ps [59]) = ps
  | [], h, _ => absurd rfl h
  | [x], _, h => by
    rw [Lib.join_cons]
    simp [Lib.joinTail]
    exact splitL_none 59 x (h x (.head _))
  | x :: y :: l, _, h => by
    rw [join_cons2, splitL_app 59 _ _ (h x (.head _)), splitL_join (y :: l) (by simp) (fun z hz => h z (.tail _ hz))]
theorem askedL_join (ps : List (List UInt8)) (hne : ps ≠ []) (h : ∀ x ∈ ps, (59 : UInt8) ∉ x) : askedL (ofL (Lib.join ps [59])) = ps.map fun x => askedP (ofL x) := by
  unfold askedL splitS
  rw [toList_ofL, splitL_join ps hne h, List.map_map]
  rfl
end Go.Proofs.YtclnanhgcnopdaaDoor
end
section
namespace Go.Proofs.YtclnanhgcnopdaaDoor
set_option linter.unusedVariables false
set_option linter.unusedSimpArgs false
open Go.RowKit Kit G Go.Proofs.YtclnanhgcnopdaaDoorW.PrintWords
def namesB : List ByteArray := namesL.map ofL
attribute [local irreducible] wpList Calls wpQuiet
set_option maxRecDepth 100000 in
set_option maxHeartbeats 4000000 in
theorem namesG_calls (w : World) : Calls Tryd.prog 15 #[] w fun e w' => ∃ b c R, e = .returned (.slice (some ⟨b, 0, none⟩) 12 c) ∧ GRow 9 (.slice (some ⟨b, 0, none⟩) 12 c) (namesB.map Value.string) R ∧ Mine w w' R := by
  refine (names_calls w).mono fun e w' ⟨p, c, R, h1, h2, h3⟩ => ?_
  have h4 := h2
  rcases h4 with ⟨h, _⟩ | ⟨g, cap, cur, h, _⟩
  · cases h
  · cases h
    exact ⟨g, c, R, h1, h2, h3⟩
end Go.Proofs.YtclnanhgcnopdaaDoor
end
section
namespace Go.Proofs.YtclnanhgcnopdaaDoor
set_option linter.unusedVariables false
set_option linter.unusedSimpArgs false
open Go.RowKit Kit
def lowU (c : UInt8) : UInt8 := if 65 ≤ c.toNat then UInt8.ofNat (c.toNat + 32) else c
def lowAt (l : List UInt8) (k : Nat) : List UInt8 := (l.take k).map lowU ++ l.drop k
theorem lowAt_zero (l : List UInt8) : lowAt l 0 = l := by simp [lowAt]
theorem lowAt_all (l : List UInt8) : lowAt l l.length = l.map lowU := by simp [lowAt]
theorem lowAt_get (l : List UInt8) {k : Nat} (hk : k < l.length) : (lowAt l k)[k]?.getD 0 = l[k]?.getD 0 := by
  unfold lowAt
  rw [List.getElem?_append_right (by simp; omega), List.getElem?_drop]
  simp [Nat.min_eq_left (Nat.le_of_lt hk)]
theorem lowAt_set (l : List UInt8) {k : Nat} (hk : k < l.length) : (lowAt l k).set k (lowU (l[k]?.getD 0)) = lowAt l (k + 1) := by
  unfold lowAt
  have h1 : ((l.take k).map lowU).length = k := by simp; omega
  rw [List.set_append_right _ _ (by omega), h1, Nat.sub_self, List.drop_eq_getElem_cons hk, List.set_cons_zero, List.take_succ_eq_append_getElem hk, List.map_append, List.append_assoc, List.getElem?_eq_getElem hk]
  rfl
theorem lowAt_same (l : List UInt8) {k : Nat} (hk : k < l.length) (h : lowU (l[k]?.getD 0) = l[k]?.getD 0) : lowAt l k = lowAt l (k + 1) := by
  rw [← lowAt_set l hk, h]
  have := lowAt_get l hk
  have hlen : k < (lowAt l k).length := by simp [lowAt]; omega
  rw [List.getElem?_eq_getElem hlen] at this
  simp only [Option.getD_some] at this
  rw [← this, List.set_getElem_self]
theorem hexL_hi (l : List UInt8) : ∀ c ∈ hexL l, c.toNat ≤ 70 := by
  intro c hc
  simp only [hexL, List.mem_flatMap] at hc
  obtain ⟨x, _, hx⟩ := hc
  have : ∀ m, m < 16 → (figV m).toNat ≤ 70 := by decide
  simp at hx
  rcases hx with rfl | rfl
  · exact this _ (by have := x.toNat_lt; omega)
  · exact this _ (by omega)
def figsL (small : Bool) (l : List UInt8) : List UInt8 := if small then (hexL l).map lowU else hexL l
theorem figsL_length (small : Bool) (l : List UInt8) : (figsL small l).length = 2 * l.length := by
  unfold figsL
  cases small <;> simp [hexL_length]
def nameJ (j : Nat) : List UInt8 := namesL.getD j []
def partL (small : Bool) (j : Nat) : List UInt8 := figsL small (nameJ j)
def tellJ (j : Nat) : ByteArray := (askedP (ofL (partL false j))).1
def pairJ (j : Nat) : ByteArray × ByteArray := (ofL (nameJ j), (lookB (ofL (nameJ j))).1)
theorem part_asked : ∀ (small : Bool) (j : Nat), j < 12 → askedP (ofL (partL small j)) = (tellJ j, true) := by
  have : ∀ (small : Bool), ∀ j, j < 12 → askedP (ofL (partL small j)) = (tellJ j, true) := by decide +kernel
  exact this
theorem part_pair : ∀ (j : Nat), j < 12 → pairP (tellJ j) = some (pairJ j) := by
  have : ∀ j, j < 12 → pairP (tellJ j) = some (pairJ j) := by decide +kernel
  exact this
theorem part_no : ∀ (small : Bool) (j : Nat), j < 12 → (59 : UInt8) ∉ partL small j ∧ (partL small j).length ≤ 14 := by
  have : ∀ (small : Bool), ∀ j, j < 12 → (59 : UInt8) ∉ partL small j ∧ (partL small j).length ≤ 14 := by decide +kernel
  exact this
theorem tell_no : ∀ (j : Nat), j < 12 → (59 : UInt8) ∉ (tellJ j).data.toList ∧ (tellJ j).data.toList.length ≤ 40 := by
  have : ∀ j, j < 12 → (59 : UInt8) ∉ (tellJ j).data.toList ∧ (tellJ j).data.toList.length ≤ 40 := by decide +kernel
  exact this
theorem name_len : ∀ (j : Nat), j < 12 → (nameJ j).length ≤ 7 ∧ (lookB (ofL (nameJ j))).2 = true := by
  have : ∀ j, j < 12 → (nameJ j).length ≤ 7 ∧ (lookB (ofL (nameJ j))).2 = true := by decide +kernel
  exact this
def askJ (small : Bool) (js : List Nat) : List UInt8 := Lib.join (js.map (partL small)) [59]
def saidJ (js : List Nat) : ByteArray := ofL (Lib.join (js.map fun j => (tellJ j).data.toList) [59])
theorem askJ_step (small : Bool) (js : List Nat) {k : Nat} (hk : k < js.length) (h0 : 0 < k) : askJ small (js.take (k + 1)) = askJ small (js.take k) ++ 59 :: partL small js[k] := by
  unfold askJ
  rw [List.take_succ_eq_append_getElem hk, List.map_append, List.map_singleton, join_snoc _ _ (by simp; refine ⟨by omega, fun e => ?_⟩; rw [e] at hk; exact absurd hk (Nat.not_lt_zero _))]
theorem askJ_one (small : Bool) (js : List Nat) (hk : 0 < js.length) : askJ small (js.take 1) = partL small js[0] := by
  cases js with
  | nil => exact absurd hk (Nat.lt_irrefl _)
  | cons x l => simp [askJ, Lib.join_cons, Lib.joinTail]
theorem askJ_len (small : Bool) (js : List Nat) (hj : ∀ j ∈ js, j < 12) : (askJ small js).length ≤ js.length * 15 := by
  have := join_len [59] 14 (js.map (partL small)) (fun x hx => by obtain ⟨j, h, rfl⟩ := List.mem_map.1 hx; exact (part_no small j (hj j h)).2)
  unfold askJ
  simpa using this
theorem back_asked (small : Bool) (js : List Nat) (hne : js ≠ []) (hj : ∀ j ∈ js, j < 12) : askedL (ofL (askJ small js)) = js.map fun j => (tellJ j, true) := by
  unfold askJ
  rw [askedL_join _ (by simpa using hne) (fun x hx => by obtain ⟨j, h, rfl⟩ := List.mem_map.1 hx; exact (part_no small j (hj j h)).1), List.map_map]
  exact List.map_congr_left fun j h => part_asked small j (hj j h)
theorem said_size (js : List Nat) (hj : ∀ j ∈ js, j < 12) : (saidJ js).size ≤ js.length * 41 := by
  have := join_len [59] 40 (js.map fun j => (tellJ j).data.toList) (fun x hx => by obtain ⟨j, h, rfl⟩ := List.mem_map.1 hx; exact (tell_no j (hj j h)).2)
  show (Lib.join (js.map fun j => (tellJ j).data.toList) [59]).toArray.size ≤ _
  rw [List.size_toArray]
  simpa using this
theorem back_caps (small : Bool) (js : List Nat) (hne : js ≠ []) (h20 : js.length ≤ 20) (hj : ∀ j ∈ js, j < 12) : capsS (ofL (askJ small js)) = capsYes (saidJ js) := by
  have hA := back_asked small js hne hj
  have hD : capsData (ofL (askJ small js)) = saidJ js := by
    unfold capsData joinB saidJ
    rw [hA, List.map_map, List.map_map]
    rfl
  have hs := said_size js hj
  rw [capsS_eq, hD, if_pos]
  refine ⟨?_, by omega⟩
  rw [hA, List.all_map]
  exact List.all_eq_true.2 fun _ _ => rfl
theorem back_read (js : List Nat) (hne : js ≠ []) (hj : ∀ j ∈ js, j < 12) : readS (capsYes (saidJ js)) = some (js.map pairJ) := by
  have h1 : isReply (capsYes (saidJ js)) = true := decide_eq_true rfl
  have h2 : splitS 59 (saidJ js) = js.map tellJ := by
    unfold splitS saidJ
    rw [toList_ofL, splitL_join _ (by simpa using hne) (fun x hx => by obtain ⟨j, h, rfl⟩ := List.mem_map.1 hx; exact (tell_no j (hj j h)).1), List.map_map]
    exact List.map_congr_left fun j _ => ofL_toList _
  have h3 : (splitS 59 (saidJ js)).map pairP = js.map fun j => some (pairJ j) := by
    rw [h2, List.map_map]
    exact List.map_congr_left fun j h => part_pair j (hj j h)
  have h4 : ((splitS 59 (saidJ js)).map pairP).all (·.isSome) = true := by
    rw [h3, List.all_map]
    exact List.all_eq_true.2 fun _ _ => rfl
  have h5 : (splitS 59 (saidJ js)).filterMap pairP = js.map pairJ := by
    have e : (splitS 59 (saidJ js)).filterMap pairP = ((splitS 59 (saidJ js)).map pairP).filterMap id := by rw [List.filterMap_map]; rfl
    rw [e, h3, List.filterMap_map]
    show js.filterMap (fun j => some (pairJ j)) = _
    clear e h4 h3 h2 h1 hj hne
    induction js with
    | nil => rfl
    | cons x l ih => rw [List.filterMap_cons, List.map_cons, ih]
  unfold readS
  rw [h1, if_pos rfl]
  show (if ((splitS 59 (saidJ js)).map pairP).all (·.isSome) = true then _ else _) = _
  rw [if_pos h4]
  show some ((splitS 59 (saidJ js)).filterMap pairP) = _
  rw [h5]
theorem names_getD (j : Nat) (h : j < 12) : namesB.getD j ⟨#[]⟩ = ofL (nameJ j) := by
  have : ∀ j, j < 12 → namesB.getD j ⟨#[]⟩ = ofL (nameJ j) := by decide +kernel
  exact this j h
theorem flatP_at (js : List Nat) {k : Nat} (hk : k < js.length) : (flatP (js.map pairJ))[2 * k]? = some (.string (ofL (nameJ js[k]))) ∧ (flatP (js.map pairJ))[2 * k + 1]? = some (.string (lookB (ofL (nameJ js[k]))).1) := by
  induction js generalizing k with
  | nil => exact absurd hk (Nat.not_lt_zero _)
  | cons x l ih =>
    have e : flatP ((x :: l).map pairJ) = .string (ofL (nameJ x)) :: .string (lookB (ofL (nameJ x))).1 :: flatP (l.map pairJ) := rfl
    rw [e]
    cases k with
    | zero => exact ⟨rfl, rfl⟩
    | succ k =>
      have := ih (k := k) (by simpa using hk)
      rw [show 2 * (k + 1) = 2 * k + 1 + 1 by omega]
      simpa using this
namespace Kit
theorem Mine.setB {W0 w : World} {bs : Res} {g n c : Nat} {e : TypeId} {l : List UInt8} (HO : Mine W0 w ((g, IsBytes e n c l) :: bs)) {i : Nat} (hi : i < n) (ch : UInt8) :
    Mine W0 (w.setCell ⟨g, i, none⟩ (.int .u8 (ch.toNat : Int))) ((g, IsBytes e n c (l.set i ch)) :: bs) := by
  have hrow := (HO.row (.head _)).set hi ch
  have hg0 := (HO.held _ (.head _)).1
  refine ⟨HO.below.setCell (p := ⟨g, i, none⟩) hg0 _, HO.nodup, ?_⟩
  have hnd := HO.nodup
  rw [List.map_cons, List.nodup_cons] at hnd
  intro q hq
  rcases List.mem_cons.1 hq with rfl | hq
  · obtain ⟨cur, fz, h1, h2, h3, h4, h5⟩ := hrow
    exact ⟨hg0, _, h1, cur, fz, rfl, h2, h3, h4, h5⟩
  · obtain ⟨h1, o, h2, h3⟩ := HO.held q (.tail _ hq)
    refine ⟨h1, o, ?_, h3⟩
    have hne : g ≠ q.1 := fun e2 => hnd.1 (List.mem_map.2 ⟨q, hq, e2.symm⟩)
    obtain ⟨_, o2, h6, cur, fz, rfl, _⟩ := HO.held _ (.head _)
    rw [setCell_eq_setRow w g i cur e fz _ h6, setRow_other w g q.1 _ (Ne.symm hne)]
    exact h2
end Kit
end Go.Proofs.YtclnanhgcnopdaaDoor
end
section
namespace Go.Proofs.YtclnanhgcnopdaaDoor
set_option linter.unusedVariables false
set_option linter.unusedSimpArgs false
open Go.RowKit Kit G Go.Proofs.YtclnanhgcnopdaaDoorW.PrintWords
attribute [local irreducible] wpList Calls wpQuiet
theorem mod12 (x : Nat) : Int.tmod (x : Int) 12 = ((x % 12 : Nat) : Int) := by rw [Int.tmod_eq_emod_of_nonneg (by omega)]; omega
set_option maxRecDepth 100000 in
set_option maxHeartbeats 8000000 in
theorem capsBack_calls (A : Option Addr) (n c : Nat) (l : List UInt8) (small : Bool) (hl : l.length = n) (w : World) (hr : Reads w A (l.map byV)) : Calls Tryd.prog 5 #[.slice A n c, .bool small] w fun e w' => e = .returned (.bool true) ∧ Below w.heap.size w w' := by
  have HO := Mine.start w
  by_cases h20 : 20 < n
  · have b1 : decide ((20 : Int) < (n : Int)) = true := decide_eq_true (by omega)
    have b2 : decide (20 < n) = true := decide_eq_true h20
    clear hl hr
    go_enter Tryd.func5, Tryd.ntmps5
    go_wp2_with (go_at_call 8; refine (awake20_calls _).mono ?_; rintro eN wN ⟨rfl, hbN⟩; have HON := HO.call hbN; clear HO hbN; have HO := HON; clear HON)
    go_ret
    exact ⟨rfl, HO.below⟩
  have b1 : decide ((20 : Int) < (n : Int)) = false := decide_eq_false (by omega)
  have b2 : decide (20 < n) = false := decide_eq_false h20
  by_cases hz : n = 0
  · subst hz
    clear hl hr h20
    go_enter Tryd.func5, Tryd.ntmps5
    go_wp2_with (go_at_call 8; refine (awake20_calls _).mono ?_; rintro eN wN ⟨rfl, hbN⟩; have HON := HO.call hbN; clear HO hbN; have HO := HON; clear HON)
    go_ret
    exact ⟨rfl, HO.below⟩
  have b3 : ((n : Int) == 0) = false := beq_eq_false_iff_ne.2 (by omega)
  obtain ⟨js, hjs⟩ : ∃ js : List Nat, js = l.map (·.toNat % 12) := ⟨_, rfl⟩
  have hjl : js.length = n := by rw [hjs, List.length_map, hl]
  have hj12 : ∀ j ∈ js, j < 12 := fun j h => by rw [hjs] at h; obtain ⟨x, _, rfl⟩ := List.mem_map.1 h; omega
  have hne : js ≠ [] := fun e => hz (by rw [← hjl, e]; rfl)
  have hjk : ∀ (k : Nat) (h : k < js.length) (h2 : k < l.length), js[k] = (l[k]'h2).toNat % 12 := fun k h h2 => by subst hjs; simp
  obtain ⟨A0, hA0⟩ : ∃ A0 : Addr, A = some A0 ∧ A0.spot = none := by
    obtain ⟨b0, o0, he, _⟩ := hr 0 (byV (l[0]'(by omega))) (by rw [List.getElem?_map, List.getElem?_eq_getElem (by omega)]; rfl)
    exact ⟨_, he, rfl⟩
  obtain ⟨bA, oA, sA⟩ := A0
  obtain ⟨rfl, hsA⟩ := hA0
  have hsA : sA = none := hsA
  subst hsA
  have hwr : ∀ (W : World), Below w.heap.size w W → ∀ (k : Nat) (h : k < l.length), W.cell? ⟨bA, oA + k, none⟩ = some (.int .u8 ((l[k].toNat : Nat) : Int)) := fun W hW k h => by
    obtain ⟨b', o', he, hc⟩ := (hr.below hW) k (byV l[k]) (by rw [List.getElem?_map, List.getElem?_eq_getElem h]; rfl)
    cases he
    exact hc
  have HWR := Lib.hid hwr
  have HJK := Lib.hid hjk
  have HJ12 := Lib.hid hj12
  have HL := Lib.hid (show l.length = n ∧ js.length = n ∧ n ≤ 20 ∧ 0 < n from ⟨hl, hjl, by omega, by omega⟩)
  have HBC := Lib.hid (back_caps small js hne (by omega) hj12)
  have HBR := Lib.hid (back_read js hne hj12)
  have hss := said_size js hj12
  have HSS := Lib.hid (show (saidJ js).size ≤ 1000 by omega)
  clear hwr hjk hj12 hl hjl hne hr hjs hz hss h20
  go_enter Tryd.func5, Tryd.ntmps5
  go_wp2_with (first
    | (go_at_call 8; refine (awake20_calls _).mono ?_; rintro eN wN ⟨rfl, hbN⟩; have HON := HO.call hbN; clear HO hbN; have HO := HON; clear HON)
    | (go_at_call 15; refine (namesG_calls _).mono ?_; rintro eN wN ⟨b, cB, RN, rfl, hGR, HM⟩; have HGR := Lib.hid hGR; clear hGR; have HON := HO.join HM; clear HO HM; have HO := HON; clear HON; (simp only [List.nil_append, List.cons_append] at HO)))
  have hnr : ∀ (W : World), Reads W (some ⟨b, 0, none⟩) (namesB.map Value.string) → ∀ j, j < 12 → W.cell? ⟨b, j, none⟩ = some (.string (ofL (nameJ j))) := fun W h j hj => by
    obtain ⟨b', o', he, hc⟩ := h j (.string (namesB.getD j ⟨#[]⟩)) (by
      have hl : namesB.length = 12 := rfl
      rw [List.getElem?_map, List.getD_eq_getElem?_getD, List.getElem?_eq_getElem (by omega)]; rfl)
    cases he
    rw [Nat.zero_add, names_getD j hj] at hc
    exact hc
  have HNR := Lib.hid hnr
  clear hnr
  go_loopw [7, 8] (fun a i wr => ∃ k : Nat, k ≤ n ∧ i = .int .i64 k ∧ ∃ p q c R, a = .slice p q c ∧ GRow 5 (.slice p q c) ((askJ small (js.take k)).map byV) R ∧ Mine w wr (RN ++ R)) (fun _ i _ => n - (intOf i).toNat)
  case atStart => exact ⟨0, Nat.zero_le _, rfl, none, 0, 0, [], rfl, by simpa [askJ, Lib.join_nil] using GRow.nil 5, by rw [List.append_nil]; exact HO⟩
  case round =>
    obtain ⟨k, hk, rfl, p, q, c2, R, rfl, hR, HO2⟩ := hrel
    clear HO
    have HO := HO2
    clear HO2
    have HR := Lib.hid hR
    clear hR
    by_cases hlt : k < n
    · have hl1 : decide ((k : Int) < (n : Int)) = true := decide_eq_true (by omega)
      have hkl : k < l.length := by rw [HL.out.1]; exact hlt
      have hkj : k < js.length := by rw [HL.out.2.1]; exact hlt
      have hcw := HWR.out _ HO.below k hkl
      obtain ⟨x, hx⟩ : ∃ x : Nat, (l[k]'hkl).toNat = x := ⟨_, rfl⟩
      have hx256 : x < 256 := by rw [← hx]; exact (l[k]'hkl).toNat_lt
      rw [hx] at hcw
      obtain ⟨j, hj⟩ : ∃ j, js[k]'hkj = j := ⟨_, rfl⟩
      have hjx : j = x % 12 := by rw [← hj, HJK.out k hkj hkl, hx]
      have hj12 : j < 12 := by omega
      have hmod : Int.tmod (x : Int) 12 = (j : Int) := by rw [mod12, hjx]
      have hw1 : IntKind.i64.wrap (x : Int) = (x : Int) := IntWalk.i64_in _ (by omega)
      obtain ⟨NM, hNM⟩ : ∃ NM : ByteArray, NM = ofL (nameJ j) := ⟨_, rfl⟩
      obtain ⟨HX, hHX⟩ : ∃ HX : ByteArray, HX = ⟨(hexL (nameJ j)).toArray⟩ := ⟨_, rfl⟩
      have hcn := HNR.out _ (HGR.out.readsT HO.left .here).2.1 j hj12
      rw [← hNM] at hcn
      have hNMd : NM.data.toList = nameJ j := by rw [hNM]; rfl
      have hNMs : NM.size = (nameJ j).length := by rw [← hNMd]; simp
      have hHXd : HX.data.toList = hexL (nameJ j) := by rw [hHX]
      have hHXs : HX.size = (hexL (nameJ j)).length := by rw [← hHXd]; simp
      have HHX : Hid (∀ (p : Option Addr) (c : Nat) (W : World), Reads W p (NM.data.toList.map byV) → Calls Tryd.prog 16 #[.slice p NM.size c] W fun e w' => e = .returned (.string HX) ∧ Below W.heap.size W w') := Lib.hid fun p c W h => by
        rw [hHX]
        rw [hNMd] at h
        exact refHex_calls p NM.size c (nameJ j) W hNMs.symm (by have := (name_len j hj12).1; omega) h
      have HXF : Hid (HX.data.toList = partL false j) := Lib.hid hHXd
      have HXD := Lib.hid hHXd
      have HXL : Hid ((hexL (nameJ j)).length = HX.size) := Lib.hid hHXs.symm
      have HXT : Hid (lowAt (hexL (nameJ j)) HX.size = partL true j) := Lib.hid (by rw [hHXs, lowAt_all]; rfl)
      have hp14 := fun s => (part_no s j hj12).2
      have hpl : ∀ s, (partL s j).length = HX.size := fun s => by unfold partL; rw [figsL_length, hHXs, hexL_length]
      have HPL : Hid (∀ s, ((partL s j).map byV).length = HX.size) := Lib.hid fun s => by rw [List.length_map]; exact hpl s
      have HP1 : Hid (∀ s, ∀ u ∈ (partL s j).map byV, u.oneCell' = true) := Lib.hid fun s u hu => by obtain ⟨x, _, rfl⟩ := List.mem_map.1 hu; rfl
      have hak := askJ_len small (js.take k) (fun y hy => HJ12.out y (List.mem_of_mem_take hy))
      have hHX14 : HX.size ≤ 14 := by rw [← hpl false]; exact hp14 false
      rw [List.length_take] at hak
      have hL := HL.out
      have hnz : ∀ j, j < 12 → 0 < (nameJ j).length := by decide +kernel
      have hnz2 := hnz j hj12
      have HXZ : Hid (0 < HX.size) := Lib.hid (by rw [hHXs, hexL_length]; omega)
      clear hnz
      have hn20 : n ≤ 20 := HL.out.2.2.1
      by_cases h0 : 0 < k
      · have hp : decide ((0 : Int) < (k : Int)) = true := decide_eq_true (by omega)
        have hp2 : decide (0 < k) = true := decide_eq_true h0
        have HST := Lib.hid (askJ_step small js hkj h0)
        have HH65 : Hid (((askJ small (js.take k)).map byV).length + 1 ≤ maxLen ∧ (((askJ small (js.take k)).map byV).length + 1) * 1 ≤ 140737488355328) := Lib.hid (by rw [List.length_map]; unfold maxLen; omega)
        have HH63 : Hid (((askJ small (js.take k)).map byV ++ [Value.int .u8 59]).length + HX.size ≤ maxLen) := Lib.hid (by rw [List.length_append, List.length_map]; unfold maxLen; simp; omega)
        have HH64 : Hid ((((askJ small (js.take k)).map byV ++ [Value.int .u8 59]).length + HX.size) * 1 ≤ 140737488355328) := Lib.hid (by rw [List.length_append, List.length_map]; simp; omega)
        have HKN := Lib.hid hlt
        simp only [hj] at HST
        clear h0 hk hNMd hNMs hHXd hHXs hHX hNM hp14 hpl hak hL hjx hx hj hkl hkj
        go_wp2_with (first
      | (go_at_call 16; refine (HHX.out (some ⟨gB, 0, none⟩) cBB _ (HO.row (.head _)).reads).mono ?_; rintro eN wN ⟨rfl, hbN⟩; have HON := HO.call hbN; clear HO hbN; have HO := HON; clear HON)
      | ((with_reducible refine gate ?_); (first
      | ((with_reducible refine gateAt (N := 48) rfl ?_); refine own_bytesF (s := NM) (e := 5) HO rfl rfl (by first | exact .const | exact .tmp rfl) Tryd.underlying9 Tryd.underlying33 Tryd.underlying5 ?_; clear HO; intro gB cBB wN hggB HO; (try simp only [Act.put, List.setIfInBounds_toArray, List.set_cons_zero, List.set_cons_succ]))
      | ((with_reducible refine gateAt (N := 50) rfl ?_); refine own_bytesF (s := HX) (e := 5) HO rfl rfl (by first | exact .const | exact .tmp rfl) Tryd.underlying9 Tryd.underlying33 Tryd.underlying5 ?_; clear HO; intro gH cH wN hggH HO; (try simp only [Act.put, List.setIfInBounds_toArray, List.set_cons_zero, List.set_cons_succ])))))
        cases small
        · go_loopw [10] (fun i wr => i = .int .i64 0 ∧ Mine w wr ((gH, IsBytes 5 HX.size cH HX.data.toList) :: (gB, IsBytes 5 NM.size cBB NM.data.toList) :: (RN ++ R))) (fun i _ => HX.size - (intOf i).toNat)
          case atStart => exact ⟨rfl, HO⟩
          case round =>
            obtain ⟨rfl, HO2⟩ := hrel
            clear HO
            have HO3 : Mine w wr ((gH, IsBytes 5 HX.size cH (partL false j)) :: (gB, IsBytes 5 NM.size cBB NM.data.toList) :: (RN ++ R)) := by rw [← HXF.out]; exact HO2
            clear HO2
            have HO := HO3
            clear HO3
            have k1 : decide ((0 : Int) < (HX.size : Int)) = true := decide_eq_true (by have := HXZ.out; omega)
            have k2 : decide (0 < HX.size) = true := decide_eq_true (by have := HXZ.out; omega)
            go_wp2_with (first
      | ((with_reducible refine gate ?_); (first
      | ((with_reducible refine gateAt (N := 76) rfl ?_); refine own_litF HO rfl (n := 1) (cs := [.int .u8 59]) (T := 5) (by first | (go_simp; done) | (go_simp; rfl)) ?_; clear HO; intro gE wN hggE HO; (try simp only [Act.put, List.setIfInBounds_toArray, List.set_cons_zero, List.set_cons_succ]))
      | ((with_reducible refine gateAt (N := 77) rfl ?_); refine own_append1 (T := 5) (t := 33) (z := .int .u8 0) (bytes := 1) HO HR.out (by repeat (first | exact Tl.here | exact Tl.app | apply Tl.cons)) rfl rfl (.tmp rfl) (.tmp rfl) (by first | exact .head _ | exact .tail _ (.head _) | exact .tail _ (.tail _ (.head _)) | exact .tail _ (.tail _ (.tail _ (.head _))) | exact .tail _ (.tail _ (.tail _ (.tail _ (.head _)))) | exact .tail _ (.tail _ (.tail _ (.tail _ (.tail _ (.head _))))) | exact .tail _ (.tail _ (.tail _ (.tail _ (.tail _ (.tail _ (.head _)))))) | exact .tail _ (.tail _ (.tail _ (.tail _ (.tail _ (.tail _ (.tail _ (.head _)))))))) Tryd.underlying33 (by kernel_rfl) (by rfl) (by rfl) HH65.out ?_; clear HO; intro p2 n2 c2 wN R2 hR2 HO; (simp only [List.nil_append, List.cons_append] at HO); (try simp only [Act.put, List.setIfInBounds_toArray, List.set_cons_zero, List.set_cons_succ]))
      | ((with_reducible refine gateAt (N := 80) rfl ?_); refine own_append (T := 5) (t := 33) (z := .int .u8 0) (bytes := 1) (news := (partL false j).map byV) HO hR2 (by repeat (first | exact Tl.here | exact Tl.app | apply Tl.cons)) rfl rfl (.tmp rfl) (.tmp rfl) Tryd.underlying33 (by kernel_rfl) (by rfl) (HPL.out _) (HO.row (n := HX.size) (c := cH) (e := 5) (by first | exact .head _ | exact .tail _ (.head _) | exact .tail _ (.tail _ (.head _)) | exact .tail _ (.tail _ (.tail _ (.head _))))).reads (HP1.out _) HH63.out HH64.out ?_; clear HO; intro p3 n3 c3 wN R3 hR3 HO; (simp only [List.nil_append, List.cons_append] at HO); (try simp only [Act.put, List.setIfInBounds_toArray, List.set_cons_zero, List.set_cons_succ])))))
            go_roundw
            case rel => exact ⟨k + 1, HKN.out, by go_num, p3, n3, c3, R3, rfl, by rw [HST.out]; simpa [List.map_append, byV] using hR3, HO.less (.cons _ (.cons _ (.cons _ (List.Sublist.refl _))))⟩
            case measure => have := HKN.out; simp [intOf]; try omega
        · go_loopw [10] (fun i wr => ∃ q : Nat, q ≤ HX.size ∧ i = .int .i64 q ∧ Mine w wr ((gH, IsBytes 5 HX.size cH (lowAt (hexL (nameJ j)) q)) :: (gB, IsBytes 5 NM.size cBB NM.data.toList) :: (RN ++ R))) (fun i _ => HX.size - (intOf i).toNat)
          case atStart => exact ⟨0, Nat.zero_le _, rfl, by rw [lowAt_zero, ← HXD.out]; exact HO⟩
          case round =>
            obtain ⟨q, hq, rfl, HO2⟩ := hrel
            clear HO
            by_cases hqt : q < HX.size
            · have k1 : decide ((q : Int) < (HX.size : Int)) = true := decide_eq_true (by omega)
              have hkl : q < (hexL (nameJ j)).length := by rw [HXL.out]; exact hqt
              obtain ⟨x, hx⟩ : ∃ x : UInt8, x = (hexL (nameJ j))[q]?.getD 0 := ⟨_, rfl⟩
              have hx70 : x.toNat ≤ 70 := by rw [hx, List.getElem?_eq_getElem hkl]; exact hexL_hi _ _ (List.getElem_mem hkl)
              have hcell := (HO2.row (.head _)).cell hqt
              have hfree := (HO2.row (.head _)).free hqt
              rw [lowAt_get _ hkl, ← hx] at hcell
              by_cases hbig : 65 ≤ x.toNat
              · have k2 : decide ((65 : Int) ≤ (x.toNat : Int)) = true := decide_eq_true (by omega)
                have hlow : (lowU x).toNat = x.toNat + 32 := by unfold lowU; rw [if_pos hbig, UInt8.toNat_ofNat']; omega
                have k3 : IntKind.u8.wrap ((x.toNat : Int) + 32) = (x.toNat : Int) + 32 := IntWalk.u8_in _ (by omega)
                have hset := HO2.setB hqt (lowU x)
                rw [hx, lowAt_set _ hkl, ← hx, hlow] at hset
                have hset2 : Mine w (wr.setCell ⟨gH, q, none⟩ (.int .u8 ((x.toNat : Int) + 32))) ((gH, IsBytes 5 HX.size cH (lowAt (hexL (nameJ j)) (q + 1))) :: (gB, IsBytes 5 NM.size cBB NM.data.toList) :: (RN ++ R)) := by simpa using hset
                have HSET := Lib.hid hset2
                clear hset hset2 HO2 hlow hx hx70
                go_wp2
                go_roundw
                case rel => exact ⟨q + 1, by omega, by go_num, HSET.out⟩
                case measure => simp [intOf]; try omega
              · have k2 : decide ((65 : Int) ≤ (x.toNat : Int)) = false := decide_eq_false (by omega)
                have hsame : lowAt (hexL (nameJ j)) q = lowAt (hexL (nameJ j)) (q + 1) := lowAt_same _ hkl (by rw [← hx]; unfold lowU; rw [if_neg hbig])
                rw [hsame] at HO2
                have HSET := Lib.hid HO2
                clear HO2 hx hx70 hsame
                go_wp2
                go_roundw
                case rel => exact ⟨q + 1, by omega, by go_num, HSET.out⟩
                case measure => simp [intOf]; try omega
            · obtain rfl : q = HX.size := by omega
              have k1 : decide ((HX.size : Int) < (HX.size : Int)) = false := decide_eq_false (by omega)
              have HO : Mine w wr ((gH, IsBytes 5 HX.size cH (partL true j)) :: (gB, IsBytes 5 NM.size cBB NM.data.toList) :: (RN ++ R)) := by rw [← HXT.out]; exact HO2
              clear HO2
              go_wp2_with (first
      | ((with_reducible refine gate ?_); (first
      | ((with_reducible refine gateAt (N := 76) rfl ?_); refine own_litF HO rfl (n := 1) (cs := [.int .u8 59]) (T := 5) (by first | (go_simp; done) | (go_simp; rfl)) ?_; clear HO; intro gE wN hggE HO; (try simp only [Act.put, List.setIfInBounds_toArray, List.set_cons_zero, List.set_cons_succ]))
      | ((with_reducible refine gateAt (N := 77) rfl ?_); refine own_append1 (T := 5) (t := 33) (z := .int .u8 0) (bytes := 1) HO HR.out (by repeat (first | exact Tl.here | exact Tl.app | apply Tl.cons)) rfl rfl (.tmp rfl) (.tmp rfl) (by first | exact .head _ | exact .tail _ (.head _) | exact .tail _ (.tail _ (.head _)) | exact .tail _ (.tail _ (.tail _ (.head _))) | exact .tail _ (.tail _ (.tail _ (.tail _ (.head _)))) | exact .tail _ (.tail _ (.tail _ (.tail _ (.tail _ (.head _))))) | exact .tail _ (.tail _ (.tail _ (.tail _ (.tail _ (.tail _ (.head _)))))) | exact .tail _ (.tail _ (.tail _ (.tail _ (.tail _ (.tail _ (.tail _ (.head _)))))))) Tryd.underlying33 (by kernel_rfl) (by rfl) (by rfl) HH65.out ?_; clear HO; intro p2 n2 c2 wN R2 hR2 HO; (simp only [List.nil_append, List.cons_append] at HO); (try simp only [Act.put, List.setIfInBounds_toArray, List.set_cons_zero, List.set_cons_succ]))
      | ((with_reducible refine gateAt (N := 80) rfl ?_); refine own_append (T := 5) (t := 33) (z := .int .u8 0) (bytes := 1) (news := (partL true j).map byV) HO hR2 (by repeat (first | exact Tl.here | exact Tl.app | apply Tl.cons)) rfl rfl (.tmp rfl) (.tmp rfl) Tryd.underlying33 (by kernel_rfl) (by rfl) (HPL.out _) (HO.row (n := HX.size) (c := cH) (e := 5) (by first | exact .head _ | exact .tail _ (.head _) | exact .tail _ (.tail _ (.head _)) | exact .tail _ (.tail _ (.tail _ (.head _))))).reads (HP1.out _) HH63.out HH64.out ?_; clear HO; intro p3 n3 c3 wN R3 hR3 HO; (simp only [List.nil_append, List.cons_append] at HO); (try simp only [Act.put, List.setIfInBounds_toArray, List.set_cons_zero, List.set_cons_succ])))))
              go_roundw
              case rel => exact ⟨k + 1, HKN.out, by go_num, p3, n3, c3, R3, rfl, by rw [HST.out]; simpa [List.map_append, byV] using hR3, HO.less (.cons _ (.cons _ (.cons _ (List.Sublist.refl _))))⟩
              case measure => have := HKN.out; simp [intOf]; try omega
      · obtain rfl : k = 0 := by omega
        rw [Nat.add_zero] at hcw
        have HST := Lib.hid (askJ_one small js hkj)
        have HH63 : Hid (((askJ small (js.take 0)).map byV).length + HX.size ≤ maxLen) := Lib.hid (by rw [List.length_map]; unfold maxLen; omega)
        have HH64 : Hid ((((askJ small (js.take 0)).map byV).length + HX.size) * 1 ≤ 140737488355328) := Lib.hid (by rw [List.length_map]; omega)
        have HKN := Lib.hid hlt
        simp only [hj] at HST
        clear h0 hk hNMd hNMs hHXd hHXs hHX hNM hp14 hpl hak hL hjx hx hj hkl hkj
        go_wp2_with (first
      | (go_at_call 16; refine (HHX.out (some ⟨gB, 0, none⟩) cBB _ (HO.row (.head _)).reads).mono ?_; rintro eN wN ⟨rfl, hbN⟩; have HON := HO.call hbN; clear HO hbN; have HO := HON; clear HON)
      | ((with_reducible refine gate ?_); (first
      | ((with_reducible refine gateAt (N := 48) rfl ?_); refine own_bytesF (s := NM) (e := 5) HO rfl rfl (by first | exact .const | exact .tmp rfl) Tryd.underlying9 Tryd.underlying33 Tryd.underlying5 ?_; clear HO; intro gB cBB wN hggB HO; (try simp only [Act.put, List.setIfInBounds_toArray, List.set_cons_zero, List.set_cons_succ]))
      | ((with_reducible refine gateAt (N := 50) rfl ?_); refine own_bytesF (s := HX) (e := 5) HO rfl rfl (by first | exact .const | exact .tmp rfl) Tryd.underlying9 Tryd.underlying33 Tryd.underlying5 ?_; clear HO; intro gH cH wN hggH HO; (try simp only [Act.put, List.setIfInBounds_toArray, List.set_cons_zero, List.set_cons_succ])))))
        cases small
        · go_loopw [10] (fun i wr => i = .int .i64 0 ∧ Mine w wr ((gH, IsBytes 5 HX.size cH HX.data.toList) :: (gB, IsBytes 5 NM.size cBB NM.data.toList) :: (RN ++ R))) (fun i _ => HX.size - (intOf i).toNat)
          case atStart => exact ⟨rfl, HO⟩
          case round =>
            obtain ⟨rfl, HO2⟩ := hrel
            clear HO
            have HO3 : Mine w wr ((gH, IsBytes 5 HX.size cH (partL false j)) :: (gB, IsBytes 5 NM.size cBB NM.data.toList) :: (RN ++ R)) := by rw [← HXF.out]; exact HO2
            clear HO2
            have HO := HO3
            clear HO3
            have k1 : decide ((0 : Int) < (HX.size : Int)) = true := decide_eq_true (by have := HXZ.out; omega)
            have k2 : decide (0 < HX.size) = true := decide_eq_true (by have := HXZ.out; omega)
            go_wp2_with (first
      | ((with_reducible refine gate ?_); (first
      | ((with_reducible refine gateAt (N := 80) rfl ?_); refine own_append (T := 5) (t := 33) (z := .int .u8 0) (bytes := 1) (news := (partL false j).map byV) HO HR.out (by repeat (first | exact Tl.here | exact Tl.app | apply Tl.cons)) rfl rfl (.tmp rfl) (.tmp rfl) Tryd.underlying33 (by kernel_rfl) (by rfl) (HPL.out _) (HO.row (n := HX.size) (c := cH) (e := 5) (by first | exact .head _ | exact .tail _ (.head _) | exact .tail _ (.tail _ (.head _)) | exact .tail _ (.tail _ (.tail _ (.head _))))).reads (HP1.out _) HH63.out HH64.out ?_; clear HO; intro p3 n3 c3 wN R3 hR3 HO; (simp only [List.nil_append, List.cons_append] at HO); (try simp only [Act.put, List.setIfInBounds_toArray, List.set_cons_zero, List.set_cons_succ])))))
            go_roundw
            case rel => exact ⟨1, by have := HKN.out; omega, rfl, p3, n3, c3, R3, rfl, by rw [HST.out]; simpa [askJ, Lib.join_nil] using hR3, HO.less (.cons _ (.cons _ (List.Sublist.refl _)))⟩
            case measure => have := HKN.out; simp [intOf]; try omega
        · go_loopw [10] (fun i wr => ∃ q : Nat, q ≤ HX.size ∧ i = .int .i64 q ∧ Mine w wr ((gH, IsBytes 5 HX.size cH (lowAt (hexL (nameJ j)) q)) :: (gB, IsBytes 5 NM.size cBB NM.data.toList) :: (RN ++ R))) (fun i _ => HX.size - (intOf i).toNat)
          case atStart => exact ⟨0, Nat.zero_le _, rfl, by rw [lowAt_zero, ← HXD.out]; exact HO⟩
          case round =>
            obtain ⟨q, hq, rfl, HO2⟩ := hrel
            clear HO
            by_cases hqt : q < HX.size
            · have k1 : decide ((q : Int) < (HX.size : Int)) = true := decide_eq_true (by omega)
              have hkl : q < (hexL (nameJ j)).length := by rw [HXL.out]; exact hqt
              obtain ⟨x, hx⟩ : ∃ x : UInt8, x = (hexL (nameJ j))[q]?.getD 0 := ⟨_, rfl⟩
              have hx70 : x.toNat ≤ 70 := by rw [hx, List.getElem?_eq_getElem hkl]; exact hexL_hi _ _ (List.getElem_mem hkl)
              have hcell := (HO2.row (.head _)).cell hqt
              have hfree := (HO2.row (.head _)).free hqt
              rw [lowAt_get _ hkl, ← hx] at hcell
              by_cases hbig : 65 ≤ x.toNat
              · have k2 : decide ((65 : Int) ≤ (x.toNat : Int)) = true := decide_eq_true (by omega)
                have hlow : (lowU x).toNat = x.toNat + 32 := by unfold lowU; rw [if_pos hbig, UInt8.toNat_ofNat']; omega
                have k3 : IntKind.u8.wrap ((x.toNat : Int) + 32) = (x.toNat : Int) + 32 := IntWalk.u8_in _ (by omega)
                have hset := HO2.setB hqt (lowU x)
                rw [hx, lowAt_set _ hkl, ← hx, hlow] at hset
                have hset2 : Mine w (wr.setCell ⟨gH, q, none⟩ (.int .u8 ((x.toNat : Int) + 32))) ((gH, IsBytes 5 HX.size cH (lowAt (hexL (nameJ j)) (q + 1))) :: (gB, IsBytes 5 NM.size cBB NM.data.toList) :: (RN ++ R)) := by simpa using hset
                have HSET := Lib.hid hset2
                clear hset hset2 HO2 hlow hx hx70
                go_wp2
                go_roundw
                case rel => exact ⟨q + 1, by omega, by go_num, HSET.out⟩
                case measure => simp [intOf]; try omega
              · have k2 : decide ((65 : Int) ≤ (x.toNat : Int)) = false := decide_eq_false (by omega)
                have hsame : lowAt (hexL (nameJ j)) q = lowAt (hexL (nameJ j)) (q + 1) := lowAt_same _ hkl (by rw [← hx]; unfold lowU; rw [if_neg hbig])
                rw [hsame] at HO2
                have HSET := Lib.hid HO2
                clear HO2 hx hx70 hsame
                go_wp2
                go_roundw
                case rel => exact ⟨q + 1, by omega, by go_num, HSET.out⟩
                case measure => simp [intOf]; try omega
            · obtain rfl : q = HX.size := by omega
              have k1 : decide ((HX.size : Int) < (HX.size : Int)) = false := decide_eq_false (by omega)
              have HO : Mine w wr ((gH, IsBytes 5 HX.size cH (partL true j)) :: (gB, IsBytes 5 NM.size cBB NM.data.toList) :: (RN ++ R)) := by rw [← HXT.out]; exact HO2
              clear HO2
              go_wp2_with (first
      | ((with_reducible refine gate ?_); (first
      | ((with_reducible refine gateAt (N := 80) rfl ?_); refine own_append (T := 5) (t := 33) (z := .int .u8 0) (bytes := 1) (news := (partL true j).map byV) HO HR.out (by repeat (first | exact Tl.here | exact Tl.app | apply Tl.cons)) rfl rfl (.tmp rfl) (.tmp rfl) Tryd.underlying33 (by kernel_rfl) (by rfl) (HPL.out _) (HO.row (n := HX.size) (c := cH) (e := 5) (by first | exact .head _ | exact .tail _ (.head _) | exact .tail _ (.tail _ (.head _)) | exact .tail _ (.tail _ (.tail _ (.head _))))).reads (HP1.out _) HH63.out HH64.out ?_; clear HO; intro p3 n3 c3 wN R3 hR3 HO; (simp only [List.nil_append, List.cons_append] at HO); (try simp only [Act.put, List.setIfInBounds_toArray, List.set_cons_zero, List.set_cons_succ])))))
              go_roundw
              case rel => exact ⟨1, by have := HKN.out; omega, rfl, p3, n3, c3, R3, rfl, by rw [HST.out]; simpa [askJ, Lib.join_nil] using hR3, HO.less (.cons _ (.cons _ (List.Sublist.refl _)))⟩
              case measure => have := HKN.out; simp [intOf]; try omega
    · obtain rfl : k = n := by omega
      have hl1 : decide ((k : Int) < (k : Int)) = false := decide_eq_false (by omega)
      have htk : js.take k = js := List.take_of_length_le (by rw [HL.out.2.1]; exact Nat.le_refl _)
      rw [htk] at HR
      have hL := HL.out
      have hal := askJ_len small js HJ12.out
      have ha := fun W => one_known (answer_calls ⟨(askJ small js).toArray⟩ (by show (askJ small js).toArray.size ≤ _; rw [List.size_toArray]; omega) W) 1 (by rw [show capsS ⟨(askJ small js).toArray⟩ = capsYes (saidJ js) from HBC.out]; rfl)
      rw [show capsS ⟨(askJ small js).toArray⟩ = ⟨3, 0, [[1]], ⟨#[43]⟩, 114, saidJ js⟩ from HBC.out] at ha
      have HA := Lib.hid ha
      have hlen : (js.map pairJ).length = k := by rw [List.length_map]; exact hL.2.1
      have HRD : Hid (∀ (g1 g2 : Nat) (W : World), W.heap[g1]? = some (.cells [Value.int .i64 1].toArray 3 (0, 0)) → W.heap[g2]? = some (.cells [Value.slice (some ⟨g1, 0, none⟩) 1 1].toArray 45 (0, 0)) →
          Calls Tryd.prog 17 #[.agg #[.int .i64 3, .int .u8 0, .slice (some ⟨g2, 0, none⟩) 1 1, .string ⟨#[43]⟩, .int .u8 114, .string (saidJ js)]] W fun e w' => (∃ p c, e = .returned (.tuple #[.slice p k c, .bool true]) ∧ k ≤ c ∧ Reads w' p (flatP (js.map pairJ))) ∧ Below W.heap.size W w') := Lib.hid fun g1 g2 W h1 h2 => by
        have h := read_calls (capsYes (saidJ js)) (some ⟨g2, 0, none⟩) 1 W (rows_one1 h1 h2) (by have := HSS.out; show (saidJ js).size ≤ _; omega)
        rw [HBR.out] at h
        unfold ReadAns at h
        simp only [hlen] at h
        exact h
      obtain ⟨hnn, hrr, _, _⟩ := HR.out.readsT HO .app
      rw [List.length_map] at hnn
      have hcv := run_str_of (P := Tryd.prog) (src := 33) (dst := 9) (c := c2) Tryd.underlying33 Tryd.underlying5 Tryd.underlying9 hrr hnn.symm
      have hbb : ((k : Int) != (k : Int)) = false := by simp
      clear hrr hnn hlt hk htk ha hal hlen hL
      go_wp2_with (first | (go_at_call 12; refine (HA.out _).mono ?_; rintro eN wN ⟨g1, g2, rfl, HM⟩; clear hcv; have HON := (HO.join HM).perm List.perm_append_comm; clear HO HM; have HO := HON; clear HON; (simp only [List.nil_append, List.cons_append] at HO)) | (go_at_call 17; refine (HRD.out g1 g2 _ (HO.at (.tail _ (.head _))) (HO.at (.head _))).mono ?_; rintro eN wX ⟨⟨pP, cP, rfl, hcP, hrP⟩, hbN⟩; have HRP := Lib.hid hrP; clear hrP; have HON := HO.call hbN; clear HO hbN; have HO := HON; clear HON))
      have hk0 := HL.out.2.2.2
      obtain ⟨⟨bP, oP, sP⟩, hP, hs⟩ : ∃ A1 : Addr, pP = some A1 ∧ A1.spot = none := by
        obtain ⟨b0, o0, he, _⟩ := HRP.out 0 _ (flatP_at js (k := 0) (by rw [HL.out.2.1]; exact hk0)).1
        exact ⟨_, he, rfl⟩
      subst hP
      have hs : sP = none := hs
      subst hs
      have hpr : ∀ (W : World), Below wX.heap.size wX W → ∀ (i : Nat) (h : i < js.length), W.cell? ⟨bP, oP + 2 * i, none⟩ = some (.string (ofL (nameJ js[i]))) ∧ W.cell? ⟨bP, oP + 2 * i + 1, none⟩ = some (.string (lookB (ofL (nameJ js[i]))).1) := fun W hW i h => by
        obtain ⟨h1, h2⟩ := flatP_at js h
        obtain ⟨b1, o1, e1, c1⟩ := (HRP.out.below hW) _ _ h1
        obtain ⟨b2, o2, e2, c2⟩ := (HRP.out.below hW) _ _ h2
        cases e1
        cases e2
        exact ⟨c1, by rw [Nat.add_assoc]; exact c2⟩
      have HPR := Lib.hid hpr
      have HO4 : Mine w wX (RN ++ R) := HO.less (.cons _ (.cons _ (List.Sublist.refl _)))
      have hnx : ∀ (W : World), Below wX.heap.size wX W → ∀ j, j < 12 → W.cell? ⟨b, j, none⟩ = some (.string (ofL (nameJ j))) := fun W hW => HNR.out W ((HGR.out.readsT HO4.left .here).2.1.below hW)
      have HNX := Lib.hid hnx
      have HBX := Lib.hid HO.below
      clear hpr hnx
      go_loopw [13] (fun i wr => ∃ m : Nat, m ≤ k ∧ i = .int .i64 m ∧ Below wX.heap.size wX wr) (fun i _ => k - (intOf i).toNat)
      case atStart => exact ⟨0, Nat.zero_le _, rfl, Below.refl _ _⟩
      case round =>
        obtain ⟨m, hm, rfl, hB⟩ := hrel
        by_cases hmk : m < k
        · have hm1 : decide ((m : Int) < (k : Int)) = true := decide_eq_true (by omega)
          have hkl : m < l.length := by rw [HL.out.1]; exact hmk
          have hkj : m < js.length := by rw [HL.out.2.1]; exact hmk
          have hcw := HWR.out _ (HBX.out.trans (hB.mono HBX.out.size)) m hkl
          obtain ⟨x, hx⟩ : ∃ x : Nat, (l[m]'hkl).toNat = x := ⟨_, rfl⟩
          have hx256 : x < 256 := by rw [← hx]; exact (l[m]'hkl).toNat_lt
          rw [hx] at hcw
          obtain ⟨j, hj⟩ : ∃ j, js[m]'hkj = j := ⟨_, rfl⟩
          have hjx : j = x % 12 := by rw [← hj, HJK.out m hkj hkl, hx]
          have hj12 : j < 12 := by omega
          have hmod : Int.tmod (x : Int) 12 = (j : Int) := by rw [mod12, hjx]
          have hw1 : IntKind.i64.wrap (x : Int) = (x : Int) := IntWalk.i64_in _ (by omega)
          have hcn := HNX.out _ hB j hj12
          have hknown := (name_len j hj12).2
          obtain ⟨NM, hNM⟩ : ∃ NM : ByteArray, NM = ofL (nameJ j) := ⟨_, rfl⟩
          rw [← hNM] at hcn hknown
          obtain ⟨v, hv⟩ : ∃ v, (lookB NM).1 = v := ⟨_, rfl⟩
          have hlk : lookB NM = (v, true) := by rw [← hv, ← hknown]
          have HPM : Hid (∀ (W : World), Below wX.heap.size wX W → W.cell? ⟨bP, oP + m * 2, none⟩ = some (.string NM) ∧ W.cell? ⟨bP, oP + m * 2 + 1, none⟩ = some (.string v)) := Lib.hid fun W hW => by
            rw [Nat.mul_comm m 2]
            have h := HPR.out W hW m hkj
            rw [hj, ← hNM, hv] at h
            exact h
          have HLK := Lib.hid hlk
          have HB1 := Lib.hid hB
          have hn20 : k ≤ 20 := HL.out.2.2.1
          clear hNM hv hlk hjx hx hj hkl hkj hB hm
          go_wp2_with (go_at_call 9; refine (look_calls NM v true HLK.out _).mono ?_; rintro eN wL ⟨rfl, hbN⟩; have HB2 := Lib.hid (below_step HB1.out hbN); obtain ⟨hp1, hp2⟩ := HPM.out _ HB2.out)
          go_roundw
          case rel => exact ⟨m + 1, by omega, by go_num, HB2.out⟩
          case measure => simp [intOf]; try omega
        · obtain rfl : m = k := by omega
          have hm1 : decide ((m : Int) < (m : Int)) = false := decide_eq_false (by omega)
          go_wp2
          go_ret
          exact ⟨rfl, HBX.out.trans (hB.mono HBX.out.size)⟩
end Go.Proofs.YtclnanhgcnopdaaDoor
end
