/- S: texts run together by shake.py: Gclavierref18a2. -/
import Derived.ArgAppend
import Derived.Below
import Derived.BigQuiet
import Derived.Deep.AppendLies
import Derived.Deep.CutBlock
import Derived.Deep.DeepCutAuto
import Derived.Deep.Draws
import Derived.Deep.LoopGhost
import Derived.Deep.OwnRows
import Derived.Deep.Quiet
import Derived.Deep.QuietTactic
import Derived.Deep.RegionHeld3
import Derived.KernelRfl
import Derived.Laws.AppendOwn
import Derived.Laws.AppendOwnNone
import Derived.Laws.BitsLemmas
import Derived.Laws.BytesArg
import Derived.Laws.Concat
import Derived.Laws.CopyRow
import Derived.Laws.IdiomCopy
import Derived.Laws.IdiomStrings
import Derived.Laws.MakeOwn
import Derived.Laws.OwnMore
import Derived.Laws.Rows
import Derived.Laws.Slices
import Derived.Laws.StructEq
import Derived.Lib.AppendIntMem
import Derived.Lib.AppendStr
import Derived.Lib.ConvBytes
import Derived.Lib.Hide
import Derived.Lib.ItoaLen
import Derived.Lib.ItoaNum
import Derived.Lib.LaidTab
import Derived.MapKept
import Derived.Maps.AppendAt
import Derived.Orders
import Derived.OrdersHeld
import Derived.Outline
import Derived.OwnWalk
import Derived.RowKit
import Derived.RowKit3
import Derived.Shelf.LaysM
import Derived.Shelf.Strconv.Itoa0
import Derived.Shelf.Strconv.Itoa1
import Derived.Shelf.Strconv.Itoa2
import Derived.Shelf.Strconv.Itoa3
import Derived.Shelf.Strings.Builder1
import Derived.Shelf.Strings.Builder2
import Derived.Shelf.Strings.Builder2Cap
import Derived.Shelf.Strings.BuilderCap
import Derived.Shelf.Strings.BuilderF
import Derived.Shelf.Strings.BuilderK
import Derived.Shelf.Strings.OnBuilder
import Derived.Still
import Derived.Tactics
import Derived.Test.YtbaigfoioiklkaaDoorProg
import Derived.WalkKit
import Derived.WalkLawsBesides
import Derived.WalkSpells
import Derived.WideLaws
import Derived.Test.YtbaigfoioiklkaaDoorZS1
import Derived.Test.YtbaigfoioiklkaaDoorZS2
import Derived.Test.YtbaigfoioiklkaaDoorZS7
import Derived.Test.YtbaigfoioiklkaaDoorZS9
import Derived.Test.YtbaigfoioiklkaaDoorZS11
import Derived.Test.YtbaigfoioiklkaaDoorZS12
section
namespace Go.Proofs.YtbaigfoioiklkaaDoor.G
open Go.RowKit Go.Proofs.YtbaigfoioiklkaaDoorW.PrintWords Go.Proofs.YtbaigfoioiklkaaDoorW.PrintLast Go.Proofs.YtbaigfoioiklkaaDoorW.PrintMore
attribute [local go_sem] max2_int min2_int max_two min_two max_three min_three max_four min_four
set_option linter.unusedVariables false
set_option linter.unusedSimpArgs false
def clavierref18_apply.j0 : Nat → List Int → Bool → Bool → Bool → Bool → Bool → Bool → Bool → Bool → Int → Int → Int → Option (Bool × Bool × Bool × Bool × Bool × Bool × Bool × Int × Int × Int)
  | 0, _, _, _, _, _, _, _, _, _, _, _, _ => none
  | k + 1, x1, x15, x323000, x323001, x323002, x323003, x323004, x323005, x323006, x323007, x323008, x323009 => if x15 = true then ((clavierref18_Usual.f).bind fun bt325 => (some (bt325.1, bt325.2.1, bt325.2.2.1, bt325.2.2.2.1, bt325.2.2.2.2.1, bt325.2.2.2.2.2.1, bt325.2.2.2.2.2.2.1, bt325.2.2.2.2.2.2.2.1, bt325.2.2.2.2.2.2.2.2.1, bt325.2.2.2.2.2.2.2.2.2))) else (if 0 < (x1.length : Int) then (if (rd x1 0) = 4 then (if (x1.length : Int) < 2 then (some (x323000, x323001, x323002, x323003, x323004, x323005, x323006, 1, x323008, x323009)) else (if 1 < (x1.length : Int) then (if (rd x1 1) ≥ 0 then (if (rd x1 1) ≤ 5 then (some (x323000, x323001, x323002, x323003, x323004, x323005, x323006, rd x1 1, x323008, x323009)) else (some (x323000, x323001, x323002, x323003, x323004, x323005, x323006, x323007, x323008, x323009))) else (some (x323000, x323001, x323002, x323003, x323004, x323005, x323006, x323007, x323008, x323009))) else (none))) else ((clavierref18_said.f k x1 30).bind fun t339 => ((clavierref18_said.f k x1 40).bind fun t340 => (if t339 ≥ (-1) then (if t340 ≥ (-1) then ((clavierref18_flag.f x323000 x323001 x323002 x323003 x323004 x323005 x323006 x323007 t339 t340 (rd x1 0)).bind fun bt342 => (some (bt342.1, bt342.2.1, bt342.2.2.1, bt342.2.2.2.1, bt342.2.2.2.2.1, bt342.2.2.2.2.2.1, bt342.2.2.2.2.2.2.1, bt342.2.2.2.2.2.2.2.1, bt342.2.2.2.2.2.2.2.2.1, bt342.2.2.2.2.2.2.2.2.2))) else ((clavierref18_flag.f x323000 x323001 x323002 x323003 x323004 x323005 x323006 x323007 t339 x323009 (rd x1 0)).bind fun bt353 => (some (bt353.1, bt353.2.1, bt353.2.2.1, bt353.2.2.2.1, bt353.2.2.2.2.1, bt353.2.2.2.2.2.1, bt353.2.2.2.2.2.2.1, bt353.2.2.2.2.2.2.2.1, bt353.2.2.2.2.2.2.2.2.1, bt353.2.2.2.2.2.2.2.2.2)))) else (if t340 ≥ (-1) then ((clavierref18_flag.f x323000 x323001 x323002 x323003 x323004 x323005 x323006 x323007 x323008 t340 (rd x1 0)).bind fun bt364 => (some (bt364.1, bt364.2.1, bt364.2.2.1, bt364.2.2.2.1, bt364.2.2.2.2.1, bt364.2.2.2.2.2.1, bt364.2.2.2.2.2.2.1, bt364.2.2.2.2.2.2.2.1, bt364.2.2.2.2.2.2.2.2.1, bt364.2.2.2.2.2.2.2.2.2))) else ((clavierref18_flag.f x323000 x323001 x323002 x323003 x323004 x323005 x323006 x323007 x323008 x323009 (rd x1 0)).bind fun bt375 => (some (bt375.1, bt375.2.1, bt375.2.2.1, bt375.2.2.2.1, bt375.2.2.2.2.1, bt375.2.2.2.2.2.1, bt375.2.2.2.2.2.2.1, bt375.2.2.2.2.2.2.2.1, bt375.2.2.2.2.2.2.2.2.1, bt375.2.2.2.2.2.2.2.2.2)))))))) else (none))
def clavierref18_apply.f (k : Nat) (a0_0 : Bool) (a0_1 : Bool) (a0_2 : Bool) (a0_3 : Bool) (a0_4 : Bool) (a0_5 : Bool) (a0_6 : Bool) (a0_7 : Int) (a0_8 : Int) (a0_9 : Int) (l1 : List Int) : Option (Bool × Bool × Bool × Bool × Bool × Bool × Bool × Int × Int × Int) := if (l1.length : Int) = 0 then (clavierref18_apply.j0 k l1 true a0_0 a0_1 a0_2 a0_3 a0_4 a0_5 a0_6 a0_7 a0_8 a0_9) else (if 0 < (l1.length : Int) then (clavierref18_apply.j0 k l1 (decide ((rd l1 0) ≤ 0)) a0_0 a0_1 a0_2 a0_3 a0_4 a0_5 a0_6 a0_7 a0_8 a0_9) else (none))
theorem clavierref18_apply.mono_l : ∀ k, (∀ y0 y1 y2 y3 y4 y5 y6 y7 y8 y9 y10 y11, LeO (clavierref18_apply.j0 k y0 y1 y2 y3 y4 y5 y6 y7 y8 y9 y10 y11) (clavierref18_apply.j0 (k + 1) y0 y1 y2 y3 y4 y5 y6 y7 y8 y9 y10 y11))
  | 0 => fun _ _ _ _ _ _ _ _ _ _ _ _ r h => by simp [clavierref18_apply.j0] at h
  | k + 1 => by
    have ih0 := clavierref18_apply.mono_l k
    · intro y0 y1 y2 y3 y4 y5 y6 y7 y8 y9 y10 y11
      unfold clavierref18_apply.j0
      repeat' first
      | (with_reducible exact ih0 _ _ _ _ _ _ _ _ _ _ _ _)
      | (with_reducible exact clavierref18_said.mono _ _ _)
      | (with_reducible exact LeO.refl _)
      | (with_reducible exact LeO.none _)
      | (with_reducible refine LeO.ite ?_ ?_)
      | (with_reducible refine LeO.bind ?_ (fun _ => ?_))
      | exact ih0 _ _ _ _ _ _ _ _ _ _ _ _
      | exact clavierref18_said.mono _ _ _
      | exact LeO.none _
      | refine LeO.ite ?_ ?_
      | refine LeO.bind ?_ (fun _ => ?_)
theorem clavierref18_apply.mono : ∀ a0 a1 a2 a3 a4 a5 a6 a7 a8 a9 a10 k, LeO (clavierref18_apply.f k a0 a1 a2 a3 a4 a5 a6 a7 a8 a9 a10) (clavierref18_apply.f (k + 1) a0 a1 a2 a3 a4 a5 a6 a7 a8 a9 a10) := by
  intro a0 a1 a2 a3 a4 a5 a6 a7 a8 a9 a10 k
  have ih0 := clavierref18_apply.mono_l k
  unfold clavierref18_apply.f
  repeat' first
      | (with_reducible exact ih0 _ _ _ _ _ _ _ _ _ _ _ _)
      | (with_reducible exact clavierref18_said.mono _ _ _)
      | (with_reducible exact LeO.refl _)
      | (with_reducible exact LeO.none _)
      | (with_reducible refine LeO.ite ?_ ?_)
      | (with_reducible refine LeO.bind ?_ (fun _ => ?_))
      | exact ih0 _ _ _ _ _ _ _ _ _ _ _ _
      | exact clavierref18_said.mono _ _ _
      | exact LeO.none _
      | refine LeO.ite ?_ ?_
      | refine LeO.bind ?_ (fun _ => ?_)
set_option maxHeartbeats 8000000 in
set_option maxRecDepth 100000 in
theorem clavierref18_apply.calls (k : Nat) (a0_0 : Bool) (a0_1 : Bool) (a0_2 : Bool) (a0_3 : Bool) (a0_4 : Bool) (a0_5 : Bool) (a0_6 : Bool) (a0_7 : Int) (a0_8 : Int) (a0_9 : Int) (A1 : Option Addr) (c1 : Nat) (l1 : List Int) (r1 : Bool) (r2 : Bool) (r3 : Bool) (r4 : Bool) (r5 : Bool) (r6 : Bool) (r7 : Bool) (r8 : Int) (r9 : Int) (r10 : Int) (w : World) (hr1 : Kd.C (Kd.int .i64) w A1 l1.length l1) (hc1 : l1.length ≤ c1) (h : clavierref18_apply.f k a0_0 a0_1 a0_2 a0_3 a0_4 a0_5 a0_6 a0_7 a0_8 a0_9 l1 = some (r1, r2, r3, r4, r5, r6, r7, r8, r9, r10)) :
    Calls Tryd.prog 33 #[.agg #[.bool a0_0, .bool a0_1, .bool a0_2, .bool a0_3, .bool a0_4, .bool a0_5, .bool a0_6, .int .i64 a0_7, .int .i64 a0_8, .int .i64 a0_9], .slice A1 l1.length c1] w fun e w' => e = .returned (.agg #[.bool r1, .bool r2, .bool r3, .bool r4, .bool r5, .bool r6, .bool r7, .int .i64 r8, .int .i64 r9, .int .i64 r10]) ∧ Below w.heap.size w w' := by
  have hu23 := Tryd.underlying23
  have HR1 := Aside0.mk hr1
  have HC1 := Aside0.mk hc1
  clear hr1 hc1
  have HB := Aside0.mk (Below.refl w.heap.size w)
  have H : (if (l1.length : Int) = 0 then (clavierref18_apply.j0 k l1 true a0_0 a0_1 a0_2 a0_3 a0_4 a0_5 a0_6 a0_7 a0_8 a0_9) else (if 0 < (l1.length : Int) then (clavierref18_apply.j0 k l1 (decide ((rd l1 0) ≤ 0)) a0_0 a0_1 a0_2 a0_3 a0_4 a0_5 a0_6 a0_7 a0_8 a0_9) else (none))) = some (r1, r2, r3, r4, r5, r6, r7, r8, r9, r10) := h
  clear h
  have HC3 := Aside0.mk H
  clear H
  go_enter Tryd.func33, Tryd.ntmps33
  go_upto_region 1 with (first | ((with_reducible refine gate_dst (N := 2) rfl ?_); refine box_event ?hg (N := 2) ?hd (cs := #[.bool a0_0, .bool a0_1, .bool a0_2, .bool a0_3, .bool a0_4, .bool a0_5, .bool a0_6, .int .i64 a0_7, .int .i64 a0_8, .int .i64 a0_9]) (t := 23) ?hr ?_; (case hd => rfl); (case hg => rfl); (case hr => first | (go_simp; done) | (go_simp; rfl)); intro gb322 hg w4 hbox hb; have n0_ := Aside0.mk (below_step (by repeat (first | (with_reducible first | exact HB.out | apply below_alloc | apply pw_below_drewN | apply below_drew1) | exact HB.out)) hb); have n1_ := Aside0.mk (hbox); have n2_ := Aside0.mk ((by rw [hg]; exact (below_size (by repeat (first | (with_reducible first | exact HB.out | apply below_alloc | apply pw_below_drewN | apply below_drew1) | exact HB.out))) : w.heap.size ≤ gb322)); have n3_ := Aside0.mk ((by rw [hg]; exact (below_size (by repeat (first | (with_reducible first | exact HB.out | apply below_alloc | apply pw_below_drewN | apply below_drew1) | exact HB.out))) : w.heap.size ≤ gb322)); clear HB; have HB := n0_; have BK322 := n1_; have GW322 := n2_; have GE322 := n3_; clear n0_ n1_ n2_ n3_; clear hb hbox hg) | ((with_reducible refine gate_dst (N := 4) rfl ?_); refine box_event ?hg (N := 4) ?hd (cs := #[.bool false, .bool false, .bool false, .bool false, .bool false, .bool false, .bool false, .int .i64 0, .int .i64 0, .int .i64 0]) (t := 23) ?hr ?_; (case hd => rfl); (case hg => rfl); (case hr => first | (go_simp; done) | (go_simp; rfl)); intro gb323 hg w5 hbox hb; have n0_ := Aside0.mk (blk_below (g := gb322) (o := .cells #[.bool a0_0, .bool a0_1, .bool a0_2, .bool a0_3, .bool a0_4, .bool a0_5, .bool a0_6, .int .i64 a0_7, .int .i64 a0_8, .int .i64 a0_9] 23 (0, 0)) (by (with_reducible repeat (first | refine blk_drewN ?_ _ | refine blk_drew ?_ | refine blk_alloc ?_ _)); exact BK322.out) hb); have n1_ := Aside0.mk (below_step (by repeat (first | (with_reducible first | exact HB.out | apply below_alloc | apply pw_below_drewN | apply below_drew1 | refine below_set ?_ GE322.out) | exact HB.out)) hb); have n2_ := Aside0.mk (hbox); have n3_ := Aside0.mk ((by rw [hg]; exact (below_size (by repeat (first | (with_reducible first | exact HB.out | apply below_alloc | apply pw_below_drewN | apply below_drew1 | refine below_set ?_ GE322.out) | exact HB.out))) : w.heap.size ≤ gb323)); have n4_ := Aside0.mk ((by rw [hg]; exact (below_size (by repeat (first | (with_reducible first | exact HB.out | apply below_alloc | apply pw_below_drewN | apply below_drew1 | refine below_set ?_ GE322.out) | exact HB.out))) : w.heap.size ≤ gb323)); have n5_ := Aside0.mk ((by rw [hg]; exact Nat.ne_of_lt (blk_lt (g := gb322) (o := .cells #[.bool a0_0, .bool a0_1, .bool a0_2, .bool a0_3, .bool a0_4, .bool a0_5, .bool a0_6, .int .i64 a0_7, .int .i64 a0_8, .int .i64 a0_9] 23 (0, 0)) (by (with_reducible repeat (first | refine blk_drewN ?_ _ | refine blk_drew ?_ | refine blk_alloc ?_ _)); exact BK322.out)) : gb322 ≠ gb323)); have n6_ := Aside0.mk ((by rw [hg]; exact Nat.ne_of_gt (blk_lt (g := gb322) (o := .cells #[.bool a0_0, .bool a0_1, .bool a0_2, .bool a0_3, .bool a0_4, .bool a0_5, .bool a0_6, .int .i64 a0_7, .int .i64 a0_8, .int .i64 a0_9] 23 (0, 0)) (by (with_reducible repeat (first | refine blk_drewN ?_ _ | refine blk_drew ?_ | refine blk_alloc ?_ _)); exact BK322.out)) : gb323 ≠ gb322)); clear BK322; clear HB; have BK322 := n0_; have HB := n1_; have BK323 := n2_; have GW323 := n3_; have GE323 := n4_; have NB322_323 := n5_; have NB323_322 := n6_; clear n0_ n1_ n2_ n3_ n4_ n5_ n6_; clear hb hbox hg))
  (try simp only [Act.put, List.setIfInBounds_toArray, List.set_cons_zero, List.set_cons_succ])
  go_cut [15] (fun v15 wc => ∃ (kq : Nat) (x15_2 : Bool), v15 = .bool x15_2 ∧ Aside0 (clavierref18_apply.j0 kq l1 x15_2 a0_0 a0_1 a0_2 a0_3 a0_4 a0_5 a0_6 a0_7 a0_8 a0_9 = some (r1, r2, r3, r4, r5, r6, r7, r8, r9, r10)) ∧ Aside0 (kq ≤ k) ∧ Aside0 (wc.heap[gb322]? = some (.cells #[.bool a0_0, .bool a0_1, .bool a0_2, .bool a0_3, .bool a0_4, .bool a0_5, .bool a0_6, .int .i64 a0_7, .int .i64 a0_8, .int .i64 a0_9] 23 (0, 0))) ∧ Aside0 (wc.heap[gb323]? = some (.cells #[.bool false, .bool false, .bool false, .bool false, .bool false, .bool false, .bool false, .int .i64 0, .int .i64 0, .int .i64 0] 23 (0, 0))) ∧ Aside0 (Below w.heap.size w wc))
  case first =>
    have H := HC3.out
    clear HC3
    by_cases c6 : (l1.length : Int) = 0
    · rw [if_pos c6] at H
      have c6b0 : ((l1.length : Int) == 0) = true := beq_iff_eq.mpr c6
      have c6b1 : ((l1.length : Int) != 0) = false := bne_eq_false_iff_eq.mpr c6
      clear c6
      (first | rw [c6b0] | (simp only [i64_w, i32_w]; rw [c6b0]) | skip)
      have H' := Aside0.mk H
      clear H
      go_wp2
      go_meet
      case rel => exact ⟨_, (true), (by first | rfl | (simp; done) | (simp [*]; done)), H', ⟨by first | omega | exact Nat.le_refl _⟩, ⟨by (with_reducible repeat (first | refine blk_drewN ?_ _ | refine blk_drew ?_ | refine blk_alloc ?_ _)); exact BK322.out⟩, ⟨by (with_reducible repeat (first | refine blk_drewN ?_ _ | refine blk_drew ?_ | refine blk_alloc ?_ _)); exact BK323.out⟩, ⟨by repeat (first | (with_reducible first | exact HB.out | apply below_alloc | apply pw_below_drewN | apply below_drew1 | refine below_set ?_ GE322.out | refine below_set ?_ GE323.out) | exact HB.out)⟩⟩
    · rw [if_neg c6] at H
      have c6b0 : ((l1.length : Int) == 0) = false := beq_eq_false_iff_ne.mpr c6
      have c6b1 : ((l1.length : Int) != 0) = true := bne_iff_ne.mpr c6
      have c6b2 : ¬ (l1 = []) := fun h_ => c6 (by rw [h_]; rfl)
      (first | rw [c6b0] | (simp only [i64_w, i32_w]; rw [c6b0]) | skip)
      by_cases c7 : 0 < (l1.length : Int)
      · rw [if_pos c7] at H
        have c7b0 : decide (0 < (l1.length : Int)) = true := decide_eq_true c7
        have c7b1 : decide (0 < l1.length) = true := decide_eq_true (by omega)
        clear c7
        have H' := Aside0.mk H
        clear H
        have p324 : 0 ≤ (0 : Int) := (by omega)
        have q324 : 0 < (l1.length : Int) := of_decide_eq_true (by first | (with_reducible assumption) | assumption)
        obtain ⟨ad324, e324, hx324_0⟩ := Kd.at_int HR1.out 0 p324 q324
        cases e324
        have qi324 : (0 < l1.length) = True := eq_true (by omega)
        (try rw [show ((0 : Int)).toNat = 0 from rfl] at hx324_0)
        (try rw [Addr.add_zero'] at hx324_0)
        replace hx324_0 := (HB.out.cell (World.block_lt_of_cell? w _ hx324_0)).trans hx324_0
        replace p324 := eq_true p324
        replace q324 := eq_true q324
        go_wp2
        go_meet
        case rel => exact ⟨_, (decide ((rd l1 0) ≤ 0)), (by first | rfl | (simp; done) | (simp [*]; done)), H', ⟨by first | omega | exact Nat.le_refl _⟩, ⟨by (with_reducible repeat (first | refine blk_drewN ?_ _ | refine blk_drew ?_ | refine blk_alloc ?_ _)); exact BK322.out⟩, ⟨by (with_reducible repeat (first | refine blk_drewN ?_ _ | refine blk_drew ?_ | refine blk_alloc ?_ _)); exact BK323.out⟩, ⟨by repeat (first | (with_reducible first | exact HB.out | apply below_alloc | apply pw_below_drewN | apply below_drew1 | refine below_set ?_ GE322.out | refine below_set ?_ GE323.out) | exact HB.out)⟩⟩
      · rw [if_neg c7] at H
        exact absurd H (by simp)
  case rest =>
    clear HC3
    try clear c1
    try clear p2
    try clear c3
    try clear p3
    try clear q3
    try clear hx3
    try clear qi3
    try clear c6
    try clear c6b0
    try clear c6b1
    try clear c6b2
    try clear c7
    try clear c7b0
    try clear c7b1
    try clear hx324_0
    try clear p324
    try clear q324
    obtain ⟨kq, x15_2, rfl, HA, HJ2, BK322, BK323, HB⟩ := hcut
    cases kq with
    | zero => exact absurd HA.out (by simp [clavierref18_apply.j0])
    | succ kj2 =>
      have H := HA.out
      clear HA
      simp only [clavierref18_apply.j0] at H
      by_cases c8 : x15_2 = true
      · subst c8
        have H1 : ((clavierref18_Usual.f).bind fun bt325 => (some (bt325.1, bt325.2.1, bt325.2.2.1, bt325.2.2.2.1, bt325.2.2.2.2.1, bt325.2.2.2.2.2.1, bt325.2.2.2.2.2.2.1, bt325.2.2.2.2.2.2.2.1, bt325.2.2.2.2.2.2.2.2.1, bt325.2.2.2.2.2.2.2.2.2))) = some (r1, r2, r3, r4, r5, r6, r7, r8, r9, r10) := by rw [if_pos rfl] at H; exact H
        clear H
        have H := H1
        clear H1
        replace H := Option.bind_eq_some_iff.mp H
        obtain ⟨⟨t325, t326, t327, t328, t329, t330, t331, t332, t333, t334⟩, A90, H⟩ := H
        replace H : (some (t325, t326, t327, t328, t329, t330, t331, t332, t333, t334)) = some (r1, r2, r3, r4, r5, r6, r7, r8, r9, r10) := H
        have A9 := Aside0.mk A90
        clear A90
        simp only [Option.some.injEq, Prod.mk.injEq] at H
        obtain ⟨rfl, rfl, rfl, rfl, rfl, rfl, rfl, rfl, rfl, rfl⟩ := H
        go_wp2_with (first | ((with_reducible refine gate_callee (f := 44) rfl ?_); refine goesL_ (some 16) rfl rfl Tryd.func44 (by kernel_rfl) rfl #[] rfl (by (try simp only [List.map_toArray, List.map_cons, List.map_nil]); first | done | rfl | (simp only [List.length_drop, List.length_take]; rfl)) ?_; (with_reducible refine (clavierref18_Usual.calls  t325 t326 t327 t328 t329 t330 t331 t332 t333 t334 _ A9.out).mono ?_); rintro e w10 ⟨rfl, hb⟩; refine ⟨_, rfl, ?_⟩; have n0_ := Aside0.mk (blk_below (g := gb322) (o := .cells #[.bool a0_0, .bool a0_1, .bool a0_2, .bool a0_3, .bool a0_4, .bool a0_5, .bool a0_6, .int .i64 a0_7, .int .i64 a0_8, .int .i64 a0_9] 23 (0, 0)) (by (with_reducible repeat (first | refine blk_drewN ?_ _ | refine blk_drew ?_ | refine blk_alloc ?_ _)); exact BK322.out) hb); have n1_ := Aside0.mk (blk_below (g := gb323) (o := .cells #[.bool false, .bool false, .bool false, .bool false, .bool false, .bool false, .bool false, .int .i64 0, .int .i64 0, .int .i64 0] 23 (0, 0)) (by (with_reducible repeat (first | refine blk_drewN ?_ _ | refine blk_drew ?_ | refine blk_alloc ?_ _)); exact BK323.out) hb); have n2_ := Aside0.mk (below_step (by repeat (first | (with_reducible first | exact HB.out | apply below_alloc | apply pw_below_drewN | apply below_drew1 | refine below_set ?_ GE322.out | refine below_set ?_ GE323.out) | exact HB.out)) hb); clear BK322; clear BK323; clear HB; have BK322 := n0_; have BK323 := n1_; have HB := n2_; clear n0_ n1_ n2_; (try clear hb); (try clear hb2); (try clear hk); (try clear hi); have hnb11 := NB323_322.out; have hnc11 := NB322_323.out; have hcz12_0 : w10.cell? ⟨gb323, 0, none⟩ = some (.bool false) := (blk_cell BK323.out 0).trans rfl; have hcz12_1 : w10.cell? ⟨gb323, 1, none⟩ = some (.bool false) := (blk_cell BK323.out 1).trans rfl; have hcz12_2 : w10.cell? ⟨gb323, 2, none⟩ = some (.bool false) := (blk_cell BK323.out 2).trans rfl; have hcz12_3 : w10.cell? ⟨gb323, 3, none⟩ = some (.bool false) := (blk_cell BK323.out 3).trans rfl; have hcz12_4 : w10.cell? ⟨gb323, 4, none⟩ = some (.bool false) := (blk_cell BK323.out 4).trans rfl; have hcz12_5 : w10.cell? ⟨gb323, 5, none⟩ = some (.bool false) := (blk_cell BK323.out 5).trans rfl; have hcz12_6 : w10.cell? ⟨gb323, 6, none⟩ = some (.bool false) := (blk_cell BK323.out 6).trans rfl; have hcz12_7 : w10.cell? ⟨gb323, 7, none⟩ = some (.int .i64 0) := (blk_cell BK323.out 7).trans rfl; have hcz12_8 : w10.cell? ⟨gb323, 8, none⟩ = some (.int .i64 0) := (blk_cell BK323.out 8).trans rfl; have hcz12_9 : w10.cell? ⟨gb323, 9, none⟩ = some (.int .i64 0) := (blk_cell BK323.out 9).trans rfl; have hfz12_0 := blk_frozen BK323.out 0; have hfz12_1 := blk_frozen BK323.out 1; have hfz12_2 := blk_frozen BK323.out 2; have hfz12_3 := blk_frozen BK323.out 3; have hfz12_4 := blk_frozen BK323.out 4; have hfz12_5 := blk_frozen BK323.out 5; have hfz12_6 := blk_frozen BK323.out 6; have hfz12_7 := blk_frozen BK323.out 7; have hfz12_8 := blk_frozen BK323.out 8; have hfz12_9 := blk_frozen BK323.out 9))
        refine bodyPost_ret (results_cell_row rfl _ _ gb323 23 #[.bool t325, .bool t326, .bool t327, .bool t328, .bool t329, .bool t330, .bool t331, .int .i64 t332, .int .i64 t333, .int .i64 t334] (0, 0) _ rfl (by (with_reducible repeat (first | refine blk_drewN ?_ _ | refine blk_drew ?_ | refine blk_alloc ?_ _)); refine blk_put (cs := #[.bool t325, .bool t326, .bool t327, .bool t328, .bool t329, .bool t330, .bool t331, .int .i64 t332, .int .i64 t333, .int .i64 0]) ?_ 9 _ rfl; (with_reducible repeat (first | refine blk_drewN ?_ _ | refine blk_drew ?_ | refine blk_alloc ?_ _)); refine blk_put (cs := #[.bool t325, .bool t326, .bool t327, .bool t328, .bool t329, .bool t330, .bool t331, .int .i64 t332, .int .i64 0, .int .i64 0]) ?_ 8 _ rfl; (with_reducible repeat (first | refine blk_drewN ?_ _ | refine blk_drew ?_ | refine blk_alloc ?_ _)); refine blk_put (cs := #[.bool t325, .bool t326, .bool t327, .bool t328, .bool t329, .bool t330, .bool t331, .int .i64 0, .int .i64 0, .int .i64 0]) ?_ 7 _ rfl; (with_reducible repeat (first | refine blk_drewN ?_ _ | refine blk_drew ?_ | refine blk_alloc ?_ _)); refine blk_put (cs := #[.bool t325, .bool t326, .bool t327, .bool t328, .bool t329, .bool t330, .bool false, .int .i64 0, .int .i64 0, .int .i64 0]) ?_ 6 _ rfl; (with_reducible repeat (first | refine blk_drewN ?_ _ | refine blk_drew ?_ | refine blk_alloc ?_ _)); refine blk_put (cs := #[.bool t325, .bool t326, .bool t327, .bool t328, .bool t329, .bool false, .bool false, .int .i64 0, .int .i64 0, .int .i64 0]) ?_ 5 _ rfl; (with_reducible repeat (first | refine blk_drewN ?_ _ | refine blk_drew ?_ | refine blk_alloc ?_ _)); refine blk_put (cs := #[.bool t325, .bool t326, .bool t327, .bool t328, .bool false, .bool false, .bool false, .int .i64 0, .int .i64 0, .int .i64 0]) ?_ 4 _ rfl; (with_reducible repeat (first | refine blk_drewN ?_ _ | refine blk_drew ?_ | refine blk_alloc ?_ _)); refine blk_put (cs := #[.bool t325, .bool t326, .bool t327, .bool false, .bool false, .bool false, .bool false, .int .i64 0, .int .i64 0, .int .i64 0]) ?_ 3 _ rfl; (with_reducible repeat (first | refine blk_drewN ?_ _ | refine blk_drew ?_ | refine blk_alloc ?_ _)); refine blk_put (cs := #[.bool t325, .bool t326, .bool false, .bool false, .bool false, .bool false, .bool false, .int .i64 0, .int .i64 0, .int .i64 0]) ?_ 2 _ rfl; (with_reducible repeat (first | refine blk_drewN ?_ _ | refine blk_drew ?_ | refine blk_alloc ?_ _)); refine blk_put (cs := #[.bool t325, .bool false, .bool false, .bool false, .bool false, .bool false, .bool false, .int .i64 0, .int .i64 0, .int .i64 0]) ?_ 1 _ rfl; (with_reducible repeat (first | refine blk_drewN ?_ _ | refine blk_drew ?_ | refine blk_alloc ?_ _)); refine blk_put (cs := #[.bool false, .bool false, .bool false, .bool false, .bool false, .bool false, .bool false, .int .i64 0, .int .i64 0, .int .i64 0]) ?_ 0 _ rfl; (with_reducible repeat (first | refine blk_drewN ?_ _ | refine blk_drew ?_ | refine blk_alloc ?_ _)); exact BK323.out) Tryd.underlying23 rfl (by kernel_rfl)) rfl ?_
        exact ⟨by first | rfl | (simp [errW_none, errW_some] <;> rfl) | (simp [*, errW_none, errW_some] <;> rfl), by repeat (first | (with_reducible first | exact HB.out | apply below_alloc | apply pw_below_drewN | apply below_drew1 | refine below_set ?_ GE322.out | refine below_set ?_ GE323.out) | exact HB.out)⟩
      · replace c8 := Bool.eq_false_iff.mpr c8
        subst c8
        have H1 : (if 0 < (l1.length : Int) then (if (rd l1 0) = 4 then (if (l1.length : Int) < 2 then (some (a0_0, a0_1, a0_2, a0_3, a0_4, a0_5, a0_6, 1, a0_8, a0_9)) else (if 1 < (l1.length : Int) then (if (rd l1 1) ≥ 0 then (if (rd l1 1) ≤ 5 then (some (a0_0, a0_1, a0_2, a0_3, a0_4, a0_5, a0_6, rd l1 1, a0_8, a0_9)) else (some (a0_0, a0_1, a0_2, a0_3, a0_4, a0_5, a0_6, a0_7, a0_8, a0_9))) else (some (a0_0, a0_1, a0_2, a0_3, a0_4, a0_5, a0_6, a0_7, a0_8, a0_9))) else (none))) else ((clavierref18_said.f kj2 l1 30).bind fun t339 => ((clavierref18_said.f kj2 l1 40).bind fun t340 => (if t339 ≥ (-1) then (if t340 ≥ (-1) then ((clavierref18_flag.f a0_0 a0_1 a0_2 a0_3 a0_4 a0_5 a0_6 a0_7 t339 t340 (rd l1 0)).bind fun bt342 => (some (bt342.1, bt342.2.1, bt342.2.2.1, bt342.2.2.2.1, bt342.2.2.2.2.1, bt342.2.2.2.2.2.1, bt342.2.2.2.2.2.2.1, bt342.2.2.2.2.2.2.2.1, bt342.2.2.2.2.2.2.2.2.1, bt342.2.2.2.2.2.2.2.2.2))) else ((clavierref18_flag.f a0_0 a0_1 a0_2 a0_3 a0_4 a0_5 a0_6 a0_7 t339 a0_9 (rd l1 0)).bind fun bt353 => (some (bt353.1, bt353.2.1, bt353.2.2.1, bt353.2.2.2.1, bt353.2.2.2.2.1, bt353.2.2.2.2.2.1, bt353.2.2.2.2.2.2.1, bt353.2.2.2.2.2.2.2.1, bt353.2.2.2.2.2.2.2.2.1, bt353.2.2.2.2.2.2.2.2.2)))) else (if t340 ≥ (-1) then ((clavierref18_flag.f a0_0 a0_1 a0_2 a0_3 a0_4 a0_5 a0_6 a0_7 a0_8 t340 (rd l1 0)).bind fun bt364 => (some (bt364.1, bt364.2.1, bt364.2.2.1, bt364.2.2.2.1, bt364.2.2.2.2.1, bt364.2.2.2.2.2.1, bt364.2.2.2.2.2.2.1, bt364.2.2.2.2.2.2.2.1, bt364.2.2.2.2.2.2.2.2.1, bt364.2.2.2.2.2.2.2.2.2))) else ((clavierref18_flag.f a0_0 a0_1 a0_2 a0_3 a0_4 a0_5 a0_6 a0_7 a0_8 a0_9 (rd l1 0)).bind fun bt375 => (some (bt375.1, bt375.2.1, bt375.2.2.1, bt375.2.2.2.1, bt375.2.2.2.2.1, bt375.2.2.2.2.2.1, bt375.2.2.2.2.2.2.1, bt375.2.2.2.2.2.2.2.1, bt375.2.2.2.2.2.2.2.2.1, bt375.2.2.2.2.2.2.2.2.2)))))))) else (none)) = some (r1, r2, r3, r4, r5, r6, r7, r8, r9, r10) := by rw [if_neg (show ¬ (false = true) by decide)] at H; exact H
        clear H
        have H := H1
        clear H1
        by_cases c13 : 0 < (l1.length : Int)
        · rw [if_pos c13] at H
          have c13b0 : decide (0 < (l1.length : Int)) = true := decide_eq_true c13
          have c13b1 : decide (0 < l1.length) = true := decide_eq_true (by omega)
          clear c13
          by_cases c14 : (rd l1 0) = 4
          · rw [if_pos c14] at H
            have c14b0 : ((rd l1 0) == 4) = true := beq_iff_eq.mpr c14
            have c14b1 : ((rd l1 0) != 4) = false := bne_eq_false_iff_eq.mpr c14
            clear c14
            by_cases c15 : (l1.length : Int) < 2
            · rw [if_pos c15] at H
              have c15b0 : decide ((l1.length : Int) < 2) = true := decide_eq_true c15
              have c15b1 : decide (l1.length < 2) = true := decide_eq_true (by omega)
              clear c15
              simp only [Option.some.injEq, Prod.mk.injEq] at H
              obtain ⟨rfl, rfl, rfl, rfl, rfl, rfl, rfl, rfl, rfl, rfl⟩ := H
              have p335 : 0 ≤ (0 : Int) := (by omega)
              have q335 : 0 < (l1.length : Int) := of_decide_eq_true (by first | (with_reducible assumption) | assumption)
              obtain ⟨ad335, e335, hx335_0⟩ := Kd.at_int HR1.out 0 p335 q335
              cases e335
              have qi335 : (0 < l1.length) = True := eq_true (by omega)
              (try rw [show ((0 : Int)).toNat = 0 from rfl] at hx335_0)
              (try rw [Addr.add_zero'] at hx335_0)
              replace hx335_0 := (HB.out.cell (World.block_lt_of_cell? w _ hx335_0)).trans hx335_0
              replace p335 := eq_true p335
              replace q335 := eq_true q335
              have hnb16 := NB322_323.out
              have hnc16 := NB323_322.out
              have hcz17_0 : wc.cell? ⟨gb322, 0, none⟩ = some (.bool a0_0) := (blk_cell BK322.out 0).trans rfl
              have hcz17_1 : wc.cell? ⟨gb322, 1, none⟩ = some (.bool a0_1) := (blk_cell BK322.out 1).trans rfl
              have hcz17_2 : wc.cell? ⟨gb322, 2, none⟩ = some (.bool a0_2) := (blk_cell BK322.out 2).trans rfl
              have hcz17_3 : wc.cell? ⟨gb322, 3, none⟩ = some (.bool a0_3) := (blk_cell BK322.out 3).trans rfl
              have hcz17_4 : wc.cell? ⟨gb322, 4, none⟩ = some (.bool a0_4) := (blk_cell BK322.out 4).trans rfl
              have hcz17_5 : wc.cell? ⟨gb322, 5, none⟩ = some (.bool a0_5) := (blk_cell BK322.out 5).trans rfl
              have hcz17_6 : wc.cell? ⟨gb322, 6, none⟩ = some (.bool a0_6) := (blk_cell BK322.out 6).trans rfl
              have hcz17_7 : wc.cell? ⟨gb322, 7, none⟩ = some (.int .i64 a0_7) := (blk_cell BK322.out 7).trans rfl
              have hcz17_8 : wc.cell? ⟨gb322, 8, none⟩ = some (.int .i64 a0_8) := (blk_cell BK322.out 8).trans rfl
              have hcz17_9 : wc.cell? ⟨gb322, 9, none⟩ = some (.int .i64 a0_9) := (blk_cell BK322.out 9).trans rfl
              have hfz17_0 := blk_frozen BK322.out 0
              have hfz17_1 := blk_frozen BK322.out 1
              have hfz17_2 := blk_frozen BK322.out 2
              have hfz17_3 := blk_frozen BK322.out 3
              have hfz17_4 := blk_frozen BK322.out 4
              have hfz17_5 := blk_frozen BK322.out 5
              have hfz17_6 := blk_frozen BK322.out 6
              have hfz17_7 := blk_frozen BK322.out 7
              have hfz17_8 := blk_frozen BK322.out 8
              have hfz17_9 := blk_frozen BK322.out 9
              have hcz18_0 : wc.cell? ⟨gb323, 0, none⟩ = some (.bool false) := (blk_cell BK323.out 0).trans rfl
              have hcz18_1 : wc.cell? ⟨gb323, 1, none⟩ = some (.bool false) := (blk_cell BK323.out 1).trans rfl
              have hcz18_2 : wc.cell? ⟨gb323, 2, none⟩ = some (.bool false) := (blk_cell BK323.out 2).trans rfl
              have hcz18_3 : wc.cell? ⟨gb323, 3, none⟩ = some (.bool false) := (blk_cell BK323.out 3).trans rfl
              have hcz18_4 : wc.cell? ⟨gb323, 4, none⟩ = some (.bool false) := (blk_cell BK323.out 4).trans rfl
              have hcz18_5 : wc.cell? ⟨gb323, 5, none⟩ = some (.bool false) := (blk_cell BK323.out 5).trans rfl
              have hcz18_6 : wc.cell? ⟨gb323, 6, none⟩ = some (.bool false) := (blk_cell BK323.out 6).trans rfl
              have hcz18_7 : wc.cell? ⟨gb323, 7, none⟩ = some (.int .i64 0) := (blk_cell BK323.out 7).trans rfl
              have hcz18_8 : wc.cell? ⟨gb323, 8, none⟩ = some (.int .i64 0) := (blk_cell BK323.out 8).trans rfl
              have hcz18_9 : wc.cell? ⟨gb323, 9, none⟩ = some (.int .i64 0) := (blk_cell BK323.out 9).trans rfl
              have hfz18_0 := blk_frozen BK323.out 0
              have hfz18_1 := blk_frozen BK323.out 1
              have hfz18_2 := blk_frozen BK323.out 2
              have hfz18_3 := blk_frozen BK323.out 3
              have hfz18_4 := blk_frozen BK323.out 4
              have hfz18_5 := blk_frozen BK323.out 5
              have hfz18_6 := blk_frozen BK323.out 6
              have hfz18_7 := blk_frozen BK323.out 7
              have hfz18_8 := blk_frozen BK323.out 8
              have hfz18_9 := blk_frozen BK323.out 9
              go_wp2
              refine bodyPost_ret (results_cell_row rfl _ _ gb323 23 #[.bool a0_0, .bool a0_1, .bool a0_2, .bool a0_3, .bool a0_4, .bool a0_5, .bool a0_6, .int .i64 1, .int .i64 a0_8, .int .i64 a0_9] (0, 0) _ rfl (by (with_reducible repeat (first | refine blk_drewN ?_ _ | refine blk_drew ?_ | refine blk_alloc ?_ _)); refine blk_put (cs := #[.bool a0_0, .bool a0_1, .bool a0_2, .bool a0_3, .bool a0_4, .bool a0_5, .bool a0_6, .int .i64 1, .int .i64 a0_8, .int .i64 0]) ?_ 9 _ rfl; (with_reducible repeat (first | refine blk_drewN ?_ _ | refine blk_drew ?_ | refine blk_alloc ?_ _)); refine blk_put (cs := #[.bool a0_0, .bool a0_1, .bool a0_2, .bool a0_3, .bool a0_4, .bool a0_5, .bool a0_6, .int .i64 1, .int .i64 0, .int .i64 0]) ?_ 8 _ rfl; (with_reducible repeat (first | refine blk_drewN ?_ _ | refine blk_drew ?_ | refine blk_alloc ?_ _)); refine blk_put (cs := #[.bool a0_0, .bool a0_1, .bool a0_2, .bool a0_3, .bool a0_4, .bool a0_5, .bool a0_6, .int .i64 0, .int .i64 0, .int .i64 0]) ?_ 7 _ rfl; (with_reducible repeat (first | refine blk_drewN ?_ _ | refine blk_drew ?_ | refine blk_alloc ?_ _)); refine blk_put (cs := #[.bool a0_0, .bool a0_1, .bool a0_2, .bool a0_3, .bool a0_4, .bool a0_5, .bool false, .int .i64 0, .int .i64 0, .int .i64 0]) ?_ 6 _ rfl; (with_reducible repeat (first | refine blk_drewN ?_ _ | refine blk_drew ?_ | refine blk_alloc ?_ _)); refine blk_put (cs := #[.bool a0_0, .bool a0_1, .bool a0_2, .bool a0_3, .bool a0_4, .bool false, .bool false, .int .i64 0, .int .i64 0, .int .i64 0]) ?_ 5 _ rfl; (with_reducible repeat (first | refine blk_drewN ?_ _ | refine blk_drew ?_ | refine blk_alloc ?_ _)); refine blk_put (cs := #[.bool a0_0, .bool a0_1, .bool a0_2, .bool a0_3, .bool false, .bool false, .bool false, .int .i64 0, .int .i64 0, .int .i64 0]) ?_ 4 _ rfl; (with_reducible repeat (first | refine blk_drewN ?_ _ | refine blk_drew ?_ | refine blk_alloc ?_ _)); refine blk_put (cs := #[.bool a0_0, .bool a0_1, .bool a0_2, .bool false, .bool false, .bool false, .bool false, .int .i64 0, .int .i64 0, .int .i64 0]) ?_ 3 _ rfl; (with_reducible repeat (first | refine blk_drewN ?_ _ | refine blk_drew ?_ | refine blk_alloc ?_ _)); refine blk_put (cs := #[.bool a0_0, .bool a0_1, .bool false, .bool false, .bool false, .bool false, .bool false, .int .i64 0, .int .i64 0, .int .i64 0]) ?_ 2 _ rfl; (with_reducible repeat (first | refine blk_drewN ?_ _ | refine blk_drew ?_ | refine blk_alloc ?_ _)); refine blk_put (cs := #[.bool a0_0, .bool false, .bool false, .bool false, .bool false, .bool false, .bool false, .int .i64 0, .int .i64 0, .int .i64 0]) ?_ 1 _ rfl; (with_reducible repeat (first | refine blk_drewN ?_ _ | refine blk_drew ?_ | refine blk_alloc ?_ _)); refine blk_put (cs := #[.bool false, .bool false, .bool false, .bool false, .bool false, .bool false, .bool false, .int .i64 0, .int .i64 0, .int .i64 0]) ?_ 0 _ rfl; (with_reducible repeat (first | refine blk_drewN ?_ _ | refine blk_drew ?_ | refine blk_alloc ?_ _)); refine blk_far ?_ NB323_322.out _; (with_reducible repeat (first | refine blk_drewN ?_ _ | refine blk_drew ?_ | refine blk_alloc ?_ _)); exact BK323.out) Tryd.underlying23 rfl (by kernel_rfl)) rfl ?_
              exact ⟨by first | rfl | (simp [errW_none, errW_some] <;> rfl) | (simp [*, errW_none, errW_some] <;> rfl), by repeat (first | (with_reducible first | exact HB.out | apply below_alloc | apply pw_below_drewN | apply below_drew1 | refine below_set ?_ GE322.out | refine below_set ?_ GE323.out) | exact HB.out)⟩
            · rw [if_neg c15] at H
              have c15b0 : decide ((l1.length : Int) < 2) = false := decide_eq_false c15
              have c15b1 : decide (l1.length < 2) = false := decide_eq_false (by omega)
              clear c15
              by_cases c19 : 1 < (l1.length : Int)
              · rw [if_pos c19] at H
                have c19b0 : decide (1 < (l1.length : Int)) = true := decide_eq_true c19
                have c19b1 : decide (1 < l1.length) = true := decide_eq_true (by omega)
                clear c19
                by_cases c20 : (rd l1 1) ≥ 0
                · rw [if_pos c20] at H
                  have c20b0 : decide (0 ≤ (rd l1 1)) = true := decide_eq_true c20
                  clear c20
                  by_cases c21 : (rd l1 1) ≤ 5
                  · rw [if_pos c21] at H
                    have c21b0 : decide ((rd l1 1) ≤ 5) = true := decide_eq_true c21
                    clear c21
                    simp only [Option.some.injEq, Prod.mk.injEq] at H
                    obtain ⟨rfl, rfl, rfl, rfl, rfl, rfl, rfl, rfl, rfl, rfl⟩ := H
                    have p335 : 0 ≤ (0 : Int) := (by omega)
                    have q335 : 0 < (l1.length : Int) := of_decide_eq_true (by first | (with_reducible assumption) | assumption)
                    obtain ⟨ad335, e335, hx335_0⟩ := Kd.at_int HR1.out 0 p335 q335
                    cases e335
                    have qi335 : (0 < l1.length) = True := eq_true (by omega)
                    (try rw [show ((0 : Int)).toNat = 0 from rfl] at hx335_0)
                    (try rw [Addr.add_zero'] at hx335_0)
                    replace hx335_0 := (HB.out.cell (World.block_lt_of_cell? w _ hx335_0)).trans hx335_0
                    replace p335 := eq_true p335
                    replace q335 := eq_true q335
                    have p336 : 0 ≤ (1 : Int) := (by omega)
                    have q336 : 1 < (l1.length : Int) := of_decide_eq_true (by first | (with_reducible assumption) | assumption)
                    obtain ⟨ad336, e336, hx336_0⟩ := Kd.at_int HR1.out 1 p336 q336
                    obtain rfl : ad335 = ad336 := (by injection e336)
                    (try simp only [show (1 : Int).toNat = 1 from rfl, Nat.reduceMul, Nat.reduceEqDiff, Go.Addr.add, ↓reduceIte] at hx336_0)
                    have qi336 : (1 < l1.length) = True := eq_true (by omega)
                    (try rw [show ((1 : Int)).toNat = 1 from rfl] at hx336_0)
                    replace hx336_0 := (HB.out.cell (World.block_lt_of_cell? w _ hx336_0)).trans hx336_0
                    replace p336 := eq_true p336
                    replace q336 := eq_true q336
                    have p337 : 0 ≤ (1 : Int) := (by omega)
                    have q337 : 1 < (l1.length : Int) := of_decide_eq_true (by first | (with_reducible assumption) | assumption)
                    obtain ⟨ad337, e337, hx337_0⟩ := Kd.at_int HR1.out 1 p337 q337
                    obtain rfl : ad335 = ad337 := (by injection e337)
                    (try simp only [show (1 : Int).toNat = 1 from rfl, Nat.reduceMul, Nat.reduceEqDiff, Go.Addr.add, ↓reduceIte] at hx337_0)
                    have qi337 : (1 < l1.length) = True := eq_true (by omega)
                    (try rw [show ((1 : Int)).toNat = 1 from rfl] at hx337_0)
                    replace hx337_0 := (HB.out.cell (World.block_lt_of_cell? w _ hx337_0)).trans hx337_0
                    replace p337 := eq_true p337
                    replace q337 := eq_true q337
                    have p338 : 0 ≤ (1 : Int) := (by omega)
                    have q338 : 1 < (l1.length : Int) := of_decide_eq_true (by first | (with_reducible assumption) | assumption)
                    obtain ⟨ad338, e338, hx338_0⟩ := Kd.at_int HR1.out 1 p338 q338
                    obtain rfl : ad335 = ad338 := (by injection e338)
                    (try simp only [show (1 : Int).toNat = 1 from rfl, Nat.reduceMul, Nat.reduceEqDiff, Go.Addr.add, ↓reduceIte] at hx338_0)
                    have qi338 : (1 < l1.length) = True := eq_true (by omega)
                    (try rw [show ((1 : Int)).toNat = 1 from rfl] at hx338_0)
                    replace hx338_0 := (HB.out.cell (World.block_lt_of_cell? w _ hx338_0)).trans hx338_0
                    replace p338 := eq_true p338
                    replace q338 := eq_true q338
                    have hnb22 := NB322_323.out
                    have hnc22 := NB323_322.out
                    have hcz23_0 : wc.cell? ⟨gb322, 0, none⟩ = some (.bool a0_0) := (blk_cell BK322.out 0).trans rfl
                    have hcz23_1 : wc.cell? ⟨gb322, 1, none⟩ = some (.bool a0_1) := (blk_cell BK322.out 1).trans rfl
                    have hcz23_2 : wc.cell? ⟨gb322, 2, none⟩ = some (.bool a0_2) := (blk_cell BK322.out 2).trans rfl
                    have hcz23_3 : wc.cell? ⟨gb322, 3, none⟩ = some (.bool a0_3) := (blk_cell BK322.out 3).trans rfl
                    have hcz23_4 : wc.cell? ⟨gb322, 4, none⟩ = some (.bool a0_4) := (blk_cell BK322.out 4).trans rfl
                    have hcz23_5 : wc.cell? ⟨gb322, 5, none⟩ = some (.bool a0_5) := (blk_cell BK322.out 5).trans rfl
                    have hcz23_6 : wc.cell? ⟨gb322, 6, none⟩ = some (.bool a0_6) := (blk_cell BK322.out 6).trans rfl
                    have hcz23_7 : wc.cell? ⟨gb322, 7, none⟩ = some (.int .i64 a0_7) := (blk_cell BK322.out 7).trans rfl
                    have hcz23_8 : wc.cell? ⟨gb322, 8, none⟩ = some (.int .i64 a0_8) := (blk_cell BK322.out 8).trans rfl
                    have hcz23_9 : wc.cell? ⟨gb322, 9, none⟩ = some (.int .i64 a0_9) := (blk_cell BK322.out 9).trans rfl
                    have hfz23_0 := blk_frozen BK322.out 0
                    have hfz23_1 := blk_frozen BK322.out 1
                    have hfz23_2 := blk_frozen BK322.out 2
                    have hfz23_3 := blk_frozen BK322.out 3
                    have hfz23_4 := blk_frozen BK322.out 4
                    have hfz23_5 := blk_frozen BK322.out 5
                    have hfz23_6 := blk_frozen BK322.out 6
                    have hfz23_7 := blk_frozen BK322.out 7
                    have hfz23_8 := blk_frozen BK322.out 8
                    have hfz23_9 := blk_frozen BK322.out 9
                    have hcz24_0 : wc.cell? ⟨gb323, 0, none⟩ = some (.bool false) := (blk_cell BK323.out 0).trans rfl
                    have hcz24_1 : wc.cell? ⟨gb323, 1, none⟩ = some (.bool false) := (blk_cell BK323.out 1).trans rfl
                    have hcz24_2 : wc.cell? ⟨gb323, 2, none⟩ = some (.bool false) := (blk_cell BK323.out 2).trans rfl
                    have hcz24_3 : wc.cell? ⟨gb323, 3, none⟩ = some (.bool false) := (blk_cell BK323.out 3).trans rfl
                    have hcz24_4 : wc.cell? ⟨gb323, 4, none⟩ = some (.bool false) := (blk_cell BK323.out 4).trans rfl
                    have hcz24_5 : wc.cell? ⟨gb323, 5, none⟩ = some (.bool false) := (blk_cell BK323.out 5).trans rfl
                    have hcz24_6 : wc.cell? ⟨gb323, 6, none⟩ = some (.bool false) := (blk_cell BK323.out 6).trans rfl
                    have hcz24_7 : wc.cell? ⟨gb323, 7, none⟩ = some (.int .i64 0) := (blk_cell BK323.out 7).trans rfl
                    have hcz24_8 : wc.cell? ⟨gb323, 8, none⟩ = some (.int .i64 0) := (blk_cell BK323.out 8).trans rfl
                    have hcz24_9 : wc.cell? ⟨gb323, 9, none⟩ = some (.int .i64 0) := (blk_cell BK323.out 9).trans rfl
                    have hfz24_0 := blk_frozen BK323.out 0
                    have hfz24_1 := blk_frozen BK323.out 1
                    have hfz24_2 := blk_frozen BK323.out 2
                    have hfz24_3 := blk_frozen BK323.out 3
                    have hfz24_4 := blk_frozen BK323.out 4
                    have hfz24_5 := blk_frozen BK323.out 5
                    have hfz24_6 := blk_frozen BK323.out 6
                    have hfz24_7 := blk_frozen BK323.out 7
                    have hfz24_8 := blk_frozen BK323.out 8
                    have hfz24_9 := blk_frozen BK323.out 9
                    go_wp2
                    refine bodyPost_ret (results_cell_row rfl _ _ gb323 23 #[.bool a0_0, .bool a0_1, .bool a0_2, .bool a0_3, .bool a0_4, .bool a0_5, .bool a0_6, .int .i64 (rd l1 1), .int .i64 a0_8, .int .i64 a0_9] (0, 0) _ rfl (by (with_reducible repeat (first | refine blk_drewN ?_ _ | refine blk_drew ?_ | refine blk_alloc ?_ _)); refine blk_put (cs := #[.bool a0_0, .bool a0_1, .bool a0_2, .bool a0_3, .bool a0_4, .bool a0_5, .bool a0_6, .int .i64 (rd l1 1), .int .i64 a0_8, .int .i64 0]) ?_ 9 _ rfl; (with_reducible repeat (first | refine blk_drewN ?_ _ | refine blk_drew ?_ | refine blk_alloc ?_ _)); refine blk_put (cs := #[.bool a0_0, .bool a0_1, .bool a0_2, .bool a0_3, .bool a0_4, .bool a0_5, .bool a0_6, .int .i64 (rd l1 1), .int .i64 0, .int .i64 0]) ?_ 8 _ rfl; (with_reducible repeat (first | refine blk_drewN ?_ _ | refine blk_drew ?_ | refine blk_alloc ?_ _)); refine blk_put (cs := #[.bool a0_0, .bool a0_1, .bool a0_2, .bool a0_3, .bool a0_4, .bool a0_5, .bool a0_6, .int .i64 0, .int .i64 0, .int .i64 0]) ?_ 7 _ rfl; (with_reducible repeat (first | refine blk_drewN ?_ _ | refine blk_drew ?_ | refine blk_alloc ?_ _)); refine blk_put (cs := #[.bool a0_0, .bool a0_1, .bool a0_2, .bool a0_3, .bool a0_4, .bool a0_5, .bool false, .int .i64 0, .int .i64 0, .int .i64 0]) ?_ 6 _ rfl; (with_reducible repeat (first | refine blk_drewN ?_ _ | refine blk_drew ?_ | refine blk_alloc ?_ _)); refine blk_put (cs := #[.bool a0_0, .bool a0_1, .bool a0_2, .bool a0_3, .bool a0_4, .bool false, .bool false, .int .i64 0, .int .i64 0, .int .i64 0]) ?_ 5 _ rfl; (with_reducible repeat (first | refine blk_drewN ?_ _ | refine blk_drew ?_ | refine blk_alloc ?_ _)); refine blk_put (cs := #[.bool a0_0, .bool a0_1, .bool a0_2, .bool a0_3, .bool false, .bool false, .bool false, .int .i64 0, .int .i64 0, .int .i64 0]) ?_ 4 _ rfl; (with_reducible repeat (first | refine blk_drewN ?_ _ | refine blk_drew ?_ | refine blk_alloc ?_ _)); refine blk_put (cs := #[.bool a0_0, .bool a0_1, .bool a0_2, .bool false, .bool false, .bool false, .bool false, .int .i64 0, .int .i64 0, .int .i64 0]) ?_ 3 _ rfl; (with_reducible repeat (first | refine blk_drewN ?_ _ | refine blk_drew ?_ | refine blk_alloc ?_ _)); refine blk_put (cs := #[.bool a0_0, .bool a0_1, .bool false, .bool false, .bool false, .bool false, .bool false, .int .i64 0, .int .i64 0, .int .i64 0]) ?_ 2 _ rfl; (with_reducible repeat (first | refine blk_drewN ?_ _ | refine blk_drew ?_ | refine blk_alloc ?_ _)); refine blk_put (cs := #[.bool a0_0, .bool false, .bool false, .bool false, .bool false, .bool false, .bool false, .int .i64 0, .int .i64 0, .int .i64 0]) ?_ 1 _ rfl; (with_reducible repeat (first | refine blk_drewN ?_ _ | refine blk_drew ?_ | refine blk_alloc ?_ _)); refine blk_put (cs := #[.bool false, .bool false, .bool false, .bool false, .bool false, .bool false, .bool false, .int .i64 0, .int .i64 0, .int .i64 0]) ?_ 0 _ rfl; (with_reducible repeat (first | refine blk_drewN ?_ _ | refine blk_drew ?_ | refine blk_alloc ?_ _)); refine blk_far ?_ NB323_322.out _; (with_reducible repeat (first | refine blk_drewN ?_ _ | refine blk_drew ?_ | refine blk_alloc ?_ _)); exact BK323.out) Tryd.underlying23 rfl (by kernel_rfl)) rfl ?_
                    exact ⟨by first | rfl | (simp [errW_none, errW_some] <;> rfl) | (simp [*, errW_none, errW_some] <;> rfl), by repeat (first | (with_reducible first | exact HB.out | apply below_alloc | apply pw_below_drewN | apply below_drew1 | refine below_set ?_ GE322.out | refine below_set ?_ GE323.out) | exact HB.out)⟩
                  · rw [if_neg c21] at H
                    have c21b0 : decide ((rd l1 1) ≤ 5) = false := decide_eq_false c21
                    clear c21
                    simp only [Option.some.injEq, Prod.mk.injEq] at H
                    obtain ⟨rfl, rfl, rfl, rfl, rfl, rfl, rfl, rfl, rfl, rfl⟩ := H
                    have p335 : 0 ≤ (0 : Int) := (by omega)
                    have q335 : 0 < (l1.length : Int) := of_decide_eq_true (by first | (with_reducible assumption) | assumption)
                    obtain ⟨ad335, e335, hx335_0⟩ := Kd.at_int HR1.out 0 p335 q335
                    cases e335
                    have qi335 : (0 < l1.length) = True := eq_true (by omega)
                    (try rw [show ((0 : Int)).toNat = 0 from rfl] at hx335_0)
                    (try rw [Addr.add_zero'] at hx335_0)
                    replace hx335_0 := (HB.out.cell (World.block_lt_of_cell? w _ hx335_0)).trans hx335_0
                    replace p335 := eq_true p335
                    replace q335 := eq_true q335
                    have p336 : 0 ≤ (1 : Int) := (by omega)
                    have q336 : 1 < (l1.length : Int) := of_decide_eq_true (by first | (with_reducible assumption) | assumption)
                    obtain ⟨ad336, e336, hx336_0⟩ := Kd.at_int HR1.out 1 p336 q336
                    obtain rfl : ad335 = ad336 := (by injection e336)
                    (try simp only [show (1 : Int).toNat = 1 from rfl, Nat.reduceMul, Nat.reduceEqDiff, Go.Addr.add, ↓reduceIte] at hx336_0)
                    have qi336 : (1 < l1.length) = True := eq_true (by omega)
                    (try rw [show ((1 : Int)).toNat = 1 from rfl] at hx336_0)
                    replace hx336_0 := (HB.out.cell (World.block_lt_of_cell? w _ hx336_0)).trans hx336_0
                    replace p336 := eq_true p336
                    replace q336 := eq_true q336
                    have p337 : 0 ≤ (1 : Int) := (by omega)
                    have q337 : 1 < (l1.length : Int) := of_decide_eq_true (by first | (with_reducible assumption) | assumption)
                    obtain ⟨ad337, e337, hx337_0⟩ := Kd.at_int HR1.out 1 p337 q337
                    obtain rfl : ad335 = ad337 := (by injection e337)
                    (try simp only [show (1 : Int).toNat = 1 from rfl, Nat.reduceMul, Nat.reduceEqDiff, Go.Addr.add, ↓reduceIte] at hx337_0)
                    have qi337 : (1 < l1.length) = True := eq_true (by omega)
                    (try rw [show ((1 : Int)).toNat = 1 from rfl] at hx337_0)
                    replace hx337_0 := (HB.out.cell (World.block_lt_of_cell? w _ hx337_0)).trans hx337_0
                    replace p337 := eq_true p337
                    replace q337 := eq_true q337
                    have hnb25 := NB322_323.out
                    have hnc25 := NB323_322.out
                    have hcz26_0 : wc.cell? ⟨gb322, 0, none⟩ = some (.bool a0_0) := (blk_cell BK322.out 0).trans rfl
                    have hcz26_1 : wc.cell? ⟨gb322, 1, none⟩ = some (.bool a0_1) := (blk_cell BK322.out 1).trans rfl
                    have hcz26_2 : wc.cell? ⟨gb322, 2, none⟩ = some (.bool a0_2) := (blk_cell BK322.out 2).trans rfl
                    have hcz26_3 : wc.cell? ⟨gb322, 3, none⟩ = some (.bool a0_3) := (blk_cell BK322.out 3).trans rfl
                    have hcz26_4 : wc.cell? ⟨gb322, 4, none⟩ = some (.bool a0_4) := (blk_cell BK322.out 4).trans rfl
                    have hcz26_5 : wc.cell? ⟨gb322, 5, none⟩ = some (.bool a0_5) := (blk_cell BK322.out 5).trans rfl
                    have hcz26_6 : wc.cell? ⟨gb322, 6, none⟩ = some (.bool a0_6) := (blk_cell BK322.out 6).trans rfl
                    have hcz26_7 : wc.cell? ⟨gb322, 7, none⟩ = some (.int .i64 a0_7) := (blk_cell BK322.out 7).trans rfl
                    have hcz26_8 : wc.cell? ⟨gb322, 8, none⟩ = some (.int .i64 a0_8) := (blk_cell BK322.out 8).trans rfl
                    have hcz26_9 : wc.cell? ⟨gb322, 9, none⟩ = some (.int .i64 a0_9) := (blk_cell BK322.out 9).trans rfl
                    have hfz26_0 := blk_frozen BK322.out 0
                    have hfz26_1 := blk_frozen BK322.out 1
                    have hfz26_2 := blk_frozen BK322.out 2
                    have hfz26_3 := blk_frozen BK322.out 3
                    have hfz26_4 := blk_frozen BK322.out 4
                    have hfz26_5 := blk_frozen BK322.out 5
                    have hfz26_6 := blk_frozen BK322.out 6
                    have hfz26_7 := blk_frozen BK322.out 7
                    have hfz26_8 := blk_frozen BK322.out 8
                    have hfz26_9 := blk_frozen BK322.out 9
                    have hcz27_0 : wc.cell? ⟨gb323, 0, none⟩ = some (.bool false) := (blk_cell BK323.out 0).trans rfl
                    have hcz27_1 : wc.cell? ⟨gb323, 1, none⟩ = some (.bool false) := (blk_cell BK323.out 1).trans rfl
                    have hcz27_2 : wc.cell? ⟨gb323, 2, none⟩ = some (.bool false) := (blk_cell BK323.out 2).trans rfl
                    have hcz27_3 : wc.cell? ⟨gb323, 3, none⟩ = some (.bool false) := (blk_cell BK323.out 3).trans rfl
                    have hcz27_4 : wc.cell? ⟨gb323, 4, none⟩ = some (.bool false) := (blk_cell BK323.out 4).trans rfl
                    have hcz27_5 : wc.cell? ⟨gb323, 5, none⟩ = some (.bool false) := (blk_cell BK323.out 5).trans rfl
                    have hcz27_6 : wc.cell? ⟨gb323, 6, none⟩ = some (.bool false) := (blk_cell BK323.out 6).trans rfl
                    have hcz27_7 : wc.cell? ⟨gb323, 7, none⟩ = some (.int .i64 0) := (blk_cell BK323.out 7).trans rfl
                    have hcz27_8 : wc.cell? ⟨gb323, 8, none⟩ = some (.int .i64 0) := (blk_cell BK323.out 8).trans rfl
                    have hcz27_9 : wc.cell? ⟨gb323, 9, none⟩ = some (.int .i64 0) := (blk_cell BK323.out 9).trans rfl
                    have hfz27_0 := blk_frozen BK323.out 0
                    have hfz27_1 := blk_frozen BK323.out 1
                    have hfz27_2 := blk_frozen BK323.out 2
                    have hfz27_3 := blk_frozen BK323.out 3
                    have hfz27_4 := blk_frozen BK323.out 4
                    have hfz27_5 := blk_frozen BK323.out 5
                    have hfz27_6 := blk_frozen BK323.out 6
                    have hfz27_7 := blk_frozen BK323.out 7
                    have hfz27_8 := blk_frozen BK323.out 8
                    have hfz27_9 := blk_frozen BK323.out 9
                    go_wp2
                    refine bodyPost_ret (results_cell_row rfl _ _ gb323 23 #[.bool a0_0, .bool a0_1, .bool a0_2, .bool a0_3, .bool a0_4, .bool a0_5, .bool a0_6, .int .i64 a0_7, .int .i64 a0_8, .int .i64 a0_9] (0, 0) _ rfl (by (with_reducible repeat (first | refine blk_drewN ?_ _ | refine blk_drew ?_ | refine blk_alloc ?_ _)); refine blk_put (cs := #[.bool a0_0, .bool a0_1, .bool a0_2, .bool a0_3, .bool a0_4, .bool a0_5, .bool a0_6, .int .i64 a0_7, .int .i64 a0_8, .int .i64 0]) ?_ 9 _ rfl; (with_reducible repeat (first | refine blk_drewN ?_ _ | refine blk_drew ?_ | refine blk_alloc ?_ _)); refine blk_put (cs := #[.bool a0_0, .bool a0_1, .bool a0_2, .bool a0_3, .bool a0_4, .bool a0_5, .bool a0_6, .int .i64 a0_7, .int .i64 0, .int .i64 0]) ?_ 8 _ rfl; (with_reducible repeat (first | refine blk_drewN ?_ _ | refine blk_drew ?_ | refine blk_alloc ?_ _)); refine blk_put (cs := #[.bool a0_0, .bool a0_1, .bool a0_2, .bool a0_3, .bool a0_4, .bool a0_5, .bool a0_6, .int .i64 0, .int .i64 0, .int .i64 0]) ?_ 7 _ rfl; (with_reducible repeat (first | refine blk_drewN ?_ _ | refine blk_drew ?_ | refine blk_alloc ?_ _)); refine blk_put (cs := #[.bool a0_0, .bool a0_1, .bool a0_2, .bool a0_3, .bool a0_4, .bool a0_5, .bool false, .int .i64 0, .int .i64 0, .int .i64 0]) ?_ 6 _ rfl; (with_reducible repeat (first | refine blk_drewN ?_ _ | refine blk_drew ?_ | refine blk_alloc ?_ _)); refine blk_put (cs := #[.bool a0_0, .bool a0_1, .bool a0_2, .bool a0_3, .bool a0_4, .bool false, .bool false, .int .i64 0, .int .i64 0, .int .i64 0]) ?_ 5 _ rfl; (with_reducible repeat (first | refine blk_drewN ?_ _ | refine blk_drew ?_ | refine blk_alloc ?_ _)); refine blk_put (cs := #[.bool a0_0, .bool a0_1, .bool a0_2, .bool a0_3, .bool false, .bool false, .bool false, .int .i64 0, .int .i64 0, .int .i64 0]) ?_ 4 _ rfl; (with_reducible repeat (first | refine blk_drewN ?_ _ | refine blk_drew ?_ | refine blk_alloc ?_ _)); refine blk_put (cs := #[.bool a0_0, .bool a0_1, .bool a0_2, .bool false, .bool false, .bool false, .bool false, .int .i64 0, .int .i64 0, .int .i64 0]) ?_ 3 _ rfl; (with_reducible repeat (first | refine blk_drewN ?_ _ | refine blk_drew ?_ | refine blk_alloc ?_ _)); refine blk_put (cs := #[.bool a0_0, .bool a0_1, .bool false, .bool false, .bool false, .bool false, .bool false, .int .i64 0, .int .i64 0, .int .i64 0]) ?_ 2 _ rfl; (with_reducible repeat (first | refine blk_drewN ?_ _ | refine blk_drew ?_ | refine blk_alloc ?_ _)); refine blk_put (cs := #[.bool a0_0, .bool false, .bool false, .bool false, .bool false, .bool false, .bool false, .int .i64 0, .int .i64 0, .int .i64 0]) ?_ 1 _ rfl; (with_reducible repeat (first | refine blk_drewN ?_ _ | refine blk_drew ?_ | refine blk_alloc ?_ _)); refine blk_put (cs := #[.bool false, .bool false, .bool false, .bool false, .bool false, .bool false, .bool false, .int .i64 0, .int .i64 0, .int .i64 0]) ?_ 0 _ rfl; (with_reducible repeat (first | refine blk_drewN ?_ _ | refine blk_drew ?_ | refine blk_alloc ?_ _)); exact BK323.out) Tryd.underlying23 rfl (by kernel_rfl)) rfl ?_
                    exact ⟨by first | rfl | (simp [errW_none, errW_some] <;> rfl) | (simp [*, errW_none, errW_some] <;> rfl), by repeat (first | (with_reducible first | exact HB.out | apply below_alloc | apply pw_below_drewN | apply below_drew1 | refine below_set ?_ GE322.out | refine below_set ?_ GE323.out) | exact HB.out)⟩
                · rw [if_neg c20] at H
                  have c20b0 : decide (0 ≤ (rd l1 1)) = false := decide_eq_false c20
                  clear c20
                  simp only [Option.some.injEq, Prod.mk.injEq] at H
                  obtain ⟨rfl, rfl, rfl, rfl, rfl, rfl, rfl, rfl, rfl, rfl⟩ := H
                  have p335 : 0 ≤ (0 : Int) := (by omega)
                  have q335 : 0 < (l1.length : Int) := of_decide_eq_true (by first | (with_reducible assumption) | assumption)
                  obtain ⟨ad335, e335, hx335_0⟩ := Kd.at_int HR1.out 0 p335 q335
                  cases e335
                  have qi335 : (0 < l1.length) = True := eq_true (by omega)
                  (try rw [show ((0 : Int)).toNat = 0 from rfl] at hx335_0)
                  (try rw [Addr.add_zero'] at hx335_0)
                  replace hx335_0 := (HB.out.cell (World.block_lt_of_cell? w _ hx335_0)).trans hx335_0
                  replace p335 := eq_true p335
                  replace q335 := eq_true q335
                  have p336 : 0 ≤ (1 : Int) := (by omega)
                  have q336 : 1 < (l1.length : Int) := of_decide_eq_true (by first | (with_reducible assumption) | assumption)
                  obtain ⟨ad336, e336, hx336_0⟩ := Kd.at_int HR1.out 1 p336 q336
                  obtain rfl : ad335 = ad336 := (by injection e336)
                  (try simp only [show (1 : Int).toNat = 1 from rfl, Nat.reduceMul, Nat.reduceEqDiff, Go.Addr.add, ↓reduceIte] at hx336_0)
                  have qi336 : (1 < l1.length) = True := eq_true (by omega)
                  (try rw [show ((1 : Int)).toNat = 1 from rfl] at hx336_0)
                  replace hx336_0 := (HB.out.cell (World.block_lt_of_cell? w _ hx336_0)).trans hx336_0
                  replace p336 := eq_true p336
                  replace q336 := eq_true q336
                  have hnb28 := NB322_323.out
                  have hnc28 := NB323_322.out
                  have hcz29_0 : wc.cell? ⟨gb322, 0, none⟩ = some (.bool a0_0) := (blk_cell BK322.out 0).trans rfl
                  have hcz29_1 : wc.cell? ⟨gb322, 1, none⟩ = some (.bool a0_1) := (blk_cell BK322.out 1).trans rfl
                  have hcz29_2 : wc.cell? ⟨gb322, 2, none⟩ = some (.bool a0_2) := (blk_cell BK322.out 2).trans rfl
                  have hcz29_3 : wc.cell? ⟨gb322, 3, none⟩ = some (.bool a0_3) := (blk_cell BK322.out 3).trans rfl
                  have hcz29_4 : wc.cell? ⟨gb322, 4, none⟩ = some (.bool a0_4) := (blk_cell BK322.out 4).trans rfl
                  have hcz29_5 : wc.cell? ⟨gb322, 5, none⟩ = some (.bool a0_5) := (blk_cell BK322.out 5).trans rfl
                  have hcz29_6 : wc.cell? ⟨gb322, 6, none⟩ = some (.bool a0_6) := (blk_cell BK322.out 6).trans rfl
                  have hcz29_7 : wc.cell? ⟨gb322, 7, none⟩ = some (.int .i64 a0_7) := (blk_cell BK322.out 7).trans rfl
                  have hcz29_8 : wc.cell? ⟨gb322, 8, none⟩ = some (.int .i64 a0_8) := (blk_cell BK322.out 8).trans rfl
                  have hcz29_9 : wc.cell? ⟨gb322, 9, none⟩ = some (.int .i64 a0_9) := (blk_cell BK322.out 9).trans rfl
                  have hfz29_0 := blk_frozen BK322.out 0
                  have hfz29_1 := blk_frozen BK322.out 1
                  have hfz29_2 := blk_frozen BK322.out 2
                  have hfz29_3 := blk_frozen BK322.out 3
                  have hfz29_4 := blk_frozen BK322.out 4
                  have hfz29_5 := blk_frozen BK322.out 5
                  have hfz29_6 := blk_frozen BK322.out 6
                  have hfz29_7 := blk_frozen BK322.out 7
                  have hfz29_8 := blk_frozen BK322.out 8
                  have hfz29_9 := blk_frozen BK322.out 9
                  have hcz30_0 : wc.cell? ⟨gb323, 0, none⟩ = some (.bool false) := (blk_cell BK323.out 0).trans rfl
                  have hcz30_1 : wc.cell? ⟨gb323, 1, none⟩ = some (.bool false) := (blk_cell BK323.out 1).trans rfl
                  have hcz30_2 : wc.cell? ⟨gb323, 2, none⟩ = some (.bool false) := (blk_cell BK323.out 2).trans rfl
                  have hcz30_3 : wc.cell? ⟨gb323, 3, none⟩ = some (.bool false) := (blk_cell BK323.out 3).trans rfl
                  have hcz30_4 : wc.cell? ⟨gb323, 4, none⟩ = some (.bool false) := (blk_cell BK323.out 4).trans rfl
                  have hcz30_5 : wc.cell? ⟨gb323, 5, none⟩ = some (.bool false) := (blk_cell BK323.out 5).trans rfl
                  have hcz30_6 : wc.cell? ⟨gb323, 6, none⟩ = some (.bool false) := (blk_cell BK323.out 6).trans rfl
                  have hcz30_7 : wc.cell? ⟨gb323, 7, none⟩ = some (.int .i64 0) := (blk_cell BK323.out 7).trans rfl
                  have hcz30_8 : wc.cell? ⟨gb323, 8, none⟩ = some (.int .i64 0) := (blk_cell BK323.out 8).trans rfl
                  have hcz30_9 : wc.cell? ⟨gb323, 9, none⟩ = some (.int .i64 0) := (blk_cell BK323.out 9).trans rfl
                  have hfz30_0 := blk_frozen BK323.out 0
                  have hfz30_1 := blk_frozen BK323.out 1
                  have hfz30_2 := blk_frozen BK323.out 2
                  have hfz30_3 := blk_frozen BK323.out 3
                  have hfz30_4 := blk_frozen BK323.out 4
                  have hfz30_5 := blk_frozen BK323.out 5
                  have hfz30_6 := blk_frozen BK323.out 6
                  have hfz30_7 := blk_frozen BK323.out 7
                  have hfz30_8 := blk_frozen BK323.out 8
                  have hfz30_9 := blk_frozen BK323.out 9
                  go_wp2
                  refine bodyPost_ret (results_cell_row rfl _ _ gb323 23 #[.bool a0_0, .bool a0_1, .bool a0_2, .bool a0_3, .bool a0_4, .bool a0_5, .bool a0_6, .int .i64 a0_7, .int .i64 a0_8, .int .i64 a0_9] (0, 0) _ rfl (by (with_reducible repeat (first | refine blk_drewN ?_ _ | refine blk_drew ?_ | refine blk_alloc ?_ _)); refine blk_put (cs := #[.bool a0_0, .bool a0_1, .bool a0_2, .bool a0_3, .bool a0_4, .bool a0_5, .bool a0_6, .int .i64 a0_7, .int .i64 a0_8, .int .i64 0]) ?_ 9 _ rfl; (with_reducible repeat (first | refine blk_drewN ?_ _ | refine blk_drew ?_ | refine blk_alloc ?_ _)); refine blk_put (cs := #[.bool a0_0, .bool a0_1, .bool a0_2, .bool a0_3, .bool a0_4, .bool a0_5, .bool a0_6, .int .i64 a0_7, .int .i64 0, .int .i64 0]) ?_ 8 _ rfl; (with_reducible repeat (first | refine blk_drewN ?_ _ | refine blk_drew ?_ | refine blk_alloc ?_ _)); refine blk_put (cs := #[.bool a0_0, .bool a0_1, .bool a0_2, .bool a0_3, .bool a0_4, .bool a0_5, .bool a0_6, .int .i64 0, .int .i64 0, .int .i64 0]) ?_ 7 _ rfl; (with_reducible repeat (first | refine blk_drewN ?_ _ | refine blk_drew ?_ | refine blk_alloc ?_ _)); refine blk_put (cs := #[.bool a0_0, .bool a0_1, .bool a0_2, .bool a0_3, .bool a0_4, .bool a0_5, .bool false, .int .i64 0, .int .i64 0, .int .i64 0]) ?_ 6 _ rfl; (with_reducible repeat (first | refine blk_drewN ?_ _ | refine blk_drew ?_ | refine blk_alloc ?_ _)); refine blk_put (cs := #[.bool a0_0, .bool a0_1, .bool a0_2, .bool a0_3, .bool a0_4, .bool false, .bool false, .int .i64 0, .int .i64 0, .int .i64 0]) ?_ 5 _ rfl; (with_reducible repeat (first | refine blk_drewN ?_ _ | refine blk_drew ?_ | refine blk_alloc ?_ _)); refine blk_put (cs := #[.bool a0_0, .bool a0_1, .bool a0_2, .bool a0_3, .bool false, .bool false, .bool false, .int .i64 0, .int .i64 0, .int .i64 0]) ?_ 4 _ rfl; (with_reducible repeat (first | refine blk_drewN ?_ _ | refine blk_drew ?_ | refine blk_alloc ?_ _)); refine blk_put (cs := #[.bool a0_0, .bool a0_1, .bool a0_2, .bool false, .bool false, .bool false, .bool false, .int .i64 0, .int .i64 0, .int .i64 0]) ?_ 3 _ rfl; (with_reducible repeat (first | refine blk_drewN ?_ _ | refine blk_drew ?_ | refine blk_alloc ?_ _)); refine blk_put (cs := #[.bool a0_0, .bool a0_1, .bool false, .bool false, .bool false, .bool false, .bool false, .int .i64 0, .int .i64 0, .int .i64 0]) ?_ 2 _ rfl; (with_reducible repeat (first | refine blk_drewN ?_ _ | refine blk_drew ?_ | refine blk_alloc ?_ _)); refine blk_put (cs := #[.bool a0_0, .bool false, .bool false, .bool false, .bool false, .bool false, .bool false, .int .i64 0, .int .i64 0, .int .i64 0]) ?_ 1 _ rfl; (with_reducible repeat (first | refine blk_drewN ?_ _ | refine blk_drew ?_ | refine blk_alloc ?_ _)); refine blk_put (cs := #[.bool false, .bool false, .bool false, .bool false, .bool false, .bool false, .bool false, .int .i64 0, .int .i64 0, .int .i64 0]) ?_ 0 _ rfl; (with_reducible repeat (first | refine blk_drewN ?_ _ | refine blk_drew ?_ | refine blk_alloc ?_ _)); exact BK323.out) Tryd.underlying23 rfl (by kernel_rfl)) rfl ?_
                  exact ⟨by first | rfl | (simp [errW_none, errW_some] <;> rfl) | (simp [*, errW_none, errW_some] <;> rfl), by repeat (first | (with_reducible first | exact HB.out | apply below_alloc | apply pw_below_drewN | apply below_drew1 | refine below_set ?_ GE322.out | refine below_set ?_ GE323.out) | exact HB.out)⟩
              · rw [if_neg c19] at H
                exact absurd H (by simp)
          · rw [if_neg c14] at H
            have c14b0 : ((rd l1 0) == 4) = false := beq_eq_false_iff_ne.mpr c14
            have c14b1 : ((rd l1 0) != 4) = true := bne_iff_ne.mpr c14
            replace H := Option.bind_eq_some_iff.mp H
            obtain ⟨t339, A310, H⟩ := H
            replace H : ((clavierref18_said.f kj2 l1 40).bind fun t340 => (if t339 ≥ (-1) then (if t340 ≥ (-1) then ((clavierref18_flag.f a0_0 a0_1 a0_2 a0_3 a0_4 a0_5 a0_6 a0_7 t339 t340 (rd l1 0)).bind fun bt342 => (some (bt342.1, bt342.2.1, bt342.2.2.1, bt342.2.2.2.1, bt342.2.2.2.2.1, bt342.2.2.2.2.2.1, bt342.2.2.2.2.2.2.1, bt342.2.2.2.2.2.2.2.1, bt342.2.2.2.2.2.2.2.2.1, bt342.2.2.2.2.2.2.2.2.2))) else ((clavierref18_flag.f a0_0 a0_1 a0_2 a0_3 a0_4 a0_5 a0_6 a0_7 t339 a0_9 (rd l1 0)).bind fun bt353 => (some (bt353.1, bt353.2.1, bt353.2.2.1, bt353.2.2.2.1, bt353.2.2.2.2.1, bt353.2.2.2.2.2.1, bt353.2.2.2.2.2.2.1, bt353.2.2.2.2.2.2.2.1, bt353.2.2.2.2.2.2.2.2.1, bt353.2.2.2.2.2.2.2.2.2)))) else (if t340 ≥ (-1) then ((clavierref18_flag.f a0_0 a0_1 a0_2 a0_3 a0_4 a0_5 a0_6 a0_7 a0_8 t340 (rd l1 0)).bind fun bt364 => (some (bt364.1, bt364.2.1, bt364.2.2.1, bt364.2.2.2.1, bt364.2.2.2.2.1, bt364.2.2.2.2.2.1, bt364.2.2.2.2.2.2.1, bt364.2.2.2.2.2.2.2.1, bt364.2.2.2.2.2.2.2.2.1, bt364.2.2.2.2.2.2.2.2.2))) else ((clavierref18_flag.f a0_0 a0_1 a0_2 a0_3 a0_4 a0_5 a0_6 a0_7 a0_8 a0_9 (rd l1 0)).bind fun bt375 => (some (bt375.1, bt375.2.1, bt375.2.2.1, bt375.2.2.2.1, bt375.2.2.2.2.1, bt375.2.2.2.2.2.1, bt375.2.2.2.2.2.2.1, bt375.2.2.2.2.2.2.2.1, bt375.2.2.2.2.2.2.2.2.1, bt375.2.2.2.2.2.2.2.2.2)))))) = some (r1, r2, r3, r4, r5, r6, r7, r8, r9, r10) := H
            have A31 := Aside0.mk A310
            clear A310
            replace H := Option.bind_eq_some_iff.mp H
            obtain ⟨t340, A320, H⟩ := H
            replace H : (if t339 ≥ (-1) then (if t340 ≥ (-1) then ((clavierref18_flag.f a0_0 a0_1 a0_2 a0_3 a0_4 a0_5 a0_6 a0_7 t339 t340 (rd l1 0)).bind fun bt342 => (some (bt342.1, bt342.2.1, bt342.2.2.1, bt342.2.2.2.1, bt342.2.2.2.2.1, bt342.2.2.2.2.2.1, bt342.2.2.2.2.2.2.1, bt342.2.2.2.2.2.2.2.1, bt342.2.2.2.2.2.2.2.2.1, bt342.2.2.2.2.2.2.2.2.2))) else ((clavierref18_flag.f a0_0 a0_1 a0_2 a0_3 a0_4 a0_5 a0_6 a0_7 t339 a0_9 (rd l1 0)).bind fun bt353 => (some (bt353.1, bt353.2.1, bt353.2.2.1, bt353.2.2.2.1, bt353.2.2.2.2.1, bt353.2.2.2.2.2.1, bt353.2.2.2.2.2.2.1, bt353.2.2.2.2.2.2.2.1, bt353.2.2.2.2.2.2.2.2.1, bt353.2.2.2.2.2.2.2.2.2)))) else (if t340 ≥ (-1) then ((clavierref18_flag.f a0_0 a0_1 a0_2 a0_3 a0_4 a0_5 a0_6 a0_7 a0_8 t340 (rd l1 0)).bind fun bt364 => (some (bt364.1, bt364.2.1, bt364.2.2.1, bt364.2.2.2.1, bt364.2.2.2.2.1, bt364.2.2.2.2.2.1, bt364.2.2.2.2.2.2.1, bt364.2.2.2.2.2.2.2.1, bt364.2.2.2.2.2.2.2.2.1, bt364.2.2.2.2.2.2.2.2.2))) else ((clavierref18_flag.f a0_0 a0_1 a0_2 a0_3 a0_4 a0_5 a0_6 a0_7 a0_8 a0_9 (rd l1 0)).bind fun bt375 => (some (bt375.1, bt375.2.1, bt375.2.2.1, bt375.2.2.2.1, bt375.2.2.2.2.1, bt375.2.2.2.2.2.1, bt375.2.2.2.2.2.2.1, bt375.2.2.2.2.2.2.2.1, bt375.2.2.2.2.2.2.2.2.1, bt375.2.2.2.2.2.2.2.2.2))))) = some (r1, r2, r3, r4, r5, r6, r7, r8, r9, r10) := H
            have A32 := Aside0.mk A320
            clear A320
            by_cases c33 : t339 ≥ (-1)
            · rw [if_pos c33] at H
              have c33b0 : decide ((-1) ≤ t339) = true := decide_eq_true c33
              clear c33
              by_cases c34 : t340 ≥ (-1)
              · rw [if_pos c34] at H
                have c34b0 : decide ((-1) ≤ t340) = true := decide_eq_true c34
                clear c34
                replace H := Option.bind_eq_some_iff.mp H
                obtain ⟨⟨t342, t343, t344, t345, t346, t347, t348, t349, t350, t351⟩, A350, H⟩ := H
                replace H : (some (t342, t343, t344, t345, t346, t347, t348, t349, t350, t351)) = some (r1, r2, r3, r4, r5, r6, r7, r8, r9, r10) := H
                have A35 := Aside0.mk A350
                clear A350
                simp only [Option.some.injEq, Prod.mk.injEq] at H
                obtain ⟨rfl, rfl, rfl, rfl, rfl, rfl, rfl, rfl, rfl, rfl⟩ := H
                have p335 : 0 ≤ (0 : Int) := (by omega)
                have q335 : 0 < (l1.length : Int) := of_decide_eq_true (by first | (with_reducible assumption) | assumption)
                obtain ⟨ad335, e335, hx335_0⟩ := Kd.at_int HR1.out 0 p335 q335
                cases e335
                have qi335 : (0 < l1.length) = True := eq_true (by omega)
                (try rw [show ((0 : Int)).toNat = 0 from rfl] at hx335_0)
                (try rw [Addr.add_zero'] at hx335_0)
                replace hx335_0 := (HB.out.cell (World.block_lt_of_cell? w _ hx335_0)).trans hx335_0
                replace p335 := eq_true p335
                replace q335 := eq_true q335
                try go_wp2_with (first | ((with_reducible refine gate_callee (f := 45) rfl ?_); refine goesL_ (some 41) rfl rfl Tryd.func45 (by kernel_rfl) rfl #[.slice (some ad335) l1.length c1, .int .i64 30] rfl (by (try simp only [List.map_toArray, List.map_cons, List.map_nil]); first | done | rfl | (simp only [List.length_drop, List.length_take]; rfl)) ?_; (with_reducible refine (clavierref18_said.calls kj2 _ _ l1 30 t339 _ ?side1 ?side2 A31.out).mono ?_); (case side1 => repeat (first | exact (Kd.C_below HR1.out HB.out) | (with_reducible refine Kd.C_alloc ?_ _) | (with_reducible refine Kd.C_drewN ?_ _) | (with_reducible refine Kd.C_drew ?_))); (case side2 => exact HC1.out); rintro e w' ⟨rfl, ⟨nd, rfl⟩⟩; refine ⟨_, rfl, ?_⟩; (try (rw [drewN_self wc]; generalize hq_ : World.drewN wc _ = wc; have n0_ : Aside0 (wc.heap[gb322]? = some (.cells #[.bool a0_0, .bool a0_1, .bool a0_2, .bool a0_3, .bool a0_4, .bool a0_5, .bool a0_6, .int .i64 a0_7, .int .i64 a0_8, .int .i64 a0_9] 23 (0, 0))) := ⟨by rw [← hq_]; exact (by (with_reducible repeat (first | refine blk_drewN ?_ _ | refine blk_drew ?_ | refine blk_alloc ?_ _)); exact BK322.out)⟩; have n1_ : Aside0 (wc.heap[gb323]? = some (.cells #[.bool false, .bool false, .bool false, .bool false, .bool false, .bool false, .bool false, .int .i64 0, .int .i64 0, .int .i64 0] 23 (0, 0))) := ⟨by rw [← hq_]; exact (by (with_reducible repeat (first | refine blk_drewN ?_ _ | refine blk_drew ?_ | refine blk_alloc ?_ _)); exact BK323.out)⟩; have n2_ : Aside0 (Below w.heap.size w wc) := ⟨by rw [← hq_]; exact (by repeat (first | (with_reducible first | exact HB.out | apply below_alloc | apply pw_below_drewN | apply below_drew1 | refine below_set ?_ GE322.out | refine below_set ?_ GE323.out) | exact HB.out))⟩; clear BK322 BK323 HB hq_; have BK322 := n0_; have BK323 := n1_; have HB := n2_; clear n0_ n1_ n2_))) | ((with_reducible refine gate_callee (f := 45) rfl ?_); refine goesL_ (some 43) rfl rfl Tryd.func45 (by kernel_rfl) rfl #[.slice (some ad335) l1.length c1, .int .i64 40] rfl (by (try simp only [List.map_toArray, List.map_cons, List.map_nil]); first | done | rfl | (simp only [List.length_drop, List.length_take]; rfl)) ?_; (with_reducible refine (clavierref18_said.calls kj2 _ _ l1 40 t340 _ ?side1 ?side2 A32.out).mono ?_); (case side1 => repeat (first | exact (Kd.C_below HR1.out HB.out) | (with_reducible refine Kd.C_alloc ?_ _) | (with_reducible refine Kd.C_drewN ?_ _) | (with_reducible refine Kd.C_drew ?_))); (case side2 => exact HC1.out); rintro e w' ⟨rfl, ⟨nd, rfl⟩⟩; refine ⟨_, rfl, ?_⟩; (try (rw [drewN_self wc]; generalize hq_ : World.drewN wc _ = wc; have n0_ : Aside0 (wc.heap[gb322]? = some (.cells #[.bool a0_0, .bool a0_1, .bool a0_2, .bool a0_3, .bool a0_4, .bool a0_5, .bool a0_6, .int .i64 a0_7, .int .i64 a0_8, .int .i64 a0_9] 23 (0, 0))) := ⟨by rw [← hq_]; exact (by (with_reducible repeat (first | refine blk_drewN ?_ _ | refine blk_drew ?_ | refine blk_alloc ?_ _)); exact BK322.out)⟩; have n1_ : Aside0 (wc.heap[gb323]? = some (.cells #[.bool false, .bool false, .bool false, .bool false, .bool false, .bool false, .bool false, .int .i64 0, .int .i64 0, .int .i64 0] 23 (0, 0))) := ⟨by rw [← hq_]; exact (by (with_reducible repeat (first | refine blk_drewN ?_ _ | refine blk_drew ?_ | refine blk_alloc ?_ _)); exact BK323.out)⟩; have n2_ : Aside0 (Below w.heap.size w wc) := ⟨by rw [← hq_]; exact (by repeat (first | (with_reducible first | exact HB.out | apply below_alloc | apply pw_below_drewN | apply below_drew1 | refine below_set ?_ GE322.out | refine below_set ?_ GE323.out) | exact HB.out))⟩; clear BK322 BK323 HB hq_; have BK322 := n0_; have BK323 := n1_; have HB := n2_; clear n0_ n1_ n2_)); have hnb36 := NB322_323.out; have hnc36 := NB323_322.out; have hcz37_0 : wc.cell? ⟨gb322, 0, none⟩ = some (.bool a0_0) := (blk_cell BK322.out 0).trans rfl; have hcz37_1 : wc.cell? ⟨gb322, 1, none⟩ = some (.bool a0_1) := (blk_cell BK322.out 1).trans rfl; have hcz37_2 : wc.cell? ⟨gb322, 2, none⟩ = some (.bool a0_2) := (blk_cell BK322.out 2).trans rfl; have hcz37_3 : wc.cell? ⟨gb322, 3, none⟩ = some (.bool a0_3) := (blk_cell BK322.out 3).trans rfl; have hcz37_4 : wc.cell? ⟨gb322, 4, none⟩ = some (.bool a0_4) := (blk_cell BK322.out 4).trans rfl; have hcz37_5 : wc.cell? ⟨gb322, 5, none⟩ = some (.bool a0_5) := (blk_cell BK322.out 5).trans rfl; have hcz37_6 : wc.cell? ⟨gb322, 6, none⟩ = some (.bool a0_6) := (blk_cell BK322.out 6).trans rfl; have hcz37_7 : wc.cell? ⟨gb322, 7, none⟩ = some (.int .i64 a0_7) := (blk_cell BK322.out 7).trans rfl; have hcz37_8 : wc.cell? ⟨gb322, 8, none⟩ = some (.int .i64 a0_8) := (blk_cell BK322.out 8).trans rfl; have hcz37_9 : wc.cell? ⟨gb322, 9, none⟩ = some (.int .i64 a0_9) := (blk_cell BK322.out 9).trans rfl; have hfz37_0 := blk_frozen BK322.out 0; have hfz37_1 := blk_frozen BK322.out 1; have hfz37_2 := blk_frozen BK322.out 2; have hfz37_3 := blk_frozen BK322.out 3; have hfz37_4 := blk_frozen BK322.out 4; have hfz37_5 := blk_frozen BK322.out 5; have hfz37_6 := blk_frozen BK322.out 6; have hfz37_7 := blk_frozen BK322.out 7; have hfz37_8 := blk_frozen BK322.out 8; have hfz37_9 := blk_frozen BK322.out 9))
                have n0_ : Aside0 (((wc.setCell ⟨gb322, 8, none⟩ (.int .i64 t339)).setCell ⟨gb322, 9, none⟩ (.int .i64 t340)).heap[gb322]? = some (.cells #[.bool a0_0, .bool a0_1, .bool a0_2, .bool a0_3, .bool a0_4, .bool a0_5, .bool a0_6, .int .i64 a0_7, .int .i64 t339, .int .i64 t340] 23 (0, 0))) := ⟨by (with_reducible repeat (first | refine blk_drewN ?_ _ | refine blk_drew ?_ | refine blk_alloc ?_ _)); refine blk_put (cs := #[.bool a0_0, .bool a0_1, .bool a0_2, .bool a0_3, .bool a0_4, .bool a0_5, .bool a0_6, .int .i64 a0_7, .int .i64 t339, .int .i64 a0_9]) ?_ 9 _ rfl; (with_reducible repeat (first | refine blk_drewN ?_ _ | refine blk_drew ?_ | refine blk_alloc ?_ _)); refine blk_put (cs := #[.bool a0_0, .bool a0_1, .bool a0_2, .bool a0_3, .bool a0_4, .bool a0_5, .bool a0_6, .int .i64 a0_7, .int .i64 a0_8, .int .i64 a0_9]) ?_ 8 _ rfl; (with_reducible repeat (first | refine blk_drewN ?_ _ | refine blk_drew ?_ | refine blk_alloc ?_ _)); exact BK322.out⟩
                have n1_ : Aside0 (((wc.setCell ⟨gb322, 8, none⟩ (.int .i64 t339)).setCell ⟨gb322, 9, none⟩ (.int .i64 t340)).heap[gb323]? = some (.cells #[.bool false, .bool false, .bool false, .bool false, .bool false, .bool false, .bool false, .int .i64 0, .int .i64 0, .int .i64 0] 23 (0, 0))) := ⟨by (with_reducible repeat (first | refine blk_drewN ?_ _ | refine blk_drew ?_ | refine blk_alloc ?_ _)); refine blk_far ?_ NB323_322.out _; (with_reducible repeat (first | refine blk_drewN ?_ _ | refine blk_drew ?_ | refine blk_alloc ?_ _)); refine blk_far ?_ NB323_322.out _; (with_reducible repeat (first | refine blk_drewN ?_ _ | refine blk_drew ?_ | refine blk_alloc ?_ _)); exact BK323.out⟩
                have n2_ : Aside0 (Below w.heap.size w ((wc.setCell ⟨gb322, 8, none⟩ (.int .i64 t339)).setCell ⟨gb322, 9, none⟩ (.int .i64 t340))) := ⟨by repeat (first | (with_reducible first | exact HB.out | apply below_alloc | apply pw_below_drewN | apply below_drew1 | refine below_set ?_ GE322.out | refine below_set ?_ GE323.out) | exact HB.out)⟩
                (try clear BK322)
                (try clear BK323)
                (try clear HB)
                generalize ((wc.setCell ⟨gb322, 8, none⟩ (.int .i64 t339)).setCell ⟨gb322, 9, none⟩ (.int .i64 t340)) = w38 at n0_ n1_ n2_ ⊢
                have BK322 := n0_
                have BK323 := n1_
                have HB := n2_
                clear n0_ n1_ n2_
                have n0_ := Aside0.mk (blk_drew BK322.out)
                have n1_ := Aside0.mk (blk_drew BK323.out)
                have n2_ := Aside0.mk (below_drew1 HB.out)
                clear BK322
                clear BK323
                clear HB
                have BK322 := n0_
                have BK323 := n1_
                have HB := n2_
                clear n0_ n1_ n2_
                have p341 : 0 ≤ (0 : Int) := (by omega)
                have q341 : 0 < (l1.length : Int) := of_decide_eq_true (by first | (with_reducible assumption) | assumption)
                obtain ⟨ad341, e341, hx341_0⟩ := Kd.at_int HR1.out 0 p341 q341
                have hw341_0 := hx341_0
                (try rw [show ((0 : Int)).toNat = 0 from rfl] at hw341_0)
                (try rw [show 0 * 1 = 0 from rfl] at hw341_0)
                (try rw [Addr.add_zero'] at hw341_0)
                obtain rfl : ad335 = ad341 := (by injection e341)
                have qi341 : (0 < l1.length) = True := eq_true (by omega)
                (try rw [show ((0 : Int)).toNat = 0 from rfl] at hx341_0)
                (try rw [Addr.add_zero'] at hx341_0)
                replace hx341_0 := (HB.out.cell (World.block_lt_of_cell? w _ hx341_0)).trans hx341_0
                replace p341 := eq_true p341
                replace q341 := eq_true q341
                refine start_ (n := 6) (S := fun w' => w'.cell? ⟨gb322, 0, none⟩ = some (.bool a0_0) ∧ w'.cell? ⟨gb322, 1, none⟩ = some (.bool a0_1) ∧ w'.cell? ⟨gb322, 2, none⟩ = some (.bool a0_2) ∧ w'.cell? ⟨gb322, 3, none⟩ = some (.bool a0_3) ∧ w'.cell? ⟨gb322, 4, none⟩ = some (.bool a0_4) ∧ w'.cell? ⟨gb322, 5, none⟩ = some (.bool a0_5) ∧ w'.cell? ⟨gb322, 6, none⟩ = some (.bool a0_6) ∧ w'.cell? ⟨gb322, 7, none⟩ = some (.int .i64 a0_7) ∧ w'.cell? ⟨gb322, 8, none⟩ = some (.int .i64 t339) ∧ w'.cell? ⟨gb322, 9, none⟩ = some (.int .i64 t340) ∧ w'.cell? ad335 = some (.int .i64 (rd l1 0))) (ds := []) #[false, false, false, false, false, false] (by kernel_rfl) rfl rfl ⟨(blk_cell BK322.out 0).trans rfl, (blk_cell BK322.out 1).trans rfl, (blk_cell BK322.out 2).trans rfl, (blk_cell BK322.out 3).trans rfl, (blk_cell BK322.out 4).trans rfl, (blk_cell BK322.out 5).trans rfl, (blk_cell BK322.out 6).trans rfl, (blk_cell BK322.out 7).trans rfl, (blk_cell BK322.out 8).trans rfl, (blk_cell BK322.out 9).trans rfl, ((HB.out.cell (World.block_lt_of_cell? w _ hw341_0)).trans hw341_0)⟩ (fun hHeld => ?_)
                generalize w38.drew = w39 at BK322 BK323 HB hx341_0 hHeld ⊢
                refine pure_ (i := 1) (N := some 53) (v := ?_) (a' := ?_) #[false, true, false, false, false, false] rfl rfl (by kernel_rfl) (fun _ _ _ h => h) (Or.inl ⟨by rfl, ?_⟩) ?_ ?_
                rotate_left
                · intro w'
                  go_simp
                  with_reducible rfl
                rotate_left
                · simp only [Act.put, List.setIfInBounds_toArray, List.set_cons_zero, List.set_cons_succ, i64_w, i32_w]
                  rfl
                refine pure_ (i := 2) (N := some 54) (v := ?_) (a' := ?_) #[false, true, true, false, false, false] rfl rfl (by kernel_rfl) (fun _ _ _ h => h) (Or.inl ⟨by rfl, ?_⟩) ?_ ?_
                rotate_left
                · intro w'
                  go_simp
                  with_reducible rfl
                rotate_left
                · simp only [Act.put, List.setIfInBounds_toArray, List.set_cons_zero, List.set_cons_succ, i64_w, i32_w]
                  rfl
                refine take_ (i := 0) (N := some 52) (v := ?_) (a' := ?_) #[true, true, true, false, false, false] rfl rfl (by kernel_rfl) (fun _ _ _ h => h) (Or.inl ⟨by rfl, ?_⟩) hHeld ?_ ?_
                rotate_left
                · rintro w' ⟨s0, s1, s2, s3, s4, s5, s6, s7, s8, s9, s10⟩
                  go_simp
                  with_reducible rfl
                rotate_left
                · simp only [Act.put, List.setIfInBounds_toArray, List.set_cons_zero, List.set_cons_succ, i64_w, i32_w]
                  rfl
                refine take_ (i := 3) (N := some 55) (v := ?_) (a' := ?_) #[true, true, true, true, false, false] rfl rfl (by kernel_rfl) (fun _ _ _ h => h) (Or.inl ⟨by rfl, ?_⟩) hHeld ?_ ?_
                rotate_left
                · rintro w' ⟨s0, s1, s2, s3, s4, s5, s6, s7, s8, s9, s10⟩
                  go_simp
                  with_reducible rfl
                rotate_left
                · simp only [Act.put, List.setIfInBounds_toArray, List.set_cons_zero, List.set_cons_succ, i64_w, i32_w]
                  rfl
                refine one_ (i := 4) (N := some 56) #[true, true, true, true, true, false] rfl rfl (by kernel_rfl) (by decide) (fun K hK => ?_)
                refine goes_ Tryd.func46 (by kernel_rfl) rfl #[.agg #[.bool a0_0, .bool a0_1, .bool a0_2, .bool a0_3, .bool a0_4, .bool a0_5, .bool a0_6, .int .i64 a0_7, .int .i64 t339, .int .i64 t340], .int .i64 (rd l1 0)] (by rfl) rfl rfl (by (try simp only [List.map_toArray, List.map_cons, List.map_nil]); first | done | rfl | (simp only [List.length_drop, List.length_take]; rfl)) ?_
                with_reducible refine (clavierref18_flag.calls a0_0 a0_1 a0_2 a0_3 a0_4 a0_5 a0_6 a0_7 t339 t340 (rd l1 0) t342 t343 t344 t345 t346 t347 t348 t349 t350 t351 _ A35.out).mono ?_
                rintro e w40 ⟨rfl, hb⟩
                refine ⟨_, rfl, ?_⟩
                have n0_ := Aside0.mk (blk_below (g := gb322) (o := .cells #[.bool a0_0, .bool a0_1, .bool a0_2, .bool a0_3, .bool a0_4, .bool a0_5, .bool a0_6, .int .i64 a0_7, .int .i64 t339, .int .i64 t340] 23 (0, 0)) (by (with_reducible repeat (first | refine blk_drewN ?_ _ | refine blk_drew ?_ | refine blk_alloc ?_ _)); exact BK322.out) hb)
                have n1_ := Aside0.mk (blk_below (g := gb323) (o := .cells #[.bool false, .bool false, .bool false, .bool false, .bool false, .bool false, .bool false, .int .i64 0, .int .i64 0, .int .i64 0] 23 (0, 0)) (by (with_reducible repeat (first | refine blk_drewN ?_ _ | refine blk_drew ?_ | refine blk_alloc ?_ _)); exact BK323.out) hb)
                have n2_ := Aside0.mk (below_step (by repeat (first | (with_reducible first | exact HB.out | apply below_alloc | apply pw_below_drewN | apply below_drew1 | refine below_set ?_ GE322.out | refine below_set ?_ GE323.out) | exact HB.out)) hb)
                clear BK322
                clear BK323
                clear HB
                have BK322 := n0_
                have BK323 := n1_
                have HB := n2_
                clear n0_ n1_ n2_
                (try clear hb)
                (try clear hb2)
                (try clear hk)
                (try clear hi)
                refine hK.out _ _ ⟨(blk_cell BK322.out 0).trans rfl, (blk_cell BK322.out 1).trans rfl, (blk_cell BK322.out 2).trans rfl, (blk_cell BK322.out 3).trans rfl, (blk_cell BK322.out 4).trans rfl, (blk_cell BK322.out 5).trans rfl, (blk_cell BK322.out 6).trans rfl, (blk_cell BK322.out 7).trans rfl, (blk_cell BK322.out 8).trans rfl, (blk_cell BK322.out 9).trans rfl, ((HB.out.cell (World.block_lt_of_cell? w _ hw341_0)).trans hw341_0)⟩ (fun hHeld => ?_)
                clear hK K
                refine norm_ (a' := ?_) ?_ ?_
                rotate_left
                · show Act.put _ (some 56) _ = _
                  simp only [Act.put, List.setIfInBounds_toArray, List.set_cons_zero, List.set_cons_succ, i64_w, i32_w]
                  rfl
                refine one_ (i := 5) (N := none) #[true, true, true, true, true, true] rfl rfl (by kernel_rfl) (by decide) (fun K hK => ?_)
                have hs41 : w40.cell? ⟨gb323, 0, none⟩ = some (.bool false) := (blk_cell BK323.out 0).trans rfl
                have hfs41 := blk_frozen BK323.out 0
                have hns41_0 := NB322_323.out
                have hms41_0 := NB323_322.out
                have hs42 : w40.cell? ⟨gb323, 1, none⟩ = some (.bool false) := (blk_cell BK323.out 1).trans rfl
                have hfs42 := blk_frozen BK323.out 1
                have hns42_0 := NB322_323.out
                have hms42_0 := NB323_322.out
                have hs43 : w40.cell? ⟨gb323, 2, none⟩ = some (.bool false) := (blk_cell BK323.out 2).trans rfl
                have hfs43 := blk_frozen BK323.out 2
                have hns43_0 := NB322_323.out
                have hms43_0 := NB323_322.out
                have hs44 : w40.cell? ⟨gb323, 3, none⟩ = some (.bool false) := (blk_cell BK323.out 3).trans rfl
                have hfs44 := blk_frozen BK323.out 3
                have hns44_0 := NB322_323.out
                have hms44_0 := NB323_322.out
                have hs45 : w40.cell? ⟨gb323, 4, none⟩ = some (.bool false) := (blk_cell BK323.out 4).trans rfl
                have hfs45 := blk_frozen BK323.out 4
                have hns45_0 := NB322_323.out
                have hms45_0 := NB323_322.out
                have hs46 : w40.cell? ⟨gb323, 5, none⟩ = some (.bool false) := (blk_cell BK323.out 5).trans rfl
                have hfs46 := blk_frozen BK323.out 5
                have hns46_0 := NB322_323.out
                have hms46_0 := NB323_322.out
                have hs47 : w40.cell? ⟨gb323, 6, none⟩ = some (.bool false) := (blk_cell BK323.out 6).trans rfl
                have hfs47 := blk_frozen BK323.out 6
                have hns47_0 := NB322_323.out
                have hms47_0 := NB323_322.out
                have hs48 : w40.cell? ⟨gb323, 7, none⟩ = some (.int .i64 0) := (blk_cell BK323.out 7).trans rfl
                have hfs48 := blk_frozen BK323.out 7
                have hns48_0 := NB322_323.out
                have hms48_0 := NB323_322.out
                have hs49 : w40.cell? ⟨gb323, 8, none⟩ = some (.int .i64 0) := (blk_cell BK323.out 8).trans rfl
                have hfs49 := blk_frozen BK323.out 8
                have hns49_0 := NB322_323.out
                have hms49_0 := NB323_322.out
                have hs50 : w40.cell? ⟨gb323, 9, none⟩ = some (.int .i64 0) := (blk_cell BK323.out 9).trans rfl
                have hfs50 := blk_frozen BK323.out 9
                have hns50_0 := NB322_323.out
                have hms50_0 := NB323_322.out
                refine skip_ (w1 := ?_) (by rfl) rfl ?_ ?_
                rotate_left
                · go_simp
                  rfl
                refine hK.out _ _ ⟨((cell_far (p := ⟨gb323, _, none⟩) NB322_323.out _).trans (((cell_far (p := ⟨gb323, _, none⟩) NB322_323.out _).trans (((cell_far (p := ⟨gb323, _, none⟩) NB322_323.out _).trans (((cell_far (p := ⟨gb323, _, none⟩) NB322_323.out _).trans (((cell_far (p := ⟨gb323, _, none⟩) NB322_323.out _).trans (((cell_far (p := ⟨gb323, _, none⟩) NB322_323.out _).trans (((cell_far (p := ⟨gb323, _, none⟩) NB322_323.out _).trans (((cell_far (p := ⟨gb323, _, none⟩) NB322_323.out _).trans (((cell_far (p := ⟨gb323, _, none⟩) NB322_323.out _).trans (((cell_far (p := ⟨gb323, _, none⟩) NB322_323.out _).trans (hHeld.1)))))))))))))))))))), ((cell_far (p := ⟨gb323, _, none⟩) NB322_323.out _).trans (((cell_far (p := ⟨gb323, _, none⟩) NB322_323.out _).trans (((cell_far (p := ⟨gb323, _, none⟩) NB322_323.out _).trans (((cell_far (p := ⟨gb323, _, none⟩) NB322_323.out _).trans (((cell_far (p := ⟨gb323, _, none⟩) NB322_323.out _).trans (((cell_far (p := ⟨gb323, _, none⟩) NB322_323.out _).trans (((cell_far (p := ⟨gb323, _, none⟩) NB322_323.out _).trans (((cell_far (p := ⟨gb323, _, none⟩) NB322_323.out _).trans (((cell_far (p := ⟨gb323, _, none⟩) NB322_323.out _).trans (((cell_far (p := ⟨gb323, _, none⟩) NB322_323.out _).trans (hHeld.2.1)))))))))))))))))))), ((cell_far (p := ⟨gb323, _, none⟩) NB322_323.out _).trans (((cell_far (p := ⟨gb323, _, none⟩) NB322_323.out _).trans (((cell_far (p := ⟨gb323, _, none⟩) NB322_323.out _).trans (((cell_far (p := ⟨gb323, _, none⟩) NB322_323.out _).trans (((cell_far (p := ⟨gb323, _, none⟩) NB322_323.out _).trans (((cell_far (p := ⟨gb323, _, none⟩) NB322_323.out _).trans (((cell_far (p := ⟨gb323, _, none⟩) NB322_323.out _).trans (((cell_far (p := ⟨gb323, _, none⟩) NB322_323.out _).trans (((cell_far (p := ⟨gb323, _, none⟩) NB322_323.out _).trans (((cell_far (p := ⟨gb323, _, none⟩) NB322_323.out _).trans (hHeld.2.2.1)))))))))))))))))))), ((cell_far (p := ⟨gb323, _, none⟩) NB322_323.out _).trans (((cell_far (p := ⟨gb323, _, none⟩) NB322_323.out _).trans (((cell_far (p := ⟨gb323, _, none⟩) NB322_323.out _).trans (((cell_far (p := ⟨gb323, _, none⟩) NB322_323.out _).trans (((cell_far (p := ⟨gb323, _, none⟩) NB322_323.out _).trans (((cell_far (p := ⟨gb323, _, none⟩) NB322_323.out _).trans (((cell_far (p := ⟨gb323, _, none⟩) NB322_323.out _).trans (((cell_far (p := ⟨gb323, _, none⟩) NB322_323.out _).trans (((cell_far (p := ⟨gb323, _, none⟩) NB322_323.out _).trans (((cell_far (p := ⟨gb323, _, none⟩) NB322_323.out _).trans (hHeld.2.2.2.1)))))))))))))))))))), ((cell_far (p := ⟨gb323, _, none⟩) NB322_323.out _).trans (((cell_far (p := ⟨gb323, _, none⟩) NB322_323.out _).trans (((cell_far (p := ⟨gb323, _, none⟩) NB322_323.out _).trans (((cell_far (p := ⟨gb323, _, none⟩) NB322_323.out _).trans (((cell_far (p := ⟨gb323, _, none⟩) NB322_323.out _).trans (((cell_far (p := ⟨gb323, _, none⟩) NB322_323.out _).trans (((cell_far (p := ⟨gb323, _, none⟩) NB322_323.out _).trans (((cell_far (p := ⟨gb323, _, none⟩) NB322_323.out _).trans (((cell_far (p := ⟨gb323, _, none⟩) NB322_323.out _).trans (((cell_far (p := ⟨gb323, _, none⟩) NB322_323.out _).trans (hHeld.2.2.2.2.1)))))))))))))))))))), ((cell_far (p := ⟨gb323, _, none⟩) NB322_323.out _).trans (((cell_far (p := ⟨gb323, _, none⟩) NB322_323.out _).trans (((cell_far (p := ⟨gb323, _, none⟩) NB322_323.out _).trans (((cell_far (p := ⟨gb323, _, none⟩) NB322_323.out _).trans (((cell_far (p := ⟨gb323, _, none⟩) NB322_323.out _).trans (((cell_far (p := ⟨gb323, _, none⟩) NB322_323.out _).trans (((cell_far (p := ⟨gb323, _, none⟩) NB322_323.out _).trans (((cell_far (p := ⟨gb323, _, none⟩) NB322_323.out _).trans (((cell_far (p := ⟨gb323, _, none⟩) NB322_323.out _).trans (((cell_far (p := ⟨gb323, _, none⟩) NB322_323.out _).trans (hHeld.2.2.2.2.2.1)))))))))))))))))))), ((cell_far (p := ⟨gb323, _, none⟩) NB322_323.out _).trans (((cell_far (p := ⟨gb323, _, none⟩) NB322_323.out _).trans (((cell_far (p := ⟨gb323, _, none⟩) NB322_323.out _).trans (((cell_far (p := ⟨gb323, _, none⟩) NB322_323.out _).trans (((cell_far (p := ⟨gb323, _, none⟩) NB322_323.out _).trans (((cell_far (p := ⟨gb323, _, none⟩) NB322_323.out _).trans (((cell_far (p := ⟨gb323, _, none⟩) NB322_323.out _).trans (((cell_far (p := ⟨gb323, _, none⟩) NB322_323.out _).trans (((cell_far (p := ⟨gb323, _, none⟩) NB322_323.out _).trans (((cell_far (p := ⟨gb323, _, none⟩) NB322_323.out _).trans (hHeld.2.2.2.2.2.2.1)))))))))))))))))))), ((cell_far (p := ⟨gb323, _, none⟩) NB322_323.out _).trans (((cell_far (p := ⟨gb323, _, none⟩) NB322_323.out _).trans (((cell_far (p := ⟨gb323, _, none⟩) NB322_323.out _).trans (((cell_far (p := ⟨gb323, _, none⟩) NB322_323.out _).trans (((cell_far (p := ⟨gb323, _, none⟩) NB322_323.out _).trans (((cell_far (p := ⟨gb323, _, none⟩) NB322_323.out _).trans (((cell_far (p := ⟨gb323, _, none⟩) NB322_323.out _).trans (((cell_far (p := ⟨gb323, _, none⟩) NB322_323.out _).trans (((cell_far (p := ⟨gb323, _, none⟩) NB322_323.out _).trans (((cell_far (p := ⟨gb323, _, none⟩) NB322_323.out _).trans (hHeld.2.2.2.2.2.2.2.1)))))))))))))))))))), ((cell_far (p := ⟨gb323, _, none⟩) NB322_323.out _).trans (((cell_far (p := ⟨gb323, _, none⟩) NB322_323.out _).trans (((cell_far (p := ⟨gb323, _, none⟩) NB322_323.out _).trans (((cell_far (p := ⟨gb323, _, none⟩) NB322_323.out _).trans (((cell_far (p := ⟨gb323, _, none⟩) NB322_323.out _).trans (((cell_far (p := ⟨gb323, _, none⟩) NB322_323.out _).trans (((cell_far (p := ⟨gb323, _, none⟩) NB322_323.out _).trans (((cell_far (p := ⟨gb323, _, none⟩) NB322_323.out _).trans (((cell_far (p := ⟨gb323, _, none⟩) NB322_323.out _).trans (((cell_far (p := ⟨gb323, _, none⟩) NB322_323.out _).trans (hHeld.2.2.2.2.2.2.2.2.1)))))))))))))))))))), ((cell_far (p := ⟨gb323, _, none⟩) NB322_323.out _).trans (((cell_far (p := ⟨gb323, _, none⟩) NB322_323.out _).trans (((cell_far (p := ⟨gb323, _, none⟩) NB322_323.out _).trans (((cell_far (p := ⟨gb323, _, none⟩) NB322_323.out _).trans (((cell_far (p := ⟨gb323, _, none⟩) NB322_323.out _).trans (((cell_far (p := ⟨gb323, _, none⟩) NB322_323.out _).trans (((cell_far (p := ⟨gb323, _, none⟩) NB322_323.out _).trans (((cell_far (p := ⟨gb323, _, none⟩) NB322_323.out _).trans (((cell_far (p := ⟨gb323, _, none⟩) NB322_323.out _).trans (((cell_far (p := ⟨gb323, _, none⟩) NB322_323.out _).trans (hHeld.2.2.2.2.2.2.2.2.2.1)))))))))))))))))))), ((cell_far (p := ⟨gb323, _, none⟩) (by first | exact Nat.ne_of_lt (Nat.lt_of_lt_of_le (by have := World.block_lt_of_cell? _ _ hw341_0; first | rwa [add_block] at this | exact this) GW323.out) | (rw [add_block]; exact Nat.ne_of_lt (Nat.lt_of_lt_of_le (by have := World.block_lt_of_cell? _ _ hw341_0; first | rwa [add_block] at this | exact this) GW323.out)) | (show (Addr.add _ _).block ≠ _; rw [add_block]; exact Nat.ne_of_lt (Nat.lt_of_lt_of_le (by have := World.block_lt_of_cell? _ _ hw341_0; first | rwa [add_block] at this | exact this) GW323.out)) | (dsimp only; exact Nat.ne_of_lt (Nat.lt_of_lt_of_le (by have := World.block_lt_of_cell? _ _ hw341_0; first | rwa [add_block] at this | exact this) GW323.out))) _).trans (((cell_far (p := ⟨gb323, _, none⟩) (by first | exact Nat.ne_of_lt (Nat.lt_of_lt_of_le (by have := World.block_lt_of_cell? _ _ hw341_0; first | rwa [add_block] at this | exact this) GW323.out) | (rw [add_block]; exact Nat.ne_of_lt (Nat.lt_of_lt_of_le (by have := World.block_lt_of_cell? _ _ hw341_0; first | rwa [add_block] at this | exact this) GW323.out)) | (show (Addr.add _ _).block ≠ _; rw [add_block]; exact Nat.ne_of_lt (Nat.lt_of_lt_of_le (by have := World.block_lt_of_cell? _ _ hw341_0; first | rwa [add_block] at this | exact this) GW323.out)) | (dsimp only; exact Nat.ne_of_lt (Nat.lt_of_lt_of_le (by have := World.block_lt_of_cell? _ _ hw341_0; first | rwa [add_block] at this | exact this) GW323.out))) _).trans (((cell_far (p := ⟨gb323, _, none⟩) (by first | exact Nat.ne_of_lt (Nat.lt_of_lt_of_le (by have := World.block_lt_of_cell? _ _ hw341_0; first | rwa [add_block] at this | exact this) GW323.out) | (rw [add_block]; exact Nat.ne_of_lt (Nat.lt_of_lt_of_le (by have := World.block_lt_of_cell? _ _ hw341_0; first | rwa [add_block] at this | exact this) GW323.out)) | (show (Addr.add _ _).block ≠ _; rw [add_block]; exact Nat.ne_of_lt (Nat.lt_of_lt_of_le (by have := World.block_lt_of_cell? _ _ hw341_0; first | rwa [add_block] at this | exact this) GW323.out)) | (dsimp only; exact Nat.ne_of_lt (Nat.lt_of_lt_of_le (by have := World.block_lt_of_cell? _ _ hw341_0; first | rwa [add_block] at this | exact this) GW323.out))) _).trans (((cell_far (p := ⟨gb323, _, none⟩) (by first | exact Nat.ne_of_lt (Nat.lt_of_lt_of_le (by have := World.block_lt_of_cell? _ _ hw341_0; first | rwa [add_block] at this | exact this) GW323.out) | (rw [add_block]; exact Nat.ne_of_lt (Nat.lt_of_lt_of_le (by have := World.block_lt_of_cell? _ _ hw341_0; first | rwa [add_block] at this | exact this) GW323.out)) | (show (Addr.add _ _).block ≠ _; rw [add_block]; exact Nat.ne_of_lt (Nat.lt_of_lt_of_le (by have := World.block_lt_of_cell? _ _ hw341_0; first | rwa [add_block] at this | exact this) GW323.out)) | (dsimp only; exact Nat.ne_of_lt (Nat.lt_of_lt_of_le (by have := World.block_lt_of_cell? _ _ hw341_0; first | rwa [add_block] at this | exact this) GW323.out))) _).trans (((cell_far (p := ⟨gb323, _, none⟩) (by first | exact Nat.ne_of_lt (Nat.lt_of_lt_of_le (by have := World.block_lt_of_cell? _ _ hw341_0; first | rwa [add_block] at this | exact this) GW323.out) | (rw [add_block]; exact Nat.ne_of_lt (Nat.lt_of_lt_of_le (by have := World.block_lt_of_cell? _ _ hw341_0; first | rwa [add_block] at this | exact this) GW323.out)) | (show (Addr.add _ _).block ≠ _; rw [add_block]; exact Nat.ne_of_lt (Nat.lt_of_lt_of_le (by have := World.block_lt_of_cell? _ _ hw341_0; first | rwa [add_block] at this | exact this) GW323.out)) | (dsimp only; exact Nat.ne_of_lt (Nat.lt_of_lt_of_le (by have := World.block_lt_of_cell? _ _ hw341_0; first | rwa [add_block] at this | exact this) GW323.out))) _).trans (((cell_far (p := ⟨gb323, _, none⟩) (by first | exact Nat.ne_of_lt (Nat.lt_of_lt_of_le (by have := World.block_lt_of_cell? _ _ hw341_0; first | rwa [add_block] at this | exact this) GW323.out) | (rw [add_block]; exact Nat.ne_of_lt (Nat.lt_of_lt_of_le (by have := World.block_lt_of_cell? _ _ hw341_0; first | rwa [add_block] at this | exact this) GW323.out)) | (show (Addr.add _ _).block ≠ _; rw [add_block]; exact Nat.ne_of_lt (Nat.lt_of_lt_of_le (by have := World.block_lt_of_cell? _ _ hw341_0; first | rwa [add_block] at this | exact this) GW323.out)) | (dsimp only; exact Nat.ne_of_lt (Nat.lt_of_lt_of_le (by have := World.block_lt_of_cell? _ _ hw341_0; first | rwa [add_block] at this | exact this) GW323.out))) _).trans (((cell_far (p := ⟨gb323, _, none⟩) (by first | exact Nat.ne_of_lt (Nat.lt_of_lt_of_le (by have := World.block_lt_of_cell? _ _ hw341_0; first | rwa [add_block] at this | exact this) GW323.out) | (rw [add_block]; exact Nat.ne_of_lt (Nat.lt_of_lt_of_le (by have := World.block_lt_of_cell? _ _ hw341_0; first | rwa [add_block] at this | exact this) GW323.out)) | (show (Addr.add _ _).block ≠ _; rw [add_block]; exact Nat.ne_of_lt (Nat.lt_of_lt_of_le (by have := World.block_lt_of_cell? _ _ hw341_0; first | rwa [add_block] at this | exact this) GW323.out)) | (dsimp only; exact Nat.ne_of_lt (Nat.lt_of_lt_of_le (by have := World.block_lt_of_cell? _ _ hw341_0; first | rwa [add_block] at this | exact this) GW323.out))) _).trans (((cell_far (p := ⟨gb323, _, none⟩) (by first | exact Nat.ne_of_lt (Nat.lt_of_lt_of_le (by have := World.block_lt_of_cell? _ _ hw341_0; first | rwa [add_block] at this | exact this) GW323.out) | (rw [add_block]; exact Nat.ne_of_lt (Nat.lt_of_lt_of_le (by have := World.block_lt_of_cell? _ _ hw341_0; first | rwa [add_block] at this | exact this) GW323.out)) | (show (Addr.add _ _).block ≠ _; rw [add_block]; exact Nat.ne_of_lt (Nat.lt_of_lt_of_le (by have := World.block_lt_of_cell? _ _ hw341_0; first | rwa [add_block] at this | exact this) GW323.out)) | (dsimp only; exact Nat.ne_of_lt (Nat.lt_of_lt_of_le (by have := World.block_lt_of_cell? _ _ hw341_0; first | rwa [add_block] at this | exact this) GW323.out))) _).trans (((cell_far (p := ⟨gb323, _, none⟩) (by first | exact Nat.ne_of_lt (Nat.lt_of_lt_of_le (by have := World.block_lt_of_cell? _ _ hw341_0; first | rwa [add_block] at this | exact this) GW323.out) | (rw [add_block]; exact Nat.ne_of_lt (Nat.lt_of_lt_of_le (by have := World.block_lt_of_cell? _ _ hw341_0; first | rwa [add_block] at this | exact this) GW323.out)) | (show (Addr.add _ _).block ≠ _; rw [add_block]; exact Nat.ne_of_lt (Nat.lt_of_lt_of_le (by have := World.block_lt_of_cell? _ _ hw341_0; first | rwa [add_block] at this | exact this) GW323.out)) | (dsimp only; exact Nat.ne_of_lt (Nat.lt_of_lt_of_le (by have := World.block_lt_of_cell? _ _ hw341_0; first | rwa [add_block] at this | exact this) GW323.out))) _).trans (((cell_far (p := ⟨gb323, _, none⟩) (by first | exact Nat.ne_of_lt (Nat.lt_of_lt_of_le (by have := World.block_lt_of_cell? _ _ hw341_0; first | rwa [add_block] at this | exact this) GW323.out) | (rw [add_block]; exact Nat.ne_of_lt (Nat.lt_of_lt_of_le (by have := World.block_lt_of_cell? _ _ hw341_0; first | rwa [add_block] at this | exact this) GW323.out)) | (show (Addr.add _ _).block ≠ _; rw [add_block]; exact Nat.ne_of_lt (Nat.lt_of_lt_of_le (by have := World.block_lt_of_cell? _ _ hw341_0; first | rwa [add_block] at this | exact this) GW323.out)) | (dsimp only; exact Nat.ne_of_lt (Nat.lt_of_lt_of_le (by have := World.block_lt_of_cell? _ _ hw341_0; first | rwa [add_block] at this | exact this) GW323.out))) _).trans (hHeld.2.2.2.2.2.2.2.2.2.2))))))))))))))))))))⟩ (fun hHeld => ?_)
                clear hK K
                refine done_ (by kernel_rfl) ?_
                try go_wp2
                refine bodyPost_ret (results_cell_row rfl _ _ gb323 23 #[.bool t342, .bool t343, .bool t344, .bool t345, .bool t346, .bool t347, .bool t348, .int .i64 t349, .int .i64 t350, .int .i64 t351] (0, 0) _ rfl (by (with_reducible repeat (first | refine blk_drewN ?_ _ | refine blk_drew ?_ | refine blk_alloc ?_ _)); refine blk_put (cs := #[.bool t342, .bool t343, .bool t344, .bool t345, .bool t346, .bool t347, .bool t348, .int .i64 t349, .int .i64 t350, .int .i64 0]) ?_ 9 _ rfl; (with_reducible repeat (first | refine blk_drewN ?_ _ | refine blk_drew ?_ | refine blk_alloc ?_ _)); refine blk_put (cs := #[.bool t342, .bool t343, .bool t344, .bool t345, .bool t346, .bool t347, .bool t348, .int .i64 t349, .int .i64 0, .int .i64 0]) ?_ 8 _ rfl; (with_reducible repeat (first | refine blk_drewN ?_ _ | refine blk_drew ?_ | refine blk_alloc ?_ _)); refine blk_put (cs := #[.bool t342, .bool t343, .bool t344, .bool t345, .bool t346, .bool t347, .bool t348, .int .i64 0, .int .i64 0, .int .i64 0]) ?_ 7 _ rfl; (with_reducible repeat (first | refine blk_drewN ?_ _ | refine blk_drew ?_ | refine blk_alloc ?_ _)); refine blk_put (cs := #[.bool t342, .bool t343, .bool t344, .bool t345, .bool t346, .bool t347, .bool false, .int .i64 0, .int .i64 0, .int .i64 0]) ?_ 6 _ rfl; (with_reducible repeat (first | refine blk_drewN ?_ _ | refine blk_drew ?_ | refine blk_alloc ?_ _)); refine blk_put (cs := #[.bool t342, .bool t343, .bool t344, .bool t345, .bool t346, .bool false, .bool false, .int .i64 0, .int .i64 0, .int .i64 0]) ?_ 5 _ rfl; (with_reducible repeat (first | refine blk_drewN ?_ _ | refine blk_drew ?_ | refine blk_alloc ?_ _)); refine blk_put (cs := #[.bool t342, .bool t343, .bool t344, .bool t345, .bool false, .bool false, .bool false, .int .i64 0, .int .i64 0, .int .i64 0]) ?_ 4 _ rfl; (with_reducible repeat (first | refine blk_drewN ?_ _ | refine blk_drew ?_ | refine blk_alloc ?_ _)); refine blk_put (cs := #[.bool t342, .bool t343, .bool t344, .bool false, .bool false, .bool false, .bool false, .int .i64 0, .int .i64 0, .int .i64 0]) ?_ 3 _ rfl; (with_reducible repeat (first | refine blk_drewN ?_ _ | refine blk_drew ?_ | refine blk_alloc ?_ _)); refine blk_put (cs := #[.bool t342, .bool t343, .bool false, .bool false, .bool false, .bool false, .bool false, .int .i64 0, .int .i64 0, .int .i64 0]) ?_ 2 _ rfl; (with_reducible repeat (first | refine blk_drewN ?_ _ | refine blk_drew ?_ | refine blk_alloc ?_ _)); refine blk_put (cs := #[.bool t342, .bool false, .bool false, .bool false, .bool false, .bool false, .bool false, .int .i64 0, .int .i64 0, .int .i64 0]) ?_ 1 _ rfl; (with_reducible repeat (first | refine blk_drewN ?_ _ | refine blk_drew ?_ | refine blk_alloc ?_ _)); refine blk_put (cs := #[.bool false, .bool false, .bool false, .bool false, .bool false, .bool false, .bool false, .int .i64 0, .int .i64 0, .int .i64 0]) ?_ 0 _ rfl; (with_reducible repeat (first | refine blk_drewN ?_ _ | refine blk_drew ?_ | refine blk_alloc ?_ _)); exact BK323.out) Tryd.underlying23 rfl (by kernel_rfl)) rfl ?_
                exact ⟨by first | rfl | (simp [errW_none, errW_some] <;> rfl) | (simp [*, errW_none, errW_some] <;> rfl), by repeat (first | (with_reducible first | exact HB.out | apply below_alloc | apply pw_below_drewN | apply below_drew1 | refine below_set ?_ GE322.out | refine below_set ?_ GE323.out) | exact HB.out)⟩
              · rw [if_neg c34] at H
                have c34b0 : decide ((-1) ≤ t340) = false := decide_eq_false c34
                clear c34
                replace H := Option.bind_eq_some_iff.mp H
                obtain ⟨⟨t353, t354, t355, t356, t357, t358, t359, t360, t361, t362⟩, A510, H⟩ := H
                replace H : (some (t353, t354, t355, t356, t357, t358, t359, t360, t361, t362)) = some (r1, r2, r3, r4, r5, r6, r7, r8, r9, r10) := H
                have A51 := Aside0.mk A510
                clear A510
                simp only [Option.some.injEq, Prod.mk.injEq] at H
                obtain ⟨rfl, rfl, rfl, rfl, rfl, rfl, rfl, rfl, rfl, rfl⟩ := H
                have p335 : 0 ≤ (0 : Int) := (by omega)
                have q335 : 0 < (l1.length : Int) := of_decide_eq_true (by first | (with_reducible assumption) | assumption)
                obtain ⟨ad335, e335, hx335_0⟩ := Kd.at_int HR1.out 0 p335 q335
                cases e335
                have qi335 : (0 < l1.length) = True := eq_true (by omega)
                (try rw [show ((0 : Int)).toNat = 0 from rfl] at hx335_0)
                (try rw [Addr.add_zero'] at hx335_0)
                replace hx335_0 := (HB.out.cell (World.block_lt_of_cell? w _ hx335_0)).trans hx335_0
                replace p335 := eq_true p335
                replace q335 := eq_true q335
                try go_wp2_with (first | ((with_reducible refine gate_callee (f := 45) rfl ?_); refine goesL_ (some 41) rfl rfl Tryd.func45 (by kernel_rfl) rfl #[.slice (some ad335) l1.length c1, .int .i64 30] rfl (by (try simp only [List.map_toArray, List.map_cons, List.map_nil]); first | done | rfl | (simp only [List.length_drop, List.length_take]; rfl)) ?_; (with_reducible refine (clavierref18_said.calls kj2 _ _ l1 30 t339 _ ?side1 ?side2 A31.out).mono ?_); (case side1 => repeat (first | exact (Kd.C_below HR1.out HB.out) | (with_reducible refine Kd.C_alloc ?_ _) | (with_reducible refine Kd.C_drewN ?_ _) | (with_reducible refine Kd.C_drew ?_))); (case side2 => exact HC1.out); rintro e w' ⟨rfl, ⟨nd, rfl⟩⟩; refine ⟨_, rfl, ?_⟩; (try (rw [drewN_self wc]; generalize hq_ : World.drewN wc _ = wc; have n0_ : Aside0 (wc.heap[gb322]? = some (.cells #[.bool a0_0, .bool a0_1, .bool a0_2, .bool a0_3, .bool a0_4, .bool a0_5, .bool a0_6, .int .i64 a0_7, .int .i64 a0_8, .int .i64 a0_9] 23 (0, 0))) := ⟨by rw [← hq_]; exact (by (with_reducible repeat (first | refine blk_drewN ?_ _ | refine blk_drew ?_ | refine blk_alloc ?_ _)); exact BK322.out)⟩; have n1_ : Aside0 (wc.heap[gb323]? = some (.cells #[.bool false, .bool false, .bool false, .bool false, .bool false, .bool false, .bool false, .int .i64 0, .int .i64 0, .int .i64 0] 23 (0, 0))) := ⟨by rw [← hq_]; exact (by (with_reducible repeat (first | refine blk_drewN ?_ _ | refine blk_drew ?_ | refine blk_alloc ?_ _)); exact BK323.out)⟩; have n2_ : Aside0 (Below w.heap.size w wc) := ⟨by rw [← hq_]; exact (by repeat (first | (with_reducible first | exact HB.out | apply below_alloc | apply pw_below_drewN | apply below_drew1 | refine below_set ?_ GE322.out | refine below_set ?_ GE323.out) | exact HB.out))⟩; clear BK322 BK323 HB hq_; have BK322 := n0_; have BK323 := n1_; have HB := n2_; clear n0_ n1_ n2_))) | ((with_reducible refine gate_callee (f := 45) rfl ?_); refine goesL_ (some 43) rfl rfl Tryd.func45 (by kernel_rfl) rfl #[.slice (some ad335) l1.length c1, .int .i64 40] rfl (by (try simp only [List.map_toArray, List.map_cons, List.map_nil]); first | done | rfl | (simp only [List.length_drop, List.length_take]; rfl)) ?_; (with_reducible refine (clavierref18_said.calls kj2 _ _ l1 40 t340 _ ?side1 ?side2 A32.out).mono ?_); (case side1 => repeat (first | exact (Kd.C_below HR1.out HB.out) | (with_reducible refine Kd.C_alloc ?_ _) | (with_reducible refine Kd.C_drewN ?_ _) | (with_reducible refine Kd.C_drew ?_))); (case side2 => exact HC1.out); rintro e w' ⟨rfl, ⟨nd, rfl⟩⟩; refine ⟨_, rfl, ?_⟩; (try (rw [drewN_self wc]; generalize hq_ : World.drewN wc _ = wc; have n0_ : Aside0 (wc.heap[gb322]? = some (.cells #[.bool a0_0, .bool a0_1, .bool a0_2, .bool a0_3, .bool a0_4, .bool a0_5, .bool a0_6, .int .i64 a0_7, .int .i64 a0_8, .int .i64 a0_9] 23 (0, 0))) := ⟨by rw [← hq_]; exact (by (with_reducible repeat (first | refine blk_drewN ?_ _ | refine blk_drew ?_ | refine blk_alloc ?_ _)); exact BK322.out)⟩; have n1_ : Aside0 (wc.heap[gb323]? = some (.cells #[.bool false, .bool false, .bool false, .bool false, .bool false, .bool false, .bool false, .int .i64 0, .int .i64 0, .int .i64 0] 23 (0, 0))) := ⟨by rw [← hq_]; exact (by (with_reducible repeat (first | refine blk_drewN ?_ _ | refine blk_drew ?_ | refine blk_alloc ?_ _)); exact BK323.out)⟩; have n2_ : Aside0 (Below w.heap.size w wc) := ⟨by rw [← hq_]; exact (by repeat (first | (with_reducible first | exact HB.out | apply below_alloc | apply pw_below_drewN | apply below_drew1 | refine below_set ?_ GE322.out | refine below_set ?_ GE323.out) | exact HB.out))⟩; clear BK322 BK323 HB hq_; have BK322 := n0_; have BK323 := n1_; have HB := n2_; clear n0_ n1_ n2_)); have hnb52 := NB322_323.out; have hnc52 := NB323_322.out; have hcz53_0 : wc.cell? ⟨gb322, 0, none⟩ = some (.bool a0_0) := (blk_cell BK322.out 0).trans rfl; have hcz53_1 : wc.cell? ⟨gb322, 1, none⟩ = some (.bool a0_1) := (blk_cell BK322.out 1).trans rfl; have hcz53_2 : wc.cell? ⟨gb322, 2, none⟩ = some (.bool a0_2) := (blk_cell BK322.out 2).trans rfl; have hcz53_3 : wc.cell? ⟨gb322, 3, none⟩ = some (.bool a0_3) := (blk_cell BK322.out 3).trans rfl; have hcz53_4 : wc.cell? ⟨gb322, 4, none⟩ = some (.bool a0_4) := (blk_cell BK322.out 4).trans rfl; have hcz53_5 : wc.cell? ⟨gb322, 5, none⟩ = some (.bool a0_5) := (blk_cell BK322.out 5).trans rfl; have hcz53_6 : wc.cell? ⟨gb322, 6, none⟩ = some (.bool a0_6) := (blk_cell BK322.out 6).trans rfl; have hcz53_7 : wc.cell? ⟨gb322, 7, none⟩ = some (.int .i64 a0_7) := (blk_cell BK322.out 7).trans rfl; have hcz53_8 : wc.cell? ⟨gb322, 8, none⟩ = some (.int .i64 a0_8) := (blk_cell BK322.out 8).trans rfl; have hcz53_9 : wc.cell? ⟨gb322, 9, none⟩ = some (.int .i64 a0_9) := (blk_cell BK322.out 9).trans rfl; have hfz53_0 := blk_frozen BK322.out 0; have hfz53_1 := blk_frozen BK322.out 1; have hfz53_2 := blk_frozen BK322.out 2; have hfz53_3 := blk_frozen BK322.out 3; have hfz53_4 := blk_frozen BK322.out 4; have hfz53_5 := blk_frozen BK322.out 5; have hfz53_6 := blk_frozen BK322.out 6; have hfz53_7 := blk_frozen BK322.out 7; have hfz53_8 := blk_frozen BK322.out 8; have hfz53_9 := blk_frozen BK322.out 9))
                have n0_ : Aside0 ((wc.setCell ⟨gb322, 8, none⟩ (.int .i64 t339)).heap[gb322]? = some (.cells #[.bool a0_0, .bool a0_1, .bool a0_2, .bool a0_3, .bool a0_4, .bool a0_5, .bool a0_6, .int .i64 a0_7, .int .i64 t339, .int .i64 a0_9] 23 (0, 0))) := ⟨by (with_reducible repeat (first | refine blk_drewN ?_ _ | refine blk_drew ?_ | refine blk_alloc ?_ _)); refine blk_put (cs := #[.bool a0_0, .bool a0_1, .bool a0_2, .bool a0_3, .bool a0_4, .bool a0_5, .bool a0_6, .int .i64 a0_7, .int .i64 a0_8, .int .i64 a0_9]) ?_ 8 _ rfl; (with_reducible repeat (first | refine blk_drewN ?_ _ | refine blk_drew ?_ | refine blk_alloc ?_ _)); exact BK322.out⟩
                have n1_ : Aside0 ((wc.setCell ⟨gb322, 8, none⟩ (.int .i64 t339)).heap[gb323]? = some (.cells #[.bool false, .bool false, .bool false, .bool false, .bool false, .bool false, .bool false, .int .i64 0, .int .i64 0, .int .i64 0] 23 (0, 0))) := ⟨by (with_reducible repeat (first | refine blk_drewN ?_ _ | refine blk_drew ?_ | refine blk_alloc ?_ _)); refine blk_far ?_ NB323_322.out _; (with_reducible repeat (first | refine blk_drewN ?_ _ | refine blk_drew ?_ | refine blk_alloc ?_ _)); exact BK323.out⟩
                have n2_ : Aside0 (Below w.heap.size w (wc.setCell ⟨gb322, 8, none⟩ (.int .i64 t339))) := ⟨by repeat (first | (with_reducible first | exact HB.out | apply below_alloc | apply pw_below_drewN | apply below_drew1 | refine below_set ?_ GE322.out | refine below_set ?_ GE323.out) | exact HB.out)⟩
                (try clear BK322)
                (try clear BK323)
                (try clear HB)
                generalize (wc.setCell ⟨gb322, 8, none⟩ (.int .i64 t339)) = w54 at n0_ n1_ n2_ ⊢
                have BK322 := n0_
                have BK323 := n1_
                have HB := n2_
                clear n0_ n1_ n2_
                have n0_ := Aside0.mk (blk_drew BK322.out)
                have n1_ := Aside0.mk (blk_drew BK323.out)
                have n2_ := Aside0.mk (below_drew1 HB.out)
                clear BK322
                clear BK323
                clear HB
                have BK322 := n0_
                have BK323 := n1_
                have HB := n2_
                clear n0_ n1_ n2_
                have p352 : 0 ≤ (0 : Int) := (by omega)
                have q352 : 0 < (l1.length : Int) := of_decide_eq_true (by first | (with_reducible assumption) | assumption)
                obtain ⟨ad352, e352, hx352_0⟩ := Kd.at_int HR1.out 0 p352 q352
                have hw352_0 := hx352_0
                (try rw [show ((0 : Int)).toNat = 0 from rfl] at hw352_0)
                (try rw [show 0 * 1 = 0 from rfl] at hw352_0)
                (try rw [Addr.add_zero'] at hw352_0)
                obtain rfl : ad335 = ad352 := (by injection e352)
                have qi352 : (0 < l1.length) = True := eq_true (by omega)
                (try rw [show ((0 : Int)).toNat = 0 from rfl] at hx352_0)
                (try rw [Addr.add_zero'] at hx352_0)
                replace hx352_0 := (HB.out.cell (World.block_lt_of_cell? w _ hx352_0)).trans hx352_0
                replace p352 := eq_true p352
                replace q352 := eq_true q352
                refine start_ (n := 6) (S := fun w' => w'.cell? ⟨gb322, 0, none⟩ = some (.bool a0_0) ∧ w'.cell? ⟨gb322, 1, none⟩ = some (.bool a0_1) ∧ w'.cell? ⟨gb322, 2, none⟩ = some (.bool a0_2) ∧ w'.cell? ⟨gb322, 3, none⟩ = some (.bool a0_3) ∧ w'.cell? ⟨gb322, 4, none⟩ = some (.bool a0_4) ∧ w'.cell? ⟨gb322, 5, none⟩ = some (.bool a0_5) ∧ w'.cell? ⟨gb322, 6, none⟩ = some (.bool a0_6) ∧ w'.cell? ⟨gb322, 7, none⟩ = some (.int .i64 a0_7) ∧ w'.cell? ⟨gb322, 8, none⟩ = some (.int .i64 t339) ∧ w'.cell? ⟨gb322, 9, none⟩ = some (.int .i64 a0_9) ∧ w'.cell? ad335 = some (.int .i64 (rd l1 0))) (ds := []) #[false, false, false, false, false, false] (by kernel_rfl) rfl rfl ⟨(blk_cell BK322.out 0).trans rfl, (blk_cell BK322.out 1).trans rfl, (blk_cell BK322.out 2).trans rfl, (blk_cell BK322.out 3).trans rfl, (blk_cell BK322.out 4).trans rfl, (blk_cell BK322.out 5).trans rfl, (blk_cell BK322.out 6).trans rfl, (blk_cell BK322.out 7).trans rfl, (blk_cell BK322.out 8).trans rfl, (blk_cell BK322.out 9).trans rfl, ((HB.out.cell (World.block_lt_of_cell? w _ hw352_0)).trans hw352_0)⟩ (fun hHeld => ?_)
                generalize w54.drew = w55 at BK322 BK323 HB hx352_0 hHeld ⊢
                refine pure_ (i := 1) (N := some 53) (v := ?_) (a' := ?_) #[false, true, false, false, false, false] rfl rfl (by kernel_rfl) (fun _ _ _ h => h) (Or.inl ⟨by rfl, ?_⟩) ?_ ?_
                rotate_left
                · intro w'
                  go_simp
                  with_reducible rfl
                rotate_left
                · simp only [Act.put, List.setIfInBounds_toArray, List.set_cons_zero, List.set_cons_succ, i64_w, i32_w]
                  rfl
                refine pure_ (i := 2) (N := some 54) (v := ?_) (a' := ?_) #[false, true, true, false, false, false] rfl rfl (by kernel_rfl) (fun _ _ _ h => h) (Or.inl ⟨by rfl, ?_⟩) ?_ ?_
                rotate_left
                · intro w'
                  go_simp
                  with_reducible rfl
                rotate_left
                · simp only [Act.put, List.setIfInBounds_toArray, List.set_cons_zero, List.set_cons_succ, i64_w, i32_w]
                  rfl
                refine take_ (i := 0) (N := some 52) (v := ?_) (a' := ?_) #[true, true, true, false, false, false] rfl rfl (by kernel_rfl) (fun _ _ _ h => h) (Or.inl ⟨by rfl, ?_⟩) hHeld ?_ ?_
                rotate_left
                · rintro w' ⟨s0, s1, s2, s3, s4, s5, s6, s7, s8, s9, s10⟩
                  go_simp
                  with_reducible rfl
                rotate_left
                · simp only [Act.put, List.setIfInBounds_toArray, List.set_cons_zero, List.set_cons_succ, i64_w, i32_w]
                  rfl
                refine take_ (i := 3) (N := some 55) (v := ?_) (a' := ?_) #[true, true, true, true, false, false] rfl rfl (by kernel_rfl) (fun _ _ _ h => h) (Or.inl ⟨by rfl, ?_⟩) hHeld ?_ ?_
                rotate_left
                · rintro w' ⟨s0, s1, s2, s3, s4, s5, s6, s7, s8, s9, s10⟩
                  go_simp
                  with_reducible rfl
                rotate_left
                · simp only [Act.put, List.setIfInBounds_toArray, List.set_cons_zero, List.set_cons_succ, i64_w, i32_w]
                  rfl
                refine one_ (i := 4) (N := some 56) #[true, true, true, true, true, false] rfl rfl (by kernel_rfl) (by decide) (fun K hK => ?_)
                refine goes_ Tryd.func46 (by kernel_rfl) rfl #[.agg #[.bool a0_0, .bool a0_1, .bool a0_2, .bool a0_3, .bool a0_4, .bool a0_5, .bool a0_6, .int .i64 a0_7, .int .i64 t339, .int .i64 a0_9], .int .i64 (rd l1 0)] (by rfl) rfl rfl (by (try simp only [List.map_toArray, List.map_cons, List.map_nil]); first | done | rfl | (simp only [List.length_drop, List.length_take]; rfl)) ?_
                with_reducible refine (clavierref18_flag.calls a0_0 a0_1 a0_2 a0_3 a0_4 a0_5 a0_6 a0_7 t339 a0_9 (rd l1 0) t353 t354 t355 t356 t357 t358 t359 t360 t361 t362 _ A51.out).mono ?_
                rintro e w56 ⟨rfl, hb⟩
                refine ⟨_, rfl, ?_⟩
                have n0_ := Aside0.mk (blk_below (g := gb322) (o := .cells #[.bool a0_0, .bool a0_1, .bool a0_2, .bool a0_3, .bool a0_4, .bool a0_5, .bool a0_6, .int .i64 a0_7, .int .i64 t339, .int .i64 a0_9] 23 (0, 0)) (by (with_reducible repeat (first | refine blk_drewN ?_ _ | refine blk_drew ?_ | refine blk_alloc ?_ _)); exact BK322.out) hb)
                have n1_ := Aside0.mk (blk_below (g := gb323) (o := .cells #[.bool false, .bool false, .bool false, .bool false, .bool false, .bool false, .bool false, .int .i64 0, .int .i64 0, .int .i64 0] 23 (0, 0)) (by (with_reducible repeat (first | refine blk_drewN ?_ _ | refine blk_drew ?_ | refine blk_alloc ?_ _)); exact BK323.out) hb)
                have n2_ := Aside0.mk (below_step (by repeat (first | (with_reducible first | exact HB.out | apply below_alloc | apply pw_below_drewN | apply below_drew1 | refine below_set ?_ GE322.out | refine below_set ?_ GE323.out) | exact HB.out)) hb)
                clear BK322
                clear BK323
                clear HB
                have BK322 := n0_
                have BK323 := n1_
                have HB := n2_
                clear n0_ n1_ n2_
                (try clear hb)
                (try clear hb2)
                (try clear hk)
                (try clear hi)
                refine hK.out _ _ ⟨(blk_cell BK322.out 0).trans rfl, (blk_cell BK322.out 1).trans rfl, (blk_cell BK322.out 2).trans rfl, (blk_cell BK322.out 3).trans rfl, (blk_cell BK322.out 4).trans rfl, (blk_cell BK322.out 5).trans rfl, (blk_cell BK322.out 6).trans rfl, (blk_cell BK322.out 7).trans rfl, (blk_cell BK322.out 8).trans rfl, (blk_cell BK322.out 9).trans rfl, ((HB.out.cell (World.block_lt_of_cell? w _ hw352_0)).trans hw352_0)⟩ (fun hHeld => ?_)
                clear hK K
                refine norm_ (a' := ?_) ?_ ?_
                rotate_left
                · show Act.put _ (some 56) _ = _
                  simp only [Act.put, List.setIfInBounds_toArray, List.set_cons_zero, List.set_cons_succ, i64_w, i32_w]
                  rfl
                refine one_ (i := 5) (N := none) #[true, true, true, true, true, true] rfl rfl (by kernel_rfl) (by decide) (fun K hK => ?_)
                have hs57 : w56.cell? ⟨gb323, 0, none⟩ = some (.bool false) := (blk_cell BK323.out 0).trans rfl
                have hfs57 := blk_frozen BK323.out 0
                have hns57_0 := NB322_323.out
                have hms57_0 := NB323_322.out
                have hs58 : w56.cell? ⟨gb323, 1, none⟩ = some (.bool false) := (blk_cell BK323.out 1).trans rfl
                have hfs58 := blk_frozen BK323.out 1
                have hns58_0 := NB322_323.out
                have hms58_0 := NB323_322.out
                have hs59 : w56.cell? ⟨gb323, 2, none⟩ = some (.bool false) := (blk_cell BK323.out 2).trans rfl
                have hfs59 := blk_frozen BK323.out 2
                have hns59_0 := NB322_323.out
                have hms59_0 := NB323_322.out
                have hs60 : w56.cell? ⟨gb323, 3, none⟩ = some (.bool false) := (blk_cell BK323.out 3).trans rfl
                have hfs60 := blk_frozen BK323.out 3
                have hns60_0 := NB322_323.out
                have hms60_0 := NB323_322.out
                have hs61 : w56.cell? ⟨gb323, 4, none⟩ = some (.bool false) := (blk_cell BK323.out 4).trans rfl
                have hfs61 := blk_frozen BK323.out 4
                have hns61_0 := NB322_323.out
                have hms61_0 := NB323_322.out
                have hs62 : w56.cell? ⟨gb323, 5, none⟩ = some (.bool false) := (blk_cell BK323.out 5).trans rfl
                have hfs62 := blk_frozen BK323.out 5
                have hns62_0 := NB322_323.out
                have hms62_0 := NB323_322.out
                have hs63 : w56.cell? ⟨gb323, 6, none⟩ = some (.bool false) := (blk_cell BK323.out 6).trans rfl
                have hfs63 := blk_frozen BK323.out 6
                have hns63_0 := NB322_323.out
                have hms63_0 := NB323_322.out
                have hs64 : w56.cell? ⟨gb323, 7, none⟩ = some (.int .i64 0) := (blk_cell BK323.out 7).trans rfl
                have hfs64 := blk_frozen BK323.out 7
                have hns64_0 := NB322_323.out
                have hms64_0 := NB323_322.out
                have hs65 : w56.cell? ⟨gb323, 8, none⟩ = some (.int .i64 0) := (blk_cell BK323.out 8).trans rfl
                have hfs65 := blk_frozen BK323.out 8
                have hns65_0 := NB322_323.out
                have hms65_0 := NB323_322.out
                have hs66 : w56.cell? ⟨gb323, 9, none⟩ = some (.int .i64 0) := (blk_cell BK323.out 9).trans rfl
                have hfs66 := blk_frozen BK323.out 9
                have hns66_0 := NB322_323.out
                have hms66_0 := NB323_322.out
                refine skip_ (w1 := ?_) (by rfl) rfl ?_ ?_
                rotate_left
                · go_simp
                  rfl
                refine hK.out _ _ ⟨((cell_far (p := ⟨gb323, _, none⟩) NB322_323.out _).trans (((cell_far (p := ⟨gb323, _, none⟩) NB322_323.out _).trans (((cell_far (p := ⟨gb323, _, none⟩) NB322_323.out _).trans (((cell_far (p := ⟨gb323, _, none⟩) NB322_323.out _).trans (((cell_far (p := ⟨gb323, _, none⟩) NB322_323.out _).trans (((cell_far (p := ⟨gb323, _, none⟩) NB322_323.out _).trans (((cell_far (p := ⟨gb323, _, none⟩) NB322_323.out _).trans (((cell_far (p := ⟨gb323, _, none⟩) NB322_323.out _).trans (((cell_far (p := ⟨gb323, _, none⟩) NB322_323.out _).trans (((cell_far (p := ⟨gb323, _, none⟩) NB322_323.out _).trans (hHeld.1)))))))))))))))))))), ((cell_far (p := ⟨gb323, _, none⟩) NB322_323.out _).trans (((cell_far (p := ⟨gb323, _, none⟩) NB322_323.out _).trans (((cell_far (p := ⟨gb323, _, none⟩) NB322_323.out _).trans (((cell_far (p := ⟨gb323, _, none⟩) NB322_323.out _).trans (((cell_far (p := ⟨gb323, _, none⟩) NB322_323.out _).trans (((cell_far (p := ⟨gb323, _, none⟩) NB322_323.out _).trans (((cell_far (p := ⟨gb323, _, none⟩) NB322_323.out _).trans (((cell_far (p := ⟨gb323, _, none⟩) NB322_323.out _).trans (((cell_far (p := ⟨gb323, _, none⟩) NB322_323.out _).trans (((cell_far (p := ⟨gb323, _, none⟩) NB322_323.out _).trans (hHeld.2.1)))))))))))))))))))), ((cell_far (p := ⟨gb323, _, none⟩) NB322_323.out _).trans (((cell_far (p := ⟨gb323, _, none⟩) NB322_323.out _).trans (((cell_far (p := ⟨gb323, _, none⟩) NB322_323.out _).trans (((cell_far (p := ⟨gb323, _, none⟩) NB322_323.out _).trans (((cell_far (p := ⟨gb323, _, none⟩) NB322_323.out _).trans (((cell_far (p := ⟨gb323, _, none⟩) NB322_323.out _).trans (((cell_far (p := ⟨gb323, _, none⟩) NB322_323.out _).trans (((cell_far (p := ⟨gb323, _, none⟩) NB322_323.out _).trans (((cell_far (p := ⟨gb323, _, none⟩) NB322_323.out _).trans (((cell_far (p := ⟨gb323, _, none⟩) NB322_323.out _).trans (hHeld.2.2.1)))))))))))))))))))), ((cell_far (p := ⟨gb323, _, none⟩) NB322_323.out _).trans (((cell_far (p := ⟨gb323, _, none⟩) NB322_323.out _).trans (((cell_far (p := ⟨gb323, _, none⟩) NB322_323.out _).trans (((cell_far (p := ⟨gb323, _, none⟩) NB322_323.out _).trans (((cell_far (p := ⟨gb323, _, none⟩) NB322_323.out _).trans (((cell_far (p := ⟨gb323, _, none⟩) NB322_323.out _).trans (((cell_far (p := ⟨gb323, _, none⟩) NB322_323.out _).trans (((cell_far (p := ⟨gb323, _, none⟩) NB322_323.out _).trans (((cell_far (p := ⟨gb323, _, none⟩) NB322_323.out _).trans (((cell_far (p := ⟨gb323, _, none⟩) NB322_323.out _).trans (hHeld.2.2.2.1)))))))))))))))))))), ((cell_far (p := ⟨gb323, _, none⟩) NB322_323.out _).trans (((cell_far (p := ⟨gb323, _, none⟩) NB322_323.out _).trans (((cell_far (p := ⟨gb323, _, none⟩) NB322_323.out _).trans (((cell_far (p := ⟨gb323, _, none⟩) NB322_323.out _).trans (((cell_far (p := ⟨gb323, _, none⟩) NB322_323.out _).trans (((cell_far (p := ⟨gb323, _, none⟩) NB322_323.out _).trans (((cell_far (p := ⟨gb323, _, none⟩) NB322_323.out _).trans (((cell_far (p := ⟨gb323, _, none⟩) NB322_323.out _).trans (((cell_far (p := ⟨gb323, _, none⟩) NB322_323.out _).trans (((cell_far (p := ⟨gb323, _, none⟩) NB322_323.out _).trans (hHeld.2.2.2.2.1)))))))))))))))))))), ((cell_far (p := ⟨gb323, _, none⟩) NB322_323.out _).trans (((cell_far (p := ⟨gb323, _, none⟩) NB322_323.out _).trans (((cell_far (p := ⟨gb323, _, none⟩) NB322_323.out _).trans (((cell_far (p := ⟨gb323, _, none⟩) NB322_323.out _).trans (((cell_far (p := ⟨gb323, _, none⟩) NB322_323.out _).trans (((cell_far (p := ⟨gb323, _, none⟩) NB322_323.out _).trans (((cell_far (p := ⟨gb323, _, none⟩) NB322_323.out _).trans (((cell_far (p := ⟨gb323, _, none⟩) NB322_323.out _).trans (((cell_far (p := ⟨gb323, _, none⟩) NB322_323.out _).trans (((cell_far (p := ⟨gb323, _, none⟩) NB322_323.out _).trans (hHeld.2.2.2.2.2.1)))))))))))))))))))), ((cell_far (p := ⟨gb323, _, none⟩) NB322_323.out _).trans (((cell_far (p := ⟨gb323, _, none⟩) NB322_323.out _).trans (((cell_far (p := ⟨gb323, _, none⟩) NB322_323.out _).trans (((cell_far (p := ⟨gb323, _, none⟩) NB322_323.out _).trans (((cell_far (p := ⟨gb323, _, none⟩) NB322_323.out _).trans (((cell_far (p := ⟨gb323, _, none⟩) NB322_323.out _).trans (((cell_far (p := ⟨gb323, _, none⟩) NB322_323.out _).trans (((cell_far (p := ⟨gb323, _, none⟩) NB322_323.out _).trans (((cell_far (p := ⟨gb323, _, none⟩) NB322_323.out _).trans (((cell_far (p := ⟨gb323, _, none⟩) NB322_323.out _).trans (hHeld.2.2.2.2.2.2.1)))))))))))))))))))), ((cell_far (p := ⟨gb323, _, none⟩) NB322_323.out _).trans (((cell_far (p := ⟨gb323, _, none⟩) NB322_323.out _).trans (((cell_far (p := ⟨gb323, _, none⟩) NB322_323.out _).trans (((cell_far (p := ⟨gb323, _, none⟩) NB322_323.out _).trans (((cell_far (p := ⟨gb323, _, none⟩) NB322_323.out _).trans (((cell_far (p := ⟨gb323, _, none⟩) NB322_323.out _).trans (((cell_far (p := ⟨gb323, _, none⟩) NB322_323.out _).trans (((cell_far (p := ⟨gb323, _, none⟩) NB322_323.out _).trans (((cell_far (p := ⟨gb323, _, none⟩) NB322_323.out _).trans (((cell_far (p := ⟨gb323, _, none⟩) NB322_323.out _).trans (hHeld.2.2.2.2.2.2.2.1)))))))))))))))))))), ((cell_far (p := ⟨gb323, _, none⟩) NB322_323.out _).trans (((cell_far (p := ⟨gb323, _, none⟩) NB322_323.out _).trans (((cell_far (p := ⟨gb323, _, none⟩) NB322_323.out _).trans (((cell_far (p := ⟨gb323, _, none⟩) NB322_323.out _).trans (((cell_far (p := ⟨gb323, _, none⟩) NB322_323.out _).trans (((cell_far (p := ⟨gb323, _, none⟩) NB322_323.out _).trans (((cell_far (p := ⟨gb323, _, none⟩) NB322_323.out _).trans (((cell_far (p := ⟨gb323, _, none⟩) NB322_323.out _).trans (((cell_far (p := ⟨gb323, _, none⟩) NB322_323.out _).trans (((cell_far (p := ⟨gb323, _, none⟩) NB322_323.out _).trans (hHeld.2.2.2.2.2.2.2.2.1)))))))))))))))))))), ((cell_far (p := ⟨gb323, _, none⟩) NB322_323.out _).trans (((cell_far (p := ⟨gb323, _, none⟩) NB322_323.out _).trans (((cell_far (p := ⟨gb323, _, none⟩) NB322_323.out _).trans (((cell_far (p := ⟨gb323, _, none⟩) NB322_323.out _).trans (((cell_far (p := ⟨gb323, _, none⟩) NB322_323.out _).trans (((cell_far (p := ⟨gb323, _, none⟩) NB322_323.out _).trans (((cell_far (p := ⟨gb323, _, none⟩) NB322_323.out _).trans (((cell_far (p := ⟨gb323, _, none⟩) NB322_323.out _).trans (((cell_far (p := ⟨gb323, _, none⟩) NB322_323.out _).trans (((cell_far (p := ⟨gb323, _, none⟩) NB322_323.out _).trans (hHeld.2.2.2.2.2.2.2.2.2.1)))))))))))))))))))), ((cell_far (p := ⟨gb323, _, none⟩) (by first | exact Nat.ne_of_lt (Nat.lt_of_lt_of_le (by have := World.block_lt_of_cell? _ _ hw352_0; first | rwa [add_block] at this | exact this) GW323.out) | (rw [add_block]; exact Nat.ne_of_lt (Nat.lt_of_lt_of_le (by have := World.block_lt_of_cell? _ _ hw352_0; first | rwa [add_block] at this | exact this) GW323.out)) | (show (Addr.add _ _).block ≠ _; rw [add_block]; exact Nat.ne_of_lt (Nat.lt_of_lt_of_le (by have := World.block_lt_of_cell? _ _ hw352_0; first | rwa [add_block] at this | exact this) GW323.out)) | (dsimp only; exact Nat.ne_of_lt (Nat.lt_of_lt_of_le (by have := World.block_lt_of_cell? _ _ hw352_0; first | rwa [add_block] at this | exact this) GW323.out))) _).trans (((cell_far (p := ⟨gb323, _, none⟩) (by first | exact Nat.ne_of_lt (Nat.lt_of_lt_of_le (by have := World.block_lt_of_cell? _ _ hw352_0; first | rwa [add_block] at this | exact this) GW323.out) | (rw [add_block]; exact Nat.ne_of_lt (Nat.lt_of_lt_of_le (by have := World.block_lt_of_cell? _ _ hw352_0; first | rwa [add_block] at this | exact this) GW323.out)) | (show (Addr.add _ _).block ≠ _; rw [add_block]; exact Nat.ne_of_lt (Nat.lt_of_lt_of_le (by have := World.block_lt_of_cell? _ _ hw352_0; first | rwa [add_block] at this | exact this) GW323.out)) | (dsimp only; exact Nat.ne_of_lt (Nat.lt_of_lt_of_le (by have := World.block_lt_of_cell? _ _ hw352_0; first | rwa [add_block] at this | exact this) GW323.out))) _).trans (((cell_far (p := ⟨gb323, _, none⟩) (by first | exact Nat.ne_of_lt (Nat.lt_of_lt_of_le (by have := World.block_lt_of_cell? _ _ hw352_0; first | rwa [add_block] at this | exact this) GW323.out) | (rw [add_block]; exact Nat.ne_of_lt (Nat.lt_of_lt_of_le (by have := World.block_lt_of_cell? _ _ hw352_0; first | rwa [add_block] at this | exact this) GW323.out)) | (show (Addr.add _ _).block ≠ _; rw [add_block]; exact Nat.ne_of_lt (Nat.lt_of_lt_of_le (by have := World.block_lt_of_cell? _ _ hw352_0; first | rwa [add_block] at this | exact this) GW323.out)) | (dsimp only; exact Nat.ne_of_lt (Nat.lt_of_lt_of_le (by have := World.block_lt_of_cell? _ _ hw352_0; first | rwa [add_block] at this | exact this) GW323.out))) _).trans (((cell_far (p := ⟨gb323, _, none⟩) (by first | exact Nat.ne_of_lt (Nat.lt_of_lt_of_le (by have := World.block_lt_of_cell? _ _ hw352_0; first | rwa [add_block] at this | exact this) GW323.out) | (rw [add_block]; exact Nat.ne_of_lt (Nat.lt_of_lt_of_le (by have := World.block_lt_of_cell? _ _ hw352_0; first | rwa [add_block] at this | exact this) GW323.out)) | (show (Addr.add _ _).block ≠ _; rw [add_block]; exact Nat.ne_of_lt (Nat.lt_of_lt_of_le (by have := World.block_lt_of_cell? _ _ hw352_0; first | rwa [add_block] at this | exact this) GW323.out)) | (dsimp only; exact Nat.ne_of_lt (Nat.lt_of_lt_of_le (by have := World.block_lt_of_cell? _ _ hw352_0; first | rwa [add_block] at this | exact this) GW323.out))) _).trans (((cell_far (p := ⟨gb323, _, none⟩) (by first | exact Nat.ne_of_lt (Nat.lt_of_lt_of_le (by have := World.block_lt_of_cell? _ _ hw352_0; first | rwa [add_block] at this | exact this) GW323.out) | (rw [add_block]; exact Nat.ne_of_lt (Nat.lt_of_lt_of_le (by have := World.block_lt_of_cell? _ _ hw352_0; first | rwa [add_block] at this | exact this) GW323.out)) | (show (Addr.add _ _).block ≠ _; rw [add_block]; exact Nat.ne_of_lt (Nat.lt_of_lt_of_le (by have := World.block_lt_of_cell? _ _ hw352_0; first | rwa [add_block] at this | exact this) GW323.out)) | (dsimp only; exact Nat.ne_of_lt (Nat.lt_of_lt_of_le (by have := World.block_lt_of_cell? _ _ hw352_0; first | rwa [add_block] at this | exact this) GW323.out))) _).trans (((cell_far (p := ⟨gb323, _, none⟩) (by first | exact Nat.ne_of_lt (Nat.lt_of_lt_of_le (by have := World.block_lt_of_cell? _ _ hw352_0; first | rwa [add_block] at this | exact this) GW323.out) | (rw [add_block]; exact Nat.ne_of_lt (Nat.lt_of_lt_of_le (by have := World.block_lt_of_cell? _ _ hw352_0; first | rwa [add_block] at this | exact this) GW323.out)) | (show (Addr.add _ _).block ≠ _; rw [add_block]; exact Nat.ne_of_lt (Nat.lt_of_lt_of_le (by have := World.block_lt_of_cell? _ _ hw352_0; first | rwa [add_block] at this | exact this) GW323.out)) | (dsimp only; exact Nat.ne_of_lt (Nat.lt_of_lt_of_le (by have := World.block_lt_of_cell? _ _ hw352_0; first | rwa [add_block] at this | exact this) GW323.out))) _).trans (((cell_far (p := ⟨gb323, _, none⟩) (by first | exact Nat.ne_of_lt (Nat.lt_of_lt_of_le (by have := World.block_lt_of_cell? _ _ hw352_0; first | rwa [add_block] at this | exact this) GW323.out) | (rw [add_block]; exact Nat.ne_of_lt (Nat.lt_of_lt_of_le (by have := World.block_lt_of_cell? _ _ hw352_0; first | rwa [add_block] at this | exact this) GW323.out)) | (show (Addr.add _ _).block ≠ _; rw [add_block]; exact Nat.ne_of_lt (Nat.lt_of_lt_of_le (by have := World.block_lt_of_cell? _ _ hw352_0; first | rwa [add_block] at this | exact this) GW323.out)) | (dsimp only; exact Nat.ne_of_lt (Nat.lt_of_lt_of_le (by have := World.block_lt_of_cell? _ _ hw352_0; first | rwa [add_block] at this | exact this) GW323.out))) _).trans (((cell_far (p := ⟨gb323, _, none⟩) (by first | exact Nat.ne_of_lt (Nat.lt_of_lt_of_le (by have := World.block_lt_of_cell? _ _ hw352_0; first | rwa [add_block] at this | exact this) GW323.out) | (rw [add_block]; exact Nat.ne_of_lt (Nat.lt_of_lt_of_le (by have := World.block_lt_of_cell? _ _ hw352_0; first | rwa [add_block] at this | exact this) GW323.out)) | (show (Addr.add _ _).block ≠ _; rw [add_block]; exact Nat.ne_of_lt (Nat.lt_of_lt_of_le (by have := World.block_lt_of_cell? _ _ hw352_0; first | rwa [add_block] at this | exact this) GW323.out)) | (dsimp only; exact Nat.ne_of_lt (Nat.lt_of_lt_of_le (by have := World.block_lt_of_cell? _ _ hw352_0; first | rwa [add_block] at this | exact this) GW323.out))) _).trans (((cell_far (p := ⟨gb323, _, none⟩) (by first | exact Nat.ne_of_lt (Nat.lt_of_lt_of_le (by have := World.block_lt_of_cell? _ _ hw352_0; first | rwa [add_block] at this | exact this) GW323.out) | (rw [add_block]; exact Nat.ne_of_lt (Nat.lt_of_lt_of_le (by have := World.block_lt_of_cell? _ _ hw352_0; first | rwa [add_block] at this | exact this) GW323.out)) | (show (Addr.add _ _).block ≠ _; rw [add_block]; exact Nat.ne_of_lt (Nat.lt_of_lt_of_le (by have := World.block_lt_of_cell? _ _ hw352_0; first | rwa [add_block] at this | exact this) GW323.out)) | (dsimp only; exact Nat.ne_of_lt (Nat.lt_of_lt_of_le (by have := World.block_lt_of_cell? _ _ hw352_0; first | rwa [add_block] at this | exact this) GW323.out))) _).trans (((cell_far (p := ⟨gb323, _, none⟩) (by first | exact Nat.ne_of_lt (Nat.lt_of_lt_of_le (by have := World.block_lt_of_cell? _ _ hw352_0; first | rwa [add_block] at this | exact this) GW323.out) | (rw [add_block]; exact Nat.ne_of_lt (Nat.lt_of_lt_of_le (by have := World.block_lt_of_cell? _ _ hw352_0; first | rwa [add_block] at this | exact this) GW323.out)) | (show (Addr.add _ _).block ≠ _; rw [add_block]; exact Nat.ne_of_lt (Nat.lt_of_lt_of_le (by have := World.block_lt_of_cell? _ _ hw352_0; first | rwa [add_block] at this | exact this) GW323.out)) | (dsimp only; exact Nat.ne_of_lt (Nat.lt_of_lt_of_le (by have := World.block_lt_of_cell? _ _ hw352_0; first | rwa [add_block] at this | exact this) GW323.out))) _).trans (hHeld.2.2.2.2.2.2.2.2.2.2))))))))))))))))))))⟩ (fun hHeld => ?_)
                clear hK K
                refine done_ (by kernel_rfl) ?_
                try go_wp2
                refine bodyPost_ret (results_cell_row rfl _ _ gb323 23 #[.bool t353, .bool t354, .bool t355, .bool t356, .bool t357, .bool t358, .bool t359, .int .i64 t360, .int .i64 t361, .int .i64 t362] (0, 0) _ rfl (by (with_reducible repeat (first | refine blk_drewN ?_ _ | refine blk_drew ?_ | refine blk_alloc ?_ _)); refine blk_put (cs := #[.bool t353, .bool t354, .bool t355, .bool t356, .bool t357, .bool t358, .bool t359, .int .i64 t360, .int .i64 t361, .int .i64 0]) ?_ 9 _ rfl; (with_reducible repeat (first | refine blk_drewN ?_ _ | refine blk_drew ?_ | refine blk_alloc ?_ _)); refine blk_put (cs := #[.bool t353, .bool t354, .bool t355, .bool t356, .bool t357, .bool t358, .bool t359, .int .i64 t360, .int .i64 0, .int .i64 0]) ?_ 8 _ rfl; (with_reducible repeat (first | refine blk_drewN ?_ _ | refine blk_drew ?_ | refine blk_alloc ?_ _)); refine blk_put (cs := #[.bool t353, .bool t354, .bool t355, .bool t356, .bool t357, .bool t358, .bool t359, .int .i64 0, .int .i64 0, .int .i64 0]) ?_ 7 _ rfl; (with_reducible repeat (first | refine blk_drewN ?_ _ | refine blk_drew ?_ | refine blk_alloc ?_ _)); refine blk_put (cs := #[.bool t353, .bool t354, .bool t355, .bool t356, .bool t357, .bool t358, .bool false, .int .i64 0, .int .i64 0, .int .i64 0]) ?_ 6 _ rfl; (with_reducible repeat (first | refine blk_drewN ?_ _ | refine blk_drew ?_ | refine blk_alloc ?_ _)); refine blk_put (cs := #[.bool t353, .bool t354, .bool t355, .bool t356, .bool t357, .bool false, .bool false, .int .i64 0, .int .i64 0, .int .i64 0]) ?_ 5 _ rfl; (with_reducible repeat (first | refine blk_drewN ?_ _ | refine blk_drew ?_ | refine blk_alloc ?_ _)); refine blk_put (cs := #[.bool t353, .bool t354, .bool t355, .bool t356, .bool false, .bool false, .bool false, .int .i64 0, .int .i64 0, .int .i64 0]) ?_ 4 _ rfl; (with_reducible repeat (first | refine blk_drewN ?_ _ | refine blk_drew ?_ | refine blk_alloc ?_ _)); refine blk_put (cs := #[.bool t353, .bool t354, .bool t355, .bool false, .bool false, .bool false, .bool false, .int .i64 0, .int .i64 0, .int .i64 0]) ?_ 3 _ rfl; (with_reducible repeat (first | refine blk_drewN ?_ _ | refine blk_drew ?_ | refine blk_alloc ?_ _)); refine blk_put (cs := #[.bool t353, .bool t354, .bool false, .bool false, .bool false, .bool false, .bool false, .int .i64 0, .int .i64 0, .int .i64 0]) ?_ 2 _ rfl; (with_reducible repeat (first | refine blk_drewN ?_ _ | refine blk_drew ?_ | refine blk_alloc ?_ _)); refine blk_put (cs := #[.bool t353, .bool false, .bool false, .bool false, .bool false, .bool false, .bool false, .int .i64 0, .int .i64 0, .int .i64 0]) ?_ 1 _ rfl; (with_reducible repeat (first | refine blk_drewN ?_ _ | refine blk_drew ?_ | refine blk_alloc ?_ _)); refine blk_put (cs := #[.bool false, .bool false, .bool false, .bool false, .bool false, .bool false, .bool false, .int .i64 0, .int .i64 0, .int .i64 0]) ?_ 0 _ rfl; (with_reducible repeat (first | refine blk_drewN ?_ _ | refine blk_drew ?_ | refine blk_alloc ?_ _)); exact BK323.out) Tryd.underlying23 rfl (by kernel_rfl)) rfl ?_
                exact ⟨by first | rfl | (simp [errW_none, errW_some] <;> rfl) | (simp [*, errW_none, errW_some] <;> rfl), by repeat (first | (with_reducible first | exact HB.out | apply below_alloc | apply pw_below_drewN | apply below_drew1 | refine below_set ?_ GE322.out | refine below_set ?_ GE323.out) | exact HB.out)⟩
            · rw [if_neg c33] at H
              have c33b0 : decide ((-1) ≤ t339) = false := decide_eq_false c33
              clear c33
              by_cases c67 : t340 ≥ (-1)
              · rw [if_pos c67] at H
                have c67b0 : decide ((-1) ≤ t340) = true := decide_eq_true c67
                clear c67
                replace H := Option.bind_eq_some_iff.mp H
                obtain ⟨⟨t364, t365, t366, t367, t368, t369, t370, t371, t372, t373⟩, A680, H⟩ := H
                replace H : (some (t364, t365, t366, t367, t368, t369, t370, t371, t372, t373)) = some (r1, r2, r3, r4, r5, r6, r7, r8, r9, r10) := H
                have A68 := Aside0.mk A680
                clear A680
                simp only [Option.some.injEq, Prod.mk.injEq] at H
                obtain ⟨rfl, rfl, rfl, rfl, rfl, rfl, rfl, rfl, rfl, rfl⟩ := H
                have p335 : 0 ≤ (0 : Int) := (by omega)
                have q335 : 0 < (l1.length : Int) := of_decide_eq_true (by first | (with_reducible assumption) | assumption)
                obtain ⟨ad335, e335, hx335_0⟩ := Kd.at_int HR1.out 0 p335 q335
                cases e335
                have qi335 : (0 < l1.length) = True := eq_true (by omega)
                (try rw [show ((0 : Int)).toNat = 0 from rfl] at hx335_0)
                (try rw [Addr.add_zero'] at hx335_0)
                replace hx335_0 := (HB.out.cell (World.block_lt_of_cell? w _ hx335_0)).trans hx335_0
                replace p335 := eq_true p335
                replace q335 := eq_true q335
                try go_wp2_with (first | ((with_reducible refine gate_callee (f := 45) rfl ?_); refine goesL_ (some 41) rfl rfl Tryd.func45 (by kernel_rfl) rfl #[.slice (some ad335) l1.length c1, .int .i64 30] rfl (by (try simp only [List.map_toArray, List.map_cons, List.map_nil]); first | done | rfl | (simp only [List.length_drop, List.length_take]; rfl)) ?_; (with_reducible refine (clavierref18_said.calls kj2 _ _ l1 30 t339 _ ?side1 ?side2 A31.out).mono ?_); (case side1 => repeat (first | exact (Kd.C_below HR1.out HB.out) | (with_reducible refine Kd.C_alloc ?_ _) | (with_reducible refine Kd.C_drewN ?_ _) | (with_reducible refine Kd.C_drew ?_))); (case side2 => exact HC1.out); rintro e w' ⟨rfl, ⟨nd, rfl⟩⟩; refine ⟨_, rfl, ?_⟩; (try (rw [drewN_self wc]; generalize hq_ : World.drewN wc _ = wc; have n0_ : Aside0 (wc.heap[gb322]? = some (.cells #[.bool a0_0, .bool a0_1, .bool a0_2, .bool a0_3, .bool a0_4, .bool a0_5, .bool a0_6, .int .i64 a0_7, .int .i64 a0_8, .int .i64 a0_9] 23 (0, 0))) := ⟨by rw [← hq_]; exact (by (with_reducible repeat (first | refine blk_drewN ?_ _ | refine blk_drew ?_ | refine blk_alloc ?_ _)); exact BK322.out)⟩; have n1_ : Aside0 (wc.heap[gb323]? = some (.cells #[.bool false, .bool false, .bool false, .bool false, .bool false, .bool false, .bool false, .int .i64 0, .int .i64 0, .int .i64 0] 23 (0, 0))) := ⟨by rw [← hq_]; exact (by (with_reducible repeat (first | refine blk_drewN ?_ _ | refine blk_drew ?_ | refine blk_alloc ?_ _)); exact BK323.out)⟩; have n2_ : Aside0 (Below w.heap.size w wc) := ⟨by rw [← hq_]; exact (by repeat (first | (with_reducible first | exact HB.out | apply below_alloc | apply pw_below_drewN | apply below_drew1 | refine below_set ?_ GE322.out | refine below_set ?_ GE323.out) | exact HB.out))⟩; clear BK322 BK323 HB hq_; have BK322 := n0_; have BK323 := n1_; have HB := n2_; clear n0_ n1_ n2_))) | ((with_reducible refine gate_callee (f := 45) rfl ?_); refine goesL_ (some 43) rfl rfl Tryd.func45 (by kernel_rfl) rfl #[.slice (some ad335) l1.length c1, .int .i64 40] rfl (by (try simp only [List.map_toArray, List.map_cons, List.map_nil]); first | done | rfl | (simp only [List.length_drop, List.length_take]; rfl)) ?_; (with_reducible refine (clavierref18_said.calls kj2 _ _ l1 40 t340 _ ?side1 ?side2 A32.out).mono ?_); (case side1 => repeat (first | exact (Kd.C_below HR1.out HB.out) | (with_reducible refine Kd.C_alloc ?_ _) | (with_reducible refine Kd.C_drewN ?_ _) | (with_reducible refine Kd.C_drew ?_))); (case side2 => exact HC1.out); rintro e w' ⟨rfl, ⟨nd, rfl⟩⟩; refine ⟨_, rfl, ?_⟩; (try (rw [drewN_self wc]; generalize hq_ : World.drewN wc _ = wc; have n0_ : Aside0 (wc.heap[gb322]? = some (.cells #[.bool a0_0, .bool a0_1, .bool a0_2, .bool a0_3, .bool a0_4, .bool a0_5, .bool a0_6, .int .i64 a0_7, .int .i64 a0_8, .int .i64 a0_9] 23 (0, 0))) := ⟨by rw [← hq_]; exact (by (with_reducible repeat (first | refine blk_drewN ?_ _ | refine blk_drew ?_ | refine blk_alloc ?_ _)); exact BK322.out)⟩; have n1_ : Aside0 (wc.heap[gb323]? = some (.cells #[.bool false, .bool false, .bool false, .bool false, .bool false, .bool false, .bool false, .int .i64 0, .int .i64 0, .int .i64 0] 23 (0, 0))) := ⟨by rw [← hq_]; exact (by (with_reducible repeat (first | refine blk_drewN ?_ _ | refine blk_drew ?_ | refine blk_alloc ?_ _)); exact BK323.out)⟩; have n2_ : Aside0 (Below w.heap.size w wc) := ⟨by rw [← hq_]; exact (by repeat (first | (with_reducible first | exact HB.out | apply below_alloc | apply pw_below_drewN | apply below_drew1 | refine below_set ?_ GE322.out | refine below_set ?_ GE323.out) | exact HB.out))⟩; clear BK322 BK323 HB hq_; have BK322 := n0_; have BK323 := n1_; have HB := n2_; clear n0_ n1_ n2_)); have hnb69 := NB322_323.out; have hnc69 := NB323_322.out; have hcz70_0 : wc.cell? ⟨gb322, 0, none⟩ = some (.bool a0_0) := (blk_cell BK322.out 0).trans rfl; have hcz70_1 : wc.cell? ⟨gb322, 1, none⟩ = some (.bool a0_1) := (blk_cell BK322.out 1).trans rfl; have hcz70_2 : wc.cell? ⟨gb322, 2, none⟩ = some (.bool a0_2) := (blk_cell BK322.out 2).trans rfl; have hcz70_3 : wc.cell? ⟨gb322, 3, none⟩ = some (.bool a0_3) := (blk_cell BK322.out 3).trans rfl; have hcz70_4 : wc.cell? ⟨gb322, 4, none⟩ = some (.bool a0_4) := (blk_cell BK322.out 4).trans rfl; have hcz70_5 : wc.cell? ⟨gb322, 5, none⟩ = some (.bool a0_5) := (blk_cell BK322.out 5).trans rfl; have hcz70_6 : wc.cell? ⟨gb322, 6, none⟩ = some (.bool a0_6) := (blk_cell BK322.out 6).trans rfl; have hcz70_7 : wc.cell? ⟨gb322, 7, none⟩ = some (.int .i64 a0_7) := (blk_cell BK322.out 7).trans rfl; have hcz70_8 : wc.cell? ⟨gb322, 8, none⟩ = some (.int .i64 a0_8) := (blk_cell BK322.out 8).trans rfl; have hcz70_9 : wc.cell? ⟨gb322, 9, none⟩ = some (.int .i64 a0_9) := (blk_cell BK322.out 9).trans rfl; have hfz70_0 := blk_frozen BK322.out 0; have hfz70_1 := blk_frozen BK322.out 1; have hfz70_2 := blk_frozen BK322.out 2; have hfz70_3 := blk_frozen BK322.out 3; have hfz70_4 := blk_frozen BK322.out 4; have hfz70_5 := blk_frozen BK322.out 5; have hfz70_6 := blk_frozen BK322.out 6; have hfz70_7 := blk_frozen BK322.out 7; have hfz70_8 := blk_frozen BK322.out 8; have hfz70_9 := blk_frozen BK322.out 9))
                have n0_ : Aside0 ((wc.setCell ⟨gb322, 9, none⟩ (.int .i64 t340)).heap[gb322]? = some (.cells #[.bool a0_0, .bool a0_1, .bool a0_2, .bool a0_3, .bool a0_4, .bool a0_5, .bool a0_6, .int .i64 a0_7, .int .i64 a0_8, .int .i64 t340] 23 (0, 0))) := ⟨by (with_reducible repeat (first | refine blk_drewN ?_ _ | refine blk_drew ?_ | refine blk_alloc ?_ _)); refine blk_put (cs := #[.bool a0_0, .bool a0_1, .bool a0_2, .bool a0_3, .bool a0_4, .bool a0_5, .bool a0_6, .int .i64 a0_7, .int .i64 a0_8, .int .i64 a0_9]) ?_ 9 _ rfl; (with_reducible repeat (first | refine blk_drewN ?_ _ | refine blk_drew ?_ | refine blk_alloc ?_ _)); exact BK322.out⟩
                have n1_ : Aside0 ((wc.setCell ⟨gb322, 9, none⟩ (.int .i64 t340)).heap[gb323]? = some (.cells #[.bool false, .bool false, .bool false, .bool false, .bool false, .bool false, .bool false, .int .i64 0, .int .i64 0, .int .i64 0] 23 (0, 0))) := ⟨by (with_reducible repeat (first | refine blk_drewN ?_ _ | refine blk_drew ?_ | refine blk_alloc ?_ _)); refine blk_far ?_ NB323_322.out _; (with_reducible repeat (first | refine blk_drewN ?_ _ | refine blk_drew ?_ | refine blk_alloc ?_ _)); exact BK323.out⟩
                have n2_ : Aside0 (Below w.heap.size w (wc.setCell ⟨gb322, 9, none⟩ (.int .i64 t340))) := ⟨by repeat (first | (with_reducible first | exact HB.out | apply below_alloc | apply pw_below_drewN | apply below_drew1 | refine below_set ?_ GE322.out | refine below_set ?_ GE323.out) | exact HB.out)⟩
                (try clear BK322)
                (try clear BK323)
                (try clear HB)
                generalize (wc.setCell ⟨gb322, 9, none⟩ (.int .i64 t340)) = w71 at n0_ n1_ n2_ ⊢
                have BK322 := n0_
                have BK323 := n1_
                have HB := n2_
                clear n0_ n1_ n2_
                have n0_ := Aside0.mk (blk_drew BK322.out)
                have n1_ := Aside0.mk (blk_drew BK323.out)
                have n2_ := Aside0.mk (below_drew1 HB.out)
                clear BK322
                clear BK323
                clear HB
                have BK322 := n0_
                have BK323 := n1_
                have HB := n2_
                clear n0_ n1_ n2_
                have p363 : 0 ≤ (0 : Int) := (by omega)
                have q363 : 0 < (l1.length : Int) := of_decide_eq_true (by first | (with_reducible assumption) | assumption)
                obtain ⟨ad363, e363, hx363_0⟩ := Kd.at_int HR1.out 0 p363 q363
                have hw363_0 := hx363_0
                (try rw [show ((0 : Int)).toNat = 0 from rfl] at hw363_0)
                (try rw [show 0 * 1 = 0 from rfl] at hw363_0)
                (try rw [Addr.add_zero'] at hw363_0)
                obtain rfl : ad335 = ad363 := (by injection e363)
                have qi363 : (0 < l1.length) = True := eq_true (by omega)
                (try rw [show ((0 : Int)).toNat = 0 from rfl] at hx363_0)
                (try rw [Addr.add_zero'] at hx363_0)
                replace hx363_0 := (HB.out.cell (World.block_lt_of_cell? w _ hx363_0)).trans hx363_0
                replace p363 := eq_true p363
                replace q363 := eq_true q363
                refine start_ (n := 6) (S := fun w' => w'.cell? ⟨gb322, 0, none⟩ = some (.bool a0_0) ∧ w'.cell? ⟨gb322, 1, none⟩ = some (.bool a0_1) ∧ w'.cell? ⟨gb322, 2, none⟩ = some (.bool a0_2) ∧ w'.cell? ⟨gb322, 3, none⟩ = some (.bool a0_3) ∧ w'.cell? ⟨gb322, 4, none⟩ = some (.bool a0_4) ∧ w'.cell? ⟨gb322, 5, none⟩ = some (.bool a0_5) ∧ w'.cell? ⟨gb322, 6, none⟩ = some (.bool a0_6) ∧ w'.cell? ⟨gb322, 7, none⟩ = some (.int .i64 a0_7) ∧ w'.cell? ⟨gb322, 8, none⟩ = some (.int .i64 a0_8) ∧ w'.cell? ⟨gb322, 9, none⟩ = some (.int .i64 t340) ∧ w'.cell? ad335 = some (.int .i64 (rd l1 0))) (ds := []) #[false, false, false, false, false, false] (by kernel_rfl) rfl rfl ⟨(blk_cell BK322.out 0).trans rfl, (blk_cell BK322.out 1).trans rfl, (blk_cell BK322.out 2).trans rfl, (blk_cell BK322.out 3).trans rfl, (blk_cell BK322.out 4).trans rfl, (blk_cell BK322.out 5).trans rfl, (blk_cell BK322.out 6).trans rfl, (blk_cell BK322.out 7).trans rfl, (blk_cell BK322.out 8).trans rfl, (blk_cell BK322.out 9).trans rfl, ((HB.out.cell (World.block_lt_of_cell? w _ hw363_0)).trans hw363_0)⟩ (fun hHeld => ?_)
                generalize w71.drew = w72 at BK322 BK323 HB hx363_0 hHeld ⊢
                refine pure_ (i := 1) (N := some 53) (v := ?_) (a' := ?_) #[false, true, false, false, false, false] rfl rfl (by kernel_rfl) (fun _ _ _ h => h) (Or.inl ⟨by rfl, ?_⟩) ?_ ?_
                rotate_left
                · intro w'
                  go_simp
                  with_reducible rfl
                rotate_left
                · simp only [Act.put, List.setIfInBounds_toArray, List.set_cons_zero, List.set_cons_succ, i64_w, i32_w]
                  rfl
                refine pure_ (i := 2) (N := some 54) (v := ?_) (a' := ?_) #[false, true, true, false, false, false] rfl rfl (by kernel_rfl) (fun _ _ _ h => h) (Or.inl ⟨by rfl, ?_⟩) ?_ ?_
                rotate_left
                · intro w'
                  go_simp
                  with_reducible rfl
                rotate_left
                · simp only [Act.put, List.setIfInBounds_toArray, List.set_cons_zero, List.set_cons_succ, i64_w, i32_w]
                  rfl
                refine take_ (i := 0) (N := some 52) (v := ?_) (a' := ?_) #[true, true, true, false, false, false] rfl rfl (by kernel_rfl) (fun _ _ _ h => h) (Or.inl ⟨by rfl, ?_⟩) hHeld ?_ ?_
                rotate_left
                · rintro w' ⟨s0, s1, s2, s3, s4, s5, s6, s7, s8, s9, s10⟩
                  go_simp
                  with_reducible rfl
                rotate_left
                · simp only [Act.put, List.setIfInBounds_toArray, List.set_cons_zero, List.set_cons_succ, i64_w, i32_w]
                  rfl
                refine take_ (i := 3) (N := some 55) (v := ?_) (a' := ?_) #[true, true, true, true, false, false] rfl rfl (by kernel_rfl) (fun _ _ _ h => h) (Or.inl ⟨by rfl, ?_⟩) hHeld ?_ ?_
                rotate_left
                · rintro w' ⟨s0, s1, s2, s3, s4, s5, s6, s7, s8, s9, s10⟩
                  go_simp
                  with_reducible rfl
                rotate_left
                · simp only [Act.put, List.setIfInBounds_toArray, List.set_cons_zero, List.set_cons_succ, i64_w, i32_w]
                  rfl
                refine one_ (i := 4) (N := some 56) #[true, true, true, true, true, false] rfl rfl (by kernel_rfl) (by decide) (fun K hK => ?_)
                refine goes_ Tryd.func46 (by kernel_rfl) rfl #[.agg #[.bool a0_0, .bool a0_1, .bool a0_2, .bool a0_3, .bool a0_4, .bool a0_5, .bool a0_6, .int .i64 a0_7, .int .i64 a0_8, .int .i64 t340], .int .i64 (rd l1 0)] (by rfl) rfl rfl (by (try simp only [List.map_toArray, List.map_cons, List.map_nil]); first | done | rfl | (simp only [List.length_drop, List.length_take]; rfl)) ?_
                with_reducible refine (clavierref18_flag.calls a0_0 a0_1 a0_2 a0_3 a0_4 a0_5 a0_6 a0_7 a0_8 t340 (rd l1 0) t364 t365 t366 t367 t368 t369 t370 t371 t372 t373 _ A68.out).mono ?_
                rintro e w73 ⟨rfl, hb⟩
                refine ⟨_, rfl, ?_⟩
                have n0_ := Aside0.mk (blk_below (g := gb322) (o := .cells #[.bool a0_0, .bool a0_1, .bool a0_2, .bool a0_3, .bool a0_4, .bool a0_5, .bool a0_6, .int .i64 a0_7, .int .i64 a0_8, .int .i64 t340] 23 (0, 0)) (by (with_reducible repeat (first | refine blk_drewN ?_ _ | refine blk_drew ?_ | refine blk_alloc ?_ _)); exact BK322.out) hb)
                have n1_ := Aside0.mk (blk_below (g := gb323) (o := .cells #[.bool false, .bool false, .bool false, .bool false, .bool false, .bool false, .bool false, .int .i64 0, .int .i64 0, .int .i64 0] 23 (0, 0)) (by (with_reducible repeat (first | refine blk_drewN ?_ _ | refine blk_drew ?_ | refine blk_alloc ?_ _)); exact BK323.out) hb)
                have n2_ := Aside0.mk (below_step (by repeat (first | (with_reducible first | exact HB.out | apply below_alloc | apply pw_below_drewN | apply below_drew1 | refine below_set ?_ GE322.out | refine below_set ?_ GE323.out) | exact HB.out)) hb)
                clear BK322
                clear BK323
                clear HB
                have BK322 := n0_
                have BK323 := n1_
                have HB := n2_
                clear n0_ n1_ n2_
                (try clear hb)
                (try clear hb2)
                (try clear hk)
                (try clear hi)
                refine hK.out _ _ ⟨(blk_cell BK322.out 0).trans rfl, (blk_cell BK322.out 1).trans rfl, (blk_cell BK322.out 2).trans rfl, (blk_cell BK322.out 3).trans rfl, (blk_cell BK322.out 4).trans rfl, (blk_cell BK322.out 5).trans rfl, (blk_cell BK322.out 6).trans rfl, (blk_cell BK322.out 7).trans rfl, (blk_cell BK322.out 8).trans rfl, (blk_cell BK322.out 9).trans rfl, ((HB.out.cell (World.block_lt_of_cell? w _ hw363_0)).trans hw363_0)⟩ (fun hHeld => ?_)
                clear hK K
                refine norm_ (a' := ?_) ?_ ?_
                rotate_left
                · show Act.put _ (some 56) _ = _
                  simp only [Act.put, List.setIfInBounds_toArray, List.set_cons_zero, List.set_cons_succ, i64_w, i32_w]
                  rfl
                refine one_ (i := 5) (N := none) #[true, true, true, true, true, true] rfl rfl (by kernel_rfl) (by decide) (fun K hK => ?_)
                have hs74 : w73.cell? ⟨gb323, 0, none⟩ = some (.bool false) := (blk_cell BK323.out 0).trans rfl
                have hfs74 := blk_frozen BK323.out 0
                have hns74_0 := NB322_323.out
                have hms74_0 := NB323_322.out
                have hs75 : w73.cell? ⟨gb323, 1, none⟩ = some (.bool false) := (blk_cell BK323.out 1).trans rfl
                have hfs75 := blk_frozen BK323.out 1
                have hns75_0 := NB322_323.out
                have hms75_0 := NB323_322.out
                have hs76 : w73.cell? ⟨gb323, 2, none⟩ = some (.bool false) := (blk_cell BK323.out 2).trans rfl
                have hfs76 := blk_frozen BK323.out 2
                have hns76_0 := NB322_323.out
                have hms76_0 := NB323_322.out
                have hs77 : w73.cell? ⟨gb323, 3, none⟩ = some (.bool false) := (blk_cell BK323.out 3).trans rfl
                have hfs77 := blk_frozen BK323.out 3
                have hns77_0 := NB322_323.out
                have hms77_0 := NB323_322.out
                have hs78 : w73.cell? ⟨gb323, 4, none⟩ = some (.bool false) := (blk_cell BK323.out 4).trans rfl
                have hfs78 := blk_frozen BK323.out 4
                have hns78_0 := NB322_323.out
                have hms78_0 := NB323_322.out
                have hs79 : w73.cell? ⟨gb323, 5, none⟩ = some (.bool false) := (blk_cell BK323.out 5).trans rfl
                have hfs79 := blk_frozen BK323.out 5
                have hns79_0 := NB322_323.out
                have hms79_0 := NB323_322.out
                have hs80 : w73.cell? ⟨gb323, 6, none⟩ = some (.bool false) := (blk_cell BK323.out 6).trans rfl
                have hfs80 := blk_frozen BK323.out 6
                have hns80_0 := NB322_323.out
                have hms80_0 := NB323_322.out
                have hs81 : w73.cell? ⟨gb323, 7, none⟩ = some (.int .i64 0) := (blk_cell BK323.out 7).trans rfl
                have hfs81 := blk_frozen BK323.out 7
                have hns81_0 := NB322_323.out
                have hms81_0 := NB323_322.out
                have hs82 : w73.cell? ⟨gb323, 8, none⟩ = some (.int .i64 0) := (blk_cell BK323.out 8).trans rfl
                have hfs82 := blk_frozen BK323.out 8
                have hns82_0 := NB322_323.out
                have hms82_0 := NB323_322.out
                have hs83 : w73.cell? ⟨gb323, 9, none⟩ = some (.int .i64 0) := (blk_cell BK323.out 9).trans rfl
                have hfs83 := blk_frozen BK323.out 9
                have hns83_0 := NB322_323.out
                have hms83_0 := NB323_322.out
                refine skip_ (w1 := ?_) (by rfl) rfl ?_ ?_
                rotate_left
                · go_simp
                  rfl
                refine hK.out _ _ ⟨((cell_far (p := ⟨gb323, _, none⟩) NB322_323.out _).trans (((cell_far (p := ⟨gb323, _, none⟩) NB322_323.out _).trans (((cell_far (p := ⟨gb323, _, none⟩) NB322_323.out _).trans (((cell_far (p := ⟨gb323, _, none⟩) NB322_323.out _).trans (((cell_far (p := ⟨gb323, _, none⟩) NB322_323.out _).trans (((cell_far (p := ⟨gb323, _, none⟩) NB322_323.out _).trans (((cell_far (p := ⟨gb323, _, none⟩) NB322_323.out _).trans (((cell_far (p := ⟨gb323, _, none⟩) NB322_323.out _).trans (((cell_far (p := ⟨gb323, _, none⟩) NB322_323.out _).trans (((cell_far (p := ⟨gb323, _, none⟩) NB322_323.out _).trans (hHeld.1)))))))))))))))))))), ((cell_far (p := ⟨gb323, _, none⟩) NB322_323.out _).trans (((cell_far (p := ⟨gb323, _, none⟩) NB322_323.out _).trans (((cell_far (p := ⟨gb323, _, none⟩) NB322_323.out _).trans (((cell_far (p := ⟨gb323, _, none⟩) NB322_323.out _).trans (((cell_far (p := ⟨gb323, _, none⟩) NB322_323.out _).trans (((cell_far (p := ⟨gb323, _, none⟩) NB322_323.out _).trans (((cell_far (p := ⟨gb323, _, none⟩) NB322_323.out _).trans (((cell_far (p := ⟨gb323, _, none⟩) NB322_323.out _).trans (((cell_far (p := ⟨gb323, _, none⟩) NB322_323.out _).trans (((cell_far (p := ⟨gb323, _, none⟩) NB322_323.out _).trans (hHeld.2.1)))))))))))))))))))), ((cell_far (p := ⟨gb323, _, none⟩) NB322_323.out _).trans (((cell_far (p := ⟨gb323, _, none⟩) NB322_323.out _).trans (((cell_far (p := ⟨gb323, _, none⟩) NB322_323.out _).trans (((cell_far (p := ⟨gb323, _, none⟩) NB322_323.out _).trans (((cell_far (p := ⟨gb323, _, none⟩) NB322_323.out _).trans (((cell_far (p := ⟨gb323, _, none⟩) NB322_323.out _).trans (((cell_far (p := ⟨gb323, _, none⟩) NB322_323.out _).trans (((cell_far (p := ⟨gb323, _, none⟩) NB322_323.out _).trans (((cell_far (p := ⟨gb323, _, none⟩) NB322_323.out _).trans (((cell_far (p := ⟨gb323, _, none⟩) NB322_323.out _).trans (hHeld.2.2.1)))))))))))))))))))), ((cell_far (p := ⟨gb323, _, none⟩) NB322_323.out _).trans (((cell_far (p := ⟨gb323, _, none⟩) NB322_323.out _).trans (((cell_far (p := ⟨gb323, _, none⟩) NB322_323.out _).trans (((cell_far (p := ⟨gb323, _, none⟩) NB322_323.out _).trans (((cell_far (p := ⟨gb323, _, none⟩) NB322_323.out _).trans (((cell_far (p := ⟨gb323, _, none⟩) NB322_323.out _).trans (((cell_far (p := ⟨gb323, _, none⟩) NB322_323.out _).trans (((cell_far (p := ⟨gb323, _, none⟩) NB322_323.out _).trans (((cell_far (p := ⟨gb323, _, none⟩) NB322_323.out _).trans (((cell_far (p := ⟨gb323, _, none⟩) NB322_323.out _).trans (hHeld.2.2.2.1)))))))))))))))))))), ((cell_far (p := ⟨gb323, _, none⟩) NB322_323.out _).trans (((cell_far (p := ⟨gb323, _, none⟩) NB322_323.out _).trans (((cell_far (p := ⟨gb323, _, none⟩) NB322_323.out _).trans (((cell_far (p := ⟨gb323, _, none⟩) NB322_323.out _).trans (((cell_far (p := ⟨gb323, _, none⟩) NB322_323.out _).trans (((cell_far (p := ⟨gb323, _, none⟩) NB322_323.out _).trans (((cell_far (p := ⟨gb323, _, none⟩) NB322_323.out _).trans (((cell_far (p := ⟨gb323, _, none⟩) NB322_323.out _).trans (((cell_far (p := ⟨gb323, _, none⟩) NB322_323.out _).trans (((cell_far (p := ⟨gb323, _, none⟩) NB322_323.out _).trans (hHeld.2.2.2.2.1)))))))))))))))))))), ((cell_far (p := ⟨gb323, _, none⟩) NB322_323.out _).trans (((cell_far (p := ⟨gb323, _, none⟩) NB322_323.out _).trans (((cell_far (p := ⟨gb323, _, none⟩) NB322_323.out _).trans (((cell_far (p := ⟨gb323, _, none⟩) NB322_323.out _).trans (((cell_far (p := ⟨gb323, _, none⟩) NB322_323.out _).trans (((cell_far (p := ⟨gb323, _, none⟩) NB322_323.out _).trans (((cell_far (p := ⟨gb323, _, none⟩) NB322_323.out _).trans (((cell_far (p := ⟨gb323, _, none⟩) NB322_323.out _).trans (((cell_far (p := ⟨gb323, _, none⟩) NB322_323.out _).trans (((cell_far (p := ⟨gb323, _, none⟩) NB322_323.out _).trans (hHeld.2.2.2.2.2.1)))))))))))))))))))), ((cell_far (p := ⟨gb323, _, none⟩) NB322_323.out _).trans (((cell_far (p := ⟨gb323, _, none⟩) NB322_323.out _).trans (((cell_far (p := ⟨gb323, _, none⟩) NB322_323.out _).trans (((cell_far (p := ⟨gb323, _, none⟩) NB322_323.out _).trans (((cell_far (p := ⟨gb323, _, none⟩) NB322_323.out _).trans (((cell_far (p := ⟨gb323, _, none⟩) NB322_323.out _).trans (((cell_far (p := ⟨gb323, _, none⟩) NB322_323.out _).trans (((cell_far (p := ⟨gb323, _, none⟩) NB322_323.out _).trans (((cell_far (p := ⟨gb323, _, none⟩) NB322_323.out _).trans (((cell_far (p := ⟨gb323, _, none⟩) NB322_323.out _).trans (hHeld.2.2.2.2.2.2.1)))))))))))))))))))), ((cell_far (p := ⟨gb323, _, none⟩) NB322_323.out _).trans (((cell_far (p := ⟨gb323, _, none⟩) NB322_323.out _).trans (((cell_far (p := ⟨gb323, _, none⟩) NB322_323.out _).trans (((cell_far (p := ⟨gb323, _, none⟩) NB322_323.out _).trans (((cell_far (p := ⟨gb323, _, none⟩) NB322_323.out _).trans (((cell_far (p := ⟨gb323, _, none⟩) NB322_323.out _).trans (((cell_far (p := ⟨gb323, _, none⟩) NB322_323.out _).trans (((cell_far (p := ⟨gb323, _, none⟩) NB322_323.out _).trans (((cell_far (p := ⟨gb323, _, none⟩) NB322_323.out _).trans (((cell_far (p := ⟨gb323, _, none⟩) NB322_323.out _).trans (hHeld.2.2.2.2.2.2.2.1)))))))))))))))))))), ((cell_far (p := ⟨gb323, _, none⟩) NB322_323.out _).trans (((cell_far (p := ⟨gb323, _, none⟩) NB322_323.out _).trans (((cell_far (p := ⟨gb323, _, none⟩) NB322_323.out _).trans (((cell_far (p := ⟨gb323, _, none⟩) NB322_323.out _).trans (((cell_far (p := ⟨gb323, _, none⟩) NB322_323.out _).trans (((cell_far (p := ⟨gb323, _, none⟩) NB322_323.out _).trans (((cell_far (p := ⟨gb323, _, none⟩) NB322_323.out _).trans (((cell_far (p := ⟨gb323, _, none⟩) NB322_323.out _).trans (((cell_far (p := ⟨gb323, _, none⟩) NB322_323.out _).trans (((cell_far (p := ⟨gb323, _, none⟩) NB322_323.out _).trans (hHeld.2.2.2.2.2.2.2.2.1)))))))))))))))))))), ((cell_far (p := ⟨gb323, _, none⟩) NB322_323.out _).trans (((cell_far (p := ⟨gb323, _, none⟩) NB322_323.out _).trans (((cell_far (p := ⟨gb323, _, none⟩) NB322_323.out _).trans (((cell_far (p := ⟨gb323, _, none⟩) NB322_323.out _).trans (((cell_far (p := ⟨gb323, _, none⟩) NB322_323.out _).trans (((cell_far (p := ⟨gb323, _, none⟩) NB322_323.out _).trans (((cell_far (p := ⟨gb323, _, none⟩) NB322_323.out _).trans (((cell_far (p := ⟨gb323, _, none⟩) NB322_323.out _).trans (((cell_far (p := ⟨gb323, _, none⟩) NB322_323.out _).trans (((cell_far (p := ⟨gb323, _, none⟩) NB322_323.out _).trans (hHeld.2.2.2.2.2.2.2.2.2.1)))))))))))))))))))), ((cell_far (p := ⟨gb323, _, none⟩) (by first | exact Nat.ne_of_lt (Nat.lt_of_lt_of_le (by have := World.block_lt_of_cell? _ _ hw363_0; first | rwa [add_block] at this | exact this) GW323.out) | (rw [add_block]; exact Nat.ne_of_lt (Nat.lt_of_lt_of_le (by have := World.block_lt_of_cell? _ _ hw363_0; first | rwa [add_block] at this | exact this) GW323.out)) | (show (Addr.add _ _).block ≠ _; rw [add_block]; exact Nat.ne_of_lt (Nat.lt_of_lt_of_le (by have := World.block_lt_of_cell? _ _ hw363_0; first | rwa [add_block] at this | exact this) GW323.out)) | (dsimp only; exact Nat.ne_of_lt (Nat.lt_of_lt_of_le (by have := World.block_lt_of_cell? _ _ hw363_0; first | rwa [add_block] at this | exact this) GW323.out))) _).trans (((cell_far (p := ⟨gb323, _, none⟩) (by first | exact Nat.ne_of_lt (Nat.lt_of_lt_of_le (by have := World.block_lt_of_cell? _ _ hw363_0; first | rwa [add_block] at this | exact this) GW323.out) | (rw [add_block]; exact Nat.ne_of_lt (Nat.lt_of_lt_of_le (by have := World.block_lt_of_cell? _ _ hw363_0; first | rwa [add_block] at this | exact this) GW323.out)) | (show (Addr.add _ _).block ≠ _; rw [add_block]; exact Nat.ne_of_lt (Nat.lt_of_lt_of_le (by have := World.block_lt_of_cell? _ _ hw363_0; first | rwa [add_block] at this | exact this) GW323.out)) | (dsimp only; exact Nat.ne_of_lt (Nat.lt_of_lt_of_le (by have := World.block_lt_of_cell? _ _ hw363_0; first | rwa [add_block] at this | exact this) GW323.out))) _).trans (((cell_far (p := ⟨gb323, _, none⟩) (by first | exact Nat.ne_of_lt (Nat.lt_of_lt_of_le (by have := World.block_lt_of_cell? _ _ hw363_0; first | rwa [add_block] at this | exact this) GW323.out) | (rw [add_block]; exact Nat.ne_of_lt (Nat.lt_of_lt_of_le (by have := World.block_lt_of_cell? _ _ hw363_0; first | rwa [add_block] at this | exact this) GW323.out)) | (show (Addr.add _ _).block ≠ _; rw [add_block]; exact Nat.ne_of_lt (Nat.lt_of_lt_of_le (by have := World.block_lt_of_cell? _ _ hw363_0; first | rwa [add_block] at this | exact this) GW323.out)) | (dsimp only; exact Nat.ne_of_lt (Nat.lt_of_lt_of_le (by have := World.block_lt_of_cell? _ _ hw363_0; first | rwa [add_block] at this | exact this) GW323.out))) _).trans (((cell_far (p := ⟨gb323, _, none⟩) (by first | exact Nat.ne_of_lt (Nat.lt_of_lt_of_le (by have := World.block_lt_of_cell? _ _ hw363_0; first | rwa [add_block] at this | exact this) GW323.out) | (rw [add_block]; exact Nat.ne_of_lt (Nat.lt_of_lt_of_le (by have := World.block_lt_of_cell? _ _ hw363_0; first | rwa [add_block] at this | exact this) GW323.out)) | (show (Addr.add _ _).block ≠ _; rw [add_block]; exact Nat.ne_of_lt (Nat.lt_of_lt_of_le (by have := World.block_lt_of_cell? _ _ hw363_0; first | rwa [add_block] at this | exact this) GW323.out)) | (dsimp only; exact Nat.ne_of_lt (Nat.lt_of_lt_of_le (by have := World.block_lt_of_cell? _ _ hw363_0; first | rwa [add_block] at this | exact this) GW323.out))) _).trans (((cell_far (p := ⟨gb323, _, none⟩) (by first | exact Nat.ne_of_lt (Nat.lt_of_lt_of_le (by have := World.block_lt_of_cell? _ _ hw363_0; first | rwa [add_block] at this | exact this) GW323.out) | (rw [add_block]; exact Nat.ne_of_lt (Nat.lt_of_lt_of_le (by have := World.block_lt_of_cell? _ _ hw363_0; first | rwa [add_block] at this | exact this) GW323.out)) | (show (Addr.add _ _).block ≠ _; rw [add_block]; exact Nat.ne_of_lt (Nat.lt_of_lt_of_le (by have := World.block_lt_of_cell? _ _ hw363_0; first | rwa [add_block] at this | exact this) GW323.out)) | (dsimp only; exact Nat.ne_of_lt (Nat.lt_of_lt_of_le (by have := World.block_lt_of_cell? _ _ hw363_0; first | rwa [add_block] at this | exact this) GW323.out))) _).trans (((cell_far (p := ⟨gb323, _, none⟩) (by first | exact Nat.ne_of_lt (Nat.lt_of_lt_of_le (by have := World.block_lt_of_cell? _ _ hw363_0; first | rwa [add_block] at this | exact this) GW323.out) | (rw [add_block]; exact Nat.ne_of_lt (Nat.lt_of_lt_of_le (by have := World.block_lt_of_cell? _ _ hw363_0; first | rwa [add_block] at this | exact this) GW323.out)) | (show (Addr.add _ _).block ≠ _; rw [add_block]; exact Nat.ne_of_lt (Nat.lt_of_lt_of_le (by have := World.block_lt_of_cell? _ _ hw363_0; first | rwa [add_block] at this | exact this) GW323.out)) | (dsimp only; exact Nat.ne_of_lt (Nat.lt_of_lt_of_le (by have := World.block_lt_of_cell? _ _ hw363_0; first | rwa [add_block] at this | exact this) GW323.out))) _).trans (((cell_far (p := ⟨gb323, _, none⟩) (by first | exact Nat.ne_of_lt (Nat.lt_of_lt_of_le (by have := World.block_lt_of_cell? _ _ hw363_0; first | rwa [add_block] at this | exact this) GW323.out) | (rw [add_block]; exact Nat.ne_of_lt (Nat.lt_of_lt_of_le (by have := World.block_lt_of_cell? _ _ hw363_0; first | rwa [add_block] at this | exact this) GW323.out)) | (show (Addr.add _ _).block ≠ _; rw [add_block]; exact Nat.ne_of_lt (Nat.lt_of_lt_of_le (by have := World.block_lt_of_cell? _ _ hw363_0; first | rwa [add_block] at this | exact this) GW323.out)) | (dsimp only; exact Nat.ne_of_lt (Nat.lt_of_lt_of_le (by have := World.block_lt_of_cell? _ _ hw363_0; first | rwa [add_block] at this | exact this) GW323.out))) _).trans (((cell_far (p := ⟨gb323, _, none⟩) (by first | exact Nat.ne_of_lt (Nat.lt_of_lt_of_le (by have := World.block_lt_of_cell? _ _ hw363_0; first | rwa [add_block] at this | exact this) GW323.out) | (rw [add_block]; exact Nat.ne_of_lt (Nat.lt_of_lt_of_le (by have := World.block_lt_of_cell? _ _ hw363_0; first | rwa [add_block] at this | exact this) GW323.out)) | (show (Addr.add _ _).block ≠ _; rw [add_block]; exact Nat.ne_of_lt (Nat.lt_of_lt_of_le (by have := World.block_lt_of_cell? _ _ hw363_0; first | rwa [add_block] at this | exact this) GW323.out)) | (dsimp only; exact Nat.ne_of_lt (Nat.lt_of_lt_of_le (by have := World.block_lt_of_cell? _ _ hw363_0; first | rwa [add_block] at this | exact this) GW323.out))) _).trans (((cell_far (p := ⟨gb323, _, none⟩) (by first | exact Nat.ne_of_lt (Nat.lt_of_lt_of_le (by have := World.block_lt_of_cell? _ _ hw363_0; first | rwa [add_block] at this | exact this) GW323.out) | (rw [add_block]; exact Nat.ne_of_lt (Nat.lt_of_lt_of_le (by have := World.block_lt_of_cell? _ _ hw363_0; first | rwa [add_block] at this | exact this) GW323.out)) | (show (Addr.add _ _).block ≠ _; rw [add_block]; exact Nat.ne_of_lt (Nat.lt_of_lt_of_le (by have := World.block_lt_of_cell? _ _ hw363_0; first | rwa [add_block] at this | exact this) GW323.out)) | (dsimp only; exact Nat.ne_of_lt (Nat.lt_of_lt_of_le (by have := World.block_lt_of_cell? _ _ hw363_0; first | rwa [add_block] at this | exact this) GW323.out))) _).trans (((cell_far (p := ⟨gb323, _, none⟩) (by first | exact Nat.ne_of_lt (Nat.lt_of_lt_of_le (by have := World.block_lt_of_cell? _ _ hw363_0; first | rwa [add_block] at this | exact this) GW323.out) | (rw [add_block]; exact Nat.ne_of_lt (Nat.lt_of_lt_of_le (by have := World.block_lt_of_cell? _ _ hw363_0; first | rwa [add_block] at this | exact this) GW323.out)) | (show (Addr.add _ _).block ≠ _; rw [add_block]; exact Nat.ne_of_lt (Nat.lt_of_lt_of_le (by have := World.block_lt_of_cell? _ _ hw363_0; first | rwa [add_block] at this | exact this) GW323.out)) | (dsimp only; exact Nat.ne_of_lt (Nat.lt_of_lt_of_le (by have := World.block_lt_of_cell? _ _ hw363_0; first | rwa [add_block] at this | exact this) GW323.out))) _).trans (hHeld.2.2.2.2.2.2.2.2.2.2))))))))))))))))))))⟩ (fun hHeld => ?_)
                clear hK K
                refine done_ (by kernel_rfl) ?_
                try go_wp2
                refine bodyPost_ret (results_cell_row rfl _ _ gb323 23 #[.bool t364, .bool t365, .bool t366, .bool t367, .bool t368, .bool t369, .bool t370, .int .i64 t371, .int .i64 t372, .int .i64 t373] (0, 0) _ rfl (by (with_reducible repeat (first | refine blk_drewN ?_ _ | refine blk_drew ?_ | refine blk_alloc ?_ _)); refine blk_put (cs := #[.bool t364, .bool t365, .bool t366, .bool t367, .bool t368, .bool t369, .bool t370, .int .i64 t371, .int .i64 t372, .int .i64 0]) ?_ 9 _ rfl; (with_reducible repeat (first | refine blk_drewN ?_ _ | refine blk_drew ?_ | refine blk_alloc ?_ _)); refine blk_put (cs := #[.bool t364, .bool t365, .bool t366, .bool t367, .bool t368, .bool t369, .bool t370, .int .i64 t371, .int .i64 0, .int .i64 0]) ?_ 8 _ rfl; (with_reducible repeat (first | refine blk_drewN ?_ _ | refine blk_drew ?_ | refine blk_alloc ?_ _)); refine blk_put (cs := #[.bool t364, .bool t365, .bool t366, .bool t367, .bool t368, .bool t369, .bool t370, .int .i64 0, .int .i64 0, .int .i64 0]) ?_ 7 _ rfl; (with_reducible repeat (first | refine blk_drewN ?_ _ | refine blk_drew ?_ | refine blk_alloc ?_ _)); refine blk_put (cs := #[.bool t364, .bool t365, .bool t366, .bool t367, .bool t368, .bool t369, .bool false, .int .i64 0, .int .i64 0, .int .i64 0]) ?_ 6 _ rfl; (with_reducible repeat (first | refine blk_drewN ?_ _ | refine blk_drew ?_ | refine blk_alloc ?_ _)); refine blk_put (cs := #[.bool t364, .bool t365, .bool t366, .bool t367, .bool t368, .bool false, .bool false, .int .i64 0, .int .i64 0, .int .i64 0]) ?_ 5 _ rfl; (with_reducible repeat (first | refine blk_drewN ?_ _ | refine blk_drew ?_ | refine blk_alloc ?_ _)); refine blk_put (cs := #[.bool t364, .bool t365, .bool t366, .bool t367, .bool false, .bool false, .bool false, .int .i64 0, .int .i64 0, .int .i64 0]) ?_ 4 _ rfl; (with_reducible repeat (first | refine blk_drewN ?_ _ | refine blk_drew ?_ | refine blk_alloc ?_ _)); refine blk_put (cs := #[.bool t364, .bool t365, .bool t366, .bool false, .bool false, .bool false, .bool false, .int .i64 0, .int .i64 0, .int .i64 0]) ?_ 3 _ rfl; (with_reducible repeat (first | refine blk_drewN ?_ _ | refine blk_drew ?_ | refine blk_alloc ?_ _)); refine blk_put (cs := #[.bool t364, .bool t365, .bool false, .bool false, .bool false, .bool false, .bool false, .int .i64 0, .int .i64 0, .int .i64 0]) ?_ 2 _ rfl; (with_reducible repeat (first | refine blk_drewN ?_ _ | refine blk_drew ?_ | refine blk_alloc ?_ _)); refine blk_put (cs := #[.bool t364, .bool false, .bool false, .bool false, .bool false, .bool false, .bool false, .int .i64 0, .int .i64 0, .int .i64 0]) ?_ 1 _ rfl; (with_reducible repeat (first | refine blk_drewN ?_ _ | refine blk_drew ?_ | refine blk_alloc ?_ _)); refine blk_put (cs := #[.bool false, .bool false, .bool false, .bool false, .bool false, .bool false, .bool false, .int .i64 0, .int .i64 0, .int .i64 0]) ?_ 0 _ rfl; (with_reducible repeat (first | refine blk_drewN ?_ _ | refine blk_drew ?_ | refine blk_alloc ?_ _)); exact BK323.out) Tryd.underlying23 rfl (by kernel_rfl)) rfl ?_
                exact ⟨by first | rfl | (simp [errW_none, errW_some] <;> rfl) | (simp [*, errW_none, errW_some] <;> rfl), by repeat (first | (with_reducible first | exact HB.out | apply below_alloc | apply pw_below_drewN | apply below_drew1 | refine below_set ?_ GE322.out | refine below_set ?_ GE323.out) | exact HB.out)⟩
              · rw [if_neg c67] at H
                have c67b0 : decide ((-1) ≤ t340) = false := decide_eq_false c67
                clear c67
                replace H := Option.bind_eq_some_iff.mp H
                obtain ⟨⟨t375, t376, t377, t378, t379, t380, t381, t382, t383, t384⟩, A840, H⟩ := H
                replace H : (some (t375, t376, t377, t378, t379, t380, t381, t382, t383, t384)) = some (r1, r2, r3, r4, r5, r6, r7, r8, r9, r10) := H
                have A84 := Aside0.mk A840
                clear A840
                simp only [Option.some.injEq, Prod.mk.injEq] at H
                obtain ⟨rfl, rfl, rfl, rfl, rfl, rfl, rfl, rfl, rfl, rfl⟩ := H
                have p335 : 0 ≤ (0 : Int) := (by omega)
                have q335 : 0 < (l1.length : Int) := of_decide_eq_true (by first | (with_reducible assumption) | assumption)
                obtain ⟨ad335, e335, hx335_0⟩ := Kd.at_int HR1.out 0 p335 q335
                cases e335
                have qi335 : (0 < l1.length) = True := eq_true (by omega)
                (try rw [show ((0 : Int)).toNat = 0 from rfl] at hx335_0)
                (try rw [Addr.add_zero'] at hx335_0)
                replace hx335_0 := (HB.out.cell (World.block_lt_of_cell? w _ hx335_0)).trans hx335_0
                replace p335 := eq_true p335
                replace q335 := eq_true q335
                try go_wp2_with (first | ((with_reducible refine gate_callee (f := 45) rfl ?_); refine goesL_ (some 41) rfl rfl Tryd.func45 (by kernel_rfl) rfl #[.slice (some ad335) l1.length c1, .int .i64 30] rfl (by (try simp only [List.map_toArray, List.map_cons, List.map_nil]); first | done | rfl | (simp only [List.length_drop, List.length_take]; rfl)) ?_; (with_reducible refine (clavierref18_said.calls kj2 _ _ l1 30 t339 _ ?side1 ?side2 A31.out).mono ?_); (case side1 => repeat (first | exact (Kd.C_below HR1.out HB.out) | (with_reducible refine Kd.C_alloc ?_ _) | (with_reducible refine Kd.C_drewN ?_ _) | (with_reducible refine Kd.C_drew ?_))); (case side2 => exact HC1.out); rintro e w' ⟨rfl, ⟨nd, rfl⟩⟩; refine ⟨_, rfl, ?_⟩; (try (rw [drewN_self wc]; generalize hq_ : World.drewN wc _ = wc; have n0_ : Aside0 (wc.heap[gb322]? = some (.cells #[.bool a0_0, .bool a0_1, .bool a0_2, .bool a0_3, .bool a0_4, .bool a0_5, .bool a0_6, .int .i64 a0_7, .int .i64 a0_8, .int .i64 a0_9] 23 (0, 0))) := ⟨by rw [← hq_]; exact (by (with_reducible repeat (first | refine blk_drewN ?_ _ | refine blk_drew ?_ | refine blk_alloc ?_ _)); exact BK322.out)⟩; have n1_ : Aside0 (wc.heap[gb323]? = some (.cells #[.bool false, .bool false, .bool false, .bool false, .bool false, .bool false, .bool false, .int .i64 0, .int .i64 0, .int .i64 0] 23 (0, 0))) := ⟨by rw [← hq_]; exact (by (with_reducible repeat (first | refine blk_drewN ?_ _ | refine blk_drew ?_ | refine blk_alloc ?_ _)); exact BK323.out)⟩; have n2_ : Aside0 (Below w.heap.size w wc) := ⟨by rw [← hq_]; exact (by repeat (first | (with_reducible first | exact HB.out | apply below_alloc | apply pw_below_drewN | apply below_drew1 | refine below_set ?_ GE322.out | refine below_set ?_ GE323.out) | exact HB.out))⟩; clear BK322 BK323 HB hq_; have BK322 := n0_; have BK323 := n1_; have HB := n2_; clear n0_ n1_ n2_))) | ((with_reducible refine gate_callee (f := 45) rfl ?_); refine goesL_ (some 43) rfl rfl Tryd.func45 (by kernel_rfl) rfl #[.slice (some ad335) l1.length c1, .int .i64 40] rfl (by (try simp only [List.map_toArray, List.map_cons, List.map_nil]); first | done | rfl | (simp only [List.length_drop, List.length_take]; rfl)) ?_; (with_reducible refine (clavierref18_said.calls kj2 _ _ l1 40 t340 _ ?side1 ?side2 A32.out).mono ?_); (case side1 => repeat (first | exact (Kd.C_below HR1.out HB.out) | (with_reducible refine Kd.C_alloc ?_ _) | (with_reducible refine Kd.C_drewN ?_ _) | (with_reducible refine Kd.C_drew ?_))); (case side2 => exact HC1.out); rintro e w' ⟨rfl, ⟨nd, rfl⟩⟩; refine ⟨_, rfl, ?_⟩; (try (rw [drewN_self wc]; generalize hq_ : World.drewN wc _ = wc; have n0_ : Aside0 (wc.heap[gb322]? = some (.cells #[.bool a0_0, .bool a0_1, .bool a0_2, .bool a0_3, .bool a0_4, .bool a0_5, .bool a0_6, .int .i64 a0_7, .int .i64 a0_8, .int .i64 a0_9] 23 (0, 0))) := ⟨by rw [← hq_]; exact (by (with_reducible repeat (first | refine blk_drewN ?_ _ | refine blk_drew ?_ | refine blk_alloc ?_ _)); exact BK322.out)⟩; have n1_ : Aside0 (wc.heap[gb323]? = some (.cells #[.bool false, .bool false, .bool false, .bool false, .bool false, .bool false, .bool false, .int .i64 0, .int .i64 0, .int .i64 0] 23 (0, 0))) := ⟨by rw [← hq_]; exact (by (with_reducible repeat (first | refine blk_drewN ?_ _ | refine blk_drew ?_ | refine blk_alloc ?_ _)); exact BK323.out)⟩; have n2_ : Aside0 (Below w.heap.size w wc) := ⟨by rw [← hq_]; exact (by repeat (first | (with_reducible first | exact HB.out | apply below_alloc | apply pw_below_drewN | apply below_drew1 | refine below_set ?_ GE322.out | refine below_set ?_ GE323.out) | exact HB.out))⟩; clear BK322 BK323 HB hq_; have BK322 := n0_; have BK323 := n1_; have HB := n2_; clear n0_ n1_ n2_))))
                have n0_ := Aside0.mk (blk_drew BK322.out)
                have n1_ := Aside0.mk (blk_drew BK323.out)
                have n2_ := Aside0.mk (below_drew1 HB.out)
                clear BK322
                clear BK323
                clear HB
                have BK322 := n0_
                have BK323 := n1_
                have HB := n2_
                clear n0_ n1_ n2_
                have p374 : 0 ≤ (0 : Int) := (by omega)
                have q374 : 0 < (l1.length : Int) := of_decide_eq_true (by first | (with_reducible assumption) | assumption)
                obtain ⟨ad374, e374, hx374_0⟩ := Kd.at_int HR1.out 0 p374 q374
                have hw374_0 := hx374_0
                (try rw [show ((0 : Int)).toNat = 0 from rfl] at hw374_0)
                (try rw [show 0 * 1 = 0 from rfl] at hw374_0)
                (try rw [Addr.add_zero'] at hw374_0)
                obtain rfl : ad335 = ad374 := (by injection e374)
                have qi374 : (0 < l1.length) = True := eq_true (by omega)
                (try rw [show ((0 : Int)).toNat = 0 from rfl] at hx374_0)
                (try rw [Addr.add_zero'] at hx374_0)
                replace hx374_0 := (HB.out.cell (World.block_lt_of_cell? w _ hx374_0)).trans hx374_0
                replace p374 := eq_true p374
                replace q374 := eq_true q374
                refine start_ (n := 6) (S := fun w' => w'.cell? ⟨gb322, 0, none⟩ = some (.bool a0_0) ∧ w'.cell? ⟨gb322, 1, none⟩ = some (.bool a0_1) ∧ w'.cell? ⟨gb322, 2, none⟩ = some (.bool a0_2) ∧ w'.cell? ⟨gb322, 3, none⟩ = some (.bool a0_3) ∧ w'.cell? ⟨gb322, 4, none⟩ = some (.bool a0_4) ∧ w'.cell? ⟨gb322, 5, none⟩ = some (.bool a0_5) ∧ w'.cell? ⟨gb322, 6, none⟩ = some (.bool a0_6) ∧ w'.cell? ⟨gb322, 7, none⟩ = some (.int .i64 a0_7) ∧ w'.cell? ⟨gb322, 8, none⟩ = some (.int .i64 a0_8) ∧ w'.cell? ⟨gb322, 9, none⟩ = some (.int .i64 a0_9) ∧ w'.cell? ad335 = some (.int .i64 (rd l1 0))) (ds := []) #[false, false, false, false, false, false] (by kernel_rfl) rfl rfl ⟨(blk_cell BK322.out 0).trans rfl, (blk_cell BK322.out 1).trans rfl, (blk_cell BK322.out 2).trans rfl, (blk_cell BK322.out 3).trans rfl, (blk_cell BK322.out 4).trans rfl, (blk_cell BK322.out 5).trans rfl, (blk_cell BK322.out 6).trans rfl, (blk_cell BK322.out 7).trans rfl, (blk_cell BK322.out 8).trans rfl, (blk_cell BK322.out 9).trans rfl, ((HB.out.cell (World.block_lt_of_cell? w _ hw374_0)).trans hw374_0)⟩ (fun hHeld => ?_)
                generalize wc.drew = w85 at BK322 BK323 HB hx374_0 hHeld ⊢
                refine pure_ (i := 1) (N := some 53) (v := ?_) (a' := ?_) #[false, true, false, false, false, false] rfl rfl (by kernel_rfl) (fun _ _ _ h => h) (Or.inl ⟨by rfl, ?_⟩) ?_ ?_
                rotate_left
                · intro w'
                  go_simp
                  with_reducible rfl
                rotate_left
                · simp only [Act.put, List.setIfInBounds_toArray, List.set_cons_zero, List.set_cons_succ, i64_w, i32_w]
                  rfl
                refine pure_ (i := 2) (N := some 54) (v := ?_) (a' := ?_) #[false, true, true, false, false, false] rfl rfl (by kernel_rfl) (fun _ _ _ h => h) (Or.inl ⟨by rfl, ?_⟩) ?_ ?_
                rotate_left
                · intro w'
                  go_simp
                  with_reducible rfl
                rotate_left
                · simp only [Act.put, List.setIfInBounds_toArray, List.set_cons_zero, List.set_cons_succ, i64_w, i32_w]
                  rfl
                refine take_ (i := 0) (N := some 52) (v := ?_) (a' := ?_) #[true, true, true, false, false, false] rfl rfl (by kernel_rfl) (fun _ _ _ h => h) (Or.inl ⟨by rfl, ?_⟩) hHeld ?_ ?_
                rotate_left
                · rintro w' ⟨s0, s1, s2, s3, s4, s5, s6, s7, s8, s9, s10⟩
                  go_simp
                  with_reducible rfl
                rotate_left
                · simp only [Act.put, List.setIfInBounds_toArray, List.set_cons_zero, List.set_cons_succ, i64_w, i32_w]
                  rfl
                refine take_ (i := 3) (N := some 55) (v := ?_) (a' := ?_) #[true, true, true, true, false, false] rfl rfl (by kernel_rfl) (fun _ _ _ h => h) (Or.inl ⟨by rfl, ?_⟩) hHeld ?_ ?_
                rotate_left
                · rintro w' ⟨s0, s1, s2, s3, s4, s5, s6, s7, s8, s9, s10⟩
                  go_simp
                  with_reducible rfl
                rotate_left
                · simp only [Act.put, List.setIfInBounds_toArray, List.set_cons_zero, List.set_cons_succ, i64_w, i32_w]
                  rfl
                refine one_ (i := 4) (N := some 56) #[true, true, true, true, true, false] rfl rfl (by kernel_rfl) (by decide) (fun K hK => ?_)
                refine goes_ Tryd.func46 (by kernel_rfl) rfl #[.agg #[.bool a0_0, .bool a0_1, .bool a0_2, .bool a0_3, .bool a0_4, .bool a0_5, .bool a0_6, .int .i64 a0_7, .int .i64 a0_8, .int .i64 a0_9], .int .i64 (rd l1 0)] (by rfl) rfl rfl (by (try simp only [List.map_toArray, List.map_cons, List.map_nil]); first | done | rfl | (simp only [List.length_drop, List.length_take]; rfl)) ?_
                with_reducible refine (clavierref18_flag.calls a0_0 a0_1 a0_2 a0_3 a0_4 a0_5 a0_6 a0_7 a0_8 a0_9 (rd l1 0) t375 t376 t377 t378 t379 t380 t381 t382 t383 t384 _ A84.out).mono ?_
                rintro e w86 ⟨rfl, hb⟩
                refine ⟨_, rfl, ?_⟩
                have n0_ := Aside0.mk (blk_below (g := gb322) (o := .cells #[.bool a0_0, .bool a0_1, .bool a0_2, .bool a0_3, .bool a0_4, .bool a0_5, .bool a0_6, .int .i64 a0_7, .int .i64 a0_8, .int .i64 a0_9] 23 (0, 0)) (by (with_reducible repeat (first | refine blk_drewN ?_ _ | refine blk_drew ?_ | refine blk_alloc ?_ _)); exact BK322.out) hb)
                have n1_ := Aside0.mk (blk_below (g := gb323) (o := .cells #[.bool false, .bool false, .bool false, .bool false, .bool false, .bool false, .bool false, .int .i64 0, .int .i64 0, .int .i64 0] 23 (0, 0)) (by (with_reducible repeat (first | refine blk_drewN ?_ _ | refine blk_drew ?_ | refine blk_alloc ?_ _)); exact BK323.out) hb)
                have n2_ := Aside0.mk (below_step (by repeat (first | (with_reducible first | exact HB.out | apply below_alloc | apply pw_below_drewN | apply below_drew1 | refine below_set ?_ GE322.out | refine below_set ?_ GE323.out) | exact HB.out)) hb)
                clear BK322
                clear BK323
                clear HB
                have BK322 := n0_
                have BK323 := n1_
                have HB := n2_
                clear n0_ n1_ n2_
                (try clear hb)
                (try clear hb2)
                (try clear hk)
                (try clear hi)
                refine hK.out _ _ ⟨(blk_cell BK322.out 0).trans rfl, (blk_cell BK322.out 1).trans rfl, (blk_cell BK322.out 2).trans rfl, (blk_cell BK322.out 3).trans rfl, (blk_cell BK322.out 4).trans rfl, (blk_cell BK322.out 5).trans rfl, (blk_cell BK322.out 6).trans rfl, (blk_cell BK322.out 7).trans rfl, (blk_cell BK322.out 8).trans rfl, (blk_cell BK322.out 9).trans rfl, ((HB.out.cell (World.block_lt_of_cell? w _ hw374_0)).trans hw374_0)⟩ (fun hHeld => ?_)
                clear hK K
                refine norm_ (a' := ?_) ?_ ?_
                rotate_left
                · show Act.put _ (some 56) _ = _
                  simp only [Act.put, List.setIfInBounds_toArray, List.set_cons_zero, List.set_cons_succ, i64_w, i32_w]
                  rfl
                refine one_ (i := 5) (N := none) #[true, true, true, true, true, true] rfl rfl (by kernel_rfl) (by decide) (fun K hK => ?_)
                have hs87 : w86.cell? ⟨gb323, 0, none⟩ = some (.bool false) := (blk_cell BK323.out 0).trans rfl
                have hfs87 := blk_frozen BK323.out 0
                have hns87_0 := NB322_323.out
                have hms87_0 := NB323_322.out
                have hs88 : w86.cell? ⟨gb323, 1, none⟩ = some (.bool false) := (blk_cell BK323.out 1).trans rfl
                have hfs88 := blk_frozen BK323.out 1
                have hns88_0 := NB322_323.out
                have hms88_0 := NB323_322.out
                have hs89 : w86.cell? ⟨gb323, 2, none⟩ = some (.bool false) := (blk_cell BK323.out 2).trans rfl
                have hfs89 := blk_frozen BK323.out 2
                have hns89_0 := NB322_323.out
                have hms89_0 := NB323_322.out
                have hs90 : w86.cell? ⟨gb323, 3, none⟩ = some (.bool false) := (blk_cell BK323.out 3).trans rfl
                have hfs90 := blk_frozen BK323.out 3
                have hns90_0 := NB322_323.out
                have hms90_0 := NB323_322.out
                have hs91 : w86.cell? ⟨gb323, 4, none⟩ = some (.bool false) := (blk_cell BK323.out 4).trans rfl
                have hfs91 := blk_frozen BK323.out 4
                have hns91_0 := NB322_323.out
                have hms91_0 := NB323_322.out
                have hs92 : w86.cell? ⟨gb323, 5, none⟩ = some (.bool false) := (blk_cell BK323.out 5).trans rfl
                have hfs92 := blk_frozen BK323.out 5
                have hns92_0 := NB322_323.out
                have hms92_0 := NB323_322.out
                have hs93 : w86.cell? ⟨gb323, 6, none⟩ = some (.bool false) := (blk_cell BK323.out 6).trans rfl
                have hfs93 := blk_frozen BK323.out 6
                have hns93_0 := NB322_323.out
                have hms93_0 := NB323_322.out
                have hs94 : w86.cell? ⟨gb323, 7, none⟩ = some (.int .i64 0) := (blk_cell BK323.out 7).trans rfl
                have hfs94 := blk_frozen BK323.out 7
                have hns94_0 := NB322_323.out
                have hms94_0 := NB323_322.out
                have hs95 : w86.cell? ⟨gb323, 8, none⟩ = some (.int .i64 0) := (blk_cell BK323.out 8).trans rfl
                have hfs95 := blk_frozen BK323.out 8
                have hns95_0 := NB322_323.out
                have hms95_0 := NB323_322.out
                have hs96 : w86.cell? ⟨gb323, 9, none⟩ = some (.int .i64 0) := (blk_cell BK323.out 9).trans rfl
                have hfs96 := blk_frozen BK323.out 9
                have hns96_0 := NB322_323.out
                have hms96_0 := NB323_322.out
                refine skip_ (w1 := ?_) (by rfl) rfl ?_ ?_
                rotate_left
                · go_simp
                  rfl
                refine hK.out _ _ ⟨((cell_far (p := ⟨gb323, _, none⟩) NB322_323.out _).trans (((cell_far (p := ⟨gb323, _, none⟩) NB322_323.out _).trans (((cell_far (p := ⟨gb323, _, none⟩) NB322_323.out _).trans (((cell_far (p := ⟨gb323, _, none⟩) NB322_323.out _).trans (((cell_far (p := ⟨gb323, _, none⟩) NB322_323.out _).trans (((cell_far (p := ⟨gb323, _, none⟩) NB322_323.out _).trans (((cell_far (p := ⟨gb323, _, none⟩) NB322_323.out _).trans (((cell_far (p := ⟨gb323, _, none⟩) NB322_323.out _).trans (((cell_far (p := ⟨gb323, _, none⟩) NB322_323.out _).trans (((cell_far (p := ⟨gb323, _, none⟩) NB322_323.out _).trans (hHeld.1)))))))))))))))))))), ((cell_far (p := ⟨gb323, _, none⟩) NB322_323.out _).trans (((cell_far (p := ⟨gb323, _, none⟩) NB322_323.out _).trans (((cell_far (p := ⟨gb323, _, none⟩) NB322_323.out _).trans (((cell_far (p := ⟨gb323, _, none⟩) NB322_323.out _).trans (((cell_far (p := ⟨gb323, _, none⟩) NB322_323.out _).trans (((cell_far (p := ⟨gb323, _, none⟩) NB322_323.out _).trans (((cell_far (p := ⟨gb323, _, none⟩) NB322_323.out _).trans (((cell_far (p := ⟨gb323, _, none⟩) NB322_323.out _).trans (((cell_far (p := ⟨gb323, _, none⟩) NB322_323.out _).trans (((cell_far (p := ⟨gb323, _, none⟩) NB322_323.out _).trans (hHeld.2.1)))))))))))))))))))), ((cell_far (p := ⟨gb323, _, none⟩) NB322_323.out _).trans (((cell_far (p := ⟨gb323, _, none⟩) NB322_323.out _).trans (((cell_far (p := ⟨gb323, _, none⟩) NB322_323.out _).trans (((cell_far (p := ⟨gb323, _, none⟩) NB322_323.out _).trans (((cell_far (p := ⟨gb323, _, none⟩) NB322_323.out _).trans (((cell_far (p := ⟨gb323, _, none⟩) NB322_323.out _).trans (((cell_far (p := ⟨gb323, _, none⟩) NB322_323.out _).trans (((cell_far (p := ⟨gb323, _, none⟩) NB322_323.out _).trans (((cell_far (p := ⟨gb323, _, none⟩) NB322_323.out _).trans (((cell_far (p := ⟨gb323, _, none⟩) NB322_323.out _).trans (hHeld.2.2.1)))))))))))))))))))), ((cell_far (p := ⟨gb323, _, none⟩) NB322_323.out _).trans (((cell_far (p := ⟨gb323, _, none⟩) NB322_323.out _).trans (((cell_far (p := ⟨gb323, _, none⟩) NB322_323.out _).trans (((cell_far (p := ⟨gb323, _, none⟩) NB322_323.out _).trans (((cell_far (p := ⟨gb323, _, none⟩) NB322_323.out _).trans (((cell_far (p := ⟨gb323, _, none⟩) NB322_323.out _).trans (((cell_far (p := ⟨gb323, _, none⟩) NB322_323.out _).trans (((cell_far (p := ⟨gb323, _, none⟩) NB322_323.out _).trans (((cell_far (p := ⟨gb323, _, none⟩) NB322_323.out _).trans (((cell_far (p := ⟨gb323, _, none⟩) NB322_323.out _).trans (hHeld.2.2.2.1)))))))))))))))))))), ((cell_far (p := ⟨gb323, _, none⟩) NB322_323.out _).trans (((cell_far (p := ⟨gb323, _, none⟩) NB322_323.out _).trans (((cell_far (p := ⟨gb323, _, none⟩) NB322_323.out _).trans (((cell_far (p := ⟨gb323, _, none⟩) NB322_323.out _).trans (((cell_far (p := ⟨gb323, _, none⟩) NB322_323.out _).trans (((cell_far (p := ⟨gb323, _, none⟩) NB322_323.out _).trans (((cell_far (p := ⟨gb323, _, none⟩) NB322_323.out _).trans (((cell_far (p := ⟨gb323, _, none⟩) NB322_323.out _).trans (((cell_far (p := ⟨gb323, _, none⟩) NB322_323.out _).trans (((cell_far (p := ⟨gb323, _, none⟩) NB322_323.out _).trans (hHeld.2.2.2.2.1)))))))))))))))))))), ((cell_far (p := ⟨gb323, _, none⟩) NB322_323.out _).trans (((cell_far (p := ⟨gb323, _, none⟩) NB322_323.out _).trans (((cell_far (p := ⟨gb323, _, none⟩) NB322_323.out _).trans (((cell_far (p := ⟨gb323, _, none⟩) NB322_323.out _).trans (((cell_far (p := ⟨gb323, _, none⟩) NB322_323.out _).trans (((cell_far (p := ⟨gb323, _, none⟩) NB322_323.out _).trans (((cell_far (p := ⟨gb323, _, none⟩) NB322_323.out _).trans (((cell_far (p := ⟨gb323, _, none⟩) NB322_323.out _).trans (((cell_far (p := ⟨gb323, _, none⟩) NB322_323.out _).trans (((cell_far (p := ⟨gb323, _, none⟩) NB322_323.out _).trans (hHeld.2.2.2.2.2.1)))))))))))))))))))), ((cell_far (p := ⟨gb323, _, none⟩) NB322_323.out _).trans (((cell_far (p := ⟨gb323, _, none⟩) NB322_323.out _).trans (((cell_far (p := ⟨gb323, _, none⟩) NB322_323.out _).trans (((cell_far (p := ⟨gb323, _, none⟩) NB322_323.out _).trans (((cell_far (p := ⟨gb323, _, none⟩) NB322_323.out _).trans (((cell_far (p := ⟨gb323, _, none⟩) NB322_323.out _).trans (((cell_far (p := ⟨gb323, _, none⟩) NB322_323.out _).trans (((cell_far (p := ⟨gb323, _, none⟩) NB322_323.out _).trans (((cell_far (p := ⟨gb323, _, none⟩) NB322_323.out _).trans (((cell_far (p := ⟨gb323, _, none⟩) NB322_323.out _).trans (hHeld.2.2.2.2.2.2.1)))))))))))))))))))), ((cell_far (p := ⟨gb323, _, none⟩) NB322_323.out _).trans (((cell_far (p := ⟨gb323, _, none⟩) NB322_323.out _).trans (((cell_far (p := ⟨gb323, _, none⟩) NB322_323.out _).trans (((cell_far (p := ⟨gb323, _, none⟩) NB322_323.out _).trans (((cell_far (p := ⟨gb323, _, none⟩) NB322_323.out _).trans (((cell_far (p := ⟨gb323, _, none⟩) NB322_323.out _).trans (((cell_far (p := ⟨gb323, _, none⟩) NB322_323.out _).trans (((cell_far (p := ⟨gb323, _, none⟩) NB322_323.out _).trans (((cell_far (p := ⟨gb323, _, none⟩) NB322_323.out _).trans (((cell_far (p := ⟨gb323, _, none⟩) NB322_323.out _).trans (hHeld.2.2.2.2.2.2.2.1)))))))))))))))))))), ((cell_far (p := ⟨gb323, _, none⟩) NB322_323.out _).trans (((cell_far (p := ⟨gb323, _, none⟩) NB322_323.out _).trans (((cell_far (p := ⟨gb323, _, none⟩) NB322_323.out _).trans (((cell_far (p := ⟨gb323, _, none⟩) NB322_323.out _).trans (((cell_far (p := ⟨gb323, _, none⟩) NB322_323.out _).trans (((cell_far (p := ⟨gb323, _, none⟩) NB322_323.out _).trans (((cell_far (p := ⟨gb323, _, none⟩) NB322_323.out _).trans (((cell_far (p := ⟨gb323, _, none⟩) NB322_323.out _).trans (((cell_far (p := ⟨gb323, _, none⟩) NB322_323.out _).trans (((cell_far (p := ⟨gb323, _, none⟩) NB322_323.out _).trans (hHeld.2.2.2.2.2.2.2.2.1)))))))))))))))))))), ((cell_far (p := ⟨gb323, _, none⟩) NB322_323.out _).trans (((cell_far (p := ⟨gb323, _, none⟩) NB322_323.out _).trans (((cell_far (p := ⟨gb323, _, none⟩) NB322_323.out _).trans (((cell_far (p := ⟨gb323, _, none⟩) NB322_323.out _).trans (((cell_far (p := ⟨gb323, _, none⟩) NB322_323.out _).trans (((cell_far (p := ⟨gb323, _, none⟩) NB322_323.out _).trans (((cell_far (p := ⟨gb323, _, none⟩) NB322_323.out _).trans (((cell_far (p := ⟨gb323, _, none⟩) NB322_323.out _).trans (((cell_far (p := ⟨gb323, _, none⟩) NB322_323.out _).trans (((cell_far (p := ⟨gb323, _, none⟩) NB322_323.out _).trans (hHeld.2.2.2.2.2.2.2.2.2.1)))))))))))))))))))), ((cell_far (p := ⟨gb323, _, none⟩) (by first | exact Nat.ne_of_lt (Nat.lt_of_lt_of_le (by have := World.block_lt_of_cell? _ _ hw374_0; first | rwa [add_block] at this | exact this) GW323.out) | (rw [add_block]; exact Nat.ne_of_lt (Nat.lt_of_lt_of_le (by have := World.block_lt_of_cell? _ _ hw374_0; first | rwa [add_block] at this | exact this) GW323.out)) | (show (Addr.add _ _).block ≠ _; rw [add_block]; exact Nat.ne_of_lt (Nat.lt_of_lt_of_le (by have := World.block_lt_of_cell? _ _ hw374_0; first | rwa [add_block] at this | exact this) GW323.out)) | (dsimp only; exact Nat.ne_of_lt (Nat.lt_of_lt_of_le (by have := World.block_lt_of_cell? _ _ hw374_0; first | rwa [add_block] at this | exact this) GW323.out))) _).trans (((cell_far (p := ⟨gb323, _, none⟩) (by first | exact Nat.ne_of_lt (Nat.lt_of_lt_of_le (by have := World.block_lt_of_cell? _ _ hw374_0; first | rwa [add_block] at this | exact this) GW323.out) | (rw [add_block]; exact Nat.ne_of_lt (Nat.lt_of_lt_of_le (by have := World.block_lt_of_cell? _ _ hw374_0; first | rwa [add_block] at this | exact this) GW323.out)) | (show (Addr.add _ _).block ≠ _; rw [add_block]; exact Nat.ne_of_lt (Nat.lt_of_lt_of_le (by have := World.block_lt_of_cell? _ _ hw374_0; first | rwa [add_block] at this | exact this) GW323.out)) | (dsimp only; exact Nat.ne_of_lt (Nat.lt_of_lt_of_le (by have := World.block_lt_of_cell? _ _ hw374_0; first | rwa [add_block] at this | exact this) GW323.out))) _).trans (((cell_far (p := ⟨gb323, _, none⟩) (by first | exact Nat.ne_of_lt (Nat.lt_of_lt_of_le (by have := World.block_lt_of_cell? _ _ hw374_0; first | rwa [add_block] at this | exact this) GW323.out) | (rw [add_block]; exact Nat.ne_of_lt (Nat.lt_of_lt_of_le (by have := World.block_lt_of_cell? _ _ hw374_0; first | rwa [add_block] at this | exact this) GW323.out)) | (show (Addr.add _ _).block ≠ _; rw [add_block]; exact Nat.ne_of_lt (Nat.lt_of_lt_of_le (by have := World.block_lt_of_cell? _ _ hw374_0; first | rwa [add_block] at this | exact this) GW323.out)) | (dsimp only; exact Nat.ne_of_lt (Nat.lt_of_lt_of_le (by have := World.block_lt_of_cell? _ _ hw374_0; first | rwa [add_block] at this | exact this) GW323.out))) _).trans (((cell_far (p := ⟨gb323, _, none⟩) (by first | exact Nat.ne_of_lt (Nat.lt_of_lt_of_le (by have := World.block_lt_of_cell? _ _ hw374_0; first | rwa [add_block] at this | exact this) GW323.out) | (rw [add_block]; exact Nat.ne_of_lt (Nat.lt_of_lt_of_le (by have := World.block_lt_of_cell? _ _ hw374_0; first | rwa [add_block] at this | exact this) GW323.out)) | (show (Addr.add _ _).block ≠ _; rw [add_block]; exact Nat.ne_of_lt (Nat.lt_of_lt_of_le (by have := World.block_lt_of_cell? _ _ hw374_0; first | rwa [add_block] at this | exact this) GW323.out)) | (dsimp only; exact Nat.ne_of_lt (Nat.lt_of_lt_of_le (by have := World.block_lt_of_cell? _ _ hw374_0; first | rwa [add_block] at this | exact this) GW323.out))) _).trans (((cell_far (p := ⟨gb323, _, none⟩) (by first | exact Nat.ne_of_lt (Nat.lt_of_lt_of_le (by have := World.block_lt_of_cell? _ _ hw374_0; first | rwa [add_block] at this | exact this) GW323.out) | (rw [add_block]; exact Nat.ne_of_lt (Nat.lt_of_lt_of_le (by have := World.block_lt_of_cell? _ _ hw374_0; first | rwa [add_block] at this | exact this) GW323.out)) | (show (Addr.add _ _).block ≠ _; rw [add_block]; exact Nat.ne_of_lt (Nat.lt_of_lt_of_le (by have := World.block_lt_of_cell? _ _ hw374_0; first | rwa [add_block] at this | exact this) GW323.out)) | (dsimp only; exact Nat.ne_of_lt (Nat.lt_of_lt_of_le (by have := World.block_lt_of_cell? _ _ hw374_0; first | rwa [add_block] at this | exact this) GW323.out))) _).trans (((cell_far (p := ⟨gb323, _, none⟩) (by first | exact Nat.ne_of_lt (Nat.lt_of_lt_of_le (by have := World.block_lt_of_cell? _ _ hw374_0; first | rwa [add_block] at this | exact this) GW323.out) | (rw [add_block]; exact Nat.ne_of_lt (Nat.lt_of_lt_of_le (by have := World.block_lt_of_cell? _ _ hw374_0; first | rwa [add_block] at this | exact this) GW323.out)) | (show (Addr.add _ _).block ≠ _; rw [add_block]; exact Nat.ne_of_lt (Nat.lt_of_lt_of_le (by have := World.block_lt_of_cell? _ _ hw374_0; first | rwa [add_block] at this | exact this) GW323.out)) | (dsimp only; exact Nat.ne_of_lt (Nat.lt_of_lt_of_le (by have := World.block_lt_of_cell? _ _ hw374_0; first | rwa [add_block] at this | exact this) GW323.out))) _).trans (((cell_far (p := ⟨gb323, _, none⟩) (by first | exact Nat.ne_of_lt (Nat.lt_of_lt_of_le (by have := World.block_lt_of_cell? _ _ hw374_0; first | rwa [add_block] at this | exact this) GW323.out) | (rw [add_block]; exact Nat.ne_of_lt (Nat.lt_of_lt_of_le (by have := World.block_lt_of_cell? _ _ hw374_0; first | rwa [add_block] at this | exact this) GW323.out)) | (show (Addr.add _ _).block ≠ _; rw [add_block]; exact Nat.ne_of_lt (Nat.lt_of_lt_of_le (by have := World.block_lt_of_cell? _ _ hw374_0; first | rwa [add_block] at this | exact this) GW323.out)) | (dsimp only; exact Nat.ne_of_lt (Nat.lt_of_lt_of_le (by have := World.block_lt_of_cell? _ _ hw374_0; first | rwa [add_block] at this | exact this) GW323.out))) _).trans (((cell_far (p := ⟨gb323, _, none⟩) (by first | exact Nat.ne_of_lt (Nat.lt_of_lt_of_le (by have := World.block_lt_of_cell? _ _ hw374_0; first | rwa [add_block] at this | exact this) GW323.out) | (rw [add_block]; exact Nat.ne_of_lt (Nat.lt_of_lt_of_le (by have := World.block_lt_of_cell? _ _ hw374_0; first | rwa [add_block] at this | exact this) GW323.out)) | (show (Addr.add _ _).block ≠ _; rw [add_block]; exact Nat.ne_of_lt (Nat.lt_of_lt_of_le (by have := World.block_lt_of_cell? _ _ hw374_0; first | rwa [add_block] at this | exact this) GW323.out)) | (dsimp only; exact Nat.ne_of_lt (Nat.lt_of_lt_of_le (by have := World.block_lt_of_cell? _ _ hw374_0; first | rwa [add_block] at this | exact this) GW323.out))) _).trans (((cell_far (p := ⟨gb323, _, none⟩) (by first | exact Nat.ne_of_lt (Nat.lt_of_lt_of_le (by have := World.block_lt_of_cell? _ _ hw374_0; first | rwa [add_block] at this | exact this) GW323.out) | (rw [add_block]; exact Nat.ne_of_lt (Nat.lt_of_lt_of_le (by have := World.block_lt_of_cell? _ _ hw374_0; first | rwa [add_block] at this | exact this) GW323.out)) | (show (Addr.add _ _).block ≠ _; rw [add_block]; exact Nat.ne_of_lt (Nat.lt_of_lt_of_le (by have := World.block_lt_of_cell? _ _ hw374_0; first | rwa [add_block] at this | exact this) GW323.out)) | (dsimp only; exact Nat.ne_of_lt (Nat.lt_of_lt_of_le (by have := World.block_lt_of_cell? _ _ hw374_0; first | rwa [add_block] at this | exact this) GW323.out))) _).trans (((cell_far (p := ⟨gb323, _, none⟩) (by first | exact Nat.ne_of_lt (Nat.lt_of_lt_of_le (by have := World.block_lt_of_cell? _ _ hw374_0; first | rwa [add_block] at this | exact this) GW323.out) | (rw [add_block]; exact Nat.ne_of_lt (Nat.lt_of_lt_of_le (by have := World.block_lt_of_cell? _ _ hw374_0; first | rwa [add_block] at this | exact this) GW323.out)) | (show (Addr.add _ _).block ≠ _; rw [add_block]; exact Nat.ne_of_lt (Nat.lt_of_lt_of_le (by have := World.block_lt_of_cell? _ _ hw374_0; first | rwa [add_block] at this | exact this) GW323.out)) | (dsimp only; exact Nat.ne_of_lt (Nat.lt_of_lt_of_le (by have := World.block_lt_of_cell? _ _ hw374_0; first | rwa [add_block] at this | exact this) GW323.out))) _).trans (hHeld.2.2.2.2.2.2.2.2.2.2))))))))))))))))))))⟩ (fun hHeld => ?_)
                clear hK K
                refine done_ (by kernel_rfl) ?_
                try go_wp2
                refine bodyPost_ret (results_cell_row rfl _ _ gb323 23 #[.bool t375, .bool t376, .bool t377, .bool t378, .bool t379, .bool t380, .bool t381, .int .i64 t382, .int .i64 t383, .int .i64 t384] (0, 0) _ rfl (by (with_reducible repeat (first | refine blk_drewN ?_ _ | refine blk_drew ?_ | refine blk_alloc ?_ _)); refine blk_put (cs := #[.bool t375, .bool t376, .bool t377, .bool t378, .bool t379, .bool t380, .bool t381, .int .i64 t382, .int .i64 t383, .int .i64 0]) ?_ 9 _ rfl; (with_reducible repeat (first | refine blk_drewN ?_ _ | refine blk_drew ?_ | refine blk_alloc ?_ _)); refine blk_put (cs := #[.bool t375, .bool t376, .bool t377, .bool t378, .bool t379, .bool t380, .bool t381, .int .i64 t382, .int .i64 0, .int .i64 0]) ?_ 8 _ rfl; (with_reducible repeat (first | refine blk_drewN ?_ _ | refine blk_drew ?_ | refine blk_alloc ?_ _)); refine blk_put (cs := #[.bool t375, .bool t376, .bool t377, .bool t378, .bool t379, .bool t380, .bool t381, .int .i64 0, .int .i64 0, .int .i64 0]) ?_ 7 _ rfl; (with_reducible repeat (first | refine blk_drewN ?_ _ | refine blk_drew ?_ | refine blk_alloc ?_ _)); refine blk_put (cs := #[.bool t375, .bool t376, .bool t377, .bool t378, .bool t379, .bool t380, .bool false, .int .i64 0, .int .i64 0, .int .i64 0]) ?_ 6 _ rfl; (with_reducible repeat (first | refine blk_drewN ?_ _ | refine blk_drew ?_ | refine blk_alloc ?_ _)); refine blk_put (cs := #[.bool t375, .bool t376, .bool t377, .bool t378, .bool t379, .bool false, .bool false, .int .i64 0, .int .i64 0, .int .i64 0]) ?_ 5 _ rfl; (with_reducible repeat (first | refine blk_drewN ?_ _ | refine blk_drew ?_ | refine blk_alloc ?_ _)); refine blk_put (cs := #[.bool t375, .bool t376, .bool t377, .bool t378, .bool false, .bool false, .bool false, .int .i64 0, .int .i64 0, .int .i64 0]) ?_ 4 _ rfl; (with_reducible repeat (first | refine blk_drewN ?_ _ | refine blk_drew ?_ | refine blk_alloc ?_ _)); refine blk_put (cs := #[.bool t375, .bool t376, .bool t377, .bool false, .bool false, .bool false, .bool false, .int .i64 0, .int .i64 0, .int .i64 0]) ?_ 3 _ rfl; (with_reducible repeat (first | refine blk_drewN ?_ _ | refine blk_drew ?_ | refine blk_alloc ?_ _)); refine blk_put (cs := #[.bool t375, .bool t376, .bool false, .bool false, .bool false, .bool false, .bool false, .int .i64 0, .int .i64 0, .int .i64 0]) ?_ 2 _ rfl; (with_reducible repeat (first | refine blk_drewN ?_ _ | refine blk_drew ?_ | refine blk_alloc ?_ _)); refine blk_put (cs := #[.bool t375, .bool false, .bool false, .bool false, .bool false, .bool false, .bool false, .int .i64 0, .int .i64 0, .int .i64 0]) ?_ 1 _ rfl; (with_reducible repeat (first | refine blk_drewN ?_ _ | refine blk_drew ?_ | refine blk_alloc ?_ _)); refine blk_put (cs := #[.bool false, .bool false, .bool false, .bool false, .bool false, .bool false, .bool false, .int .i64 0, .int .i64 0, .int .i64 0]) ?_ 0 _ rfl; (with_reducible repeat (first | refine blk_drewN ?_ _ | refine blk_drew ?_ | refine blk_alloc ?_ _)); exact BK323.out) Tryd.underlying23 rfl (by kernel_rfl)) rfl ?_
                exact ⟨by first | rfl | (simp [errW_none, errW_some] <;> rfl) | (simp [*, errW_none, errW_some] <;> rfl), by repeat (first | (with_reducible first | exact HB.out | apply below_alloc | apply pw_below_drewN | apply below_drew1 | refine below_set ?_ GE322.out | refine below_set ?_ GE323.out) | exact HB.out)⟩
        · rw [if_neg c13] at H
          exact absurd H (by simp)
end Go.Proofs.YtbaigfoioiklkaaDoor.G
end
