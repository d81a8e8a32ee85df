/- S: texts run together by shake.py: Gclavierlaw18b4. -/
import Derived.ArgAppend
import Derived.Below
import Derived.BigQuiet
import Derived.Deep.AppendLies
import Derived.Deep.CutBlock
import Derived.Deep.DeepCutAuto
import Derived.Deep.Draws
import Derived.Deep.LoopGhost
import Derived.Deep.OwnRows
import Derived.Deep.Quiet
import Derived.Deep.QuietTactic
import Derived.Deep.RegionHeld3
import Derived.KernelRfl
import Derived.Laws.AppendOwn
import Derived.Laws.AppendOwnNone
import Derived.Laws.BitsLemmas
import Derived.Laws.BytesArg
import Derived.Laws.Concat
import Derived.Laws.CopyRow
import Derived.Laws.IdiomCopy
import Derived.Laws.IdiomStrings
import Derived.Laws.MakeOwn
import Derived.Laws.OwnMore
import Derived.Laws.Rows
import Derived.Laws.Slices
import Derived.Laws.StructEq
import Derived.Lib.AppendIntMem
import Derived.Lib.AppendStr
import Derived.Lib.ConvBytes
import Derived.Lib.Hide
import Derived.Lib.ItoaLen
import Derived.Lib.ItoaNum
import Derived.Lib.LaidTab
import Derived.MapKept
import Derived.Maps.AppendAt
import Derived.Orders
import Derived.OrdersHeld
import Derived.Outline
import Derived.OwnWalk
import Derived.RowKit
import Derived.RowKit3
import Derived.Shelf.LaysM
import Derived.Shelf.Strconv.Itoa0
import Derived.Shelf.Strconv.Itoa1
import Derived.Shelf.Strconv.Itoa2
import Derived.Shelf.Strconv.Itoa3
import Derived.Shelf.Strings.Builder1
import Derived.Shelf.Strings.Builder2
import Derived.Shelf.Strings.Builder2Cap
import Derived.Shelf.Strings.BuilderCap
import Derived.Shelf.Strings.BuilderF
import Derived.Shelf.Strings.BuilderK
import Derived.Shelf.Strings.OnBuilder
import Derived.Still
import Derived.Tactics
import Derived.Test.YtbaigfoioiklkaaDoorProg
import Derived.WalkKit
import Derived.WalkLawsBesides
import Derived.WalkSpells
import Derived.WideLaws
import Derived.Test.YtbaigfoioiklkaaDoorZS1
import Derived.Test.YtbaigfoioiklkaaDoorZS2
import Derived.Test.YtbaigfoioiklkaaDoorZS3
import Derived.Test.YtbaigfoioiklkaaDoorZS4
import Derived.Test.YtbaigfoioiklkaaDoorZS5
import Derived.Test.YtbaigfoioiklkaaDoorZS7
import Derived.Test.YtbaigfoioiklkaaDoorZS8
import Derived.Test.YtbaigfoioiklkaaDoorZS10
import Derived.Test.YtbaigfoioiklkaaDoorZS22
section
namespace Go.Proofs.YtbaigfoioiklkaaDoor.G
open Go.RowKit Go.Proofs.YtbaigfoioiklkaaDoorW.PrintWords Go.Proofs.YtbaigfoioiklkaaDoorW.PrintLast Go.Proofs.YtbaigfoioiklkaaDoorW.PrintMore
attribute [local go_sem] max2_int min2_int max_two min_two max_three min_three max_four min_four
set_option linter.unusedVariables false
set_option linter.unusedSimpArgs false
attribute [local go_sem high] eqA23
def clavierlaw18_StyleJoins.j0 : Nat → List (List Int) → List (List Int) → Bool → Bool → Bool → Bool → Bool → Bool → Bool → Bool → Bool → Int → Int → Int → Option (Bool)
  | 0, _, _, _, _, _, _, _, _, _, _, _, _, _, _ => none
  | k + 1, x1, x2, x7, x18, x451000, x451001, x451002, x451003, x451004, x451005, x451006, x451007, x451008, x451009 => if x18 = true then (some x7) else ((some (([] : List (List Int)) : List (List Int))).bind fun y454 => (if y454.length + x1.length < 5864062014805 then ((some (y454 ++ x1 : List (List Int))).bind fun y457 => (if y457.length + x2.length < 5864062014805 then ((style_Apply.f k x451000 x451001 x451002 x451003 x451004 x451005 x451006 x451007 x451008 x451009 (y457 ++ x2)).bind fun bt463 => (if x7 = true then ((style_Apply.f k x451000 x451001 x451002 x451003 x451004 x451005 x451006 x451007 x451008 x451009 x1).bind fun bt474 => ((style_Apply.f k bt474.1 bt474.2.1 bt474.2.2.1 bt474.2.2.2.1 bt474.2.2.2.2.1 bt474.2.2.2.2.2.1 bt474.2.2.2.2.2.2.1 bt474.2.2.2.2.2.2.2.1 bt474.2.2.2.2.2.2.2.2.1 bt474.2.2.2.2.2.2.2.2.2 x2).bind fun bt484 => (if (bt463.1 == bt484.1 && (bt463.2.1 == bt484.2.1 && (bt463.2.2.1 == bt484.2.2.1 && (bt463.2.2.2.1 == bt484.2.2.2.1 && (bt463.2.2.2.2.1 == bt484.2.2.2.2.1 && (bt463.2.2.2.2.2.1 == bt484.2.2.2.2.2.1 && (bt463.2.2.2.2.2.2.1 == bt484.2.2.2.2.2.2.1 && (bt463.2.2.2.2.2.2.2.1 == bt484.2.2.2.2.2.2.2.1 && (bt463.2.2.2.2.2.2.2.2.1 == bt484.2.2.2.2.2.2.2.2.1 && (bt463.2.2.2.2.2.2.2.2.2 == bt484.2.2.2.2.2.2.2.2.2)))))))))) = true then ((style_May.f x451000 x451001 x451002 x451003 x451004 x451005 x451006 x451007 x451008 x451009).bind fun t494 => (if t494 = true then ((style_May.f bt463.1 bt463.2.1 bt463.2.2.1 bt463.2.2.2.1 bt463.2.2.2.2.1 bt463.2.2.2.2.2.1 bt463.2.2.2.2.2.2.1 bt463.2.2.2.2.2.2.2.1 bt463.2.2.2.2.2.2.2.2.1 bt463.2.2.2.2.2.2.2.2.2).bind fun t495 => (some t495)) else (some true))) else (some false)))) else (some false))) else (none))) else (none)))
def clavierlaw18_StyleJoins.f (k : Nat) (a0_0 : Bool) (a0_1 : Bool) (a0_2 : Bool) (a0_3 : Bool) (a0_4 : Bool) (a0_5 : Bool) (a0_6 : Bool) (a0_7 : Int) (a0_8 : Int) (a0_9 : Int) (l1 : List (List Int)) (l2 : List (List Int)) : Option (Bool) := (clavierlaw18_awake.f k).bind fun t451 => ((clavierlaw18_few.f k l1).bind fun t452 => (if t452 = true then ((clavierlaw18_few.f k l2).bind fun t453 => (clavierlaw18_StyleJoins.j0 k l1 l2 t451 (!t453) a0_0 a0_1 a0_2 a0_3 a0_4 a0_5 a0_6 a0_7 a0_8 a0_9)) else (clavierlaw18_StyleJoins.j0 k l1 l2 t451 true a0_0 a0_1 a0_2 a0_3 a0_4 a0_5 a0_6 a0_7 a0_8 a0_9)))
theorem clavierlaw18_StyleJoins.mono_l : ∀ k, (∀ y0 y1 y2 y3 y4 y5 y6 y7 y8 y9 y10 y11 y12 y13, LeO (clavierlaw18_StyleJoins.j0 k y0 y1 y2 y3 y4 y5 y6 y7 y8 y9 y10 y11 y12 y13) (clavierlaw18_StyleJoins.j0 (k + 1) y0 y1 y2 y3 y4 y5 y6 y7 y8 y9 y10 y11 y12 y13))
  | 0 => fun _ _ _ _ _ _ _ _ _ _ _ _ _ _ r h => by simp [clavierlaw18_StyleJoins.j0] at h
  | k + 1 => by
    have ih0 := clavierlaw18_StyleJoins.mono_l k
    · intro y0 y1 y2 y3 y4 y5 y6 y7 y8 y9 y10 y11 y12 y13
      unfold clavierlaw18_StyleJoins.j0
      repeat' first
      | (with_reducible exact ih0 _ _ _ _ _ _ _ _ _ _ _ _ _ _)
      | (with_reducible exact clavierlaw18_awake.mono _)
      | (with_reducible exact clavierlaw18_few.mono _ _)
      | (with_reducible exact style_Apply.mono _ _ _ _ _ _ _ _ _ _ _ _)
      | (with_reducible exact LeO.refl _)
      | (with_reducible exact LeO.none _)
      | (with_reducible refine LeO.ite ?_ ?_)
      | (with_reducible refine LeO.bind ?_ (fun _ => ?_))
      | exact ih0 _ _ _ _ _ _ _ _ _ _ _ _ _ _
      | exact clavierlaw18_awake.mono _
      | exact clavierlaw18_few.mono _ _
      | exact style_Apply.mono _ _ _ _ _ _ _ _ _ _ _ _
      | exact LeO.none _
      | refine LeO.ite ?_ ?_
      | refine LeO.bind ?_ (fun _ => ?_)
theorem clavierlaw18_StyleJoins.mono : ∀ a0 a1 a2 a3 a4 a5 a6 a7 a8 a9 a10 a11 k, LeO (clavierlaw18_StyleJoins.f k a0 a1 a2 a3 a4 a5 a6 a7 a8 a9 a10 a11) (clavierlaw18_StyleJoins.f (k + 1) a0 a1 a2 a3 a4 a5 a6 a7 a8 a9 a10 a11) := by
  intro a0 a1 a2 a3 a4 a5 a6 a7 a8 a9 a10 a11 k
  have ih0 := clavierlaw18_StyleJoins.mono_l k
  unfold clavierlaw18_StyleJoins.f
  repeat' first
      | (with_reducible exact ih0 _ _ _ _ _ _ _ _ _ _ _ _ _ _)
      | (with_reducible exact clavierlaw18_awake.mono _)
      | (with_reducible exact clavierlaw18_few.mono _ _)
      | (with_reducible exact style_Apply.mono _ _ _ _ _ _ _ _ _ _ _ _)
      | (with_reducible exact LeO.refl _)
      | (with_reducible exact LeO.none _)
      | (with_reducible refine LeO.ite ?_ ?_)
      | (with_reducible refine LeO.bind ?_ (fun _ => ?_))
      | exact ih0 _ _ _ _ _ _ _ _ _ _ _ _ _ _
      | exact clavierlaw18_awake.mono _
      | exact clavierlaw18_few.mono _ _
      | exact style_Apply.mono _ _ _ _ _ _ _ _ _ _ _ _
      | exact LeO.none _
      | refine LeO.ite ?_ ?_
      | refine LeO.bind ?_ (fun _ => ?_)
def clavierlaw18_StyleJoins.T6 : Bool × List (List Nat × List Nat) := (true, [([], []), ([0], [0]), ([1], [1]), ([1], [1]), ([1], [1]), ([3, 4, 1, 1], [1, 3, 4]), ([1], [1]), ([5, 6, 5, 1], [1, 5, 6]), ([2, 7, 1], [1, 2, 7]), ([1, 8], [1, 8]), ([9, 7], [9]), ([10], [10]), ([11, 10, 10], [10, 11]), ([12, 10], [10, 12]), ([13, 12, 10], [10, 13]), ([14], [14]), ([15, 14, 14], [14, 15]), ([14, 16, 10], [10, 14, 16]), ([10, 17], [10, 17]), ([18, 16, 0, 1, 2, 3, 4, 5, 6, 7, 8, 9, 10, 11, 12, 13, 14, 15, 16, 17, 18], [18])])
def clavierlaw18_StyleJoins.B6 : List Nat := [0, 1, 3, 3, 3, 27, 3, 123, 255, 511, 1023, 2047, 4095, 8191, 16383, 32767, 65535, 131071, 262143, 524287]
theorem clavierlaw18_StyleJoins.tab6 : rtab .any (opsOf Tryd.f6 6) = clavierlaw18_StyleJoins.T6 := by kernel_rfl
theorem clavierlaw18_StyleJoins.bits6 : waitsOk clavierlaw18_StyleJoins.T6.2 clavierlaw18_StyleJoins.B6 = true := by kernel_rfl
set_option maxHeartbeats 8000000 in
set_option maxRecDepth 100000 in
theorem clavierlaw18_StyleJoins.calls (k : Nat) (a0_0 : Bool) (a0_1 : Bool) (a0_2 : Bool) (a0_3 : Bool) (a0_4 : Bool) (a0_5 : Bool) (a0_6 : Bool) (a0_7 : Int) (a0_8 : Int) (a0_9 : Int) (P1_ : Nat → Prop) (A1 : Option Addr) (c1 : Nat) (l1 : List (List Int)) (P2_ : Nat → Prop) (A2 : Option Addr) (c2 : Nat) (l2 : List (List Int)) (r : Bool) (w : World) (hs1 : Kd.V (Kd.slice 3 (Kd.int .i64)) 35 w w.heap.size (fun k_ => P1_ k_) (.slice A1 l1.length c1) l1) (hs2 : Kd.V (Kd.slice 3 (Kd.int .i64)) 35 w w.heap.size (fun k_ => P2_ k_) (.slice A2 l2.length c2) l2) (hT : Tab w) (h : clavierlaw18_StyleJoins.f k a0_0 a0_1 a0_2 a0_3 a0_4 a0_5 a0_6 a0_7 a0_8 a0_9 l1 l2 = some r) :
    Calls Tryd.prog 6 #[.agg #[.bool a0_0, .bool a0_1, .bool a0_2, .bool a0_3, .bool a0_4, .bool a0_5, .bool a0_6, .int .i64 a0_7, .int .i64 a0_8, .int .i64 a0_9], .slice A1 l1.length c1, .slice A2 l2.length c2] w fun e w' => e = .returned (.bool r) ∧ Below w.heap.size w w' := by
  have hu23 := Tryd.underlying23
  have HO1 := Aside0.mk (show Kd.V (Kd.slice 3 (Kd.int .i64)) 35 w w.heap.size (fun k_ => ((P1_ k_ ∨ P2_ k_) ∨ w.heap.size ≤ k_)) (.slice A1 l1.length c1) l1 from Kd.V_mono hs1 (fun k_ hk => .inl (.inl hk)))
  have HO2 := Aside0.mk (show Kd.V (Kd.slice 3 (Kd.int .i64)) 35 w w.heap.size (fun k_ => ((P1_ k_ ∨ P2_ k_) ∨ w.heap.size ≤ k_)) (.slice A2 l2.length c2) l2 from Kd.V_mono hs2 (fun k_ hk => .inl (.inr hk)))
  have HT := Aside0.mk hT
  clear hT
  have HB := Aside0.mk (Below.refl w.heap.size w)
  have H : ((clavierlaw18_awake.f k).bind fun t451 => ((clavierlaw18_few.f k l1).bind fun t452 => (if t452 = true then ((clavierlaw18_few.f k l2).bind fun t453 => (clavierlaw18_StyleJoins.j0 k l1 l2 t451 (!t453) a0_0 a0_1 a0_2 a0_3 a0_4 a0_5 a0_6 a0_7 a0_8 a0_9)) else (clavierlaw18_StyleJoins.j0 k l1 l2 t451 true a0_0 a0_1 a0_2 a0_3 a0_4 a0_5 a0_6 a0_7 a0_8 a0_9)))) = some r := h
  clear h
  replace H := Option.bind_eq_some_iff.mp H
  obtain ⟨t451, A40, H⟩ := H
  replace H : ((clavierlaw18_few.f k l1).bind fun t452 => (if t452 = true then ((clavierlaw18_few.f k l2).bind fun t453 => (clavierlaw18_StyleJoins.j0 k l1 l2 t451 (!t453) a0_0 a0_1 a0_2 a0_3 a0_4 a0_5 a0_6 a0_7 a0_8 a0_9)) else (clavierlaw18_StyleJoins.j0 k l1 l2 t451 true a0_0 a0_1 a0_2 a0_3 a0_4 a0_5 a0_6 a0_7 a0_8 a0_9))) = some r := H
  have A4 := Aside0.mk A40
  clear A40
  have HC5 := Aside0.mk H
  clear H
  go_enter Tryd.func6, Tryd.ntmps6
  go_upto_region 2 with (first | ((with_reducible refine gate_dst (N := 3) rfl ?_); refine box_event ?hg (N := 3) ?hd (cs := #[.bool a0_0, .bool a0_1, .bool a0_2, .bool a0_3, .bool a0_4, .bool a0_5, .bool a0_6, .int .i64 a0_7, .int .i64 a0_8, .int .i64 a0_9]) (t := 23) ?hr ?_; (case hd => rfl); (case hg => rfl); (case hr => first | (go_simp; done) | (go_simp; rfl)); intro gb450 hg w6 hbox hb; have n0_ := Aside0.mk (Kd.V_below (Kd.V_elderB (by (with_reducible repeat (first | apply Kd.V_alloc | apply Kd.V_drewN | apply Kd.V_drew)); exact HO1.out) gb450 (Nat.le_of_eq hg.symm)) hb); have n1_ := Aside0.mk (Kd.V_below (Kd.V_elderB (by (with_reducible repeat (first | apply Kd.V_alloc | apply Kd.V_drewN | apply Kd.V_drew)); exact HO2.out) gb450 (Nat.le_of_eq hg.symm)) hb); have n2_ := Aside0.mk (below_step (by repeat (first | (with_reducible first | exact HB.out | apply below_alloc | apply pw_below_drewN | apply below_drew1) | exact HB.out)) hb); have n3_ := Aside0.mk (hbox); have n4_ := Aside0.mk ((by rw [hg]; exact (below_size (by repeat (first | (with_reducible first | exact HB.out | apply below_alloc | apply pw_below_drewN | apply below_drew1) | exact HB.out))) : w.heap.size ≤ gb450)); have n5_ := Aside0.mk ((by rw [hg]; exact (below_size (by repeat (first | (with_reducible first | exact HB.out | apply below_alloc | apply pw_below_drewN | apply below_drew1) | exact HB.out))) : w.heap.size ≤ gb450)); clear HO1; clear HO2; clear HB; have HO1 := n0_; have HO2 := n1_; have HB := n2_; have BK450 := n3_; have GW450 := n4_; have GE450 := n5_; clear n0_ n1_ n2_ n3_ n4_ n5_; clear hb hbox hg) | ((with_reducible refine gate_callee (f := 9) rfl ?_); refine goesL_ (some 10) rfl rfl Tryd.func9 (by kernel_rfl) rfl #[] rfl (by (try simp only [List.map_toArray, List.map_cons, List.map_nil]); first | done | rfl | (simp only [List.length_drop, List.length_take]; rfl)) ?_; (with_reducible refine (clavierlaw18_awake.calls k  t451 _ ?side1 A4.out).mono ?_); (case side1 => exact Tab.below HT.out (by repeat (first | (with_reducible first | exact HB.out | apply below_alloc | apply pw_below_drewN | apply below_drew1 | refine below_set ?_ GE450.out) | exact HB.out))); rintro e w7 ⟨rfl, hb⟩; refine ⟨_, rfl, ?_⟩; have n0_ := Aside0.mk (Kd.V_below (by (with_reducible repeat (first | apply Kd.V_alloc | apply Kd.V_drewN | apply Kd.V_drew)); exact HO1.out) hb); have n1_ := Aside0.mk (Kd.V_below (by (with_reducible repeat (first | apply Kd.V_alloc | apply Kd.V_drewN | apply Kd.V_drew)); exact HO2.out) hb); have n2_ := Aside0.mk (blk_below (g := gb450) (o := .cells #[.bool a0_0, .bool a0_1, .bool a0_2, .bool a0_3, .bool a0_4, .bool a0_5, .bool a0_6, .int .i64 a0_7, .int .i64 a0_8, .int .i64 a0_9] 23 (0, 0)) (by (with_reducible repeat (first | refine blk_drewN ?_ _ | refine blk_drew ?_ | refine blk_alloc ?_ _)); exact BK450.out) hb); have n3_ := Aside0.mk (below_step (by repeat (first | (with_reducible first | exact HB.out | apply below_alloc | apply pw_below_drewN | apply below_drew1 | refine below_set ?_ GE450.out) | exact HB.out)) hb); clear HO1; clear HO2; clear BK450; clear HB; have HO1 := n0_; have HO2 := n1_; have BK450 := n2_; have HB := n3_; clear n0_ n1_ n2_ n3_; (try clear hb); (try clear hb2); (try clear hk); (try clear hi)))
  (try simp only [Act.put, List.setIfInBounds_toArray, List.set_cons_zero, List.set_cons_succ])
  go_cut [18] (fun v18 wc => ∃ (kq : Nat) (x18_4 : Bool), v18 = .bool x18_4 ∧ Aside0 (clavierlaw18_StyleJoins.j0 kq l1 l2 t451 x18_4 a0_0 a0_1 a0_2 a0_3 a0_4 a0_5 a0_6 a0_7 a0_8 a0_9 = some r) ∧ Aside0 (kq ≤ k) ∧ Aside0 (Kd.V (Kd.slice 3 (Kd.int .i64)) 35 wc w.heap.size (fun k_ => ((P1_ k_ ∨ P2_ k_) ∨ w.heap.size ≤ k_) ∧ k_ ≠ gb450) (.slice A1 l1.length c1) l1) ∧ Aside0 (Kd.V (Kd.slice 3 (Kd.int .i64)) 35 wc w.heap.size (fun k_ => ((P1_ k_ ∨ P2_ k_) ∨ w.heap.size ≤ k_) ∧ k_ ≠ gb450) (.slice A2 l2.length c2) l2) ∧ Aside0 (wc.heap[gb450]? = some (.cells #[.bool a0_0, .bool a0_1, .bool a0_2, .bool a0_3, .bool a0_4, .bool a0_5, .bool a0_6, .int .i64 a0_7, .int .i64 a0_8, .int .i64 a0_9] 23 (0, 0))) ∧ Aside0 (Below w.heap.size w wc))
  case first =>
    have H := HC5.out
    clear HC5
    replace H := Option.bind_eq_some_iff.mp H
    obtain ⟨t452, A80, H⟩ := H
    replace H : (if t452 = true then ((clavierlaw18_few.f k l2).bind fun t453 => (clavierlaw18_StyleJoins.j0 k l1 l2 t451 (!t453) a0_0 a0_1 a0_2 a0_3 a0_4 a0_5 a0_6 a0_7 a0_8 a0_9)) else (clavierlaw18_StyleJoins.j0 k l1 l2 t451 true a0_0 a0_1 a0_2 a0_3 a0_4 a0_5 a0_6 a0_7 a0_8 a0_9)) = some r := H
    have A8 := Aside0.mk A80
    clear A80
    by_cases c9 : t452 = true
    · subst c9
      have H1 : ((clavierlaw18_few.f k l2).bind fun t453 => (clavierlaw18_StyleJoins.j0 k l1 l2 t451 (!t453) a0_0 a0_1 a0_2 a0_3 a0_4 a0_5 a0_6 a0_7 a0_8 a0_9)) = some r := by rw [if_pos rfl] at H; exact H
      clear H
      have H := H1
      clear H1
      replace H := Option.bind_eq_some_iff.mp H
      obtain ⟨t453, A100, H⟩ := H
      replace H : (clavierlaw18_StyleJoins.j0 k l1 l2 t451 (!t453) a0_0 a0_1 a0_2 a0_3 a0_4 a0_5 a0_6 a0_7 a0_8 a0_9) = some r := H
      have A10 := Aside0.mk A100
      clear A100
      have H' := Aside0.mk H
      clear H
      go_wp2_with (first | ((with_reducible refine gate_callee (f := 17) rfl ?_); refine goesL_ (some 12) rfl rfl Tryd.func17 (by kernel_rfl) rfl #[.slice A1 l1.length c1] rfl (by (try simp only [List.map_toArray, List.map_cons, List.map_nil]); first | done | rfl | (simp only [List.length_drop, List.length_take]; rfl)) ?_; (with_reducible refine (clavierlaw18_few.calls k _ _ l1 true _ ?side1 ?side2 A8.out).mono ?_); (case side1 => repeat (first | exact (Kd.V_reads' HO1.out).2.2 | (with_reducible refine Kd.C_alloc ?_ _) | (with_reducible refine Kd.C_drewN ?_ _) | (with_reducible refine Kd.C_drew ?_))); (case side2 => exact (Kd.V_reads' HO1.out).2.1); rintro e w' ⟨rfl, ⟨nd, rfl⟩⟩; refine ⟨_, rfl, ?_⟩) | (go_at_call 17; (with_reducible refine (clavierlaw18_few.calls k _ _ l2 t453 _ ?side1 ?side2 A10.out).mono ?_); (case side1 => repeat (first | exact (Kd.V_reads' HO2.out).2.2 | (with_reducible refine Kd.C_alloc ?_ _) | (with_reducible refine Kd.C_drewN ?_ _) | (with_reducible refine Kd.C_drew ?_))); (case side2 => exact (Kd.V_reads' HO2.out).2.1); rintro e w' ⟨rfl, ⟨nd, rfl⟩⟩))
      go_meet
      case rel => exact ⟨_, (!t453), (by first | rfl | (simp; done) | (simp [*]; done)), H', ⟨by first | omega | exact Nat.le_refl _⟩, ⟨by (with_reducible repeat (first | apply Kd.V_alloc | apply Kd.V_drewN | apply Kd.V_drew)); exact HO1.out⟩, ⟨by (with_reducible repeat (first | apply Kd.V_alloc | apply Kd.V_drewN | apply Kd.V_drew)); exact HO2.out⟩, ⟨by (with_reducible repeat (first | refine blk_drewN ?_ _ | refine blk_drew ?_ | refine blk_alloc ?_ _)); exact BK450.out⟩, ⟨by repeat (first | (with_reducible first | exact HB.out | apply below_alloc | apply pw_below_drewN | apply below_drew1 | refine below_set ?_ GE450.out) | exact HB.out)⟩⟩
    · replace c9 := Bool.eq_false_iff.mpr c9
      subst c9
      have H1 : (clavierlaw18_StyleJoins.j0 k l1 l2 t451 true a0_0 a0_1 a0_2 a0_3 a0_4 a0_5 a0_6 a0_7 a0_8 a0_9) = some r := by rw [if_neg (show ¬ (false = true) by decide)] at H; exact H
      clear H
      have H := H1
      clear H1
      have H' := Aside0.mk H
      clear H
      go_wp2_with (first | ((with_reducible refine gate_callee (f := 17) rfl ?_); refine goesL_ (some 12) rfl rfl Tryd.func17 (by kernel_rfl) rfl #[.slice A1 l1.length c1] rfl (by (try simp only [List.map_toArray, List.map_cons, List.map_nil]); first | done | rfl | (simp only [List.length_drop, List.length_take]; rfl)) ?_; (with_reducible refine (clavierlaw18_few.calls k _ _ l1 false _ ?side1 ?side2 A8.out).mono ?_); (case side1 => repeat (first | exact (Kd.V_reads' HO1.out).2.2 | (with_reducible refine Kd.C_alloc ?_ _) | (with_reducible refine Kd.C_drewN ?_ _) | (with_reducible refine Kd.C_drew ?_))); (case side2 => exact (Kd.V_reads' HO1.out).2.1); rintro e w' ⟨rfl, ⟨nd, rfl⟩⟩; refine ⟨_, rfl, ?_⟩))
      go_meet
      case rel => exact ⟨_, (true), (by first | rfl | (simp; done) | (simp [*]; done)), H', ⟨by first | omega | exact Nat.le_refl _⟩, ⟨by (with_reducible repeat (first | apply Kd.V_alloc | apply Kd.V_drewN | apply Kd.V_drew)); exact HO1.out⟩, ⟨by (with_reducible repeat (first | apply Kd.V_alloc | apply Kd.V_drewN | apply Kd.V_drew)); exact HO2.out⟩, ⟨by (with_reducible repeat (first | refine blk_drewN ?_ _ | refine blk_drew ?_ | refine blk_alloc ?_ _)); exact BK450.out⟩, ⟨by repeat (first | (with_reducible first | exact HB.out | apply below_alloc | apply pw_below_drewN | apply below_drew1 | refine below_set ?_ GE450.out) | exact HB.out)⟩⟩
  case rest =>
    clear HC5
    try clear c1
    try clear c2
    try clear p2
    try clear c6
    try clear c9
    obtain ⟨kq, x18_4, rfl, HA, HJ4, HO_1, HO_2, BK450, HB⟩ := hcut
    cases kq with
    | zero => exact absurd HA.out (by simp [clavierlaw18_StyleJoins.j0])
    | succ kj4 =>
      have H := HA.out
      clear HA
      simp only [clavierlaw18_StyleJoins.j0] at H
      by_cases c11 : x18_4 = true
      · subst c11
        have H1 : (some t451) = some r := by rw [if_pos rfl] at H; exact H
        clear H
        have H := H1
        clear H1
        obtain rfl := Option.some.inj H
        go_wp2
        go_ret
        exact ⟨by first | rfl | (simp [errW_none, errW_some] <;> rfl) | (simp [*, errW_none, errW_some] <;> rfl), by repeat (first | (with_reducible first | exact HB.out | apply below_alloc | apply pw_below_drewN | apply below_drew1 | refine below_set ?_ GE450.out) | exact HB.out)⟩
      · replace c11 := Bool.eq_false_iff.mpr c11
        subst c11
        have H1 : ((some (([] : List (List Int)) : List (List Int))).bind fun y454 => (if y454.length + l1.length < 5864062014805 then ((some (y454 ++ l1 : List (List Int))).bind fun y457 => (if y457.length + l2.length < 5864062014805 then ((style_Apply.f kj4 a0_0 a0_1 a0_2 a0_3 a0_4 a0_5 a0_6 a0_7 a0_8 a0_9 (y457 ++ l2)).bind fun bt463 => (if t451 = true then ((style_Apply.f kj4 a0_0 a0_1 a0_2 a0_3 a0_4 a0_5 a0_6 a0_7 a0_8 a0_9 l1).bind fun bt474 => ((style_Apply.f kj4 bt474.1 bt474.2.1 bt474.2.2.1 bt474.2.2.2.1 bt474.2.2.2.2.1 bt474.2.2.2.2.2.1 bt474.2.2.2.2.2.2.1 bt474.2.2.2.2.2.2.2.1 bt474.2.2.2.2.2.2.2.2.1 bt474.2.2.2.2.2.2.2.2.2 l2).bind fun bt484 => (if (bt463.1 == bt484.1 && (bt463.2.1 == bt484.2.1 && (bt463.2.2.1 == bt484.2.2.1 && (bt463.2.2.2.1 == bt484.2.2.2.1 && (bt463.2.2.2.2.1 == bt484.2.2.2.2.1 && (bt463.2.2.2.2.2.1 == bt484.2.2.2.2.2.1 && (bt463.2.2.2.2.2.2.1 == bt484.2.2.2.2.2.2.1 && (bt463.2.2.2.2.2.2.2.1 == bt484.2.2.2.2.2.2.2.1 && (bt463.2.2.2.2.2.2.2.2.1 == bt484.2.2.2.2.2.2.2.2.1 && (bt463.2.2.2.2.2.2.2.2.2 == bt484.2.2.2.2.2.2.2.2.2)))))))))) = true then ((style_May.f a0_0 a0_1 a0_2 a0_3 a0_4 a0_5 a0_6 a0_7 a0_8 a0_9).bind fun t494 => (if t494 = true then ((style_May.f bt463.1 bt463.2.1 bt463.2.2.1 bt463.2.2.2.1 bt463.2.2.2.2.1 bt463.2.2.2.2.2.1 bt463.2.2.2.2.2.2.1 bt463.2.2.2.2.2.2.2.1 bt463.2.2.2.2.2.2.2.2.1 bt463.2.2.2.2.2.2.2.2.2).bind fun t495 => (some t495)) else (some true))) else (some false)))) else (some false))) else (none))) else (none))) = some r := by rw [if_neg (show ¬ (false = true) by decide)] at H; exact H
        clear H
        have H := H1
        clear H1
        obtain ⟨y454, hy454⟩ : ∃ y_ : List (List Int), y_ = (([] : List (List Int))) := ⟨_, rfl⟩
        replace H : (if y454.length + l1.length < 5864062014805 then ((some (y454 ++ l1 : List (List Int))).bind fun y457 => (if y457.length + l2.length < 5864062014805 then ((style_Apply.f kj4 a0_0 a0_1 a0_2 a0_3 a0_4 a0_5 a0_6 a0_7 a0_8 a0_9 (y457 ++ l2)).bind fun bt463 => (if t451 = true then ((style_Apply.f kj4 a0_0 a0_1 a0_2 a0_3 a0_4 a0_5 a0_6 a0_7 a0_8 a0_9 l1).bind fun bt474 => ((style_Apply.f kj4 bt474.1 bt474.2.1 bt474.2.2.1 bt474.2.2.2.1 bt474.2.2.2.2.1 bt474.2.2.2.2.2.1 bt474.2.2.2.2.2.2.1 bt474.2.2.2.2.2.2.2.1 bt474.2.2.2.2.2.2.2.2.1 bt474.2.2.2.2.2.2.2.2.2 l2).bind fun bt484 => (if (bt463.1 == bt484.1 && (bt463.2.1 == bt484.2.1 && (bt463.2.2.1 == bt484.2.2.1 && (bt463.2.2.2.1 == bt484.2.2.2.1 && (bt463.2.2.2.2.1 == bt484.2.2.2.2.1 && (bt463.2.2.2.2.2.1 == bt484.2.2.2.2.2.1 && (bt463.2.2.2.2.2.2.1 == bt484.2.2.2.2.2.2.1 && (bt463.2.2.2.2.2.2.2.1 == bt484.2.2.2.2.2.2.2.1 && (bt463.2.2.2.2.2.2.2.2.1 == bt484.2.2.2.2.2.2.2.2.1 && (bt463.2.2.2.2.2.2.2.2.2 == bt484.2.2.2.2.2.2.2.2.2)))))))))) = true then ((style_May.f a0_0 a0_1 a0_2 a0_3 a0_4 a0_5 a0_6 a0_7 a0_8 a0_9).bind fun t494 => (if t494 = true then ((style_May.f bt463.1 bt463.2.1 bt463.2.2.1 bt463.2.2.2.1 bt463.2.2.2.2.1 bt463.2.2.2.2.2.1 bt463.2.2.2.2.2.2.1 bt463.2.2.2.2.2.2.2.1 bt463.2.2.2.2.2.2.2.2.1 bt463.2.2.2.2.2.2.2.2.2).bind fun t495 => (some t495)) else (some true))) else (some false)))) else (some false))) else (none))) else (none)) = some r := by first | (rw [hy454]; with_reducible exact H) | (have H2_ := (Option.bind_some _ _).symm.trans H; rw [hy454]; with_reducible exact H2_) | (have H2_ := (Option.bind_some _ _).symm.trans H; with_reducible exact H2_) | with_reducible exact H | (rw [hy454]; exact H) | exact H
        have Ny454 := Aside0.mk hy454
        clear hy454
        by_cases c12 : y454.length + l1.length < 5864062014805
        · rw [if_pos c12] at H
          have LMc12 := Aside0.mk c12
          clear c12
          obtain ⟨y457, hy457⟩ : ∃ y_ : List (List Int), y_ = (y454 ++ l1) := ⟨_, rfl⟩
          replace H : (if y457.length + l2.length < 5864062014805 then ((style_Apply.f kj4 a0_0 a0_1 a0_2 a0_3 a0_4 a0_5 a0_6 a0_7 a0_8 a0_9 (y457 ++ l2)).bind fun bt463 => (if t451 = true then ((style_Apply.f kj4 a0_0 a0_1 a0_2 a0_3 a0_4 a0_5 a0_6 a0_7 a0_8 a0_9 l1).bind fun bt474 => ((style_Apply.f kj4 bt474.1 bt474.2.1 bt474.2.2.1 bt474.2.2.2.1 bt474.2.2.2.2.1 bt474.2.2.2.2.2.1 bt474.2.2.2.2.2.2.1 bt474.2.2.2.2.2.2.2.1 bt474.2.2.2.2.2.2.2.2.1 bt474.2.2.2.2.2.2.2.2.2 l2).bind fun bt484 => (if (bt463.1 == bt484.1 && (bt463.2.1 == bt484.2.1 && (bt463.2.2.1 == bt484.2.2.1 && (bt463.2.2.2.1 == bt484.2.2.2.1 && (bt463.2.2.2.2.1 == bt484.2.2.2.2.1 && (bt463.2.2.2.2.2.1 == bt484.2.2.2.2.2.1 && (bt463.2.2.2.2.2.2.1 == bt484.2.2.2.2.2.2.1 && (bt463.2.2.2.2.2.2.2.1 == bt484.2.2.2.2.2.2.2.1 && (bt463.2.2.2.2.2.2.2.2.1 == bt484.2.2.2.2.2.2.2.2.1 && (bt463.2.2.2.2.2.2.2.2.2 == bt484.2.2.2.2.2.2.2.2.2)))))))))) = true then ((style_May.f a0_0 a0_1 a0_2 a0_3 a0_4 a0_5 a0_6 a0_7 a0_8 a0_9).bind fun t494 => (if t494 = true then ((style_May.f bt463.1 bt463.2.1 bt463.2.2.1 bt463.2.2.2.1 bt463.2.2.2.2.1 bt463.2.2.2.2.2.1 bt463.2.2.2.2.2.2.1 bt463.2.2.2.2.2.2.2.1 bt463.2.2.2.2.2.2.2.2.1 bt463.2.2.2.2.2.2.2.2.2).bind fun t495 => (some t495)) else (some true))) else (some false)))) else (some false))) else (none)) = some r := by first | (rw [hy457]; with_reducible exact H) | (have H2_ := (Option.bind_some _ _).symm.trans H; rw [hy457]; with_reducible exact H2_) | (have H2_ := (Option.bind_some _ _).symm.trans H; with_reducible exact H2_) | with_reducible exact H | (rw [hy457]; exact H) | exact H
          have Ny457 := Aside0.mk hy457
          clear hy457
          by_cases c13 : y457.length + l2.length < 5864062014805
          · rw [if_pos c13] at H
            have LMc13 := Aside0.mk c13
            clear c13
            obtain ⟨y460, hy460⟩ : ∃ y_ : List (List Int), y_ = (y457 ++ l2) := ⟨_, rfl⟩
            replace H : ((style_Apply.f kj4 a0_0 a0_1 a0_2 a0_3 a0_4 a0_5 a0_6 a0_7 a0_8 a0_9 y460).bind fun bt463 => (if t451 = true then ((style_Apply.f kj4 a0_0 a0_1 a0_2 a0_3 a0_4 a0_5 a0_6 a0_7 a0_8 a0_9 l1).bind fun bt474 => ((style_Apply.f kj4 bt474.1 bt474.2.1 bt474.2.2.1 bt474.2.2.2.1 bt474.2.2.2.2.1 bt474.2.2.2.2.2.1 bt474.2.2.2.2.2.2.1 bt474.2.2.2.2.2.2.2.1 bt474.2.2.2.2.2.2.2.2.1 bt474.2.2.2.2.2.2.2.2.2 l2).bind fun bt484 => (if (bt463.1 == bt484.1 && (bt463.2.1 == bt484.2.1 && (bt463.2.2.1 == bt484.2.2.1 && (bt463.2.2.2.1 == bt484.2.2.2.1 && (bt463.2.2.2.2.1 == bt484.2.2.2.2.1 && (bt463.2.2.2.2.2.1 == bt484.2.2.2.2.2.1 && (bt463.2.2.2.2.2.2.1 == bt484.2.2.2.2.2.2.1 && (bt463.2.2.2.2.2.2.2.1 == bt484.2.2.2.2.2.2.2.1 && (bt463.2.2.2.2.2.2.2.2.1 == bt484.2.2.2.2.2.2.2.2.1 && (bt463.2.2.2.2.2.2.2.2.2 == bt484.2.2.2.2.2.2.2.2.2)))))))))) = true then ((style_May.f a0_0 a0_1 a0_2 a0_3 a0_4 a0_5 a0_6 a0_7 a0_8 a0_9).bind fun t494 => (if t494 = true then ((style_May.f bt463.1 bt463.2.1 bt463.2.2.1 bt463.2.2.2.1 bt463.2.2.2.2.1 bt463.2.2.2.2.2.1 bt463.2.2.2.2.2.2.1 bt463.2.2.2.2.2.2.2.1 bt463.2.2.2.2.2.2.2.2.1 bt463.2.2.2.2.2.2.2.2.2).bind fun t495 => (some t495)) else (some true))) else (some false)))) else (some false))) = some r := by first | (rw [hy460]; with_reducible exact H) | (have H2_ := (Option.bind_some _ _).symm.trans H; rw [hy460]; with_reducible exact H2_) | (have H2_ := (Option.bind_some _ _).symm.trans H; with_reducible exact H2_) | with_reducible exact H | (rw [hy460]; exact H) | exact H
            have Ny460 := Aside0.mk hy460
            clear hy460
            replace H := Option.bind_eq_some_iff.mp H
            obtain ⟨⟨t463, t464, t465, t466, t467, t468, t469, t470, t471, t472⟩, A140, H⟩ := H
            replace H : (if t451 = true then ((style_Apply.f kj4 a0_0 a0_1 a0_2 a0_3 a0_4 a0_5 a0_6 a0_7 a0_8 a0_9 l1).bind fun bt474 => ((style_Apply.f kj4 bt474.1 bt474.2.1 bt474.2.2.1 bt474.2.2.2.1 bt474.2.2.2.2.1 bt474.2.2.2.2.2.1 bt474.2.2.2.2.2.2.1 bt474.2.2.2.2.2.2.2.1 bt474.2.2.2.2.2.2.2.2.1 bt474.2.2.2.2.2.2.2.2.2 l2).bind fun bt484 => (if (t463 == bt484.1 && (t464 == bt484.2.1 && (t465 == bt484.2.2.1 && (t466 == bt484.2.2.2.1 && (t467 == bt484.2.2.2.2.1 && (t468 == bt484.2.2.2.2.2.1 && (t469 == bt484.2.2.2.2.2.2.1 && (t470 == bt484.2.2.2.2.2.2.2.1 && (t471 == bt484.2.2.2.2.2.2.2.2.1 && (t472 == bt484.2.2.2.2.2.2.2.2.2)))))))))) = true then ((style_May.f a0_0 a0_1 a0_2 a0_3 a0_4 a0_5 a0_6 a0_7 a0_8 a0_9).bind fun t494 => (if t494 = true then ((style_May.f t463 t464 t465 t466 t467 t468 t469 t470 t471 t472).bind fun t495 => (some t495)) else (some true))) else (some false)))) else (some false)) = some r := H
            have A14 := Aside0.mk A140
            clear A140
            by_cases c15 : t451 = true
            · subst c15
              have H1 : ((style_Apply.f kj4 a0_0 a0_1 a0_2 a0_3 a0_4 a0_5 a0_6 a0_7 a0_8 a0_9 l1).bind fun bt474 => ((style_Apply.f kj4 bt474.1 bt474.2.1 bt474.2.2.1 bt474.2.2.2.1 bt474.2.2.2.2.1 bt474.2.2.2.2.2.1 bt474.2.2.2.2.2.2.1 bt474.2.2.2.2.2.2.2.1 bt474.2.2.2.2.2.2.2.2.1 bt474.2.2.2.2.2.2.2.2.2 l2).bind fun bt484 => (if (t463 == bt484.1 && (t464 == bt484.2.1 && (t465 == bt484.2.2.1 && (t466 == bt484.2.2.2.1 && (t467 == bt484.2.2.2.2.1 && (t468 == bt484.2.2.2.2.2.1 && (t469 == bt484.2.2.2.2.2.2.1 && (t470 == bt484.2.2.2.2.2.2.2.1 && (t471 == bt484.2.2.2.2.2.2.2.2.1 && (t472 == bt484.2.2.2.2.2.2.2.2.2)))))))))) = true then ((style_May.f a0_0 a0_1 a0_2 a0_3 a0_4 a0_5 a0_6 a0_7 a0_8 a0_9).bind fun t494 => (if t494 = true then ((style_May.f t463 t464 t465 t466 t467 t468 t469 t470 t471 t472).bind fun t495 => (some t495)) else (some true))) else (some false)))) = some r := by rw [if_pos rfl] at H; exact H
              clear H
              have H := H1
              clear H1
              replace H := Option.bind_eq_some_iff.mp H
              obtain ⟨⟨t474, t475, t476, t477, t478, t479, t480, t481, t482, t483⟩, A160, H⟩ := H
              replace H : ((style_Apply.f kj4 t474 t475 t476 t477 t478 t479 t480 t481 t482 t483 l2).bind fun bt484 => (if (t463 == bt484.1 && (t464 == bt484.2.1 && (t465 == bt484.2.2.1 && (t466 == bt484.2.2.2.1 && (t467 == bt484.2.2.2.2.1 && (t468 == bt484.2.2.2.2.2.1 && (t469 == bt484.2.2.2.2.2.2.1 && (t470 == bt484.2.2.2.2.2.2.2.1 && (t471 == bt484.2.2.2.2.2.2.2.2.1 && (t472 == bt484.2.2.2.2.2.2.2.2.2)))))))))) = true then ((style_May.f a0_0 a0_1 a0_2 a0_3 a0_4 a0_5 a0_6 a0_7 a0_8 a0_9).bind fun t494 => (if t494 = true then ((style_May.f t463 t464 t465 t466 t467 t468 t469 t470 t471 t472).bind fun t495 => (some t495)) else (some true))) else (some false))) = some r := H
              have A16 := Aside0.mk A160
              clear A160
              replace H := Option.bind_eq_some_iff.mp H
              obtain ⟨⟨t484, t485, t486, t487, t488, t489, t490, t491, t492, t493⟩, A170, H⟩ := H
              replace H : (if (t463 == t484 && (t464 == t485 && (t465 == t486 && (t466 == t487 && (t467 == t488 && (t468 == t489 && (t469 == t490 && (t470 == t491 && (t471 == t492 && (t472 == t493)))))))))) = true then ((style_May.f a0_0 a0_1 a0_2 a0_3 a0_4 a0_5 a0_6 a0_7 a0_8 a0_9).bind fun t494 => (if t494 = true then ((style_May.f t463 t464 t465 t466 t467 t468 t469 t470 t471 t472).bind fun t495 => (some t495)) else (some true))) else (some false)) = some r := H
              have A17 := Aside0.mk A170
              clear A170
              by_cases c18 : (t463 == t484 && (t464 == t485 && (t465 == t486 && (t466 == t487 && (t467 == t488 && (t468 == t489 && (t469 == t490 && (t470 == t491 && (t471 == t492 && (t472 == t493)))))))))) = true
              · rw [if_pos c18] at H
                have c18b0 : (t463 == t484 && (t464 == t485 && (t465 == t486 && (t466 == t487 && (t467 == t488 && (t468 == t489 && (t469 == t490 && (t470 == t491 && (t471 == t492 && (t472 == t493)))))))))) = true := c18
                (try (have c18b1 : decide (t463 = t484 && (t464 == t485 && (t465 == t486 && (t466 == t487 && (t467 == t488 && (t468 == t489 && (t469 == t490 && (t470 == t491 && (t471 == t492 && (t472 == t493)))))))))) = true := by simpa using c18))
                (try (have c18b2 : (t463 == t484 && (t464 == t485 && (t465 == t486 && (t466 == t487 && (t467 == t488 && (t468 == t489 && (t469 == t490 && (t470 == t491 && (t471 == t492 && (t472 == t493)))))))))) = true := by simpa using c18))
                clear c18
                replace H := Option.bind_eq_some_iff.mp H
                obtain ⟨t494, A190, H⟩ := H
                replace H : (if t494 = true then ((style_May.f t463 t464 t465 t466 t467 t468 t469 t470 t471 t472).bind fun t495 => (some t495)) else (some true)) = some r := H
                have A19 := Aside0.mk A190
                clear A190
                by_cases c20 : t494 = true
                · subst c20
                  have H1 : ((style_May.f t463 t464 t465 t466 t467 t468 t469 t470 t471 t472).bind fun t495 => (some t495)) = some r := by rw [if_pos rfl] at H; exact H
                  clear H
                  have H := H1
                  clear H1
                  replace H := Option.bind_eq_some_iff.mp H
                  obtain ⟨t495, A210, H⟩ := H
                  replace H : (some t495) = some r := H
                  have A21 := Aside0.mk A210
                  clear A210
                  obtain rfl := Option.some.inj H
                  try go_wp2_with (first | ((with_reducible refine gate_dst (N := 20) rfl ?_); refine Kd.N_lit (Kd.slice 3 (Kd.int .i64)) _ 35 ?hg (N' := 20) ?hd (xs := ([] : List (List Int))) (inner := []) (ok := (fun k_ => ((P1_ k_ ∨ P2_ k_) ∨ w.heap.size ≤ k_) ∧ k_ ≠ gb450)) (okp := (fun k_ => ((P1_ k_ ∨ P2_ k_) ∨ w.heap.size ≤ k_) ∧ k_ ≠ gb450)) ?hr ?hp (fun _ hk => hk) ((show ∀ k_, wc.heap.size ≤ k_ → (fun k_ => ((P1_ k_ ∨ P2_ k_) ∨ w.heap.size ≤ k_) ∧ k_ ≠ gb450) k_ from fun k_ hk => ⟨(.inr (Nat.le_trans (below_size (by repeat (first | (with_reducible first | exact HB.out | apply below_alloc | apply pw_below_drewN | apply below_drew1 | refine below_set ?_ GE450.out) | exact HB.out))) hk)), Kd.freshB (g := gb450) (o := .cells #[.bool a0_0, .bool a0_1, .bool a0_2, .bool a0_3, .bool a0_4, .bool a0_5, .bool a0_6, .int .i64 a0_7, .int .i64 a0_8, .int .i64 a0_9] 23 (0, 0)) (by (with_reducible repeat (first | refine blk_drewN ?_ _ | refine blk_drew ?_ | refine blk_alloc ?_ _)); exact BK450.out) k_ hk⟩) _ (Nat.le_refl _)) (Below.refl _ _) (Nat.le_refl _) (by simp) ?_; (case hd => rfl); (case hg => rfl); (case hr => first | (go_simp; done) | (go_simp; rfl)); (case hp => exact (Reps.none _ _)); intro v455 w22 ho23 hb hg_ hnew_; clear hg_ hnew_; (first | rw [← Ny454.out] at ho23 | (simp only [Int.reduceToNat] at ho23; rw [← Ny454.out] at ho23)); have n0_ := Aside0.mk (Kd.V_elder' (by (with_reducible repeat (first | apply Kd.V_alloc | apply Kd.V_drewN | apply Kd.V_drew)); exact HO_1.out) (Kd.N_base ho23) hb); have n1_ := Aside0.mk (Kd.V_elder' (by (with_reducible repeat (first | apply Kd.V_alloc | apply Kd.V_drewN | apply Kd.V_drew)); exact HO_2.out) (Kd.N_base ho23) hb); have n2_ := Aside0.mk (Kd.N_lower ho23 (below_size (by repeat (first | (with_reducible first | exact HB.out | apply below_alloc | apply pw_below_drewN | apply below_drew1 | refine below_set ?_ GE450.out) | exact HB.out)))); have n3_ := Aside0.mk (blk_below (g := gb450) (o := .cells #[.bool a0_0, .bool a0_1, .bool a0_2, .bool a0_3, .bool a0_4, .bool a0_5, .bool a0_6, .int .i64 a0_7, .int .i64 a0_8, .int .i64 a0_9] 23 (0, 0)) (by (with_reducible repeat (first | refine blk_drewN ?_ _ | refine blk_drew ?_ | refine blk_alloc ?_ _)); exact BK450.out) hb); have n4_ := Aside0.mk (below_step (by repeat (first | (with_reducible first | exact HB.out | apply below_alloc | apply pw_below_drewN | apply below_drew1 | refine below_set ?_ GE450.out) | exact HB.out)) hb); clear HO_1; clear HO_2; clear BK450; clear HB; have HO_1 := n0_; have HO_2 := n1_; have HO456 := n2_; have BK450 := n3_; have HB := n4_; clear n0_ n1_ n2_ n3_ n4_; clear hb ho23) | ((with_reducible refine gate_builtin (b := .append) (xs := #[.tmp 20, .tmp 21]) rfl ?_); at_builtin; refine Kd.N_append_rows (Kd.slice 3 (Kd.int .i64)) (w0 := w) w.heap.size rfl (.tmp 20) (.tmp 21) 25 35 (.slice none 0 0) 24 rfl Tryd.underlying25 info35 rfl (by decide) (by omega) v455 y454 l1 _ _ _ (fun k_ => ((P1_ k_ ∨ P2_ k_) ∨ w.heap.size ≤ k_) ∧ k_ ≠ gb450) (fun k_ => ((fun k_ => ((P1_ k_ ∨ P2_ k_) ∨ w.heap.size ≤ k_) ∧ k_ ≠ gb450)) k_ ∧ some k_ ≠ (v455 : Value).ownBlock) rfl rfl ?aO ?aR (fun _ hk => hk) ?aF ?aB ?aS ?aL ?_; (case aR => exact (by skip; exact Kd.V_F (Kd.V_mono (ok' := (fun k_ => ((fun k_ => ((P1_ k_ ∨ P2_ k_) ∨ w.heap.size ≤ k_) ∧ k_ ≠ gb450)) k_ ∧ some k_ ≠ (v455 : Value).ownBlock)) (HO_1.out) (fun k_ hk => ⟨⟨hk.1.1, hk.1.2⟩, hk.2⟩)))); (case aB => exact (by repeat (first | (with_reducible first | exact HB.out | apply below_alloc | apply pw_below_drewN | apply below_drew1 | refine below_set ?_ GE450.out) | exact HB.out))); (case aF => exact (fun k_ hk => ⟨(.inr (Nat.le_trans (below_size (by repeat (first | (with_reducible first | exact HB.out | apply below_alloc | apply pw_below_drewN | apply below_drew1 | refine below_set ?_ GE450.out) | exact HB.out))) hk)), Kd.freshB (g := gb450) (o := .cells #[.bool a0_0, .bool a0_1, .bool a0_2, .bool a0_3, .bool a0_4, .bool a0_5, .bool a0_6, .int .i64 a0_7, .int .i64 a0_8, .int .i64 a0_9] 23 (0, 0)) (by (with_reducible repeat (first | refine blk_drewN ?_ _ | refine blk_drew ?_ | refine blk_alloc ?_ _)); exact BK450.out) k_ hk⟩)); (case aO => exact (by (with_reducible repeat (first | apply Kd.N_alloc | apply Kd.N_drewN | apply Kd.N_drew)); exact HO456.out)); (case aS => exact (below_size (by repeat (first | (with_reducible first | exact HB.out | apply below_alloc | apply pw_below_drewN | apply below_drew1 | refine below_set ?_ GE450.out) | exact HB.out)))); (case aL => have := LMc12.out; omega); intro v458 w24 ho hb hg hat; rw [← Ny457.out] at ho; have n0_ := Aside0.mk (Kd.V_afterv (ok := (fun k_ => ((P1_ k_ ∨ P2_ k_) ∨ w.heap.size ≤ k_) ∧ k_ ≠ gb450)) (by (with_reducible repeat (first | apply Kd.V_alloc | apply Kd.V_drewN | apply Kd.V_drew)); exact HO_1.out) hg hat); have n1_ := Aside0.mk (Kd.V_afterv (ok := (fun k_ => ((P1_ k_ ∨ P2_ k_) ∨ w.heap.size ≤ k_) ∧ k_ ≠ gb450)) (by (with_reducible repeat (first | apply Kd.V_alloc | apply Kd.V_drewN | apply Kd.V_drew)); exact HO_2.out) hg hat); have n2_ := Aside0.mk (blk_grown (g := gb450) (o := .cells #[.bool a0_0, .bool a0_1, .bool a0_2, .bool a0_3, .bool a0_4, .bool a0_5, .bool a0_6, .int .i64 a0_7, .int .i64 a0_8, .int .i64 a0_9] 23 (0, 0)) (by (with_reducible repeat (first | refine blk_drewN ?_ _ | refine blk_drew ?_ | refine blk_alloc ?_ _)); exact BK450.out) hg (Kd.N_ne HO456.out BK450.out (by decide))); have n3_ := Aside0.mk (hb); have n4_ := Aside0.mk (ho); clear HO_1; clear HO_2; clear BK450; clear HB; clear HO456; have HO_1 := n0_; have HO_2 := n1_; have BK450 := n2_; have HB := n3_; have HO459 := n4_; clear n0_ n1_ n2_ n3_ n4_; clear ho hb hg hat) | ((with_reducible refine gate_builtin (b := .append) (xs := #[.tmp 22, .tmp 23]) rfl ?_); at_builtin; refine Kd.N_append_rows (Kd.slice 3 (Kd.int .i64)) (w0 := w) w.heap.size rfl (.tmp 22) (.tmp 23) 25 35 (.slice none 0 0) 24 rfl Tryd.underlying25 info35 rfl (by decide) (by omega) v458 y457 l2 _ _ _ (fun k_ => ((P1_ k_ ∨ P2_ k_) ∨ w.heap.size ≤ k_) ∧ k_ ≠ gb450) (fun k_ => ((fun k_ => ((P1_ k_ ∨ P2_ k_) ∨ w.heap.size ≤ k_) ∧ k_ ≠ gb450)) k_ ∧ some k_ ≠ (v458 : Value).ownBlock) rfl rfl ?aO ?aR (fun _ hk => hk) ?aF ?aB ?aS ?aL ?_; (case aR => exact (by skip; exact Kd.V_F (Kd.V_mono (ok' := (fun k_ => ((fun k_ => ((P1_ k_ ∨ P2_ k_) ∨ w.heap.size ≤ k_) ∧ k_ ≠ gb450)) k_ ∧ some k_ ≠ (v458 : Value).ownBlock)) (HO_2.out) (fun k_ hk => ⟨⟨hk.1.1, hk.1.2⟩, hk.2⟩)))); (case aB => exact (by repeat (first | (with_reducible first | exact HB.out | apply below_alloc | apply pw_below_drewN | apply below_drew1 | refine below_set ?_ GE450.out) | exact HB.out))); (case aF => exact (fun k_ hk => ⟨(.inr (Nat.le_trans (below_size (by repeat (first | (with_reducible first | exact HB.out | apply below_alloc | apply pw_below_drewN | apply below_drew1 | refine below_set ?_ GE450.out) | exact HB.out))) hk)), Kd.freshB (g := gb450) (o := .cells #[.bool a0_0, .bool a0_1, .bool a0_2, .bool a0_3, .bool a0_4, .bool a0_5, .bool a0_6, .int .i64 a0_7, .int .i64 a0_8, .int .i64 a0_9] 23 (0, 0)) (by (with_reducible repeat (first | refine blk_drewN ?_ _ | refine blk_drew ?_ | refine blk_alloc ?_ _)); exact BK450.out) k_ hk⟩)); (case aO => exact (by (with_reducible repeat (first | apply Kd.N_alloc | apply Kd.N_drewN | apply Kd.N_drew)); exact HO459.out)); (case aS => exact (below_size (by repeat (first | (with_reducible first | exact HB.out | apply below_alloc | apply pw_below_drewN | apply below_drew1 | refine below_set ?_ GE450.out) | exact HB.out)))); (case aL => have := LMc13.out; omega); intro v461 w25 ho hb hg hat; rw [← Ny460.out] at ho; have n0_ := Aside0.mk (Kd.V_afterv (ok := (fun k_ => ((P1_ k_ ∨ P2_ k_) ∨ w.heap.size ≤ k_) ∧ k_ ≠ gb450)) (by (with_reducible repeat (first | apply Kd.V_alloc | apply Kd.V_drewN | apply Kd.V_drew)); exact HO_1.out) hg hat); have n1_ := Aside0.mk (Kd.V_afterv (ok := (fun k_ => ((P1_ k_ ∨ P2_ k_) ∨ w.heap.size ≤ k_) ∧ k_ ≠ gb450)) (by (with_reducible repeat (first | apply Kd.V_alloc | apply Kd.V_drewN | apply Kd.V_drew)); exact HO_2.out) hg hat); have n2_ := Aside0.mk (blk_grown (g := gb450) (o := .cells #[.bool a0_0, .bool a0_1, .bool a0_2, .bool a0_3, .bool a0_4, .bool a0_5, .bool a0_6, .int .i64 a0_7, .int .i64 a0_8, .int .i64 a0_9] 23 (0, 0)) (by (with_reducible repeat (first | refine blk_drewN ?_ _ | refine blk_drew ?_ | refine blk_alloc ?_ _)); exact BK450.out) hg (Kd.N_ne HO459.out BK450.out (by decide))); have n3_ := Aside0.mk (hb); have n4_ := Aside0.mk (ho); clear HO_1; clear HO_2; clear BK450; clear HB; clear HO459; have HO_1 := n0_; have HO_2 := n1_; have BK450 := n2_; have HB := n3_; have HO462 := n4_; clear n0_ n1_ n2_ n3_ n4_; clear ho hb hg hat; have hcz26_0 : w25.cell? ⟨gb450, 0, none⟩ = some (.bool a0_0) := (blk_cell BK450.out 0).trans rfl; have hcz26_1 : w25.cell? ⟨gb450, 1, none⟩ = some (.bool a0_1) := (blk_cell BK450.out 1).trans rfl; have hcz26_2 : w25.cell? ⟨gb450, 2, none⟩ = some (.bool a0_2) := (blk_cell BK450.out 2).trans rfl; have hcz26_3 : w25.cell? ⟨gb450, 3, none⟩ = some (.bool a0_3) := (blk_cell BK450.out 3).trans rfl; have hcz26_4 : w25.cell? ⟨gb450, 4, none⟩ = some (.bool a0_4) := (blk_cell BK450.out 4).trans rfl; have hcz26_5 : w25.cell? ⟨gb450, 5, none⟩ = some (.bool a0_5) := (blk_cell BK450.out 5).trans rfl; have hcz26_6 : w25.cell? ⟨gb450, 6, none⟩ = some (.bool a0_6) := (blk_cell BK450.out 6).trans rfl; have hcz26_7 : w25.cell? ⟨gb450, 7, none⟩ = some (.int .i64 a0_7) := (blk_cell BK450.out 7).trans rfl; have hcz26_8 : w25.cell? ⟨gb450, 8, none⟩ = some (.int .i64 a0_8) := (blk_cell BK450.out 8).trans rfl; have hcz26_9 : w25.cell? ⟨gb450, 9, none⟩ = some (.int .i64 a0_9) := (blk_cell BK450.out 9).trans rfl; have hfz26_0 := blk_frozen BK450.out 0; have hfz26_1 := blk_frozen BK450.out 1; have hfz26_2 := blk_frozen BK450.out 2; have hfz26_3 := blk_frozen BK450.out 3; have hfz26_4 := blk_frozen BK450.out 4; have hfz26_5 := blk_frozen BK450.out 5; have hfz26_6 := blk_frozen BK450.out 6; have hfz26_7 := blk_frozen BK450.out 7; have hfz26_8 := blk_frozen BK450.out 8; have hfz26_9 := blk_frozen BK450.out 9; obtain ⟨Ao27, co27, eo27⟩ := Kd.N_slice HO462.out; subst eo27) | ((with_reducible refine gate_callee (f := 18) rfl ?_); refine goesL_ (some 27) rfl rfl Tryd.func18 (by kernel_rfl) rfl #[.agg #[.bool a0_0, .bool a0_1, .bool a0_2, .bool a0_3, .bool a0_4, .bool a0_5, .bool a0_6, .int .i64 a0_7, .int .i64 a0_8, .int .i64 a0_9], .slice Ao27 y460.length co27] rfl (by (try simp only [List.map_toArray, List.map_cons, List.map_nil]); first | done | rfl | (simp only [List.length_drop, List.length_take]; rfl)) ?_; (with_reducible refine (style_Apply.calls kj4 a0_0 a0_1 a0_2 a0_3 a0_4 a0_5 a0_6 a0_7 a0_8 a0_9 _ _ y460 t463 t464 t465 t466 t467 t468 t469 t470 t471 t472 _ ?side1 ?side2 A14.out).mono ?_); (case side1 => repeat (first | exact (Kd.N_reads' HO462.out).2.2 | (with_reducible refine Kd.C_alloc ?_ _) | (with_reducible refine Kd.C_drewN ?_ _) | (with_reducible refine Kd.C_drew ?_))); (case side2 => exact (Kd.N_reads' HO462.out).2.1); rintro e w28 ⟨rfl, hb⟩; refine ⟨_, rfl, ?_⟩; have n0_ := Aside0.mk (Kd.V_below (by (with_reducible repeat (first | apply Kd.V_alloc | apply Kd.V_drewN | apply Kd.V_drew)); exact HO_1.out) hb); have n1_ := Aside0.mk (Kd.V_below (by (with_reducible repeat (first | apply Kd.V_alloc | apply Kd.V_drewN | apply Kd.V_drew)); exact HO_2.out) hb); have n2_ := Aside0.mk (Kd.N_below (by (with_reducible repeat (first | apply Kd.N_alloc | apply Kd.N_drewN | apply Kd.N_drew)); exact HO462.out) hb); have n3_ := Aside0.mk (blk_below (g := gb450) (o := .cells #[.bool a0_0, .bool a0_1, .bool a0_2, .bool a0_3, .bool a0_4, .bool a0_5, .bool a0_6, .int .i64 a0_7, .int .i64 a0_8, .int .i64 a0_9] 23 (0, 0)) (by (with_reducible repeat (first | refine blk_drewN ?_ _ | refine blk_drew ?_ | refine blk_alloc ?_ _)); exact BK450.out) hb); have n4_ := Aside0.mk (below_step (by repeat (first | (with_reducible first | exact HB.out | apply below_alloc | apply pw_below_drewN | apply below_drew1 | refine below_set ?_ GE450.out) | exact HB.out)) hb); clear HO_1; clear HO_2; clear HO462; clear BK450; clear HB; have HO_1 := n0_; have HO_2 := n1_; have HO462 := n2_; have BK450 := n3_; have HB := n4_; clear n0_ n1_ n2_ n3_ n4_; (try clear hb); (try clear hb2); (try clear hk); (try clear hi)) | ((with_reducible refine gate_dst (N := 9) rfl ?_); refine box_event ?hg (N := 9) ?hd (cs := #[.bool false, .bool false, .bool false, .bool false, .bool false, .bool false, .bool false, .int .i64 0, .int .i64 0, .int .i64 0]) (t := 23) ?hr ?_; (case hd => rfl); (case hg => rfl); (case hr => first | (go_simp; done) | (go_simp; rfl)); intro gb473 hg w29 hbox hb; have n0_ := Aside0.mk (Kd.V_below (Kd.V_elderB (by (with_reducible repeat (first | apply Kd.V_alloc | apply Kd.V_drewN | apply Kd.V_drew)); exact HO_1.out) gb473 (Nat.le_of_eq hg.symm)) hb); have n1_ := Aside0.mk (Kd.V_below (Kd.V_elderB (by (with_reducible repeat (first | apply Kd.V_alloc | apply Kd.V_drewN | apply Kd.V_drew)); exact HO_2.out) gb473 (Nat.le_of_eq hg.symm)) hb); have n2_ := Aside0.mk (Kd.N_below (Kd.N_elderB (by (with_reducible repeat (first | apply Kd.N_alloc | apply Kd.N_drewN | apply Kd.N_drew)); exact HO462.out) gb473 (Nat.le_of_eq hg.symm)) hb); have n3_ := Aside0.mk (blk_below (g := gb450) (o := .cells #[.bool a0_0, .bool a0_1, .bool a0_2, .bool a0_3, .bool a0_4, .bool a0_5, .bool a0_6, .int .i64 a0_7, .int .i64 a0_8, .int .i64 a0_9] 23 (0, 0)) (by (with_reducible repeat (first | refine blk_drewN ?_ _ | refine blk_drew ?_ | refine blk_alloc ?_ _)); exact BK450.out) hb); have n4_ := Aside0.mk (below_step (by repeat (first | (with_reducible first | exact HB.out | apply below_alloc | apply pw_below_drewN | apply below_drew1 | refine below_set ?_ GE450.out) | exact HB.out)) hb); have n5_ := Aside0.mk (hbox); have n6_ := Aside0.mk ((by rw [hg]; exact (below_size (by repeat (first | (with_reducible first | exact HB.out | apply below_alloc | apply pw_below_drewN | apply below_drew1 | refine below_set ?_ GE450.out) | exact HB.out))) : w.heap.size ≤ gb473)); have n7_ := Aside0.mk ((by rw [hg]; exact (below_size (by repeat (first | (with_reducible first | exact HB.out | apply below_alloc | apply pw_below_drewN | apply below_drew1 | refine below_set ?_ GE450.out) | exact HB.out))) : w.heap.size ≤ gb473)); have n8_ := Aside0.mk ((by rw [hg]; exact Nat.ne_of_lt (blk_lt (g := gb450) (o := .cells #[.bool a0_0, .bool a0_1, .bool a0_2, .bool a0_3, .bool a0_4, .bool a0_5, .bool a0_6, .int .i64 a0_7, .int .i64 a0_8, .int .i64 a0_9] 23 (0, 0)) (by (with_reducible repeat (first | refine blk_drewN ?_ _ | refine blk_drew ?_ | refine blk_alloc ?_ _)); exact BK450.out)) : gb450 ≠ gb473)); have n9_ := Aside0.mk ((by rw [hg]; exact Nat.ne_of_gt (blk_lt (g := gb450) (o := .cells #[.bool a0_0, .bool a0_1, .bool a0_2, .bool a0_3, .bool a0_4, .bool a0_5, .bool a0_6, .int .i64 a0_7, .int .i64 a0_8, .int .i64 a0_9] 23 (0, 0)) (by (with_reducible repeat (first | refine blk_drewN ?_ _ | refine blk_drew ?_ | refine blk_alloc ?_ _)); exact BK450.out)) : gb473 ≠ gb450)); clear HO_1; clear HO_2; clear HO462; clear BK450; clear HB; have HO_1 := n0_; have HO_2 := n1_; have HO462 := n2_; have BK450 := n3_; have HB := n4_; have BK473 := n5_; have GW473 := n6_; have GE473 := n7_; have NB450_473 := n8_; have NB473_450 := n9_; clear n0_ n1_ n2_ n3_ n4_ n5_ n6_ n7_ n8_ n9_; clear hb hbox hg; have hnb30 := NB473_450.out; have hnc30 := NB450_473.out; have hcz31_0 : w29.cell? ⟨gb473, 0, none⟩ = some (.bool false) := (blk_cell BK473.out 0).trans rfl; have hcz31_1 : w29.cell? ⟨gb473, 1, none⟩ = some (.bool false) := (blk_cell BK473.out 1).trans rfl; have hcz31_2 : w29.cell? ⟨gb473, 2, none⟩ = some (.bool false) := (blk_cell BK473.out 2).trans rfl; have hcz31_3 : w29.cell? ⟨gb473, 3, none⟩ = some (.bool false) := (blk_cell BK473.out 3).trans rfl; have hcz31_4 : w29.cell? ⟨gb473, 4, none⟩ = some (.bool false) := (blk_cell BK473.out 4).trans rfl; have hcz31_5 : w29.cell? ⟨gb473, 5, none⟩ = some (.bool false) := (blk_cell BK473.out 5).trans rfl; have hcz31_6 : w29.cell? ⟨gb473, 6, none⟩ = some (.bool false) := (blk_cell BK473.out 6).trans rfl; have hcz31_7 : w29.cell? ⟨gb473, 7, none⟩ = some (.int .i64 0) := (blk_cell BK473.out 7).trans rfl; have hcz31_8 : w29.cell? ⟨gb473, 8, none⟩ = some (.int .i64 0) := (blk_cell BK473.out 8).trans rfl; have hcz31_9 : w29.cell? ⟨gb473, 9, none⟩ = some (.int .i64 0) := (blk_cell BK473.out 9).trans rfl; have hfz31_0 := blk_frozen BK473.out 0; have hfz31_1 := blk_frozen BK473.out 1; have hfz31_2 := blk_frozen BK473.out 2; have hfz31_3 := blk_frozen BK473.out 3; have hfz31_4 := blk_frozen BK473.out 4; have hfz31_5 := blk_frozen BK473.out 5; have hfz31_6 := blk_frozen BK473.out 6; have hfz31_7 := blk_frozen BK473.out 7; have hfz31_8 := blk_frozen BK473.out 8; have hfz31_9 := blk_frozen BK473.out 9))
                  have n0_ : Aside0 (Kd.V (Kd.slice 3 (Kd.int .i64)) 35 ((((((((((w29.setCell ⟨gb473, 0, none⟩ (.bool t463)).setCell ⟨gb473, 1, none⟩ (.bool t464)).setCell ⟨gb473, 2, none⟩ (.bool t465)).setCell ⟨gb473, 3, none⟩ (.bool t466)).setCell ⟨gb473, 4, none⟩ (.bool t467)).setCell ⟨gb473, 5, none⟩ (.bool t468)).setCell ⟨gb473, 6, none⟩ (.bool t469)).setCell ⟨gb473, 7, none⟩ (.int .i64 t470)).setCell ⟨gb473, 8, none⟩ (.int .i64 t471)).setCell ⟨gb473, 9, none⟩ (.int .i64 t472)) w.heap.size (fun k_ => ((P1_ k_ ∨ P2_ k_) ∨ w.heap.size ≤ k_) ∧ some k_ ≠ (.slice Ao27 y460.length co27 : Value).ownBlock ∧ k_ ≠ gb450 ∧ k_ ≠ gb473) (.slice A1 l1.length c1) l1) := ⟨by (with_reducible repeat (first | apply Kd.V_alloc | apply Kd.V_drewN | apply Kd.V_drew)); exact Kd.V_mono (Kd.V_far (p := ⟨gb473, 9, none⟩) (Kd.V_far (p := ⟨gb473, 8, none⟩) (Kd.V_far (p := ⟨gb473, 7, none⟩) (Kd.V_far (p := ⟨gb473, 6, none⟩) (Kd.V_far (p := ⟨gb473, 5, none⟩) (Kd.V_far (p := ⟨gb473, 4, none⟩) (Kd.V_far (p := ⟨gb473, 3, none⟩) (Kd.V_far (p := ⟨gb473, 2, none⟩) (Kd.V_far (p := ⟨gb473, 1, none⟩) (Kd.V_far (p := ⟨gb473, 0, none⟩) (Kd.V_mono HO_1.out (fun k_ hk => (⟨hk, hk.2⟩ : _ ∧ k_ ≠ gb473))) (fun _ hk => hk.2) (.bool t463)) (fun _ hk => hk.2) (.bool t464)) (fun _ hk => hk.2) (.bool t465)) (fun _ hk => hk.2) (.bool t466)) (fun _ hk => hk.2) (.bool t467)) (fun _ hk => hk.2) (.bool t468)) (fun _ hk => hk.2) (.bool t469)) (fun _ hk => hk.2) (.int .i64 t470)) (fun _ hk => hk.2) (.int .i64 t471)) (fun _ hk => hk.2) (.int .i64 t472)) (fun _ hk => ⟨hk.1.1.1.1, ⟨hk.1.1.2, ⟨hk.1.1.1.2, hk.1.2⟩⟩⟩)⟩
                  have n1_ : Aside0 (Kd.V (Kd.slice 3 (Kd.int .i64)) 35 ((((((((((w29.setCell ⟨gb473, 0, none⟩ (.bool t463)).setCell ⟨gb473, 1, none⟩ (.bool t464)).setCell ⟨gb473, 2, none⟩ (.bool t465)).setCell ⟨gb473, 3, none⟩ (.bool t466)).setCell ⟨gb473, 4, none⟩ (.bool t467)).setCell ⟨gb473, 5, none⟩ (.bool t468)).setCell ⟨gb473, 6, none⟩ (.bool t469)).setCell ⟨gb473, 7, none⟩ (.int .i64 t470)).setCell ⟨gb473, 8, none⟩ (.int .i64 t471)).setCell ⟨gb473, 9, none⟩ (.int .i64 t472)) w.heap.size (fun k_ => ((P1_ k_ ∨ P2_ k_) ∨ w.heap.size ≤ k_) ∧ some k_ ≠ (.slice Ao27 y460.length co27 : Value).ownBlock ∧ k_ ≠ gb450 ∧ k_ ≠ gb473) (.slice A2 l2.length c2) l2) := ⟨by (with_reducible repeat (first | apply Kd.V_alloc | apply Kd.V_drewN | apply Kd.V_drew)); exact Kd.V_mono (Kd.V_far (p := ⟨gb473, 9, none⟩) (Kd.V_far (p := ⟨gb473, 8, none⟩) (Kd.V_far (p := ⟨gb473, 7, none⟩) (Kd.V_far (p := ⟨gb473, 6, none⟩) (Kd.V_far (p := ⟨gb473, 5, none⟩) (Kd.V_far (p := ⟨gb473, 4, none⟩) (Kd.V_far (p := ⟨gb473, 3, none⟩) (Kd.V_far (p := ⟨gb473, 2, none⟩) (Kd.V_far (p := ⟨gb473, 1, none⟩) (Kd.V_far (p := ⟨gb473, 0, none⟩) (Kd.V_mono HO_2.out (fun k_ hk => (⟨hk, hk.2⟩ : _ ∧ k_ ≠ gb473))) (fun _ hk => hk.2) (.bool t463)) (fun _ hk => hk.2) (.bool t464)) (fun _ hk => hk.2) (.bool t465)) (fun _ hk => hk.2) (.bool t466)) (fun _ hk => hk.2) (.bool t467)) (fun _ hk => hk.2) (.bool t468)) (fun _ hk => hk.2) (.bool t469)) (fun _ hk => hk.2) (.int .i64 t470)) (fun _ hk => hk.2) (.int .i64 t471)) (fun _ hk => hk.2) (.int .i64 t472)) (fun _ hk => ⟨hk.1.1.1.1, ⟨hk.1.1.2, ⟨hk.1.1.1.2, hk.1.2⟩⟩⟩)⟩
                  have n2_ : Aside0 (Kd.N (Kd.slice 3 (Kd.int .i64)) 35 ((((((((((w29.setCell ⟨gb473, 0, none⟩ (.bool t463)).setCell ⟨gb473, 1, none⟩ (.bool t464)).setCell ⟨gb473, 2, none⟩ (.bool t465)).setCell ⟨gb473, 3, none⟩ (.bool t466)).setCell ⟨gb473, 4, none⟩ (.bool t467)).setCell ⟨gb473, 5, none⟩ (.bool t468)).setCell ⟨gb473, 6, none⟩ (.bool t469)).setCell ⟨gb473, 7, none⟩ (.int .i64 t470)).setCell ⟨gb473, 8, none⟩ (.int .i64 t471)).setCell ⟨gb473, 9, none⟩ (.int .i64 t472)) w.heap.size (fun k_ => ((P1_ k_ ∨ P2_ k_) ∨ w.heap.size ≤ k_) ∧ k_ ≠ gb450 ∧ k_ ≠ gb473) (.slice Ao27 y460.length co27) y460) := ⟨by (with_reducible repeat (first | apply Kd.N_alloc | apply Kd.N_drewN | apply Kd.N_drew)); exact Kd.N_mono (Kd.N_far (p := ⟨gb473, 9, none⟩) (Kd.N_far (p := ⟨gb473, 8, none⟩) (Kd.N_far (p := ⟨gb473, 7, none⟩) (Kd.N_far (p := ⟨gb473, 6, none⟩) (Kd.N_far (p := ⟨gb473, 5, none⟩) (Kd.N_far (p := ⟨gb473, 4, none⟩) (Kd.N_far (p := ⟨gb473, 3, none⟩) (Kd.N_far (p := ⟨gb473, 2, none⟩) (Kd.N_far (p := ⟨gb473, 1, none⟩) (Kd.N_far (p := ⟨gb473, 0, none⟩) (Kd.N_mono HO462.out (fun k_ hk => (⟨hk, hk.2⟩ : _ ∧ k_ ≠ gb473))) (fun _ hk => hk.2) (.bool t463)) (fun _ hk => hk.2) (.bool t464)) (fun _ hk => hk.2) (.bool t465)) (fun _ hk => hk.2) (.bool t466)) (fun _ hk => hk.2) (.bool t467)) (fun _ hk => hk.2) (.bool t468)) (fun _ hk => hk.2) (.bool t469)) (fun _ hk => hk.2) (.int .i64 t470)) (fun _ hk => hk.2) (.int .i64 t471)) (fun _ hk => hk.2) (.int .i64 t472)) (fun _ hk => ⟨hk.1.1.1, ⟨hk.1.1.2, hk.1.2⟩⟩)⟩
                  have n3_ : Aside0 (((((((((((w29.setCell ⟨gb473, 0, none⟩ (.bool t463)).setCell ⟨gb473, 1, none⟩ (.bool t464)).setCell ⟨gb473, 2, none⟩ (.bool t465)).setCell ⟨gb473, 3, none⟩ (.bool t466)).setCell ⟨gb473, 4, none⟩ (.bool t467)).setCell ⟨gb473, 5, none⟩ (.bool t468)).setCell ⟨gb473, 6, none⟩ (.bool t469)).setCell ⟨gb473, 7, none⟩ (.int .i64 t470)).setCell ⟨gb473, 8, none⟩ (.int .i64 t471)).setCell ⟨gb473, 9, none⟩ (.int .i64 t472)).heap[gb450]? = some (.cells #[.bool a0_0, .bool a0_1, .bool a0_2, .bool a0_3, .bool a0_4, .bool a0_5, .bool a0_6, .int .i64 a0_7, .int .i64 a0_8, .int .i64 a0_9] 23 (0, 0))) := ⟨by (with_reducible repeat (first | refine blk_drewN ?_ _ | refine blk_drew ?_ | refine blk_alloc ?_ _)); refine blk_far ?_ NB450_473.out _; (with_reducible repeat (first | refine blk_drewN ?_ _ | refine blk_drew ?_ | refine blk_alloc ?_ _)); refine blk_far ?_ NB450_473.out _; (with_reducible repeat (first | refine blk_drewN ?_ _ | refine blk_drew ?_ | refine blk_alloc ?_ _)); refine blk_far ?_ NB450_473.out _; (with_reducible repeat (first | refine blk_drewN ?_ _ | refine blk_drew ?_ | refine blk_alloc ?_ _)); refine blk_far ?_ NB450_473.out _; (with_reducible repeat (first | refine blk_drewN ?_ _ | refine blk_drew ?_ | refine blk_alloc ?_ _)); refine blk_far ?_ NB450_473.out _; (with_reducible repeat (first | refine blk_drewN ?_ _ | refine blk_drew ?_ | refine blk_alloc ?_ _)); refine blk_far ?_ NB450_473.out _; (with_reducible repeat (first | refine blk_drewN ?_ _ | refine blk_drew ?_ | refine blk_alloc ?_ _)); refine blk_far ?_ NB450_473.out _; (with_reducible repeat (first | refine blk_drewN ?_ _ | refine blk_drew ?_ | refine blk_alloc ?_ _)); refine blk_far ?_ NB450_473.out _; (with_reducible repeat (first | refine blk_drewN ?_ _ | refine blk_drew ?_ | refine blk_alloc ?_ _)); refine blk_far ?_ NB450_473.out _; (with_reducible repeat (first | refine blk_drewN ?_ _ | refine blk_drew ?_ | refine blk_alloc ?_ _)); refine blk_far ?_ NB450_473.out _; (with_reducible repeat (first | refine blk_drewN ?_ _ | refine blk_drew ?_ | refine blk_alloc ?_ _)); exact BK450.out⟩
                  have n4_ : Aside0 (((((((((((w29.setCell ⟨gb473, 0, none⟩ (.bool t463)).setCell ⟨gb473, 1, none⟩ (.bool t464)).setCell ⟨gb473, 2, none⟩ (.bool t465)).setCell ⟨gb473, 3, none⟩ (.bool t466)).setCell ⟨gb473, 4, none⟩ (.bool t467)).setCell ⟨gb473, 5, none⟩ (.bool t468)).setCell ⟨gb473, 6, none⟩ (.bool t469)).setCell ⟨gb473, 7, none⟩ (.int .i64 t470)).setCell ⟨gb473, 8, none⟩ (.int .i64 t471)).setCell ⟨gb473, 9, none⟩ (.int .i64 t472)).heap[gb473]? = some (.cells #[.bool t463, .bool t464, .bool t465, .bool t466, .bool t467, .bool t468, .bool t469, .int .i64 t470, .int .i64 t471, .int .i64 t472] 23 (0, 0))) := ⟨by (with_reducible repeat (first | refine blk_drewN ?_ _ | refine blk_drew ?_ | refine blk_alloc ?_ _)); refine blk_put (cs := #[.bool t463, .bool t464, .bool t465, .bool t466, .bool t467, .bool t468, .bool t469, .int .i64 t470, .int .i64 t471, .int .i64 0]) ?_ 9 _ rfl; (with_reducible repeat (first | refine blk_drewN ?_ _ | refine blk_drew ?_ | refine blk_alloc ?_ _)); refine blk_put (cs := #[.bool t463, .bool t464, .bool t465, .bool t466, .bool t467, .bool t468, .bool t469, .int .i64 t470, .int .i64 0, .int .i64 0]) ?_ 8 _ rfl; (with_reducible repeat (first | refine blk_drewN ?_ _ | refine blk_drew ?_ | refine blk_alloc ?_ _)); refine blk_put (cs := #[.bool t463, .bool t464, .bool t465, .bool t466, .bool t467, .bool t468, .bool t469, .int .i64 0, .int .i64 0, .int .i64 0]) ?_ 7 _ rfl; (with_reducible repeat (first | refine blk_drewN ?_ _ | refine blk_drew ?_ | refine blk_alloc ?_ _)); refine blk_put (cs := #[.bool t463, .bool t464, .bool t465, .bool t466, .bool t467, .bool t468, .bool false, .int .i64 0, .int .i64 0, .int .i64 0]) ?_ 6 _ rfl; (with_reducible repeat (first | refine blk_drewN ?_ _ | refine blk_drew ?_ | refine blk_alloc ?_ _)); refine blk_put (cs := #[.bool t463, .bool t464, .bool t465, .bool t466, .bool t467, .bool false, .bool false, .int .i64 0, .int .i64 0, .int .i64 0]) ?_ 5 _ rfl; (with_reducible repeat (first | refine blk_drewN ?_ _ | refine blk_drew ?_ | refine blk_alloc ?_ _)); refine blk_put (cs := #[.bool t463, .bool t464, .bool t465, .bool t466, .bool false, .bool false, .bool false, .int .i64 0, .int .i64 0, .int .i64 0]) ?_ 4 _ rfl; (with_reducible repeat (first | refine blk_drewN ?_ _ | refine blk_drew ?_ | refine blk_alloc ?_ _)); refine blk_put (cs := #[.bool t463, .bool t464, .bool t465, .bool false, .bool false, .bool false, .bool false, .int .i64 0, .int .i64 0, .int .i64 0]) ?_ 3 _ rfl; (with_reducible repeat (first | refine blk_drewN ?_ _ | refine blk_drew ?_ | refine blk_alloc ?_ _)); refine blk_put (cs := #[.bool t463, .bool t464, .bool false, .bool false, .bool false, .bool false, .bool false, .int .i64 0, .int .i64 0, .int .i64 0]) ?_ 2 _ rfl; (with_reducible repeat (first | refine blk_drewN ?_ _ | refine blk_drew ?_ | refine blk_alloc ?_ _)); refine blk_put (cs := #[.bool t463, .bool false, .bool false, .bool false, .bool false, .bool false, .bool false, .int .i64 0, .int .i64 0, .int .i64 0]) ?_ 1 _ rfl; (with_reducible repeat (first | refine blk_drewN ?_ _ | refine blk_drew ?_ | refine blk_alloc ?_ _)); refine blk_put (cs := #[.bool false, .bool false, .bool false, .bool false, .bool false, .bool false, .bool false, .int .i64 0, .int .i64 0, .int .i64 0]) ?_ 0 _ rfl; (with_reducible repeat (first | refine blk_drewN ?_ _ | refine blk_drew ?_ | refine blk_alloc ?_ _)); exact BK473.out⟩
                  have n5_ : Aside0 (Below w.heap.size w ((((((((((w29.setCell ⟨gb473, 0, none⟩ (.bool t463)).setCell ⟨gb473, 1, none⟩ (.bool t464)).setCell ⟨gb473, 2, none⟩ (.bool t465)).setCell ⟨gb473, 3, none⟩ (.bool t466)).setCell ⟨gb473, 4, none⟩ (.bool t467)).setCell ⟨gb473, 5, none⟩ (.bool t468)).setCell ⟨gb473, 6, none⟩ (.bool t469)).setCell ⟨gb473, 7, none⟩ (.int .i64 t470)).setCell ⟨gb473, 8, none⟩ (.int .i64 t471)).setCell ⟨gb473, 9, none⟩ (.int .i64 t472))) := ⟨by repeat (first | (with_reducible first | exact HB.out | apply below_alloc | apply pw_below_drewN | apply below_drew1 | refine below_set ?_ GE450.out | refine below_set ?_ GE473.out) | exact HB.out)⟩
                  (try clear HO_1)
                  (try clear HO_2)
                  (try clear HO462)
                  (try clear BK450)
                  (try clear BK473)
                  (try clear HB)
                  generalize ((((((((((w29.setCell ⟨gb473, 0, none⟩ (.bool t463)).setCell ⟨gb473, 1, none⟩ (.bool t464)).setCell ⟨gb473, 2, none⟩ (.bool t465)).setCell ⟨gb473, 3, none⟩ (.bool t466)).setCell ⟨gb473, 4, none⟩ (.bool t467)).setCell ⟨gb473, 5, none⟩ (.bool t468)).setCell ⟨gb473, 6, none⟩ (.bool t469)).setCell ⟨gb473, 7, none⟩ (.int .i64 t470)).setCell ⟨gb473, 8, none⟩ (.int .i64 t471)).setCell ⟨gb473, 9, none⟩ (.int .i64 t472)) = w32 at n0_ n1_ n2_ n3_ n4_ n5_ ⊢
                  have HO_1 := n0_
                  have HO_2 := n1_
                  have HO462 := n2_
                  have BK450 := n3_
                  have BK473 := n4_
                  have HB := n5_
                  clear n0_ n1_ n2_ n3_ n4_ n5_
                  have n0_ := Aside0.mk (Kd.V_drew HO_1.out)
                  have n1_ := Aside0.mk (Kd.V_drew HO_2.out)
                  have n2_ := Aside0.mk (Kd.N_drew HO462.out)
                  have n3_ := Aside0.mk (blk_drew BK450.out)
                  have n4_ := Aside0.mk (blk_drew BK473.out)
                  have n5_ := Aside0.mk (below_drew1 HB.out)
                  clear HO_1
                  clear HO_2
                  clear HO462
                  clear BK450
                  clear BK473
                  clear HB
                  have HO_1 := n0_
                  have HO_2 := n1_
                  have HO462 := n2_
                  have BK450 := n3_
                  have BK473 := n4_
                  have HB := n5_
                  clear n0_ n1_ n2_ n3_ n4_ n5_
                  refine start_ (n := 20) (S := fun w' => w'.cell? ⟨gb473, 0, none⟩ = some (.bool t463) ∧ w'.cell? ⟨gb473, 1, none⟩ = some (.bool t464) ∧ w'.cell? ⟨gb473, 2, none⟩ = some (.bool t465) ∧ w'.cell? ⟨gb473, 3, none⟩ = some (.bool t466) ∧ w'.cell? ⟨gb473, 4, none⟩ = some (.bool t467) ∧ w'.cell? ⟨gb473, 5, none⟩ = some (.bool t468) ∧ w'.cell? ⟨gb473, 6, none⟩ = some (.bool t469) ∧ w'.cell? ⟨gb473, 7, none⟩ = some (.int .i64 t470) ∧ w'.cell? ⟨gb473, 8, none⟩ = some (.int .i64 t471) ∧ w'.cell? ⟨gb473, 9, none⟩ = some (.int .i64 t472) ∧ w'.cell? ⟨gb450, 0, none⟩ = some (.bool a0_0) ∧ w'.cell? ⟨gb450, 1, none⟩ = some (.bool a0_1) ∧ w'.cell? ⟨gb450, 2, none⟩ = some (.bool a0_2) ∧ w'.cell? ⟨gb450, 3, none⟩ = some (.bool a0_3) ∧ w'.cell? ⟨gb450, 4, none⟩ = some (.bool a0_4) ∧ w'.cell? ⟨gb450, 5, none⟩ = some (.bool a0_5) ∧ w'.cell? ⟨gb450, 6, none⟩ = some (.bool a0_6) ∧ w'.cell? ⟨gb450, 7, none⟩ = some (.int .i64 a0_7) ∧ w'.cell? ⟨gb450, 8, none⟩ = some (.int .i64 a0_8) ∧ w'.cell? ⟨gb450, 9, none⟩ = some (.int .i64 a0_9)) (ds := []) #[false, false, false, false, false, false, false, false, false, false, false, false, false, false, false, false, false, false, false, false] (by kernel_rfl) rfl rfl ⟨(blk_cell BK473.out 0).trans rfl, (blk_cell BK473.out 1).trans rfl, (blk_cell BK473.out 2).trans rfl, (blk_cell BK473.out 3).trans rfl, (blk_cell BK473.out 4).trans rfl, (blk_cell BK473.out 5).trans rfl, (blk_cell BK473.out 6).trans rfl, (blk_cell BK473.out 7).trans rfl, (blk_cell BK473.out 8).trans rfl, (blk_cell BK473.out 9).trans rfl, (blk_cell BK450.out 0).trans rfl, (blk_cell BK450.out 1).trans rfl, (blk_cell BK450.out 2).trans rfl, (blk_cell BK450.out 3).trans rfl, (blk_cell BK450.out 4).trans rfl, (blk_cell BK450.out 5).trans rfl, (blk_cell BK450.out 6).trans rfl, (blk_cell BK450.out 7).trans rfl, (blk_cell BK450.out 8).trans rfl, (blk_cell BK450.out 9).trans rfl⟩ (fun hHeld => ?_); refine with_tabW clavierlaw18_StyleJoins.tab6 clavierlaw18_StyleJoins.bits6 (fun HT_ HW_ => ?_)
                  generalize w32.drew = w33 at HO_1 HO_2 HO462 BK450 BK473 HB hHeld ⊢
                  refine pure_ (i := 0) (N := some 28) (v := ?_) (a' := ?_) #[true, false, false, false, false, false, false, false, false, false, false, false, false, false, false, false, false, false, false, false] rfl rfl (any_of HT_.out (by kernel_rfl)) (fun _ _ _ h => h) (Or.inl ⟨by rfl, ?_⟩) ?_ ?_
                  rotate_left
                  · intro w'
                    go_simp
                    with_reducible rfl
                  rotate_left
                  · simp only [Act.put, List.setIfInBounds_toArray, List.set_cons_zero, List.set_cons_succ, i64_w, i32_w]
                    rfl
                  refine pure_ (i := 1) (N := some 29) (v := ?_) (a' := ?_) #[true, true, false, false, false, false, false, false, false, false, false, false, false, false, false, false, false, false, false, false] rfl rfl (any_of HT_.out (by kernel_rfl)) (fun _ _ _ h => h) (Or.inl ⟨by rfl, ?_⟩) ?_ ?_
                  rotate_left
                  · intro w'
                    go_simp
                    with_reducible rfl
                  rotate_left
                  · simp only [Act.put, List.setIfInBounds_toArray, List.set_cons_zero, List.set_cons_succ, i64_w, i32_w]
                    rfl
                  refine pure_ (i := 4) (N := some 32) (v := ?_) (a' := ?_) #[true, true, false, false, true, false, false, false, false, false, false, false, false, false, false, false, false, false, false, false] rfl rfl (any_of HT_.out (by kernel_rfl)) (fun _ _ _ h => h) (Or.inl ⟨by rfl, ?_⟩) ?_ ?_
                  rotate_left
                  · intro w'
                    go_simp
                    with_reducible rfl
                  rotate_left
                  · simp only [Act.put, List.setIfInBounds_toArray, List.set_cons_zero, List.set_cons_succ, i64_w, i32_w]
                    rfl
                  refine pure_ (i := 6) (N := some 34) (v := ?_) (a' := ?_) #[true, true, false, false, true, false, true, false, false, false, false, false, false, false, false, false, false, false, false, false] rfl rfl (any_of HT_.out (by kernel_rfl)) (fun _ _ _ h => h) (Or.inl ⟨by rfl, ?_⟩) ?_ ?_
                  rotate_left
                  · intro w'
                    go_simp
                    with_reducible rfl
                  rotate_left
                  · simp only [Act.put, List.setIfInBounds_toArray, List.set_cons_zero, List.set_cons_succ, i64_w, i32_w]
                    rfl
                  refine take_ (i := 2) (N := some 30) (v := ?_) (a' := ?_) #[true, true, true, false, true, false, true, false, false, false, false, false, false, false, false, false, false, false, false, false] rfl rfl (take_ofW HT_.out HW_.out (by kernel_rfl)) (fun _ _ _ h => h) (Or.inl ⟨by rfl, ?_⟩) hHeld ?_ ?_
                  rotate_left
                  · rintro w' ⟨s0, s1, s2, s3, s4, s5, s6, s7, s8, s9, s10, s11, s12, s13, s14, s15, s16, s17, s18, s19⟩
                    go_simp
                    with_reducible rfl
                  rotate_left
                  · simp only [Act.put, List.setIfInBounds_toArray, List.set_cons_zero, List.set_cons_succ, i64_w, i32_w]
                    rfl
                  refine take_ (i := 3) (N := some 31) (v := ?_) (a' := ?_) #[true, true, true, true, true, false, true, false, false, false, false, false, false, false, false, false, false, false, false, false] rfl rfl (take_ofW HT_.out HW_.out (by kernel_rfl)) (fun _ _ _ h => h) (Or.inl ⟨by rfl, ?_⟩) hHeld ?_ ?_
                  rotate_left
                  · rintro w' ⟨s0, s1, s2, s3, s4, s5, s6, s7, s8, s9, s10, s11, s12, s13, s14, s15, s16, s17, s18, s19⟩
                    go_simp
                    with_reducible rfl
                  rotate_left
                  · simp only [Act.put, List.setIfInBounds_toArray, List.set_cons_zero, List.set_cons_succ, i64_w, i32_w]
                    rfl
                  refine one_ (i := 5) (N := some 33) #[true, true, true, true, true, true, true, false, false, false, false, false, false, false, false, false, false, false, false, false] rfl rfl (one_of HT_.out (by kernel_rfl)) (by decide) (fun K hK => ?_)
                  refine goes_ Tryd.func18 (by kernel_rfl) rfl #[.agg #[.bool a0_0, .bool a0_1, .bool a0_2, .bool a0_3, .bool a0_4, .bool a0_5, .bool a0_6, .int .i64 a0_7, .int .i64 a0_8, .int .i64 a0_9], .slice A1 l1.length c1] (by rfl) rfl rfl (by (try simp only [List.map_toArray, List.map_cons, List.map_nil]); first | done | rfl | (simp only [List.length_drop, List.length_take]; rfl)) ?_
                  with_reducible refine (style_Apply.calls kj4 a0_0 a0_1 a0_2 a0_3 a0_4 a0_5 a0_6 a0_7 a0_8 a0_9 _ _ l1 t474 t475 t476 t477 t478 t479 t480 t481 t482 t483 _ ?side1 ?side2 A16.out).mono ?_
                  (case side1 => repeat (first | exact (Kd.V_reads' HO_1.out).2.2 | (with_reducible refine Kd.C_alloc ?_ _) | (with_reducible refine Kd.C_drewN ?_ _) | (with_reducible refine Kd.C_drew ?_)))
                  (case side2 => exact (Kd.V_reads' HO_1.out).2.1)
                  rintro e w34 ⟨rfl, hb⟩
                  refine ⟨_, rfl, ?_⟩
                  have n0_ := Aside0.mk (Kd.V_below (by (with_reducible repeat (first | apply Kd.V_alloc | apply Kd.V_drewN | apply Kd.V_drew)); exact HO_1.out) hb)
                  have n1_ := Aside0.mk (Kd.V_below (by (with_reducible repeat (first | apply Kd.V_alloc | apply Kd.V_drewN | apply Kd.V_drew)); exact HO_2.out) hb)
                  have n2_ := Aside0.mk (Kd.N_below (by (with_reducible repeat (first | apply Kd.N_alloc | apply Kd.N_drewN | apply Kd.N_drew)); exact HO462.out) hb)
                  have n3_ := Aside0.mk (blk_below (g := gb450) (o := .cells #[.bool a0_0, .bool a0_1, .bool a0_2, .bool a0_3, .bool a0_4, .bool a0_5, .bool a0_6, .int .i64 a0_7, .int .i64 a0_8, .int .i64 a0_9] 23 (0, 0)) (by (with_reducible repeat (first | refine blk_drewN ?_ _ | refine blk_drew ?_ | refine blk_alloc ?_ _)); exact BK450.out) hb)
                  have n4_ := Aside0.mk (blk_below (g := gb473) (o := .cells #[.bool t463, .bool t464, .bool t465, .bool t466, .bool t467, .bool t468, .bool t469, .int .i64 t470, .int .i64 t471, .int .i64 t472] 23 (0, 0)) (by (with_reducible repeat (first | refine blk_drewN ?_ _ | refine blk_drew ?_ | refine blk_alloc ?_ _)); exact BK473.out) hb)
                  have n5_ := Aside0.mk (below_step (by repeat (first | (with_reducible first | exact HB.out | apply below_alloc | apply pw_below_drewN | apply below_drew1 | refine below_set ?_ GE450.out | refine below_set ?_ GE473.out) | exact HB.out)) hb)
                  clear HO_1
                  clear HO_2
                  clear HO462
                  clear BK450
                  clear BK473
                  clear HB
                  have HO_1 := n0_
                  have HO_2 := n1_
                  have HO462 := n2_
                  have BK450 := n3_
                  have BK473 := n4_
                  have HB := n5_
                  clear n0_ n1_ n2_ n3_ n4_ n5_
                  (try clear hb)
                  (try clear hb2)
                  (try clear hk)
                  (try clear hi)
                  refine hK.out _ _ ⟨(blk_cell BK473.out 0).trans rfl, (blk_cell BK473.out 1).trans rfl, (blk_cell BK473.out 2).trans rfl, (blk_cell BK473.out 3).trans rfl, (blk_cell BK473.out 4).trans rfl, (blk_cell BK473.out 5).trans rfl, (blk_cell BK473.out 6).trans rfl, (blk_cell BK473.out 7).trans rfl, (blk_cell BK473.out 8).trans rfl, (blk_cell BK473.out 9).trans rfl, (blk_cell BK450.out 0).trans rfl, (blk_cell BK450.out 1).trans rfl, (blk_cell BK450.out 2).trans rfl, (blk_cell BK450.out 3).trans rfl, (blk_cell BK450.out 4).trans rfl, (blk_cell BK450.out 5).trans rfl, (blk_cell BK450.out 6).trans rfl, (blk_cell BK450.out 7).trans rfl, (blk_cell BK450.out 8).trans rfl, (blk_cell BK450.out 9).trans rfl⟩ (fun hHeld => ?_)
                  clear hK K
                  refine norm_ (a' := ?_) ?_ ?_
                  rotate_left
                  · show Act.put _ (some 33) _ = _
                    simp only [Act.put, List.setIfInBounds_toArray, List.set_cons_zero, List.set_cons_succ, i64_w, i32_w]
                    rfl
                  refine one_ (i := 7) (N := some 35) #[true, true, true, true, true, true, true, true, false, false, false, false, false, false, false, false, false, false, false, false] rfl rfl (one_of HT_.out (by kernel_rfl)) (by decide) (fun K hK => ?_)
                  refine goes_ Tryd.func18 (by kernel_rfl) rfl #[.agg #[.bool t474, .bool t475, .bool t476, .bool t477, .bool t478, .bool t479, .bool t480, .int .i64 t481, .int .i64 t482, .int .i64 t483], .slice A2 l2.length c2] (by rfl) rfl rfl (by (try simp only [List.map_toArray, List.map_cons, List.map_nil]); first | done | rfl | (simp only [List.length_drop, List.length_take]; rfl)) ?_
                  with_reducible refine (style_Apply.calls kj4 t474 t475 t476 t477 t478 t479 t480 t481 t482 t483 _ _ l2 t484 t485 t486 t487 t488 t489 t490 t491 t492 t493 _ ?side1 ?side2 A17.out).mono ?_
                  (case side1 => repeat (first | exact (Kd.V_reads' HO_2.out).2.2 | (with_reducible refine Kd.C_alloc ?_ _) | (with_reducible refine Kd.C_drewN ?_ _) | (with_reducible refine Kd.C_drew ?_)))
                  (case side2 => exact (Kd.V_reads' HO_2.out).2.1)
                  rintro e w35 ⟨rfl, hb⟩
                  refine ⟨_, rfl, ?_⟩
                  have n0_ := Aside0.mk (Kd.V_below (by (with_reducible repeat (first | apply Kd.V_alloc | apply Kd.V_drewN | apply Kd.V_drew)); exact HO_1.out) hb)
                  have n1_ := Aside0.mk (Kd.V_below (by (with_reducible repeat (first | apply Kd.V_alloc | apply Kd.V_drewN | apply Kd.V_drew)); exact HO_2.out) hb)
                  have n2_ := Aside0.mk (Kd.N_below (by (with_reducible repeat (first | apply Kd.N_alloc | apply Kd.N_drewN | apply Kd.N_drew)); exact HO462.out) hb)
                  have n3_ := Aside0.mk (blk_below (g := gb450) (o := .cells #[.bool a0_0, .bool a0_1, .bool a0_2, .bool a0_3, .bool a0_4, .bool a0_5, .bool a0_6, .int .i64 a0_7, .int .i64 a0_8, .int .i64 a0_9] 23 (0, 0)) (by (with_reducible repeat (first | refine blk_drewN ?_ _ | refine blk_drew ?_ | refine blk_alloc ?_ _)); exact BK450.out) hb)
                  have n4_ := Aside0.mk (blk_below (g := gb473) (o := .cells #[.bool t463, .bool t464, .bool t465, .bool t466, .bool t467, .bool t468, .bool t469, .int .i64 t470, .int .i64 t471, .int .i64 t472] 23 (0, 0)) (by (with_reducible repeat (first | refine blk_drewN ?_ _ | refine blk_drew ?_ | refine blk_alloc ?_ _)); exact BK473.out) hb)
                  have n5_ := Aside0.mk (below_step (by repeat (first | (with_reducible first | exact HB.out | apply below_alloc | apply pw_below_drewN | apply below_drew1 | refine below_set ?_ GE450.out | refine below_set ?_ GE473.out) | exact HB.out)) hb)
                  clear HO_1
                  clear HO_2
                  clear HO462
                  clear BK450
                  clear BK473
                  clear HB
                  have HO_1 := n0_
                  have HO_2 := n1_
                  have HO462 := n2_
                  have BK450 := n3_
                  have BK473 := n4_
                  have HB := n5_
                  clear n0_ n1_ n2_ n3_ n4_ n5_
                  (try clear hb)
                  (try clear hb2)
                  (try clear hk)
                  (try clear hi)
                  refine hK.out _ _ ⟨(blk_cell BK473.out 0).trans rfl, (blk_cell BK473.out 1).trans rfl, (blk_cell BK473.out 2).trans rfl, (blk_cell BK473.out 3).trans rfl, (blk_cell BK473.out 4).trans rfl, (blk_cell BK473.out 5).trans rfl, (blk_cell BK473.out 6).trans rfl, (blk_cell BK473.out 7).trans rfl, (blk_cell BK473.out 8).trans rfl, (blk_cell BK473.out 9).trans rfl, (blk_cell BK450.out 0).trans rfl, (blk_cell BK450.out 1).trans rfl, (blk_cell BK450.out 2).trans rfl, (blk_cell BK450.out 3).trans rfl, (blk_cell BK450.out 4).trans rfl, (blk_cell BK450.out 5).trans rfl, (blk_cell BK450.out 6).trans rfl, (blk_cell BK450.out 7).trans rfl, (blk_cell BK450.out 8).trans rfl, (blk_cell BK450.out 9).trans rfl⟩ (fun hHeld => ?_)
                  clear hK K
                  refine norm_ (a' := ?_) ?_ ?_
                  rotate_left
                  · show Act.put _ (some 35) _ = _
                    simp only [Act.put, List.setIfInBounds_toArray, List.set_cons_zero, List.set_cons_succ, i64_w, i32_w]
                    rfl
                  refine pure_ (i := 8) (N := some 36) (v := ?_) (a' := ?_) #[true, true, true, true, true, true, true, true, true, false, false, false, false, false, false, false, false, false, false, false] rfl rfl (any_of HT_.out (by kernel_rfl)) (fun _ _ _ h => h) (Or.inl ⟨by rfl, ?_⟩) ?_ ?_
                  rotate_left
                  · intro w'
                    go_simp
                    with_reducible rfl
                  rotate_left
                  · simp only [Act.put, List.setIfInBounds_toArray, List.set_cons_zero, List.set_cons_succ, i64_w, i32_w]
                    rfl
                  refine pure_ (i := 9) (N := some 37) (v := ?_) (a' := ?_) #[true, true, true, true, true, true, true, true, true, true, false, false, false, false, false, false, false, false, false, false] rfl rfl (any_of HT_.out (by kernel_rfl)) (fun _ _ _ h => h) (Or.inl ⟨by rfl, ?_⟩) ?_ ?_
                  rotate_left
                  · intro w'
                    go_simp
                    with_reducible rfl
                  rotate_left
                  · simp only [Act.put, List.setIfInBounds_toArray, List.set_cons_zero, List.set_cons_succ, i64_w, i32_w]
                    rfl
                  refine pure_ (i := 10) (N := some 38) (v := ?_) (a' := ?_) #[true, true, true, true, true, true, true, true, true, true, true, false, false, false, false, false, false, false, false, false] rfl rfl (any_of HT_.out (by kernel_rfl)) (fun _ _ _ h => h) (Or.inl ⟨by rfl, ?_⟩) ?_ ?_
                  rotate_left
                  · intro w'
                    go_simp
                    with_reducible rfl
                  rotate_left
                  · simp only [Act.put, List.setIfInBounds_toArray, List.set_cons_zero, List.set_cons_succ, i64_w, i32_w]
                    rfl
                  refine take_ (i := 11) (N := some 39) (v := ?_) (a' := ?_) #[true, true, true, true, true, true, true, true, true, true, true, true, false, false, false, false, false, false, false, false] rfl rfl (take_ofW HT_.out HW_.out (by kernel_rfl)) (fun _ _ _ h => h) (Or.inl ⟨by rfl, ?_⟩) hHeld ?_ ?_
                  rotate_left
                  · rintro w' ⟨s0, s1, s2, s3, s4, s5, s6, s7, s8, s9, s10, s11, s12, s13, s14, s15, s16, s17, s18, s19⟩
                    go_simp
                    with_reducible rfl
                  rotate_left
                  · simp only [Act.put, List.setIfInBounds_toArray, List.set_cons_zero, List.set_cons_succ, i64_w, i32_w]
                    rfl
                  refine one_ (i := 12) (N := some 40) #[true, true, true, true, true, true, true, true, true, true, true, true, true, false, false, false, false, false, false, false] rfl rfl (one_of HT_.out (by kernel_rfl)) (by decide) (fun K hK => ?_)
                  refine goes_ Tryd.func12 (by kernel_rfl) rfl #[.agg #[.bool a0_0, .bool a0_1, .bool a0_2, .bool a0_3, .bool a0_4, .bool a0_5, .bool a0_6, .int .i64 a0_7, .int .i64 a0_8, .int .i64 a0_9]] (by rfl) rfl rfl (by (try simp only [List.map_toArray, List.map_cons, List.map_nil]); first | done | rfl | (simp only [List.length_drop, List.length_take]; rfl)) ?_
                  with_reducible refine (style_May.calls a0_0 a0_1 a0_2 a0_3 a0_4 a0_5 a0_6 a0_7 a0_8 a0_9 true _ A19.out).mono ?_
                  rintro e w36 ⟨rfl, hb⟩
                  refine ⟨_, rfl, ?_⟩
                  have n0_ := Aside0.mk (Kd.V_below (by (with_reducible repeat (first | apply Kd.V_alloc | apply Kd.V_drewN | apply Kd.V_drew)); exact HO_1.out) hb)
                  have n1_ := Aside0.mk (Kd.V_below (by (with_reducible repeat (first | apply Kd.V_alloc | apply Kd.V_drewN | apply Kd.V_drew)); exact HO_2.out) hb)
                  have n2_ := Aside0.mk (Kd.N_below (by (with_reducible repeat (first | apply Kd.N_alloc | apply Kd.N_drewN | apply Kd.N_drew)); exact HO462.out) hb)
                  have n3_ := Aside0.mk (blk_below (g := gb450) (o := .cells #[.bool a0_0, .bool a0_1, .bool a0_2, .bool a0_3, .bool a0_4, .bool a0_5, .bool a0_6, .int .i64 a0_7, .int .i64 a0_8, .int .i64 a0_9] 23 (0, 0)) (by (with_reducible repeat (first | refine blk_drewN ?_ _ | refine blk_drew ?_ | refine blk_alloc ?_ _)); exact BK450.out) hb)
                  have n4_ := Aside0.mk (blk_below (g := gb473) (o := .cells #[.bool t463, .bool t464, .bool t465, .bool t466, .bool t467, .bool t468, .bool t469, .int .i64 t470, .int .i64 t471, .int .i64 t472] 23 (0, 0)) (by (with_reducible repeat (first | refine blk_drewN ?_ _ | refine blk_drew ?_ | refine blk_alloc ?_ _)); exact BK473.out) hb)
                  have n5_ := Aside0.mk (below_step (by repeat (first | (with_reducible first | exact HB.out | apply below_alloc | apply pw_below_drewN | apply below_drew1 | refine below_set ?_ GE450.out | refine below_set ?_ GE473.out) | exact HB.out)) hb)
                  clear HO_1
                  clear HO_2
                  clear HO462
                  clear BK450
                  clear BK473
                  clear HB
                  have HO_1 := n0_
                  have HO_2 := n1_
                  have HO462 := n2_
                  have BK450 := n3_
                  have BK473 := n4_
                  have HB := n5_
                  clear n0_ n1_ n2_ n3_ n4_ n5_
                  (try clear hb)
                  (try clear hb2)
                  (try clear hk)
                  (try clear hi)
                  refine hK.out _ _ ⟨(blk_cell BK473.out 0).trans rfl, (blk_cell BK473.out 1).trans rfl, (blk_cell BK473.out 2).trans rfl, (blk_cell BK473.out 3).trans rfl, (blk_cell BK473.out 4).trans rfl, (blk_cell BK473.out 5).trans rfl, (blk_cell BK473.out 6).trans rfl, (blk_cell BK473.out 7).trans rfl, (blk_cell BK473.out 8).trans rfl, (blk_cell BK473.out 9).trans rfl, (blk_cell BK450.out 0).trans rfl, (blk_cell BK450.out 1).trans rfl, (blk_cell BK450.out 2).trans rfl, (blk_cell BK450.out 3).trans rfl, (blk_cell BK450.out 4).trans rfl, (blk_cell BK450.out 5).trans rfl, (blk_cell BK450.out 6).trans rfl, (blk_cell BK450.out 7).trans rfl, (blk_cell BK450.out 8).trans rfl, (blk_cell BK450.out 9).trans rfl⟩ (fun hHeld => ?_)
                  clear hK K
                  refine norm_ (a' := ?_) ?_ ?_
                  rotate_left
                  · show Act.put _ (some 40) _ = _
                    simp only [Act.put, List.setIfInBounds_toArray, List.set_cons_zero, List.set_cons_succ, i64_w, i32_w]
                    rfl
                  refine pure_ (i := 13) (N := some 41) (v := ?_) (a' := ?_) #[true, true, true, true, true, true, true, true, true, true, true, true, true, true, false, false, false, false, false, false] rfl rfl (any_of HT_.out (by kernel_rfl)) (fun _ _ _ h => h) (Or.inl ⟨by rfl, ?_⟩) ?_ ?_
                  rotate_left
                  · intro w'
                    go_simp
                    with_reducible rfl
                  rotate_left
                  · simp only [Act.put, List.setIfInBounds_toArray, List.set_cons_zero, List.set_cons_succ, i64_w, i32_w]
                    rfl
                  refine pure_ (i := 14) (N := some 42) (v := ?_) (a' := ?_) #[true, true, true, true, true, true, true, true, true, true, true, true, true, true, true, false, false, false, false, false] rfl rfl (any_of HT_.out (by kernel_rfl)) (fun _ _ _ h => h) (Or.inl ⟨by rfl, ?_⟩) ?_ ?_
                  rotate_left
                  · intro w'
                    go_simp
                    with_reducible rfl
                  rotate_left
                  · simp only [Act.put, List.setIfInBounds_toArray, List.set_cons_zero, List.set_cons_succ, i64_w, i32_w]
                    rfl
                  refine take_ (i := 15) (N := some 43) (v := ?_) (a' := ?_) #[true, true, true, true, true, true, true, true, true, true, true, true, true, true, true, true, false, false, false, false] rfl rfl (take_ofW HT_.out HW_.out (by kernel_rfl)) (fun _ _ _ h => h) (Or.inl ⟨by rfl, ?_⟩) hHeld ?_ ?_
                  rotate_left
                  · rintro w' ⟨s0, s1, s2, s3, s4, s5, s6, s7, s8, s9, s10, s11, s12, s13, s14, s15, s16, s17, s18, s19⟩
                    go_simp
                    with_reducible rfl
                  rotate_left
                  · simp only [Act.put, List.setIfInBounds_toArray, List.set_cons_zero, List.set_cons_succ, i64_w, i32_w]
                    rfl
                  refine one_ (i := 16) (N := some 44) #[true, true, true, true, true, true, true, true, true, true, true, true, true, true, true, true, true, false, false, false] rfl rfl (one_of HT_.out (by kernel_rfl)) (by decide) (fun K hK => ?_)
                  refine goes_ Tryd.func12 (by kernel_rfl) rfl #[.agg #[.bool t463, .bool t464, .bool t465, .bool t466, .bool t467, .bool t468, .bool t469, .int .i64 t470, .int .i64 t471, .int .i64 t472]] (by rfl) rfl rfl (by (try simp only [List.map_toArray, List.map_cons, List.map_nil]); first | done | rfl | (simp only [List.length_drop, List.length_take]; rfl)) ?_
                  with_reducible refine (style_May.calls t463 t464 t465 t466 t467 t468 t469 t470 t471 t472 t495 _ A21.out).mono ?_
                  rintro e w37 ⟨rfl, hb⟩
                  refine ⟨_, rfl, ?_⟩
                  have n0_ := Aside0.mk (Kd.V_below (by (with_reducible repeat (first | apply Kd.V_alloc | apply Kd.V_drewN | apply Kd.V_drew)); exact HO_1.out) hb)
                  have n1_ := Aside0.mk (Kd.V_below (by (with_reducible repeat (first | apply Kd.V_alloc | apply Kd.V_drewN | apply Kd.V_drew)); exact HO_2.out) hb)
                  have n2_ := Aside0.mk (Kd.N_below (by (with_reducible repeat (first | apply Kd.N_alloc | apply Kd.N_drewN | apply Kd.N_drew)); exact HO462.out) hb)
                  have n3_ := Aside0.mk (blk_below (g := gb450) (o := .cells #[.bool a0_0, .bool a0_1, .bool a0_2, .bool a0_3, .bool a0_4, .bool a0_5, .bool a0_6, .int .i64 a0_7, .int .i64 a0_8, .int .i64 a0_9] 23 (0, 0)) (by (with_reducible repeat (first | refine blk_drewN ?_ _ | refine blk_drew ?_ | refine blk_alloc ?_ _)); exact BK450.out) hb)
                  have n4_ := Aside0.mk (blk_below (g := gb473) (o := .cells #[.bool t463, .bool t464, .bool t465, .bool t466, .bool t467, .bool t468, .bool t469, .int .i64 t470, .int .i64 t471, .int .i64 t472] 23 (0, 0)) (by (with_reducible repeat (first | refine blk_drewN ?_ _ | refine blk_drew ?_ | refine blk_alloc ?_ _)); exact BK473.out) hb)
                  have n5_ := Aside0.mk (below_step (by repeat (first | (with_reducible first | exact HB.out | apply below_alloc | apply pw_below_drewN | apply below_drew1 | refine below_set ?_ GE450.out | refine below_set ?_ GE473.out) | exact HB.out)) hb)
                  clear HO_1
                  clear HO_2
                  clear HO462
                  clear BK450
                  clear BK473
                  clear HB
                  have HO_1 := n0_
                  have HO_2 := n1_
                  have HO462 := n2_
                  have BK450 := n3_
                  have BK473 := n4_
                  have HB := n5_
                  clear n0_ n1_ n2_ n3_ n4_ n5_
                  (try clear hb)
                  (try clear hb2)
                  (try clear hk)
                  (try clear hi)
                  refine hK.out _ _ ⟨(blk_cell BK473.out 0).trans rfl, (blk_cell BK473.out 1).trans rfl, (blk_cell BK473.out 2).trans rfl, (blk_cell BK473.out 3).trans rfl, (blk_cell BK473.out 4).trans rfl, (blk_cell BK473.out 5).trans rfl, (blk_cell BK473.out 6).trans rfl, (blk_cell BK473.out 7).trans rfl, (blk_cell BK473.out 8).trans rfl, (blk_cell BK473.out 9).trans rfl, (blk_cell BK450.out 0).trans rfl, (blk_cell BK450.out 1).trans rfl, (blk_cell BK450.out 2).trans rfl, (blk_cell BK450.out 3).trans rfl, (blk_cell BK450.out 4).trans rfl, (blk_cell BK450.out 5).trans rfl, (blk_cell BK450.out 6).trans rfl, (blk_cell BK450.out 7).trans rfl, (blk_cell BK450.out 8).trans rfl, (blk_cell BK450.out 9).trans rfl⟩ (fun hHeld => ?_)
                  clear hK K
                  refine norm_ (a' := ?_) ?_ ?_
                  rotate_left
                  · show Act.put _ (some 44) _ = _
                    simp only [Act.put, List.setIfInBounds_toArray, List.set_cons_zero, List.set_cons_succ, i64_w, i32_w]
                    rfl
                  refine pure_ (i := 17) (N := some 45) (v := ?_) (a' := ?_) #[true, true, true, true, true, true, true, true, true, true, true, true, true, true, true, true, true, true, false, false] rfl rfl (any_of HT_.out (by kernel_rfl)) (fun _ _ _ h => h) (Or.inl ⟨by rfl, ?_⟩) ?_ ?_
                  rotate_left
                  · intro w'
                    go_simp
                    with_reducible rfl
                  rotate_left
                  · simp only [Act.put, List.setIfInBounds_toArray, List.set_cons_zero, List.set_cons_succ, i64_w, i32_w]
                    rfl
                  refine pure_ (i := 18) (N := some 46) (v := ?_) (a' := ?_) #[true, true, true, true, true, true, true, true, true, true, true, true, true, true, true, true, true, true, true, false] rfl rfl (any_of HT_.out (by kernel_rfl)) (fun _ _ _ h => h) (Or.inl ⟨by rfl, ?_⟩) ?_ ?_
                  rotate_left
                  · intro w'
                    go_simp
                    with_reducible rfl
                  rotate_left
                  · simp only [Act.put, List.setIfInBounds_toArray, List.set_cons_zero, List.set_cons_succ, i64_w, i32_w]
                    rfl
                  refine pure_ (i := 19) (N := some 6) (v := ?_) (a' := ?_) #[true, true, true, true, true, true, true, true, true, true, true, true, true, true, true, true, true, true, true, true] rfl rfl (any_of HT_.out (by kernel_rfl)) (fun _ _ _ h => h) (Or.inl ⟨by rfl, ?_⟩) ?_ ?_
                  rotate_left
                  · intro w'
                    go_simp
                    with_reducible rfl
                  rotate_left
                  · simp only [Act.put, List.setIfInBounds_toArray, List.set_cons_zero, List.set_cons_succ, i64_w, i32_w]
                    rfl
                  refine done_ (done_of HT_.out (by kernel_rfl)) ?_
                  try go_wp2
                  go_ret
                  exact ⟨by first | rfl | (simp [errW_none, errW_some] <;> rfl) | (simp [*, errW_none, errW_some] <;> rfl), by repeat (first | (with_reducible first | exact HB.out | apply below_alloc | apply pw_below_drewN | apply below_drew1 | refine below_set ?_ GE450.out | refine below_set ?_ GE473.out) | exact HB.out)⟩
                · replace c20 := Bool.eq_false_iff.mpr c20
                  subst c20
                  have H1 : (some true) = some r := by rw [if_neg (show ¬ (false = true) by decide)] at H; exact H
                  clear H
                  have H := H1
                  clear H1
                  obtain rfl := Option.some.inj H
                  try go_wp2_with (first | ((with_reducible refine gate_dst (N := 20) rfl ?_); refine Kd.N_lit (Kd.slice 3 (Kd.int .i64)) _ 35 ?hg (N' := 20) ?hd (xs := ([] : List (List Int))) (inner := []) (ok := (fun k_ => ((P1_ k_ ∨ P2_ k_) ∨ w.heap.size ≤ k_) ∧ k_ ≠ gb450)) (okp := (fun k_ => ((P1_ k_ ∨ P2_ k_) ∨ w.heap.size ≤ k_) ∧ k_ ≠ gb450)) ?hr ?hp (fun _ hk => hk) ((show ∀ k_, wc.heap.size ≤ k_ → (fun k_ => ((P1_ k_ ∨ P2_ k_) ∨ w.heap.size ≤ k_) ∧ k_ ≠ gb450) k_ from fun k_ hk => ⟨(.inr (Nat.le_trans (below_size (by repeat (first | (with_reducible first | exact HB.out | apply below_alloc | apply pw_below_drewN | apply below_drew1 | refine below_set ?_ GE450.out) | exact HB.out))) hk)), Kd.freshB (g := gb450) (o := .cells #[.bool a0_0, .bool a0_1, .bool a0_2, .bool a0_3, .bool a0_4, .bool a0_5, .bool a0_6, .int .i64 a0_7, .int .i64 a0_8, .int .i64 a0_9] 23 (0, 0)) (by (with_reducible repeat (first | refine blk_drewN ?_ _ | refine blk_drew ?_ | refine blk_alloc ?_ _)); exact BK450.out) k_ hk⟩) _ (Nat.le_refl _)) (Below.refl _ _) (Nat.le_refl _) (by simp) ?_; (case hd => rfl); (case hg => rfl); (case hr => first | (go_simp; done) | (go_simp; rfl)); (case hp => exact (Reps.none _ _)); intro v455 w38 ho39 hb hg_ hnew_; clear hg_ hnew_; (first | rw [← Ny454.out] at ho39 | (simp only [Int.reduceToNat] at ho39; rw [← Ny454.out] at ho39)); have n0_ := Aside0.mk (Kd.V_elder' (by (with_reducible repeat (first | apply Kd.V_alloc | apply Kd.V_drewN | apply Kd.V_drew)); exact HO_1.out) (Kd.N_base ho39) hb); have n1_ := Aside0.mk (Kd.V_elder' (by (with_reducible repeat (first | apply Kd.V_alloc | apply Kd.V_drewN | apply Kd.V_drew)); exact HO_2.out) (Kd.N_base ho39) hb); have n2_ := Aside0.mk (Kd.N_lower ho39 (below_size (by repeat (first | (with_reducible first | exact HB.out | apply below_alloc | apply pw_below_drewN | apply below_drew1 | refine below_set ?_ GE450.out) | exact HB.out)))); have n3_ := Aside0.mk (blk_below (g := gb450) (o := .cells #[.bool a0_0, .bool a0_1, .bool a0_2, .bool a0_3, .bool a0_4, .bool a0_5, .bool a0_6, .int .i64 a0_7, .int .i64 a0_8, .int .i64 a0_9] 23 (0, 0)) (by (with_reducible repeat (first | refine blk_drewN ?_ _ | refine blk_drew ?_ | refine blk_alloc ?_ _)); exact BK450.out) hb); have n4_ := Aside0.mk (below_step (by repeat (first | (with_reducible first | exact HB.out | apply below_alloc | apply pw_below_drewN | apply below_drew1 | refine below_set ?_ GE450.out) | exact HB.out)) hb); clear HO_1; clear HO_2; clear BK450; clear HB; have HO_1 := n0_; have HO_2 := n1_; have HO456 := n2_; have BK450 := n3_; have HB := n4_; clear n0_ n1_ n2_ n3_ n4_; clear hb ho39) | ((with_reducible refine gate_builtin (b := .append) (xs := #[.tmp 20, .tmp 21]) rfl ?_); at_builtin; refine Kd.N_append_rows (Kd.slice 3 (Kd.int .i64)) (w0 := w) w.heap.size rfl (.tmp 20) (.tmp 21) 25 35 (.slice none 0 0) 24 rfl Tryd.underlying25 info35 rfl (by decide) (by omega) v455 y454 l1 _ _ _ (fun k_ => ((P1_ k_ ∨ P2_ k_) ∨ w.heap.size ≤ k_) ∧ k_ ≠ gb450) (fun k_ => ((fun k_ => ((P1_ k_ ∨ P2_ k_) ∨ w.heap.size ≤ k_) ∧ k_ ≠ gb450)) k_ ∧ some k_ ≠ (v455 : Value).ownBlock) rfl rfl ?aO ?aR (fun _ hk => hk) ?aF ?aB ?aS ?aL ?_; (case aR => exact (by skip; exact Kd.V_F (Kd.V_mono (ok' := (fun k_ => ((fun k_ => ((P1_ k_ ∨ P2_ k_) ∨ w.heap.size ≤ k_) ∧ k_ ≠ gb450)) k_ ∧ some k_ ≠ (v455 : Value).ownBlock)) (HO_1.out) (fun k_ hk => ⟨⟨hk.1.1, hk.1.2⟩, hk.2⟩)))); (case aB => exact (by repeat (first | (with_reducible first | exact HB.out | apply below_alloc | apply pw_below_drewN | apply below_drew1 | refine below_set ?_ GE450.out) | exact HB.out))); (case aF => exact (fun k_ hk => ⟨(.inr (Nat.le_trans (below_size (by repeat (first | (with_reducible first | exact HB.out | apply below_alloc | apply pw_below_drewN | apply below_drew1 | refine below_set ?_ GE450.out) | exact HB.out))) hk)), Kd.freshB (g := gb450) (o := .cells #[.bool a0_0, .bool a0_1, .bool a0_2, .bool a0_3, .bool a0_4, .bool a0_5, .bool a0_6, .int .i64 a0_7, .int .i64 a0_8, .int .i64 a0_9] 23 (0, 0)) (by (with_reducible repeat (first | refine blk_drewN ?_ _ | refine blk_drew ?_ | refine blk_alloc ?_ _)); exact BK450.out) k_ hk⟩)); (case aO => exact (by (with_reducible repeat (first | apply Kd.N_alloc | apply Kd.N_drewN | apply Kd.N_drew)); exact HO456.out)); (case aS => exact (below_size (by repeat (first | (with_reducible first | exact HB.out | apply below_alloc | apply pw_below_drewN | apply below_drew1 | refine below_set ?_ GE450.out) | exact HB.out)))); (case aL => have := LMc12.out; omega); intro v458 w40 ho hb hg hat; rw [← Ny457.out] at ho; have n0_ := Aside0.mk (Kd.V_afterv (ok := (fun k_ => ((P1_ k_ ∨ P2_ k_) ∨ w.heap.size ≤ k_) ∧ k_ ≠ gb450)) (by (with_reducible repeat (first | apply Kd.V_alloc | apply Kd.V_drewN | apply Kd.V_drew)); exact HO_1.out) hg hat); have n1_ := Aside0.mk (Kd.V_afterv (ok := (fun k_ => ((P1_ k_ ∨ P2_ k_) ∨ w.heap.size ≤ k_) ∧ k_ ≠ gb450)) (by (with_reducible repeat (first | apply Kd.V_alloc | apply Kd.V_drewN | apply Kd.V_drew)); exact HO_2.out) hg hat); have n2_ := Aside0.mk (blk_grown (g := gb450) (o := .cells #[.bool a0_0, .bool a0_1, .bool a0_2, .bool a0_3, .bool a0_4, .bool a0_5, .bool a0_6, .int .i64 a0_7, .int .i64 a0_8, .int .i64 a0_9] 23 (0, 0)) (by (with_reducible repeat (first | refine blk_drewN ?_ _ | refine blk_drew ?_ | refine blk_alloc ?_ _)); exact BK450.out) hg (Kd.N_ne HO456.out BK450.out (by decide))); have n3_ := Aside0.mk (hb); have n4_ := Aside0.mk (ho); clear HO_1; clear HO_2; clear BK450; clear HB; clear HO456; have HO_1 := n0_; have HO_2 := n1_; have BK450 := n2_; have HB := n3_; have HO459 := n4_; clear n0_ n1_ n2_ n3_ n4_; clear ho hb hg hat) | ((with_reducible refine gate_builtin (b := .append) (xs := #[.tmp 22, .tmp 23]) rfl ?_); at_builtin; refine Kd.N_append_rows (Kd.slice 3 (Kd.int .i64)) (w0 := w) w.heap.size rfl (.tmp 22) (.tmp 23) 25 35 (.slice none 0 0) 24 rfl Tryd.underlying25 info35 rfl (by decide) (by omega) v458 y457 l2 _ _ _ (fun k_ => ((P1_ k_ ∨ P2_ k_) ∨ w.heap.size ≤ k_) ∧ k_ ≠ gb450) (fun k_ => ((fun k_ => ((P1_ k_ ∨ P2_ k_) ∨ w.heap.size ≤ k_) ∧ k_ ≠ gb450)) k_ ∧ some k_ ≠ (v458 : Value).ownBlock) rfl rfl ?aO ?aR (fun _ hk => hk) ?aF ?aB ?aS ?aL ?_; (case aR => exact (by skip; exact Kd.V_F (Kd.V_mono (ok' := (fun k_ => ((fun k_ => ((P1_ k_ ∨ P2_ k_) ∨ w.heap.size ≤ k_) ∧ k_ ≠ gb450)) k_ ∧ some k_ ≠ (v458 : Value).ownBlock)) (HO_2.out) (fun k_ hk => ⟨⟨hk.1.1, hk.1.2⟩, hk.2⟩)))); (case aB => exact (by repeat (first | (with_reducible first | exact HB.out | apply below_alloc | apply pw_below_drewN | apply below_drew1 | refine below_set ?_ GE450.out) | exact HB.out))); (case aF => exact (fun k_ hk => ⟨(.inr (Nat.le_trans (below_size (by repeat (first | (with_reducible first | exact HB.out | apply below_alloc | apply pw_below_drewN | apply below_drew1 | refine below_set ?_ GE450.out) | exact HB.out))) hk)), Kd.freshB (g := gb450) (o := .cells #[.bool a0_0, .bool a0_1, .bool a0_2, .bool a0_3, .bool a0_4, .bool a0_5, .bool a0_6, .int .i64 a0_7, .int .i64 a0_8, .int .i64 a0_9] 23 (0, 0)) (by (with_reducible repeat (first | refine blk_drewN ?_ _ | refine blk_drew ?_ | refine blk_alloc ?_ _)); exact BK450.out) k_ hk⟩)); (case aO => exact (by (with_reducible repeat (first | apply Kd.N_alloc | apply Kd.N_drewN | apply Kd.N_drew)); exact HO459.out)); (case aS => exact (below_size (by repeat (first | (with_reducible first | exact HB.out | apply below_alloc | apply pw_below_drewN | apply below_drew1 | refine below_set ?_ GE450.out) | exact HB.out)))); (case aL => have := LMc13.out; omega); intro v461 w41 ho hb hg hat; rw [← Ny460.out] at ho; have n0_ := Aside0.mk (Kd.V_afterv (ok := (fun k_ => ((P1_ k_ ∨ P2_ k_) ∨ w.heap.size ≤ k_) ∧ k_ ≠ gb450)) (by (with_reducible repeat (first | apply Kd.V_alloc | apply Kd.V_drewN | apply Kd.V_drew)); exact HO_1.out) hg hat); have n1_ := Aside0.mk (Kd.V_afterv (ok := (fun k_ => ((P1_ k_ ∨ P2_ k_) ∨ w.heap.size ≤ k_) ∧ k_ ≠ gb450)) (by (with_reducible repeat (first | apply Kd.V_alloc | apply Kd.V_drewN | apply Kd.V_drew)); exact HO_2.out) hg hat); have n2_ := Aside0.mk (blk_grown (g := gb450) (o := .cells #[.bool a0_0, .bool a0_1, .bool a0_2, .bool a0_3, .bool a0_4, .bool a0_5, .bool a0_6, .int .i64 a0_7, .int .i64 a0_8, .int .i64 a0_9] 23 (0, 0)) (by (with_reducible repeat (first | refine blk_drewN ?_ _ | refine blk_drew ?_ | refine blk_alloc ?_ _)); exact BK450.out) hg (Kd.N_ne HO459.out BK450.out (by decide))); have n3_ := Aside0.mk (hb); have n4_ := Aside0.mk (ho); clear HO_1; clear HO_2; clear BK450; clear HB; clear HO459; have HO_1 := n0_; have HO_2 := n1_; have BK450 := n2_; have HB := n3_; have HO462 := n4_; clear n0_ n1_ n2_ n3_ n4_; clear ho hb hg hat; have hcz42_0 : w41.cell? ⟨gb450, 0, none⟩ = some (.bool a0_0) := (blk_cell BK450.out 0).trans rfl; have hcz42_1 : w41.cell? ⟨gb450, 1, none⟩ = some (.bool a0_1) := (blk_cell BK450.out 1).trans rfl; have hcz42_2 : w41.cell? ⟨gb450, 2, none⟩ = some (.bool a0_2) := (blk_cell BK450.out 2).trans rfl; have hcz42_3 : w41.cell? ⟨gb450, 3, none⟩ = some (.bool a0_3) := (blk_cell BK450.out 3).trans rfl; have hcz42_4 : w41.cell? ⟨gb450, 4, none⟩ = some (.bool a0_4) := (blk_cell BK450.out 4).trans rfl; have hcz42_5 : w41.cell? ⟨gb450, 5, none⟩ = some (.bool a0_5) := (blk_cell BK450.out 5).trans rfl; have hcz42_6 : w41.cell? ⟨gb450, 6, none⟩ = some (.bool a0_6) := (blk_cell BK450.out 6).trans rfl; have hcz42_7 : w41.cell? ⟨gb450, 7, none⟩ = some (.int .i64 a0_7) := (blk_cell BK450.out 7).trans rfl; have hcz42_8 : w41.cell? ⟨gb450, 8, none⟩ = some (.int .i64 a0_8) := (blk_cell BK450.out 8).trans rfl; have hcz42_9 : w41.cell? ⟨gb450, 9, none⟩ = some (.int .i64 a0_9) := (blk_cell BK450.out 9).trans rfl; have hfz42_0 := blk_frozen BK450.out 0; have hfz42_1 := blk_frozen BK450.out 1; have hfz42_2 := blk_frozen BK450.out 2; have hfz42_3 := blk_frozen BK450.out 3; have hfz42_4 := blk_frozen BK450.out 4; have hfz42_5 := blk_frozen BK450.out 5; have hfz42_6 := blk_frozen BK450.out 6; have hfz42_7 := blk_frozen BK450.out 7; have hfz42_8 := blk_frozen BK450.out 8; have hfz42_9 := blk_frozen BK450.out 9; obtain ⟨Ao43, co43, eo43⟩ := Kd.N_slice HO462.out; subst eo43) | ((with_reducible refine gate_callee (f := 18) rfl ?_); refine goesL_ (some 27) rfl rfl Tryd.func18 (by kernel_rfl) rfl #[.agg #[.bool a0_0, .bool a0_1, .bool a0_2, .bool a0_3, .bool a0_4, .bool a0_5, .bool a0_6, .int .i64 a0_7, .int .i64 a0_8, .int .i64 a0_9], .slice Ao43 y460.length co43] rfl (by (try simp only [List.map_toArray, List.map_cons, List.map_nil]); first | done | rfl | (simp only [List.length_drop, List.length_take]; rfl)) ?_; (with_reducible refine (style_Apply.calls kj4 a0_0 a0_1 a0_2 a0_3 a0_4 a0_5 a0_6 a0_7 a0_8 a0_9 _ _ y460 t463 t464 t465 t466 t467 t468 t469 t470 t471 t472 _ ?side1 ?side2 A14.out).mono ?_); (case side1 => repeat (first | exact (Kd.N_reads' HO462.out).2.2 | (with_reducible refine Kd.C_alloc ?_ _) | (with_reducible refine Kd.C_drewN ?_ _) | (with_reducible refine Kd.C_drew ?_))); (case side2 => exact (Kd.N_reads' HO462.out).2.1); rintro e w44 ⟨rfl, hb⟩; refine ⟨_, rfl, ?_⟩; have n0_ := Aside0.mk (Kd.V_below (by (with_reducible repeat (first | apply Kd.V_alloc | apply Kd.V_drewN | apply Kd.V_drew)); exact HO_1.out) hb); have n1_ := Aside0.mk (Kd.V_below (by (with_reducible repeat (first | apply Kd.V_alloc | apply Kd.V_drewN | apply Kd.V_drew)); exact HO_2.out) hb); have n2_ := Aside0.mk (Kd.N_below (by (with_reducible repeat (first | apply Kd.N_alloc | apply Kd.N_drewN | apply Kd.N_drew)); exact HO462.out) hb); have n3_ := Aside0.mk (blk_below (g := gb450) (o := .cells #[.bool a0_0, .bool a0_1, .bool a0_2, .bool a0_3, .bool a0_4, .bool a0_5, .bool a0_6, .int .i64 a0_7, .int .i64 a0_8, .int .i64 a0_9] 23 (0, 0)) (by (with_reducible repeat (first | refine blk_drewN ?_ _ | refine blk_drew ?_ | refine blk_alloc ?_ _)); exact BK450.out) hb); have n4_ := Aside0.mk (below_step (by repeat (first | (with_reducible first | exact HB.out | apply below_alloc | apply pw_below_drewN | apply below_drew1 | refine below_set ?_ GE450.out) | exact HB.out)) hb); clear HO_1; clear HO_2; clear HO462; clear BK450; clear HB; have HO_1 := n0_; have HO_2 := n1_; have HO462 := n2_; have BK450 := n3_; have HB := n4_; clear n0_ n1_ n2_ n3_ n4_; (try clear hb); (try clear hb2); (try clear hk); (try clear hi)) | ((with_reducible refine gate_dst (N := 9) rfl ?_); refine box_event ?hg (N := 9) ?hd (cs := #[.bool false, .bool false, .bool false, .bool false, .bool false, .bool false, .bool false, .int .i64 0, .int .i64 0, .int .i64 0]) (t := 23) ?hr ?_; (case hd => rfl); (case hg => rfl); (case hr => first | (go_simp; done) | (go_simp; rfl)); intro gb473 hg w45 hbox hb; have n0_ := Aside0.mk (Kd.V_below (Kd.V_elderB (by (with_reducible repeat (first | apply Kd.V_alloc | apply Kd.V_drewN | apply Kd.V_drew)); exact HO_1.out) gb473 (Nat.le_of_eq hg.symm)) hb); have n1_ := Aside0.mk (Kd.V_below (Kd.V_elderB (by (with_reducible repeat (first | apply Kd.V_alloc | apply Kd.V_drewN | apply Kd.V_drew)); exact HO_2.out) gb473 (Nat.le_of_eq hg.symm)) hb); have n2_ := Aside0.mk (Kd.N_below (Kd.N_elderB (by (with_reducible repeat (first | apply Kd.N_alloc | apply Kd.N_drewN | apply Kd.N_drew)); exact HO462.out) gb473 (Nat.le_of_eq hg.symm)) hb); have n3_ := Aside0.mk (blk_below (g := gb450) (o := .cells #[.bool a0_0, .bool a0_1, .bool a0_2, .bool a0_3, .bool a0_4, .bool a0_5, .bool a0_6, .int .i64 a0_7, .int .i64 a0_8, .int .i64 a0_9] 23 (0, 0)) (by (with_reducible repeat (first | refine blk_drewN ?_ _ | refine blk_drew ?_ | refine blk_alloc ?_ _)); exact BK450.out) hb); have n4_ := Aside0.mk (below_step (by repeat (first | (with_reducible first | exact HB.out | apply below_alloc | apply pw_below_drewN | apply below_drew1 | refine below_set ?_ GE450.out) | exact HB.out)) hb); have n5_ := Aside0.mk (hbox); have n6_ := Aside0.mk ((by rw [hg]; exact (below_size (by repeat (first | (with_reducible first | exact HB.out | apply below_alloc | apply pw_below_drewN | apply below_drew1 | refine below_set ?_ GE450.out) | exact HB.out))) : w.heap.size ≤ gb473)); have n7_ := Aside0.mk ((by rw [hg]; exact (below_size (by repeat (first | (with_reducible first | exact HB.out | apply below_alloc | apply pw_below_drewN | apply below_drew1 | refine below_set ?_ GE450.out) | exact HB.out))) : w.heap.size ≤ gb473)); have n8_ := Aside0.mk ((by rw [hg]; exact Nat.ne_of_lt (blk_lt (g := gb450) (o := .cells #[.bool a0_0, .bool a0_1, .bool a0_2, .bool a0_3, .bool a0_4, .bool a0_5, .bool a0_6, .int .i64 a0_7, .int .i64 a0_8, .int .i64 a0_9] 23 (0, 0)) (by (with_reducible repeat (first | refine blk_drewN ?_ _ | refine blk_drew ?_ | refine blk_alloc ?_ _)); exact BK450.out)) : gb450 ≠ gb473)); have n9_ := Aside0.mk ((by rw [hg]; exact Nat.ne_of_gt (blk_lt (g := gb450) (o := .cells #[.bool a0_0, .bool a0_1, .bool a0_2, .bool a0_3, .bool a0_4, .bool a0_5, .bool a0_6, .int .i64 a0_7, .int .i64 a0_8, .int .i64 a0_9] 23 (0, 0)) (by (with_reducible repeat (first | refine blk_drewN ?_ _ | refine blk_drew ?_ | refine blk_alloc ?_ _)); exact BK450.out)) : gb473 ≠ gb450)); clear HO_1; clear HO_2; clear HO462; clear BK450; clear HB; have HO_1 := n0_; have HO_2 := n1_; have HO462 := n2_; have BK450 := n3_; have HB := n4_; have BK473 := n5_; have GW473 := n6_; have GE473 := n7_; have NB450_473 := n8_; have NB473_450 := n9_; clear n0_ n1_ n2_ n3_ n4_ n5_ n6_ n7_ n8_ n9_; clear hb hbox hg; have hnb46 := NB473_450.out; have hnc46 := NB450_473.out; have hcz47_0 : w45.cell? ⟨gb473, 0, none⟩ = some (.bool false) := (blk_cell BK473.out 0).trans rfl; have hcz47_1 : w45.cell? ⟨gb473, 1, none⟩ = some (.bool false) := (blk_cell BK473.out 1).trans rfl; have hcz47_2 : w45.cell? ⟨gb473, 2, none⟩ = some (.bool false) := (blk_cell BK473.out 2).trans rfl; have hcz47_3 : w45.cell? ⟨gb473, 3, none⟩ = some (.bool false) := (blk_cell BK473.out 3).trans rfl; have hcz47_4 : w45.cell? ⟨gb473, 4, none⟩ = some (.bool false) := (blk_cell BK473.out 4).trans rfl; have hcz47_5 : w45.cell? ⟨gb473, 5, none⟩ = some (.bool false) := (blk_cell BK473.out 5).trans rfl; have hcz47_6 : w45.cell? ⟨gb473, 6, none⟩ = some (.bool false) := (blk_cell BK473.out 6).trans rfl; have hcz47_7 : w45.cell? ⟨gb473, 7, none⟩ = some (.int .i64 0) := (blk_cell BK473.out 7).trans rfl; have hcz47_8 : w45.cell? ⟨gb473, 8, none⟩ = some (.int .i64 0) := (blk_cell BK473.out 8).trans rfl; have hcz47_9 : w45.cell? ⟨gb473, 9, none⟩ = some (.int .i64 0) := (blk_cell BK473.out 9).trans rfl; have hfz47_0 := blk_frozen BK473.out 0; have hfz47_1 := blk_frozen BK473.out 1; have hfz47_2 := blk_frozen BK473.out 2; have hfz47_3 := blk_frozen BK473.out 3; have hfz47_4 := blk_frozen BK473.out 4; have hfz47_5 := blk_frozen BK473.out 5; have hfz47_6 := blk_frozen BK473.out 6; have hfz47_7 := blk_frozen BK473.out 7; have hfz47_8 := blk_frozen BK473.out 8; have hfz47_9 := blk_frozen BK473.out 9))
                  have n0_ : Aside0 (Kd.V (Kd.slice 3 (Kd.int .i64)) 35 ((((((((((w45.setCell ⟨gb473, 0, none⟩ (.bool t463)).setCell ⟨gb473, 1, none⟩ (.bool t464)).setCell ⟨gb473, 2, none⟩ (.bool t465)).setCell ⟨gb473, 3, none⟩ (.bool t466)).setCell ⟨gb473, 4, none⟩ (.bool t467)).setCell ⟨gb473, 5, none⟩ (.bool t468)).setCell ⟨gb473, 6, none⟩ (.bool t469)).setCell ⟨gb473, 7, none⟩ (.int .i64 t470)).setCell ⟨gb473, 8, none⟩ (.int .i64 t471)).setCell ⟨gb473, 9, none⟩ (.int .i64 t472)) w.heap.size (fun k_ => ((P1_ k_ ∨ P2_ k_) ∨ w.heap.size ≤ k_) ∧ some k_ ≠ (.slice Ao43 y460.length co43 : Value).ownBlock ∧ k_ ≠ gb450 ∧ k_ ≠ gb473) (.slice A1 l1.length c1) l1) := ⟨by (with_reducible repeat (first | apply Kd.V_alloc | apply Kd.V_drewN | apply Kd.V_drew)); exact Kd.V_mono (Kd.V_far (p := ⟨gb473, 9, none⟩) (Kd.V_far (p := ⟨gb473, 8, none⟩) (Kd.V_far (p := ⟨gb473, 7, none⟩) (Kd.V_far (p := ⟨gb473, 6, none⟩) (Kd.V_far (p := ⟨gb473, 5, none⟩) (Kd.V_far (p := ⟨gb473, 4, none⟩) (Kd.V_far (p := ⟨gb473, 3, none⟩) (Kd.V_far (p := ⟨gb473, 2, none⟩) (Kd.V_far (p := ⟨gb473, 1, none⟩) (Kd.V_far (p := ⟨gb473, 0, none⟩) (Kd.V_mono HO_1.out (fun k_ hk => (⟨hk, hk.2⟩ : _ ∧ k_ ≠ gb473))) (fun _ hk => hk.2) (.bool t463)) (fun _ hk => hk.2) (.bool t464)) (fun _ hk => hk.2) (.bool t465)) (fun _ hk => hk.2) (.bool t466)) (fun _ hk => hk.2) (.bool t467)) (fun _ hk => hk.2) (.bool t468)) (fun _ hk => hk.2) (.bool t469)) (fun _ hk => hk.2) (.int .i64 t470)) (fun _ hk => hk.2) (.int .i64 t471)) (fun _ hk => hk.2) (.int .i64 t472)) (fun _ hk => ⟨hk.1.1.1.1, ⟨hk.1.1.2, ⟨hk.1.1.1.2, hk.1.2⟩⟩⟩)⟩
                  have n1_ : Aside0 (Kd.V (Kd.slice 3 (Kd.int .i64)) 35 ((((((((((w45.setCell ⟨gb473, 0, none⟩ (.bool t463)).setCell ⟨gb473, 1, none⟩ (.bool t464)).setCell ⟨gb473, 2, none⟩ (.bool t465)).setCell ⟨gb473, 3, none⟩ (.bool t466)).setCell ⟨gb473, 4, none⟩ (.bool t467)).setCell ⟨gb473, 5, none⟩ (.bool t468)).setCell ⟨gb473, 6, none⟩ (.bool t469)).setCell ⟨gb473, 7, none⟩ (.int .i64 t470)).setCell ⟨gb473, 8, none⟩ (.int .i64 t471)).setCell ⟨gb473, 9, none⟩ (.int .i64 t472)) w.heap.size (fun k_ => ((P1_ k_ ∨ P2_ k_) ∨ w.heap.size ≤ k_) ∧ some k_ ≠ (.slice Ao43 y460.length co43 : Value).ownBlock ∧ k_ ≠ gb450 ∧ k_ ≠ gb473) (.slice A2 l2.length c2) l2) := ⟨by (with_reducible repeat (first | apply Kd.V_alloc | apply Kd.V_drewN | apply Kd.V_drew)); exact Kd.V_mono (Kd.V_far (p := ⟨gb473, 9, none⟩) (Kd.V_far (p := ⟨gb473, 8, none⟩) (Kd.V_far (p := ⟨gb473, 7, none⟩) (Kd.V_far (p := ⟨gb473, 6, none⟩) (Kd.V_far (p := ⟨gb473, 5, none⟩) (Kd.V_far (p := ⟨gb473, 4, none⟩) (Kd.V_far (p := ⟨gb473, 3, none⟩) (Kd.V_far (p := ⟨gb473, 2, none⟩) (Kd.V_far (p := ⟨gb473, 1, none⟩) (Kd.V_far (p := ⟨gb473, 0, none⟩) (Kd.V_mono HO_2.out (fun k_ hk => (⟨hk, hk.2⟩ : _ ∧ k_ ≠ gb473))) (fun _ hk => hk.2) (.bool t463)) (fun _ hk => hk.2) (.bool t464)) (fun _ hk => hk.2) (.bool t465)) (fun _ hk => hk.2) (.bool t466)) (fun _ hk => hk.2) (.bool t467)) (fun _ hk => hk.2) (.bool t468)) (fun _ hk => hk.2) (.bool t469)) (fun _ hk => hk.2) (.int .i64 t470)) (fun _ hk => hk.2) (.int .i64 t471)) (fun _ hk => hk.2) (.int .i64 t472)) (fun _ hk => ⟨hk.1.1.1.1, ⟨hk.1.1.2, ⟨hk.1.1.1.2, hk.1.2⟩⟩⟩)⟩
                  have n2_ : Aside0 (Kd.N (Kd.slice 3 (Kd.int .i64)) 35 ((((((((((w45.setCell ⟨gb473, 0, none⟩ (.bool t463)).setCell ⟨gb473, 1, none⟩ (.bool t464)).setCell ⟨gb473, 2, none⟩ (.bool t465)).setCell ⟨gb473, 3, none⟩ (.bool t466)).setCell ⟨gb473, 4, none⟩ (.bool t467)).setCell ⟨gb473, 5, none⟩ (.bool t468)).setCell ⟨gb473, 6, none⟩ (.bool t469)).setCell ⟨gb473, 7, none⟩ (.int .i64 t470)).setCell ⟨gb473, 8, none⟩ (.int .i64 t471)).setCell ⟨gb473, 9, none⟩ (.int .i64 t472)) w.heap.size (fun k_ => ((P1_ k_ ∨ P2_ k_) ∨ w.heap.size ≤ k_) ∧ k_ ≠ gb450 ∧ k_ ≠ gb473) (.slice Ao43 y460.length co43) y460) := ⟨by (with_reducible repeat (first | apply Kd.N_alloc | apply Kd.N_drewN | apply Kd.N_drew)); exact Kd.N_mono (Kd.N_far (p := ⟨gb473, 9, none⟩) (Kd.N_far (p := ⟨gb473, 8, none⟩) (Kd.N_far (p := ⟨gb473, 7, none⟩) (Kd.N_far (p := ⟨gb473, 6, none⟩) (Kd.N_far (p := ⟨gb473, 5, none⟩) (Kd.N_far (p := ⟨gb473, 4, none⟩) (Kd.N_far (p := ⟨gb473, 3, none⟩) (Kd.N_far (p := ⟨gb473, 2, none⟩) (Kd.N_far (p := ⟨gb473, 1, none⟩) (Kd.N_far (p := ⟨gb473, 0, none⟩) (Kd.N_mono HO462.out (fun k_ hk => (⟨hk, hk.2⟩ : _ ∧ k_ ≠ gb473))) (fun _ hk => hk.2) (.bool t463)) (fun _ hk => hk.2) (.bool t464)) (fun _ hk => hk.2) (.bool t465)) (fun _ hk => hk.2) (.bool t466)) (fun _ hk => hk.2) (.bool t467)) (fun _ hk => hk.2) (.bool t468)) (fun _ hk => hk.2) (.bool t469)) (fun _ hk => hk.2) (.int .i64 t470)) (fun _ hk => hk.2) (.int .i64 t471)) (fun _ hk => hk.2) (.int .i64 t472)) (fun _ hk => ⟨hk.1.1.1, ⟨hk.1.1.2, hk.1.2⟩⟩)⟩
                  have n3_ : Aside0 (((((((((((w45.setCell ⟨gb473, 0, none⟩ (.bool t463)).setCell ⟨gb473, 1, none⟩ (.bool t464)).setCell ⟨gb473, 2, none⟩ (.bool t465)).setCell ⟨gb473, 3, none⟩ (.bool t466)).setCell ⟨gb473, 4, none⟩ (.bool t467)).setCell ⟨gb473, 5, none⟩ (.bool t468)).setCell ⟨gb473, 6, none⟩ (.bool t469)).setCell ⟨gb473, 7, none⟩ (.int .i64 t470)).setCell ⟨gb473, 8, none⟩ (.int .i64 t471)).setCell ⟨gb473, 9, none⟩ (.int .i64 t472)).heap[gb450]? = some (.cells #[.bool a0_0, .bool a0_1, .bool a0_2, .bool a0_3, .bool a0_4, .bool a0_5, .bool a0_6, .int .i64 a0_7, .int .i64 a0_8, .int .i64 a0_9] 23 (0, 0))) := ⟨by (with_reducible repeat (first | refine blk_drewN ?_ _ | refine blk_drew ?_ | refine blk_alloc ?_ _)); refine blk_far ?_ NB450_473.out _; (with_reducible repeat (first | refine blk_drewN ?_ _ | refine blk_drew ?_ | refine blk_alloc ?_ _)); refine blk_far ?_ NB450_473.out _; (with_reducible repeat (first | refine blk_drewN ?_ _ | refine blk_drew ?_ | refine blk_alloc ?_ _)); refine blk_far ?_ NB450_473.out _; (with_reducible repeat (first | refine blk_drewN ?_ _ | refine blk_drew ?_ | refine blk_alloc ?_ _)); refine blk_far ?_ NB450_473.out _; (with_reducible repeat (first | refine blk_drewN ?_ _ | refine blk_drew ?_ | refine blk_alloc ?_ _)); refine blk_far ?_ NB450_473.out _; (with_reducible repeat (first | refine blk_drewN ?_ _ | refine blk_drew ?_ | refine blk_alloc ?_ _)); refine blk_far ?_ NB450_473.out _; (with_reducible repeat (first | refine blk_drewN ?_ _ | refine blk_drew ?_ | refine blk_alloc ?_ _)); refine blk_far ?_ NB450_473.out _; (with_reducible repeat (first | refine blk_drewN ?_ _ | refine blk_drew ?_ | refine blk_alloc ?_ _)); refine blk_far ?_ NB450_473.out _; (with_reducible repeat (first | refine blk_drewN ?_ _ | refine blk_drew ?_ | refine blk_alloc ?_ _)); refine blk_far ?_ NB450_473.out _; (with_reducible repeat (first | refine blk_drewN ?_ _ | refine blk_drew ?_ | refine blk_alloc ?_ _)); refine blk_far ?_ NB450_473.out _; (with_reducible repeat (first | refine blk_drewN ?_ _ | refine blk_drew ?_ | refine blk_alloc ?_ _)); exact BK450.out⟩
                  have n4_ : Aside0 (((((((((((w45.setCell ⟨gb473, 0, none⟩ (.bool t463)).setCell ⟨gb473, 1, none⟩ (.bool t464)).setCell ⟨gb473, 2, none⟩ (.bool t465)).setCell ⟨gb473, 3, none⟩ (.bool t466)).setCell ⟨gb473, 4, none⟩ (.bool t467)).setCell ⟨gb473, 5, none⟩ (.bool t468)).setCell ⟨gb473, 6, none⟩ (.bool t469)).setCell ⟨gb473, 7, none⟩ (.int .i64 t470)).setCell ⟨gb473, 8, none⟩ (.int .i64 t471)).setCell ⟨gb473, 9, none⟩ (.int .i64 t472)).heap[gb473]? = some (.cells #[.bool t463, .bool t464, .bool t465, .bool t466, .bool t467, .bool t468, .bool t469, .int .i64 t470, .int .i64 t471, .int .i64 t472] 23 (0, 0))) := ⟨by (with_reducible repeat (first | refine blk_drewN ?_ _ | refine blk_drew ?_ | refine blk_alloc ?_ _)); refine blk_put (cs := #[.bool t463, .bool t464, .bool t465, .bool t466, .bool t467, .bool t468, .bool t469, .int .i64 t470, .int .i64 t471, .int .i64 0]) ?_ 9 _ rfl; (with_reducible repeat (first | refine blk_drewN ?_ _ | refine blk_drew ?_ | refine blk_alloc ?_ _)); refine blk_put (cs := #[.bool t463, .bool t464, .bool t465, .bool t466, .bool t467, .bool t468, .bool t469, .int .i64 t470, .int .i64 0, .int .i64 0]) ?_ 8 _ rfl; (with_reducible repeat (first | refine blk_drewN ?_ _ | refine blk_drew ?_ | refine blk_alloc ?_ _)); refine blk_put (cs := #[.bool t463, .bool t464, .bool t465, .bool t466, .bool t467, .bool t468, .bool t469, .int .i64 0, .int .i64 0, .int .i64 0]) ?_ 7 _ rfl; (with_reducible repeat (first | refine blk_drewN ?_ _ | refine blk_drew ?_ | refine blk_alloc ?_ _)); refine blk_put (cs := #[.bool t463, .bool t464, .bool t465, .bool t466, .bool t467, .bool t468, .bool false, .int .i64 0, .int .i64 0, .int .i64 0]) ?_ 6 _ rfl; (with_reducible repeat (first | refine blk_drewN ?_ _ | refine blk_drew ?_ | refine blk_alloc ?_ _)); refine blk_put (cs := #[.bool t463, .bool t464, .bool t465, .bool t466, .bool t467, .bool false, .bool false, .int .i64 0, .int .i64 0, .int .i64 0]) ?_ 5 _ rfl; (with_reducible repeat (first | refine blk_drewN ?_ _ | refine blk_drew ?_ | refine blk_alloc ?_ _)); refine blk_put (cs := #[.bool t463, .bool t464, .bool t465, .bool t466, .bool false, .bool false, .bool false, .int .i64 0, .int .i64 0, .int .i64 0]) ?_ 4 _ rfl; (with_reducible repeat (first | refine blk_drewN ?_ _ | refine blk_drew ?_ | refine blk_alloc ?_ _)); refine blk_put (cs := #[.bool t463, .bool t464, .bool t465, .bool false, .bool false, .bool false, .bool false, .int .i64 0, .int .i64 0, .int .i64 0]) ?_ 3 _ rfl; (with_reducible repeat (first | refine blk_drewN ?_ _ | refine blk_drew ?_ | refine blk_alloc ?_ _)); refine blk_put (cs := #[.bool t463, .bool t464, .bool false, .bool false, .bool false, .bool false, .bool false, .int .i64 0, .int .i64 0, .int .i64 0]) ?_ 2 _ rfl; (with_reducible repeat (first | refine blk_drewN ?_ _ | refine blk_drew ?_ | refine blk_alloc ?_ _)); refine blk_put (cs := #[.bool t463, .bool false, .bool false, .bool false, .bool false, .bool false, .bool false, .int .i64 0, .int .i64 0, .int .i64 0]) ?_ 1 _ rfl; (with_reducible repeat (first | refine blk_drewN ?_ _ | refine blk_drew ?_ | refine blk_alloc ?_ _)); refine blk_put (cs := #[.bool false, .bool false, .bool false, .bool false, .bool false, .bool false, .bool false, .int .i64 0, .int .i64 0, .int .i64 0]) ?_ 0 _ rfl; (with_reducible repeat (first | refine blk_drewN ?_ _ | refine blk_drew ?_ | refine blk_alloc ?_ _)); exact BK473.out⟩
                  have n5_ : Aside0 (Below w.heap.size w ((((((((((w45.setCell ⟨gb473, 0, none⟩ (.bool t463)).setCell ⟨gb473, 1, none⟩ (.bool t464)).setCell ⟨gb473, 2, none⟩ (.bool t465)).setCell ⟨gb473, 3, none⟩ (.bool t466)).setCell ⟨gb473, 4, none⟩ (.bool t467)).setCell ⟨gb473, 5, none⟩ (.bool t468)).setCell ⟨gb473, 6, none⟩ (.bool t469)).setCell ⟨gb473, 7, none⟩ (.int .i64 t470)).setCell ⟨gb473, 8, none⟩ (.int .i64 t471)).setCell ⟨gb473, 9, none⟩ (.int .i64 t472))) := ⟨by repeat (first | (with_reducible first | exact HB.out | apply below_alloc | apply pw_below_drewN | apply below_drew1 | refine below_set ?_ GE450.out | refine below_set ?_ GE473.out) | exact HB.out)⟩
                  (try clear HO_1)
                  (try clear HO_2)
                  (try clear HO462)
                  (try clear BK450)
                  (try clear BK473)
                  (try clear HB)
                  generalize ((((((((((w45.setCell ⟨gb473, 0, none⟩ (.bool t463)).setCell ⟨gb473, 1, none⟩ (.bool t464)).setCell ⟨gb473, 2, none⟩ (.bool t465)).setCell ⟨gb473, 3, none⟩ (.bool t466)).setCell ⟨gb473, 4, none⟩ (.bool t467)).setCell ⟨gb473, 5, none⟩ (.bool t468)).setCell ⟨gb473, 6, none⟩ (.bool t469)).setCell ⟨gb473, 7, none⟩ (.int .i64 t470)).setCell ⟨gb473, 8, none⟩ (.int .i64 t471)).setCell ⟨gb473, 9, none⟩ (.int .i64 t472)) = w48 at n0_ n1_ n2_ n3_ n4_ n5_ ⊢
                  have HO_1 := n0_
                  have HO_2 := n1_
                  have HO462 := n2_
                  have BK450 := n3_
                  have BK473 := n4_
                  have HB := n5_
                  clear n0_ n1_ n2_ n3_ n4_ n5_
                  have n0_ := Aside0.mk (Kd.V_drew HO_1.out)
                  have n1_ := Aside0.mk (Kd.V_drew HO_2.out)
                  have n2_ := Aside0.mk (Kd.N_drew HO462.out)
                  have n3_ := Aside0.mk (blk_drew BK450.out)
                  have n4_ := Aside0.mk (blk_drew BK473.out)
                  have n5_ := Aside0.mk (below_drew1 HB.out)
                  clear HO_1
                  clear HO_2
                  clear HO462
                  clear BK450
                  clear BK473
                  clear HB
                  have HO_1 := n0_
                  have HO_2 := n1_
                  have HO462 := n2_
                  have BK450 := n3_
                  have BK473 := n4_
                  have HB := n5_
                  clear n0_ n1_ n2_ n3_ n4_ n5_
                  refine start_ (n := 20) (S := fun w' => w'.cell? ⟨gb473, 0, none⟩ = some (.bool t463) ∧ w'.cell? ⟨gb473, 1, none⟩ = some (.bool t464) ∧ w'.cell? ⟨gb473, 2, none⟩ = some (.bool t465) ∧ w'.cell? ⟨gb473, 3, none⟩ = some (.bool t466) ∧ w'.cell? ⟨gb473, 4, none⟩ = some (.bool t467) ∧ w'.cell? ⟨gb473, 5, none⟩ = some (.bool t468) ∧ w'.cell? ⟨gb473, 6, none⟩ = some (.bool t469) ∧ w'.cell? ⟨gb473, 7, none⟩ = some (.int .i64 t470) ∧ w'.cell? ⟨gb473, 8, none⟩ = some (.int .i64 t471) ∧ w'.cell? ⟨gb473, 9, none⟩ = some (.int .i64 t472) ∧ w'.cell? ⟨gb450, 0, none⟩ = some (.bool a0_0) ∧ w'.cell? ⟨gb450, 1, none⟩ = some (.bool a0_1) ∧ w'.cell? ⟨gb450, 2, none⟩ = some (.bool a0_2) ∧ w'.cell? ⟨gb450, 3, none⟩ = some (.bool a0_3) ∧ w'.cell? ⟨gb450, 4, none⟩ = some (.bool a0_4) ∧ w'.cell? ⟨gb450, 5, none⟩ = some (.bool a0_5) ∧ w'.cell? ⟨gb450, 6, none⟩ = some (.bool a0_6) ∧ w'.cell? ⟨gb450, 7, none⟩ = some (.int .i64 a0_7) ∧ w'.cell? ⟨gb450, 8, none⟩ = some (.int .i64 a0_8) ∧ w'.cell? ⟨gb450, 9, none⟩ = some (.int .i64 a0_9)) (ds := []) #[false, false, false, false, false, false, false, false, false, false, false, false, false, false, false, false, false, false, false, false] (by kernel_rfl) rfl rfl ⟨(blk_cell BK473.out 0).trans rfl, (blk_cell BK473.out 1).trans rfl, (blk_cell BK473.out 2).trans rfl, (blk_cell BK473.out 3).trans rfl, (blk_cell BK473.out 4).trans rfl, (blk_cell BK473.out 5).trans rfl, (blk_cell BK473.out 6).trans rfl, (blk_cell BK473.out 7).trans rfl, (blk_cell BK473.out 8).trans rfl, (blk_cell BK473.out 9).trans rfl, (blk_cell BK450.out 0).trans rfl, (blk_cell BK450.out 1).trans rfl, (blk_cell BK450.out 2).trans rfl, (blk_cell BK450.out 3).trans rfl, (blk_cell BK450.out 4).trans rfl, (blk_cell BK450.out 5).trans rfl, (blk_cell BK450.out 6).trans rfl, (blk_cell BK450.out 7).trans rfl, (blk_cell BK450.out 8).trans rfl, (blk_cell BK450.out 9).trans rfl⟩ (fun hHeld => ?_); refine with_tabW clavierlaw18_StyleJoins.tab6 clavierlaw18_StyleJoins.bits6 (fun HT_ HW_ => ?_)
                  generalize w48.drew = w49 at HO_1 HO_2 HO462 BK450 BK473 HB hHeld ⊢
                  refine pure_ (i := 0) (N := some 28) (v := ?_) (a' := ?_) #[true, false, false, false, false, false, false, false, false, false, false, false, false, false, false, false, false, false, false, false] rfl rfl (any_of HT_.out (by kernel_rfl)) (fun _ _ _ h => h) (Or.inl ⟨by rfl, ?_⟩) ?_ ?_
                  rotate_left
                  · intro w'
                    go_simp
                    with_reducible rfl
                  rotate_left
                  · simp only [Act.put, List.setIfInBounds_toArray, List.set_cons_zero, List.set_cons_succ, i64_w, i32_w]
                    rfl
                  refine pure_ (i := 1) (N := some 29) (v := ?_) (a' := ?_) #[true, true, false, false, false, false, false, false, false, false, false, false, false, false, false, false, false, false, false, false] rfl rfl (any_of HT_.out (by kernel_rfl)) (fun _ _ _ h => h) (Or.inl ⟨by rfl, ?_⟩) ?_ ?_
                  rotate_left
                  · intro w'
                    go_simp
                    with_reducible rfl
                  rotate_left
                  · simp only [Act.put, List.setIfInBounds_toArray, List.set_cons_zero, List.set_cons_succ, i64_w, i32_w]
                    rfl
                  refine pure_ (i := 4) (N := some 32) (v := ?_) (a' := ?_) #[true, true, false, false, true, false, false, false, false, false, false, false, false, false, false, false, false, false, false, false] rfl rfl (any_of HT_.out (by kernel_rfl)) (fun _ _ _ h => h) (Or.inl ⟨by rfl, ?_⟩) ?_ ?_
                  rotate_left
                  · intro w'
                    go_simp
                    with_reducible rfl
                  rotate_left
                  · simp only [Act.put, List.setIfInBounds_toArray, List.set_cons_zero, List.set_cons_succ, i64_w, i32_w]
                    rfl
                  refine pure_ (i := 6) (N := some 34) (v := ?_) (a' := ?_) #[true, true, false, false, true, false, true, false, false, false, false, false, false, false, false, false, false, false, false, false] rfl rfl (any_of HT_.out (by kernel_rfl)) (fun _ _ _ h => h) (Or.inl ⟨by rfl, ?_⟩) ?_ ?_
                  rotate_left
                  · intro w'
                    go_simp
                    with_reducible rfl
                  rotate_left
                  · simp only [Act.put, List.setIfInBounds_toArray, List.set_cons_zero, List.set_cons_succ, i64_w, i32_w]
                    rfl
                  refine take_ (i := 2) (N := some 30) (v := ?_) (a' := ?_) #[true, true, true, false, true, false, true, false, false, false, false, false, false, false, false, false, false, false, false, false] rfl rfl (take_ofW HT_.out HW_.out (by kernel_rfl)) (fun _ _ _ h => h) (Or.inl ⟨by rfl, ?_⟩) hHeld ?_ ?_
                  rotate_left
                  · rintro w' ⟨s0, s1, s2, s3, s4, s5, s6, s7, s8, s9, s10, s11, s12, s13, s14, s15, s16, s17, s18, s19⟩
                    go_simp
                    with_reducible rfl
                  rotate_left
                  · simp only [Act.put, List.setIfInBounds_toArray, List.set_cons_zero, List.set_cons_succ, i64_w, i32_w]
                    rfl
                  refine take_ (i := 3) (N := some 31) (v := ?_) (a' := ?_) #[true, true, true, true, true, false, true, false, false, false, false, false, false, false, false, false, false, false, false, false] rfl rfl (take_ofW HT_.out HW_.out (by kernel_rfl)) (fun _ _ _ h => h) (Or.inl ⟨by rfl, ?_⟩) hHeld ?_ ?_
                  rotate_left
                  · rintro w' ⟨s0, s1, s2, s3, s4, s5, s6, s7, s8, s9, s10, s11, s12, s13, s14, s15, s16, s17, s18, s19⟩
                    go_simp
                    with_reducible rfl
                  rotate_left
                  · simp only [Act.put, List.setIfInBounds_toArray, List.set_cons_zero, List.set_cons_succ, i64_w, i32_w]
                    rfl
                  refine one_ (i := 5) (N := some 33) #[true, true, true, true, true, true, true, false, false, false, false, false, false, false, false, false, false, false, false, false] rfl rfl (one_of HT_.out (by kernel_rfl)) (by decide) (fun K hK => ?_)
                  refine goes_ Tryd.func18 (by kernel_rfl) rfl #[.agg #[.bool a0_0, .bool a0_1, .bool a0_2, .bool a0_3, .bool a0_4, .bool a0_5, .bool a0_6, .int .i64 a0_7, .int .i64 a0_8, .int .i64 a0_9], .slice A1 l1.length c1] (by rfl) rfl rfl (by (try simp only [List.map_toArray, List.map_cons, List.map_nil]); first | done | rfl | (simp only [List.length_drop, List.length_take]; rfl)) ?_
                  with_reducible refine (style_Apply.calls kj4 a0_0 a0_1 a0_2 a0_3 a0_4 a0_5 a0_6 a0_7 a0_8 a0_9 _ _ l1 t474 t475 t476 t477 t478 t479 t480 t481 t482 t483 _ ?side1 ?side2 A16.out).mono ?_
                  (case side1 => repeat (first | exact (Kd.V_reads' HO_1.out).2.2 | (with_reducible refine Kd.C_alloc ?_ _) | (with_reducible refine Kd.C_drewN ?_ _) | (with_reducible refine Kd.C_drew ?_)))
                  (case side2 => exact (Kd.V_reads' HO_1.out).2.1)
                  rintro e w50 ⟨rfl, hb⟩
                  refine ⟨_, rfl, ?_⟩
                  have n0_ := Aside0.mk (Kd.V_below (by (with_reducible repeat (first | apply Kd.V_alloc | apply Kd.V_drewN | apply Kd.V_drew)); exact HO_1.out) hb)
                  have n1_ := Aside0.mk (Kd.V_below (by (with_reducible repeat (first | apply Kd.V_alloc | apply Kd.V_drewN | apply Kd.V_drew)); exact HO_2.out) hb)
                  have n2_ := Aside0.mk (Kd.N_below (by (with_reducible repeat (first | apply Kd.N_alloc | apply Kd.N_drewN | apply Kd.N_drew)); exact HO462.out) hb)
                  have n3_ := Aside0.mk (blk_below (g := gb450) (o := .cells #[.bool a0_0, .bool a0_1, .bool a0_2, .bool a0_3, .bool a0_4, .bool a0_5, .bool a0_6, .int .i64 a0_7, .int .i64 a0_8, .int .i64 a0_9] 23 (0, 0)) (by (with_reducible repeat (first | refine blk_drewN ?_ _ | refine blk_drew ?_ | refine blk_alloc ?_ _)); exact BK450.out) hb)
                  have n4_ := Aside0.mk (blk_below (g := gb473) (o := .cells #[.bool t463, .bool t464, .bool t465, .bool t466, .bool t467, .bool t468, .bool t469, .int .i64 t470, .int .i64 t471, .int .i64 t472] 23 (0, 0)) (by (with_reducible repeat (first | refine blk_drewN ?_ _ | refine blk_drew ?_ | refine blk_alloc ?_ _)); exact BK473.out) hb)
                  have n5_ := Aside0.mk (below_step (by repeat (first | (with_reducible first | exact HB.out | apply below_alloc | apply pw_below_drewN | apply below_drew1 | refine below_set ?_ GE450.out | refine below_set ?_ GE473.out) | exact HB.out)) hb)
                  clear HO_1
                  clear HO_2
                  clear HO462
                  clear BK450
                  clear BK473
                  clear HB
                  have HO_1 := n0_
                  have HO_2 := n1_
                  have HO462 := n2_
                  have BK450 := n3_
                  have BK473 := n4_
                  have HB := n5_
                  clear n0_ n1_ n2_ n3_ n4_ n5_
                  (try clear hb)
                  (try clear hb2)
                  (try clear hk)
                  (try clear hi)
                  refine hK.out _ _ ⟨(blk_cell BK473.out 0).trans rfl, (blk_cell BK473.out 1).trans rfl, (blk_cell BK473.out 2).trans rfl, (blk_cell BK473.out 3).trans rfl, (blk_cell BK473.out 4).trans rfl, (blk_cell BK473.out 5).trans rfl, (blk_cell BK473.out 6).trans rfl, (blk_cell BK473.out 7).trans rfl, (blk_cell BK473.out 8).trans rfl, (blk_cell BK473.out 9).trans rfl, (blk_cell BK450.out 0).trans rfl, (blk_cell BK450.out 1).trans rfl, (blk_cell BK450.out 2).trans rfl, (blk_cell BK450.out 3).trans rfl, (blk_cell BK450.out 4).trans rfl, (blk_cell BK450.out 5).trans rfl, (blk_cell BK450.out 6).trans rfl, (blk_cell BK450.out 7).trans rfl, (blk_cell BK450.out 8).trans rfl, (blk_cell BK450.out 9).trans rfl⟩ (fun hHeld => ?_)
                  clear hK K
                  refine norm_ (a' := ?_) ?_ ?_
                  rotate_left
                  · show Act.put _ (some 33) _ = _
                    simp only [Act.put, List.setIfInBounds_toArray, List.set_cons_zero, List.set_cons_succ, i64_w, i32_w]
                    rfl
                  refine one_ (i := 7) (N := some 35) #[true, true, true, true, true, true, true, true, false, false, false, false, false, false, false, false, false, false, false, false] rfl rfl (one_of HT_.out (by kernel_rfl)) (by decide) (fun K hK => ?_)
                  refine goes_ Tryd.func18 (by kernel_rfl) rfl #[.agg #[.bool t474, .bool t475, .bool t476, .bool t477, .bool t478, .bool t479, .bool t480, .int .i64 t481, .int .i64 t482, .int .i64 t483], .slice A2 l2.length c2] (by rfl) rfl rfl (by (try simp only [List.map_toArray, List.map_cons, List.map_nil]); first | done | rfl | (simp only [List.length_drop, List.length_take]; rfl)) ?_
                  with_reducible refine (style_Apply.calls kj4 t474 t475 t476 t477 t478 t479 t480 t481 t482 t483 _ _ l2 t484 t485 t486 t487 t488 t489 t490 t491 t492 t493 _ ?side1 ?side2 A17.out).mono ?_
                  (case side1 => repeat (first | exact (Kd.V_reads' HO_2.out).2.2 | (with_reducible refine Kd.C_alloc ?_ _) | (with_reducible refine Kd.C_drewN ?_ _) | (with_reducible refine Kd.C_drew ?_)))
                  (case side2 => exact (Kd.V_reads' HO_2.out).2.1)
                  rintro e w51 ⟨rfl, hb⟩
                  refine ⟨_, rfl, ?_⟩
                  have n0_ := Aside0.mk (Kd.V_below (by (with_reducible repeat (first | apply Kd.V_alloc | apply Kd.V_drewN | apply Kd.V_drew)); exact HO_1.out) hb)
                  have n1_ := Aside0.mk (Kd.V_below (by (with_reducible repeat (first | apply Kd.V_alloc | apply Kd.V_drewN | apply Kd.V_drew)); exact HO_2.out) hb)
                  have n2_ := Aside0.mk (Kd.N_below (by (with_reducible repeat (first | apply Kd.N_alloc | apply Kd.N_drewN | apply Kd.N_drew)); exact HO462.out) hb)
                  have n3_ := Aside0.mk (blk_below (g := gb450) (o := .cells #[.bool a0_0, .bool a0_1, .bool a0_2, .bool a0_3, .bool a0_4, .bool a0_5, .bool a0_6, .int .i64 a0_7, .int .i64 a0_8, .int .i64 a0_9] 23 (0, 0)) (by (with_reducible repeat (first | refine blk_drewN ?_ _ | refine blk_drew ?_ | refine blk_alloc ?_ _)); exact BK450.out) hb)
                  have n4_ := Aside0.mk (blk_below (g := gb473) (o := .cells #[.bool t463, .bool t464, .bool t465, .bool t466, .bool t467, .bool t468, .bool t469, .int .i64 t470, .int .i64 t471, .int .i64 t472] 23 (0, 0)) (by (with_reducible repeat (first | refine blk_drewN ?_ _ | refine blk_drew ?_ | refine blk_alloc ?_ _)); exact BK473.out) hb)
                  have n5_ := Aside0.mk (below_step (by repeat (first | (with_reducible first | exact HB.out | apply below_alloc | apply pw_below_drewN | apply below_drew1 | refine below_set ?_ GE450.out | refine below_set ?_ GE473.out) | exact HB.out)) hb)
                  clear HO_1
                  clear HO_2
                  clear HO462
                  clear BK450
                  clear BK473
                  clear HB
                  have HO_1 := n0_
                  have HO_2 := n1_
                  have HO462 := n2_
                  have BK450 := n3_
                  have BK473 := n4_
                  have HB := n5_
                  clear n0_ n1_ n2_ n3_ n4_ n5_
                  (try clear hb)
                  (try clear hb2)
                  (try clear hk)
                  (try clear hi)
                  refine hK.out _ _ ⟨(blk_cell BK473.out 0).trans rfl, (blk_cell BK473.out 1).trans rfl, (blk_cell BK473.out 2).trans rfl, (blk_cell BK473.out 3).trans rfl, (blk_cell BK473.out 4).trans rfl, (blk_cell BK473.out 5).trans rfl, (blk_cell BK473.out 6).trans rfl, (blk_cell BK473.out 7).trans rfl, (blk_cell BK473.out 8).trans rfl, (blk_cell BK473.out 9).trans rfl, (blk_cell BK450.out 0).trans rfl, (blk_cell BK450.out 1).trans rfl, (blk_cell BK450.out 2).trans rfl, (blk_cell BK450.out 3).trans rfl, (blk_cell BK450.out 4).trans rfl, (blk_cell BK450.out 5).trans rfl, (blk_cell BK450.out 6).trans rfl, (blk_cell BK450.out 7).trans rfl, (blk_cell BK450.out 8).trans rfl, (blk_cell BK450.out 9).trans rfl⟩ (fun hHeld => ?_)
                  clear hK K
                  refine norm_ (a' := ?_) ?_ ?_
                  rotate_left
                  · show Act.put _ (some 35) _ = _
                    simp only [Act.put, List.setIfInBounds_toArray, List.set_cons_zero, List.set_cons_succ, i64_w, i32_w]
                    rfl
                  refine pure_ (i := 8) (N := some 36) (v := ?_) (a' := ?_) #[true, true, true, true, true, true, true, true, true, false, false, false, false, false, false, false, false, false, false, false] rfl rfl (any_of HT_.out (by kernel_rfl)) (fun _ _ _ h => h) (Or.inl ⟨by rfl, ?_⟩) ?_ ?_
                  rotate_left
                  · intro w'
                    go_simp
                    with_reducible rfl
                  rotate_left
                  · simp only [Act.put, List.setIfInBounds_toArray, List.set_cons_zero, List.set_cons_succ, i64_w, i32_w]
                    rfl
                  refine pure_ (i := 9) (N := some 37) (v := ?_) (a' := ?_) #[true, true, true, true, true, true, true, true, true, true, false, false, false, false, false, false, false, false, false, false] rfl rfl (any_of HT_.out (by kernel_rfl)) (fun _ _ _ h => h) (Or.inl ⟨by rfl, ?_⟩) ?_ ?_
                  rotate_left
                  · intro w'
                    go_simp
                    with_reducible rfl
                  rotate_left
                  · simp only [Act.put, List.setIfInBounds_toArray, List.set_cons_zero, List.set_cons_succ, i64_w, i32_w]
                    rfl
                  refine pure_ (i := 10) (N := some 38) (v := ?_) (a' := ?_) #[true, true, true, true, true, true, true, true, true, true, true, false, false, false, false, false, false, false, false, false] rfl rfl (any_of HT_.out (by kernel_rfl)) (fun _ _ _ h => h) (Or.inl ⟨by rfl, ?_⟩) ?_ ?_
                  rotate_left
                  · intro w'
                    go_simp
                    with_reducible rfl
                  rotate_left
                  · simp only [Act.put, List.setIfInBounds_toArray, List.set_cons_zero, List.set_cons_succ, i64_w, i32_w]
                    rfl
                  refine take_ (i := 11) (N := some 39) (v := ?_) (a' := ?_) #[true, true, true, true, true, true, true, true, true, true, true, true, false, false, false, false, false, false, false, false] rfl rfl (take_ofW HT_.out HW_.out (by kernel_rfl)) (fun _ _ _ h => h) (Or.inl ⟨by rfl, ?_⟩) hHeld ?_ ?_
                  rotate_left
                  · rintro w' ⟨s0, s1, s2, s3, s4, s5, s6, s7, s8, s9, s10, s11, s12, s13, s14, s15, s16, s17, s18, s19⟩
                    go_simp
                    with_reducible rfl
                  rotate_left
                  · simp only [Act.put, List.setIfInBounds_toArray, List.set_cons_zero, List.set_cons_succ, i64_w, i32_w]
                    rfl
                  refine one_ (i := 12) (N := some 40) #[true, true, true, true, true, true, true, true, true, true, true, true, true, false, false, false, false, false, false, false] rfl rfl (one_of HT_.out (by kernel_rfl)) (by decide) (fun K hK => ?_)
                  refine goes_ Tryd.func12 (by kernel_rfl) rfl #[.agg #[.bool a0_0, .bool a0_1, .bool a0_2, .bool a0_3, .bool a0_4, .bool a0_5, .bool a0_6, .int .i64 a0_7, .int .i64 a0_8, .int .i64 a0_9]] (by rfl) rfl rfl (by (try simp only [List.map_toArray, List.map_cons, List.map_nil]); first | done | rfl | (simp only [List.length_drop, List.length_take]; rfl)) ?_
                  with_reducible refine (style_May.calls a0_0 a0_1 a0_2 a0_3 a0_4 a0_5 a0_6 a0_7 a0_8 a0_9 false _ A19.out).mono ?_
                  rintro e w52 ⟨rfl, hb⟩
                  refine ⟨_, rfl, ?_⟩
                  have n0_ := Aside0.mk (Kd.V_below (by (with_reducible repeat (first | apply Kd.V_alloc | apply Kd.V_drewN | apply Kd.V_drew)); exact HO_1.out) hb)
                  have n1_ := Aside0.mk (Kd.V_below (by (with_reducible repeat (first | apply Kd.V_alloc | apply Kd.V_drewN | apply Kd.V_drew)); exact HO_2.out) hb)
                  have n2_ := Aside0.mk (Kd.N_below (by (with_reducible repeat (first | apply Kd.N_alloc | apply Kd.N_drewN | apply Kd.N_drew)); exact HO462.out) hb)
                  have n3_ := Aside0.mk (blk_below (g := gb450) (o := .cells #[.bool a0_0, .bool a0_1, .bool a0_2, .bool a0_3, .bool a0_4, .bool a0_5, .bool a0_6, .int .i64 a0_7, .int .i64 a0_8, .int .i64 a0_9] 23 (0, 0)) (by (with_reducible repeat (first | refine blk_drewN ?_ _ | refine blk_drew ?_ | refine blk_alloc ?_ _)); exact BK450.out) hb)
                  have n4_ := Aside0.mk (blk_below (g := gb473) (o := .cells #[.bool t463, .bool t464, .bool t465, .bool t466, .bool t467, .bool t468, .bool t469, .int .i64 t470, .int .i64 t471, .int .i64 t472] 23 (0, 0)) (by (with_reducible repeat (first | refine blk_drewN ?_ _ | refine blk_drew ?_ | refine blk_alloc ?_ _)); exact BK473.out) hb)
                  have n5_ := Aside0.mk (below_step (by repeat (first | (with_reducible first | exact HB.out | apply below_alloc | apply pw_below_drewN | apply below_drew1 | refine below_set ?_ GE450.out | refine below_set ?_ GE473.out) | exact HB.out)) hb)
                  clear HO_1
                  clear HO_2
                  clear HO462
                  clear BK450
                  clear BK473
                  clear HB
                  have HO_1 := n0_
                  have HO_2 := n1_
                  have HO462 := n2_
                  have BK450 := n3_
                  have BK473 := n4_
                  have HB := n5_
                  clear n0_ n1_ n2_ n3_ n4_ n5_
                  (try clear hb)
                  (try clear hb2)
                  (try clear hk)
                  (try clear hi)
                  refine hK.out _ _ ⟨(blk_cell BK473.out 0).trans rfl, (blk_cell BK473.out 1).trans rfl, (blk_cell BK473.out 2).trans rfl, (blk_cell BK473.out 3).trans rfl, (blk_cell BK473.out 4).trans rfl, (blk_cell BK473.out 5).trans rfl, (blk_cell BK473.out 6).trans rfl, (blk_cell BK473.out 7).trans rfl, (blk_cell BK473.out 8).trans rfl, (blk_cell BK473.out 9).trans rfl, (blk_cell BK450.out 0).trans rfl, (blk_cell BK450.out 1).trans rfl, (blk_cell BK450.out 2).trans rfl, (blk_cell BK450.out 3).trans rfl, (blk_cell BK450.out 4).trans rfl, (blk_cell BK450.out 5).trans rfl, (blk_cell BK450.out 6).trans rfl, (blk_cell BK450.out 7).trans rfl, (blk_cell BK450.out 8).trans rfl, (blk_cell BK450.out 9).trans rfl⟩ (fun hHeld => ?_)
                  clear hK K
                  refine norm_ (a' := ?_) ?_ ?_
                  rotate_left
                  · show Act.put _ (some 40) _ = _
                    simp only [Act.put, List.setIfInBounds_toArray, List.set_cons_zero, List.set_cons_succ, i64_w, i32_w]
                    rfl
                  refine pure_ (i := 13) (N := some 41) (v := ?_) (a' := ?_) #[true, true, true, true, true, true, true, true, true, true, true, true, true, true, false, false, false, false, false, false] rfl rfl (any_of HT_.out (by kernel_rfl)) (fun _ _ _ h => h) (Or.inl ⟨by rfl, ?_⟩) ?_ ?_
                  rotate_left
                  · intro w'
                    go_simp
                    with_reducible rfl
                  rotate_left
                  · simp only [Act.put, List.setIfInBounds_toArray, List.set_cons_zero, List.set_cons_succ, i64_w, i32_w]
                    rfl
                  refine pure_ (i := 14) (N := some 42) (v := ?_) (a' := ?_) #[true, true, true, true, true, true, true, true, true, true, true, true, true, true, true, false, false, false, false, false] rfl rfl (any_of HT_.out (by kernel_rfl)) (fun _ _ _ h => h) (Or.inl ⟨by rfl, ?_⟩) ?_ ?_
                  rotate_left
                  · intro w'
                    go_simp
                    with_reducible rfl
                  rotate_left
                  · simp only [Act.put, List.setIfInBounds_toArray, List.set_cons_zero, List.set_cons_succ, i64_w, i32_w]
                    rfl
                  refine pure_ (i := 15) (N := some 43) (v := undef) (a' := ?_) #[true, true, true, true, true, true, true, true, true, true, true, true, true, true, true, true, false, false, false, false] rfl rfl (any_of HT_.out (by kernel_rfl)) (fun _ _ _ h => h) (Or.inr ⟨by rfl, rfl⟩) ?_ ?_
                  rotate_left
                  · simp only [Act.put, List.setIfInBounds_toArray, List.set_cons_zero, List.set_cons_succ, i64_w, i32_w]
                    rfl
                  refine pure_ (i := 16) (N := some 44) (v := undef) (a' := ?_) #[true, true, true, true, true, true, true, true, true, true, true, true, true, true, true, true, true, false, false, false] rfl rfl (any_of HT_.out (by kernel_rfl)) (fun _ _ _ h => h) (Or.inr ⟨by rfl, rfl⟩) ?_ ?_
                  rotate_left
                  · simp only [Act.put, List.setIfInBounds_toArray, List.set_cons_zero, List.set_cons_succ, i64_w, i32_w]
                    rfl
                  refine pure_ (i := 17) (N := some 45) (v := ?_) (a' := ?_) #[true, true, true, true, true, true, true, true, true, true, true, true, true, true, true, true, true, true, false, false] rfl rfl (any_of HT_.out (by kernel_rfl)) (fun _ _ _ h => h) (Or.inl ⟨by rfl, ?_⟩) ?_ ?_
                  rotate_left
                  · intro w'
                    go_simp
                    with_reducible rfl
                  rotate_left
                  · simp only [Act.put, List.setIfInBounds_toArray, List.set_cons_zero, List.set_cons_succ, i64_w, i32_w]
                    rfl
                  refine pure_ (i := 18) (N := some 46) (v := ?_) (a' := ?_) #[true, true, true, true, true, true, true, true, true, true, true, true, true, true, true, true, true, true, true, false] rfl rfl (any_of HT_.out (by kernel_rfl)) (fun _ _ _ h => h) (Or.inl ⟨by rfl, ?_⟩) ?_ ?_
                  rotate_left
                  · intro w'
                    go_simp
                    with_reducible rfl
                  rotate_left
                  · simp only [Act.put, List.setIfInBounds_toArray, List.set_cons_zero, List.set_cons_succ, i64_w, i32_w]
                    rfl
                  refine pure_ (i := 19) (N := some 6) (v := ?_) (a' := ?_) #[true, true, true, true, true, true, true, true, true, true, true, true, true, true, true, true, true, true, true, true] rfl rfl (any_of HT_.out (by kernel_rfl)) (fun _ _ _ h => h) (Or.inl ⟨by rfl, ?_⟩) ?_ ?_
                  rotate_left
                  · intro w'
                    go_simp
                    with_reducible rfl
                  rotate_left
                  · simp only [Act.put, List.setIfInBounds_toArray, List.set_cons_zero, List.set_cons_succ, i64_w, i32_w]
                    rfl
                  refine done_ (done_of HT_.out (by kernel_rfl)) ?_
                  try go_wp2
                  go_ret
                  exact ⟨by first | rfl | (simp [errW_none, errW_some] <;> rfl) | (simp [*, errW_none, errW_some] <;> rfl), by repeat (first | (with_reducible first | exact HB.out | apply below_alloc | apply pw_below_drewN | apply below_drew1 | refine below_set ?_ GE450.out | refine below_set ?_ GE473.out) | exact HB.out)⟩
              · rw [if_neg c18] at H
                have c18b0 : (t463 == t484 && (t464 == t485 && (t465 == t486 && (t466 == t487 && (t467 == t488 && (t468 == t489 && (t469 == t490 && (t470 == t491 && (t471 == t492 && (t472 == t493)))))))))) = false := by simpa using c18
                (try (have c18b1 : decide (t463 = t484 && (t464 == t485 && (t465 == t486 && (t466 == t487 && (t467 == t488 && (t468 == t489 && (t469 == t490 && (t470 == t491 && (t471 == t492 && (t472 == t493)))))))))) = false := by simpa using c18))
                (try (have c18b2 : (t463 == t484 && (t464 == t485 && (t465 == t486 && (t466 == t487 && (t467 == t488 && (t468 == t489 && (t469 == t490 && (t470 == t491 && (t471 == t492 && (t472 == t493)))))))))) = false := by simpa using c18))
                (try (have c18b3 : ¬ (t463 = t484 && (t464 == t485 && (t465 == t486 && (t466 == t487 && (t467 == t488 && (t468 == t489 && (t469 == t490 && (t470 == t491 && (t471 == t492 && (t472 == t493)))))))))) := by simpa using c18))
                clear c18
                obtain rfl := Option.some.inj H
                try go_wp2_with (first | ((with_reducible refine gate_dst (N := 20) rfl ?_); refine Kd.N_lit (Kd.slice 3 (Kd.int .i64)) _ 35 ?hg (N' := 20) ?hd (xs := ([] : List (List Int))) (inner := []) (ok := (fun k_ => ((P1_ k_ ∨ P2_ k_) ∨ w.heap.size ≤ k_) ∧ k_ ≠ gb450)) (okp := (fun k_ => ((P1_ k_ ∨ P2_ k_) ∨ w.heap.size ≤ k_) ∧ k_ ≠ gb450)) ?hr ?hp (fun _ hk => hk) ((show ∀ k_, wc.heap.size ≤ k_ → (fun k_ => ((P1_ k_ ∨ P2_ k_) ∨ w.heap.size ≤ k_) ∧ k_ ≠ gb450) k_ from fun k_ hk => ⟨(.inr (Nat.le_trans (below_size (by repeat (first | (with_reducible first | exact HB.out | apply below_alloc | apply pw_below_drewN | apply below_drew1 | refine below_set ?_ GE450.out) | exact HB.out))) hk)), Kd.freshB (g := gb450) (o := .cells #[.bool a0_0, .bool a0_1, .bool a0_2, .bool a0_3, .bool a0_4, .bool a0_5, .bool a0_6, .int .i64 a0_7, .int .i64 a0_8, .int .i64 a0_9] 23 (0, 0)) (by (with_reducible repeat (first | refine blk_drewN ?_ _ | refine blk_drew ?_ | refine blk_alloc ?_ _)); exact BK450.out) k_ hk⟩) _ (Nat.le_refl _)) (Below.refl _ _) (Nat.le_refl _) (by simp) ?_; (case hd => rfl); (case hg => rfl); (case hr => first | (go_simp; done) | (go_simp; rfl)); (case hp => exact (Reps.none _ _)); intro v455 w53 ho54 hb hg_ hnew_; clear hg_ hnew_; (first | rw [← Ny454.out] at ho54 | (simp only [Int.reduceToNat] at ho54; rw [← Ny454.out] at ho54)); have n0_ := Aside0.mk (Kd.V_elder' (by (with_reducible repeat (first | apply Kd.V_alloc | apply Kd.V_drewN | apply Kd.V_drew)); exact HO_1.out) (Kd.N_base ho54) hb); have n1_ := Aside0.mk (Kd.V_elder' (by (with_reducible repeat (first | apply Kd.V_alloc | apply Kd.V_drewN | apply Kd.V_drew)); exact HO_2.out) (Kd.N_base ho54) hb); have n2_ := Aside0.mk (Kd.N_lower ho54 (below_size (by repeat (first | (with_reducible first | exact HB.out | apply below_alloc | apply pw_below_drewN | apply below_drew1 | refine below_set ?_ GE450.out) | exact HB.out)))); have n3_ := Aside0.mk (blk_below (g := gb450) (o := .cells #[.bool a0_0, .bool a0_1, .bool a0_2, .bool a0_3, .bool a0_4, .bool a0_5, .bool a0_6, .int .i64 a0_7, .int .i64 a0_8, .int .i64 a0_9] 23 (0, 0)) (by (with_reducible repeat (first | refine blk_drewN ?_ _ | refine blk_drew ?_ | refine blk_alloc ?_ _)); exact BK450.out) hb); have n4_ := Aside0.mk (below_step (by repeat (first | (with_reducible first | exact HB.out | apply below_alloc | apply pw_below_drewN | apply below_drew1 | refine below_set ?_ GE450.out) | exact HB.out)) hb); clear HO_1; clear HO_2; clear BK450; clear HB; have HO_1 := n0_; have HO_2 := n1_; have HO456 := n2_; have BK450 := n3_; have HB := n4_; clear n0_ n1_ n2_ n3_ n4_; clear hb ho54) | ((with_reducible refine gate_builtin (b := .append) (xs := #[.tmp 20, .tmp 21]) rfl ?_); at_builtin; refine Kd.N_append_rows (Kd.slice 3 (Kd.int .i64)) (w0 := w) w.heap.size rfl (.tmp 20) (.tmp 21) 25 35 (.slice none 0 0) 24 rfl Tryd.underlying25 info35 rfl (by decide) (by omega) v455 y454 l1 _ _ _ (fun k_ => ((P1_ k_ ∨ P2_ k_) ∨ w.heap.size ≤ k_) ∧ k_ ≠ gb450) (fun k_ => ((fun k_ => ((P1_ k_ ∨ P2_ k_) ∨ w.heap.size ≤ k_) ∧ k_ ≠ gb450)) k_ ∧ some k_ ≠ (v455 : Value).ownBlock) rfl rfl ?aO ?aR (fun _ hk => hk) ?aF ?aB ?aS ?aL ?_; (case aR => exact (by skip; exact Kd.V_F (Kd.V_mono (ok' := (fun k_ => ((fun k_ => ((P1_ k_ ∨ P2_ k_) ∨ w.heap.size ≤ k_) ∧ k_ ≠ gb450)) k_ ∧ some k_ ≠ (v455 : Value).ownBlock)) (HO_1.out) (fun k_ hk => ⟨⟨hk.1.1, hk.1.2⟩, hk.2⟩)))); (case aB => exact (by repeat (first | (with_reducible first | exact HB.out | apply below_alloc | apply pw_below_drewN | apply below_drew1 | refine below_set ?_ GE450.out) | exact HB.out))); (case aF => exact (fun k_ hk => ⟨(.inr (Nat.le_trans (below_size (by repeat (first | (with_reducible first | exact HB.out | apply below_alloc | apply pw_below_drewN | apply below_drew1 | refine below_set ?_ GE450.out) | exact HB.out))) hk)), Kd.freshB (g := gb450) (o := .cells #[.bool a0_0, .bool a0_1, .bool a0_2, .bool a0_3, .bool a0_4, .bool a0_5, .bool a0_6, .int .i64 a0_7, .int .i64 a0_8, .int .i64 a0_9] 23 (0, 0)) (by (with_reducible repeat (first | refine blk_drewN ?_ _ | refine blk_drew ?_ | refine blk_alloc ?_ _)); exact BK450.out) k_ hk⟩)); (case aO => exact (by (with_reducible repeat (first | apply Kd.N_alloc | apply Kd.N_drewN | apply Kd.N_drew)); exact HO456.out)); (case aS => exact (below_size (by repeat (first | (with_reducible first | exact HB.out | apply below_alloc | apply pw_below_drewN | apply below_drew1 | refine below_set ?_ GE450.out) | exact HB.out)))); (case aL => have := LMc12.out; omega); intro v458 w55 ho hb hg hat; rw [← Ny457.out] at ho; have n0_ := Aside0.mk (Kd.V_afterv (ok := (fun k_ => ((P1_ k_ ∨ P2_ k_) ∨ w.heap.size ≤ k_) ∧ k_ ≠ gb450)) (by (with_reducible repeat (first | apply Kd.V_alloc | apply Kd.V_drewN | apply Kd.V_drew)); exact HO_1.out) hg hat); have n1_ := Aside0.mk (Kd.V_afterv (ok := (fun k_ => ((P1_ k_ ∨ P2_ k_) ∨ w.heap.size ≤ k_) ∧ k_ ≠ gb450)) (by (with_reducible repeat (first | apply Kd.V_alloc | apply Kd.V_drewN | apply Kd.V_drew)); exact HO_2.out) hg hat); have n2_ := Aside0.mk (blk_grown (g := gb450) (o := .cells #[.bool a0_0, .bool a0_1, .bool a0_2, .bool a0_3, .bool a0_4, .bool a0_5, .bool a0_6, .int .i64 a0_7, .int .i64 a0_8, .int .i64 a0_9] 23 (0, 0)) (by (with_reducible repeat (first | refine blk_drewN ?_ _ | refine blk_drew ?_ | refine blk_alloc ?_ _)); exact BK450.out) hg (Kd.N_ne HO456.out BK450.out (by decide))); have n3_ := Aside0.mk (hb); have n4_ := Aside0.mk (ho); clear HO_1; clear HO_2; clear BK450; clear HB; clear HO456; have HO_1 := n0_; have HO_2 := n1_; have BK450 := n2_; have HB := n3_; have HO459 := n4_; clear n0_ n1_ n2_ n3_ n4_; clear ho hb hg hat) | ((with_reducible refine gate_builtin (b := .append) (xs := #[.tmp 22, .tmp 23]) rfl ?_); at_builtin; refine Kd.N_append_rows (Kd.slice 3 (Kd.int .i64)) (w0 := w) w.heap.size rfl (.tmp 22) (.tmp 23) 25 35 (.slice none 0 0) 24 rfl Tryd.underlying25 info35 rfl (by decide) (by omega) v458 y457 l2 _ _ _ (fun k_ => ((P1_ k_ ∨ P2_ k_) ∨ w.heap.size ≤ k_) ∧ k_ ≠ gb450) (fun k_ => ((fun k_ => ((P1_ k_ ∨ P2_ k_) ∨ w.heap.size ≤ k_) ∧ k_ ≠ gb450)) k_ ∧ some k_ ≠ (v458 : Value).ownBlock) rfl rfl ?aO ?aR (fun _ hk => hk) ?aF ?aB ?aS ?aL ?_; (case aR => exact (by skip; exact Kd.V_F (Kd.V_mono (ok' := (fun k_ => ((fun k_ => ((P1_ k_ ∨ P2_ k_) ∨ w.heap.size ≤ k_) ∧ k_ ≠ gb450)) k_ ∧ some k_ ≠ (v458 : Value).ownBlock)) (HO_2.out) (fun k_ hk => ⟨⟨hk.1.1, hk.1.2⟩, hk.2⟩)))); (case aB => exact (by repeat (first | (with_reducible first | exact HB.out | apply below_alloc | apply pw_below_drewN | apply below_drew1 | refine below_set ?_ GE450.out) | exact HB.out))); (case aF => exact (fun k_ hk => ⟨(.inr (Nat.le_trans (below_size (by repeat (first | (with_reducible first | exact HB.out | apply below_alloc | apply pw_below_drewN | apply below_drew1 | refine below_set ?_ GE450.out) | exact HB.out))) hk)), Kd.freshB (g := gb450) (o := .cells #[.bool a0_0, .bool a0_1, .bool a0_2, .bool a0_3, .bool a0_4, .bool a0_5, .bool a0_6, .int .i64 a0_7, .int .i64 a0_8, .int .i64 a0_9] 23 (0, 0)) (by (with_reducible repeat (first | refine blk_drewN ?_ _ | refine blk_drew ?_ | refine blk_alloc ?_ _)); exact BK450.out) k_ hk⟩)); (case aO => exact (by (with_reducible repeat (first | apply Kd.N_alloc | apply Kd.N_drewN | apply Kd.N_drew)); exact HO459.out)); (case aS => exact (below_size (by repeat (first | (with_reducible first | exact HB.out | apply below_alloc | apply pw_below_drewN | apply below_drew1 | refine below_set ?_ GE450.out) | exact HB.out)))); (case aL => have := LMc13.out; omega); intro v461 w56 ho hb hg hat; rw [← Ny460.out] at ho; have n0_ := Aside0.mk (Kd.V_afterv (ok := (fun k_ => ((P1_ k_ ∨ P2_ k_) ∨ w.heap.size ≤ k_) ∧ k_ ≠ gb450)) (by (with_reducible repeat (first | apply Kd.V_alloc | apply Kd.V_drewN | apply Kd.V_drew)); exact HO_1.out) hg hat); have n1_ := Aside0.mk (Kd.V_afterv (ok := (fun k_ => ((P1_ k_ ∨ P2_ k_) ∨ w.heap.size ≤ k_) ∧ k_ ≠ gb450)) (by (with_reducible repeat (first | apply Kd.V_alloc | apply Kd.V_drewN | apply Kd.V_drew)); exact HO_2.out) hg hat); have n2_ := Aside0.mk (blk_grown (g := gb450) (o := .cells #[.bool a0_0, .bool a0_1, .bool a0_2, .bool a0_3, .bool a0_4, .bool a0_5, .bool a0_6, .int .i64 a0_7, .int .i64 a0_8, .int .i64 a0_9] 23 (0, 0)) (by (with_reducible repeat (first | refine blk_drewN ?_ _ | refine blk_drew ?_ | refine blk_alloc ?_ _)); exact BK450.out) hg (Kd.N_ne HO459.out BK450.out (by decide))); have n3_ := Aside0.mk (hb); have n4_ := Aside0.mk (ho); clear HO_1; clear HO_2; clear BK450; clear HB; clear HO459; have HO_1 := n0_; have HO_2 := n1_; have BK450 := n2_; have HB := n3_; have HO462 := n4_; clear n0_ n1_ n2_ n3_ n4_; clear ho hb hg hat; have hcz57_0 : w56.cell? ⟨gb450, 0, none⟩ = some (.bool a0_0) := (blk_cell BK450.out 0).trans rfl; have hcz57_1 : w56.cell? ⟨gb450, 1, none⟩ = some (.bool a0_1) := (blk_cell BK450.out 1).trans rfl; have hcz57_2 : w56.cell? ⟨gb450, 2, none⟩ = some (.bool a0_2) := (blk_cell BK450.out 2).trans rfl; have hcz57_3 : w56.cell? ⟨gb450, 3, none⟩ = some (.bool a0_3) := (blk_cell BK450.out 3).trans rfl; have hcz57_4 : w56.cell? ⟨gb450, 4, none⟩ = some (.bool a0_4) := (blk_cell BK450.out 4).trans rfl; have hcz57_5 : w56.cell? ⟨gb450, 5, none⟩ = some (.bool a0_5) := (blk_cell BK450.out 5).trans rfl; have hcz57_6 : w56.cell? ⟨gb450, 6, none⟩ = some (.bool a0_6) := (blk_cell BK450.out 6).trans rfl; have hcz57_7 : w56.cell? ⟨gb450, 7, none⟩ = some (.int .i64 a0_7) := (blk_cell BK450.out 7).trans rfl; have hcz57_8 : w56.cell? ⟨gb450, 8, none⟩ = some (.int .i64 a0_8) := (blk_cell BK450.out 8).trans rfl; have hcz57_9 : w56.cell? ⟨gb450, 9, none⟩ = some (.int .i64 a0_9) := (blk_cell BK450.out 9).trans rfl; have hfz57_0 := blk_frozen BK450.out 0; have hfz57_1 := blk_frozen BK450.out 1; have hfz57_2 := blk_frozen BK450.out 2; have hfz57_3 := blk_frozen BK450.out 3; have hfz57_4 := blk_frozen BK450.out 4; have hfz57_5 := blk_frozen BK450.out 5; have hfz57_6 := blk_frozen BK450.out 6; have hfz57_7 := blk_frozen BK450.out 7; have hfz57_8 := blk_frozen BK450.out 8; have hfz57_9 := blk_frozen BK450.out 9; obtain ⟨Ao58, co58, eo58⟩ := Kd.N_slice HO462.out; subst eo58) | ((with_reducible refine gate_callee (f := 18) rfl ?_); refine goesL_ (some 27) rfl rfl Tryd.func18 (by kernel_rfl) rfl #[.agg #[.bool a0_0, .bool a0_1, .bool a0_2, .bool a0_3, .bool a0_4, .bool a0_5, .bool a0_6, .int .i64 a0_7, .int .i64 a0_8, .int .i64 a0_9], .slice Ao58 y460.length co58] rfl (by (try simp only [List.map_toArray, List.map_cons, List.map_nil]); first | done | rfl | (simp only [List.length_drop, List.length_take]; rfl)) ?_; (with_reducible refine (style_Apply.calls kj4 a0_0 a0_1 a0_2 a0_3 a0_4 a0_5 a0_6 a0_7 a0_8 a0_9 _ _ y460 t463 t464 t465 t466 t467 t468 t469 t470 t471 t472 _ ?side1 ?side2 A14.out).mono ?_); (case side1 => repeat (first | exact (Kd.N_reads' HO462.out).2.2 | (with_reducible refine Kd.C_alloc ?_ _) | (with_reducible refine Kd.C_drewN ?_ _) | (with_reducible refine Kd.C_drew ?_))); (case side2 => exact (Kd.N_reads' HO462.out).2.1); rintro e w59 ⟨rfl, hb⟩; refine ⟨_, rfl, ?_⟩; have n0_ := Aside0.mk (Kd.V_below (by (with_reducible repeat (first | apply Kd.V_alloc | apply Kd.V_drewN | apply Kd.V_drew)); exact HO_1.out) hb); have n1_ := Aside0.mk (Kd.V_below (by (with_reducible repeat (first | apply Kd.V_alloc | apply Kd.V_drewN | apply Kd.V_drew)); exact HO_2.out) hb); have n2_ := Aside0.mk (Kd.N_below (by (with_reducible repeat (first | apply Kd.N_alloc | apply Kd.N_drewN | apply Kd.N_drew)); exact HO462.out) hb); have n3_ := Aside0.mk (blk_below (g := gb450) (o := .cells #[.bool a0_0, .bool a0_1, .bool a0_2, .bool a0_3, .bool a0_4, .bool a0_5, .bool a0_6, .int .i64 a0_7, .int .i64 a0_8, .int .i64 a0_9] 23 (0, 0)) (by (with_reducible repeat (first | refine blk_drewN ?_ _ | refine blk_drew ?_ | refine blk_alloc ?_ _)); exact BK450.out) hb); have n4_ := Aside0.mk (below_step (by repeat (first | (with_reducible first | exact HB.out | apply below_alloc | apply pw_below_drewN | apply below_drew1 | refine below_set ?_ GE450.out) | exact HB.out)) hb); clear HO_1; clear HO_2; clear HO462; clear BK450; clear HB; have HO_1 := n0_; have HO_2 := n1_; have HO462 := n2_; have BK450 := n3_; have HB := n4_; clear n0_ n1_ n2_ n3_ n4_; (try clear hb); (try clear hb2); (try clear hk); (try clear hi)) | ((with_reducible refine gate_dst (N := 9) rfl ?_); refine box_event ?hg (N := 9) ?hd (cs := #[.bool false, .bool false, .bool false, .bool false, .bool false, .bool false, .bool false, .int .i64 0, .int .i64 0, .int .i64 0]) (t := 23) ?hr ?_; (case hd => rfl); (case hg => rfl); (case hr => first | (go_simp; done) | (go_simp; rfl)); intro gb473 hg w60 hbox hb; have n0_ := Aside0.mk (Kd.V_below (Kd.V_elderB (by (with_reducible repeat (first | apply Kd.V_alloc | apply Kd.V_drewN | apply Kd.V_drew)); exact HO_1.out) gb473 (Nat.le_of_eq hg.symm)) hb); have n1_ := Aside0.mk (Kd.V_below (Kd.V_elderB (by (with_reducible repeat (first | apply Kd.V_alloc | apply Kd.V_drewN | apply Kd.V_drew)); exact HO_2.out) gb473 (Nat.le_of_eq hg.symm)) hb); have n2_ := Aside0.mk (Kd.N_below (Kd.N_elderB (by (with_reducible repeat (first | apply Kd.N_alloc | apply Kd.N_drewN | apply Kd.N_drew)); exact HO462.out) gb473 (Nat.le_of_eq hg.symm)) hb); have n3_ := Aside0.mk (blk_below (g := gb450) (o := .cells #[.bool a0_0, .bool a0_1, .bool a0_2, .bool a0_3, .bool a0_4, .bool a0_5, .bool a0_6, .int .i64 a0_7, .int .i64 a0_8, .int .i64 a0_9] 23 (0, 0)) (by (with_reducible repeat (first | refine blk_drewN ?_ _ | refine blk_drew ?_ | refine blk_alloc ?_ _)); exact BK450.out) hb); have n4_ := Aside0.mk (below_step (by repeat (first | (with_reducible first | exact HB.out | apply below_alloc | apply pw_below_drewN | apply below_drew1 | refine below_set ?_ GE450.out) | exact HB.out)) hb); have n5_ := Aside0.mk (hbox); have n6_ := Aside0.mk ((by rw [hg]; exact (below_size (by repeat (first | (with_reducible first | exact HB.out | apply below_alloc | apply pw_below_drewN | apply below_drew1 | refine below_set ?_ GE450.out) | exact HB.out))) : w.heap.size ≤ gb473)); have n7_ := Aside0.mk ((by rw [hg]; exact (below_size (by repeat (first | (with_reducible first | exact HB.out | apply below_alloc | apply pw_below_drewN | apply below_drew1 | refine below_set ?_ GE450.out) | exact HB.out))) : w.heap.size ≤ gb473)); have n8_ := Aside0.mk ((by rw [hg]; exact Nat.ne_of_lt (blk_lt (g := gb450) (o := .cells #[.bool a0_0, .bool a0_1, .bool a0_2, .bool a0_3, .bool a0_4, .bool a0_5, .bool a0_6, .int .i64 a0_7, .int .i64 a0_8, .int .i64 a0_9] 23 (0, 0)) (by (with_reducible repeat (first | refine blk_drewN ?_ _ | refine blk_drew ?_ | refine blk_alloc ?_ _)); exact BK450.out)) : gb450 ≠ gb473)); have n9_ := Aside0.mk ((by rw [hg]; exact Nat.ne_of_gt (blk_lt (g := gb450) (o := .cells #[.bool a0_0, .bool a0_1, .bool a0_2, .bool a0_3, .bool a0_4, .bool a0_5, .bool a0_6, .int .i64 a0_7, .int .i64 a0_8, .int .i64 a0_9] 23 (0, 0)) (by (with_reducible repeat (first | refine blk_drewN ?_ _ | refine blk_drew ?_ | refine blk_alloc ?_ _)); exact BK450.out)) : gb473 ≠ gb450)); clear HO_1; clear HO_2; clear HO462; clear BK450; clear HB; have HO_1 := n0_; have HO_2 := n1_; have HO462 := n2_; have BK450 := n3_; have HB := n4_; have BK473 := n5_; have GW473 := n6_; have GE473 := n7_; have NB450_473 := n8_; have NB473_450 := n9_; clear n0_ n1_ n2_ n3_ n4_ n5_ n6_ n7_ n8_ n9_; clear hb hbox hg; have hnb61 := NB473_450.out; have hnc61 := NB450_473.out; have hcz62_0 : w60.cell? ⟨gb473, 0, none⟩ = some (.bool false) := (blk_cell BK473.out 0).trans rfl; have hcz62_1 : w60.cell? ⟨gb473, 1, none⟩ = some (.bool false) := (blk_cell BK473.out 1).trans rfl; have hcz62_2 : w60.cell? ⟨gb473, 2, none⟩ = some (.bool false) := (blk_cell BK473.out 2).trans rfl; have hcz62_3 : w60.cell? ⟨gb473, 3, none⟩ = some (.bool false) := (blk_cell BK473.out 3).trans rfl; have hcz62_4 : w60.cell? ⟨gb473, 4, none⟩ = some (.bool false) := (blk_cell BK473.out 4).trans rfl; have hcz62_5 : w60.cell? ⟨gb473, 5, none⟩ = some (.bool false) := (blk_cell BK473.out 5).trans rfl; have hcz62_6 : w60.cell? ⟨gb473, 6, none⟩ = some (.bool false) := (blk_cell BK473.out 6).trans rfl; have hcz62_7 : w60.cell? ⟨gb473, 7, none⟩ = some (.int .i64 0) := (blk_cell BK473.out 7).trans rfl; have hcz62_8 : w60.cell? ⟨gb473, 8, none⟩ = some (.int .i64 0) := (blk_cell BK473.out 8).trans rfl; have hcz62_9 : w60.cell? ⟨gb473, 9, none⟩ = some (.int .i64 0) := (blk_cell BK473.out 9).trans rfl; have hfz62_0 := blk_frozen BK473.out 0; have hfz62_1 := blk_frozen BK473.out 1; have hfz62_2 := blk_frozen BK473.out 2; have hfz62_3 := blk_frozen BK473.out 3; have hfz62_4 := blk_frozen BK473.out 4; have hfz62_5 := blk_frozen BK473.out 5; have hfz62_6 := blk_frozen BK473.out 6; have hfz62_7 := blk_frozen BK473.out 7; have hfz62_8 := blk_frozen BK473.out 8; have hfz62_9 := blk_frozen BK473.out 9))
                have n0_ : Aside0 (Kd.V (Kd.slice 3 (Kd.int .i64)) 35 ((((((((((w60.setCell ⟨gb473, 0, none⟩ (.bool t463)).setCell ⟨gb473, 1, none⟩ (.bool t464)).setCell ⟨gb473, 2, none⟩ (.bool t465)).setCell ⟨gb473, 3, none⟩ (.bool t466)).setCell ⟨gb473, 4, none⟩ (.bool t467)).setCell ⟨gb473, 5, none⟩ (.bool t468)).setCell ⟨gb473, 6, none⟩ (.bool t469)).setCell ⟨gb473, 7, none⟩ (.int .i64 t470)).setCell ⟨gb473, 8, none⟩ (.int .i64 t471)).setCell ⟨gb473, 9, none⟩ (.int .i64 t472)) w.heap.size (fun k_ => ((P1_ k_ ∨ P2_ k_) ∨ w.heap.size ≤ k_) ∧ some k_ ≠ (.slice Ao58 y460.length co58 : Value).ownBlock ∧ k_ ≠ gb450 ∧ k_ ≠ gb473) (.slice A1 l1.length c1) l1) := ⟨by (with_reducible repeat (first | apply Kd.V_alloc | apply Kd.V_drewN | apply Kd.V_drew)); exact Kd.V_mono (Kd.V_far (p := ⟨gb473, 9, none⟩) (Kd.V_far (p := ⟨gb473, 8, none⟩) (Kd.V_far (p := ⟨gb473, 7, none⟩) (Kd.V_far (p := ⟨gb473, 6, none⟩) (Kd.V_far (p := ⟨gb473, 5, none⟩) (Kd.V_far (p := ⟨gb473, 4, none⟩) (Kd.V_far (p := ⟨gb473, 3, none⟩) (Kd.V_far (p := ⟨gb473, 2, none⟩) (Kd.V_far (p := ⟨gb473, 1, none⟩) (Kd.V_far (p := ⟨gb473, 0, none⟩) (Kd.V_mono HO_1.out (fun k_ hk => (⟨hk, hk.2⟩ : _ ∧ k_ ≠ gb473))) (fun _ hk => hk.2) (.bool t463)) (fun _ hk => hk.2) (.bool t464)) (fun _ hk => hk.2) (.bool t465)) (fun _ hk => hk.2) (.bool t466)) (fun _ hk => hk.2) (.bool t467)) (fun _ hk => hk.2) (.bool t468)) (fun _ hk => hk.2) (.bool t469)) (fun _ hk => hk.2) (.int .i64 t470)) (fun _ hk => hk.2) (.int .i64 t471)) (fun _ hk => hk.2) (.int .i64 t472)) (fun _ hk => ⟨hk.1.1.1.1, ⟨hk.1.1.2, ⟨hk.1.1.1.2, hk.1.2⟩⟩⟩)⟩
                have n1_ : Aside0 (Kd.V (Kd.slice 3 (Kd.int .i64)) 35 ((((((((((w60.setCell ⟨gb473, 0, none⟩ (.bool t463)).setCell ⟨gb473, 1, none⟩ (.bool t464)).setCell ⟨gb473, 2, none⟩ (.bool t465)).setCell ⟨gb473, 3, none⟩ (.bool t466)).setCell ⟨gb473, 4, none⟩ (.bool t467)).setCell ⟨gb473, 5, none⟩ (.bool t468)).setCell ⟨gb473, 6, none⟩ (.bool t469)).setCell ⟨gb473, 7, none⟩ (.int .i64 t470)).setCell ⟨gb473, 8, none⟩ (.int .i64 t471)).setCell ⟨gb473, 9, none⟩ (.int .i64 t472)) w.heap.size (fun k_ => ((P1_ k_ ∨ P2_ k_) ∨ w.heap.size ≤ k_) ∧ some k_ ≠ (.slice Ao58 y460.length co58 : Value).ownBlock ∧ k_ ≠ gb450 ∧ k_ ≠ gb473) (.slice A2 l2.length c2) l2) := ⟨by (with_reducible repeat (first | apply Kd.V_alloc | apply Kd.V_drewN | apply Kd.V_drew)); exact Kd.V_mono (Kd.V_far (p := ⟨gb473, 9, none⟩) (Kd.V_far (p := ⟨gb473, 8, none⟩) (Kd.V_far (p := ⟨gb473, 7, none⟩) (Kd.V_far (p := ⟨gb473, 6, none⟩) (Kd.V_far (p := ⟨gb473, 5, none⟩) (Kd.V_far (p := ⟨gb473, 4, none⟩) (Kd.V_far (p := ⟨gb473, 3, none⟩) (Kd.V_far (p := ⟨gb473, 2, none⟩) (Kd.V_far (p := ⟨gb473, 1, none⟩) (Kd.V_far (p := ⟨gb473, 0, none⟩) (Kd.V_mono HO_2.out (fun k_ hk => (⟨hk, hk.2⟩ : _ ∧ k_ ≠ gb473))) (fun _ hk => hk.2) (.bool t463)) (fun _ hk => hk.2) (.bool t464)) (fun _ hk => hk.2) (.bool t465)) (fun _ hk => hk.2) (.bool t466)) (fun _ hk => hk.2) (.bool t467)) (fun _ hk => hk.2) (.bool t468)) (fun _ hk => hk.2) (.bool t469)) (fun _ hk => hk.2) (.int .i64 t470)) (fun _ hk => hk.2) (.int .i64 t471)) (fun _ hk => hk.2) (.int .i64 t472)) (fun _ hk => ⟨hk.1.1.1.1, ⟨hk.1.1.2, ⟨hk.1.1.1.2, hk.1.2⟩⟩⟩)⟩
                have n2_ : Aside0 (Kd.N (Kd.slice 3 (Kd.int .i64)) 35 ((((((((((w60.setCell ⟨gb473, 0, none⟩ (.bool t463)).setCell ⟨gb473, 1, none⟩ (.bool t464)).setCell ⟨gb473, 2, none⟩ (.bool t465)).setCell ⟨gb473, 3, none⟩ (.bool t466)).setCell ⟨gb473, 4, none⟩ (.bool t467)).setCell ⟨gb473, 5, none⟩ (.bool t468)).setCell ⟨gb473, 6, none⟩ (.bool t469)).setCell ⟨gb473, 7, none⟩ (.int .i64 t470)).setCell ⟨gb473, 8, none⟩ (.int .i64 t471)).setCell ⟨gb473, 9, none⟩ (.int .i64 t472)) w.heap.size (fun k_ => ((P1_ k_ ∨ P2_ k_) ∨ w.heap.size ≤ k_) ∧ k_ ≠ gb450 ∧ k_ ≠ gb473) (.slice Ao58 y460.length co58) y460) := ⟨by (with_reducible repeat (first | apply Kd.N_alloc | apply Kd.N_drewN | apply Kd.N_drew)); exact Kd.N_mono (Kd.N_far (p := ⟨gb473, 9, none⟩) (Kd.N_far (p := ⟨gb473, 8, none⟩) (Kd.N_far (p := ⟨gb473, 7, none⟩) (Kd.N_far (p := ⟨gb473, 6, none⟩) (Kd.N_far (p := ⟨gb473, 5, none⟩) (Kd.N_far (p := ⟨gb473, 4, none⟩) (Kd.N_far (p := ⟨gb473, 3, none⟩) (Kd.N_far (p := ⟨gb473, 2, none⟩) (Kd.N_far (p := ⟨gb473, 1, none⟩) (Kd.N_far (p := ⟨gb473, 0, none⟩) (Kd.N_mono HO462.out (fun k_ hk => (⟨hk, hk.2⟩ : _ ∧ k_ ≠ gb473))) (fun _ hk => hk.2) (.bool t463)) (fun _ hk => hk.2) (.bool t464)) (fun _ hk => hk.2) (.bool t465)) (fun _ hk => hk.2) (.bool t466)) (fun _ hk => hk.2) (.bool t467)) (fun _ hk => hk.2) (.bool t468)) (fun _ hk => hk.2) (.bool t469)) (fun _ hk => hk.2) (.int .i64 t470)) (fun _ hk => hk.2) (.int .i64 t471)) (fun _ hk => hk.2) (.int .i64 t472)) (fun _ hk => ⟨hk.1.1.1, ⟨hk.1.1.2, hk.1.2⟩⟩)⟩
                have n3_ : Aside0 (((((((((((w60.setCell ⟨gb473, 0, none⟩ (.bool t463)).setCell ⟨gb473, 1, none⟩ (.bool t464)).setCell ⟨gb473, 2, none⟩ (.bool t465)).setCell ⟨gb473, 3, none⟩ (.bool t466)).setCell ⟨gb473, 4, none⟩ (.bool t467)).setCell ⟨gb473, 5, none⟩ (.bool t468)).setCell ⟨gb473, 6, none⟩ (.bool t469)).setCell ⟨gb473, 7, none⟩ (.int .i64 t470)).setCell ⟨gb473, 8, none⟩ (.int .i64 t471)).setCell ⟨gb473, 9, none⟩ (.int .i64 t472)).heap[gb450]? = some (.cells #[.bool a0_0, .bool a0_1, .bool a0_2, .bool a0_3, .bool a0_4, .bool a0_5, .bool a0_6, .int .i64 a0_7, .int .i64 a0_8, .int .i64 a0_9] 23 (0, 0))) := ⟨by (with_reducible repeat (first | refine blk_drewN ?_ _ | refine blk_drew ?_ | refine blk_alloc ?_ _)); refine blk_far ?_ NB450_473.out _; (with_reducible repeat (first | refine blk_drewN ?_ _ | refine blk_drew ?_ | refine blk_alloc ?_ _)); refine blk_far ?_ NB450_473.out _; (with_reducible repeat (first | refine blk_drewN ?_ _ | refine blk_drew ?_ | refine blk_alloc ?_ _)); refine blk_far ?_ NB450_473.out _; (with_reducible repeat (first | refine blk_drewN ?_ _ | refine blk_drew ?_ | refine blk_alloc ?_ _)); refine blk_far ?_ NB450_473.out _; (with_reducible repeat (first | refine blk_drewN ?_ _ | refine blk_drew ?_ | refine blk_alloc ?_ _)); refine blk_far ?_ NB450_473.out _; (with_reducible repeat (first | refine blk_drewN ?_ _ | refine blk_drew ?_ | refine blk_alloc ?_ _)); refine blk_far ?_ NB450_473.out _; (with_reducible repeat (first | refine blk_drewN ?_ _ | refine blk_drew ?_ | refine blk_alloc ?_ _)); refine blk_far ?_ NB450_473.out _; (with_reducible repeat (first | refine blk_drewN ?_ _ | refine blk_drew ?_ | refine blk_alloc ?_ _)); refine blk_far ?_ NB450_473.out _; (with_reducible repeat (first | refine blk_drewN ?_ _ | refine blk_drew ?_ | refine blk_alloc ?_ _)); refine blk_far ?_ NB450_473.out _; (with_reducible repeat (first | refine blk_drewN ?_ _ | refine blk_drew ?_ | refine blk_alloc ?_ _)); refine blk_far ?_ NB450_473.out _; (with_reducible repeat (first | refine blk_drewN ?_ _ | refine blk_drew ?_ | refine blk_alloc ?_ _)); exact BK450.out⟩
                have n4_ : Aside0 (((((((((((w60.setCell ⟨gb473, 0, none⟩ (.bool t463)).setCell ⟨gb473, 1, none⟩ (.bool t464)).setCell ⟨gb473, 2, none⟩ (.bool t465)).setCell ⟨gb473, 3, none⟩ (.bool t466)).setCell ⟨gb473, 4, none⟩ (.bool t467)).setCell ⟨gb473, 5, none⟩ (.bool t468)).setCell ⟨gb473, 6, none⟩ (.bool t469)).setCell ⟨gb473, 7, none⟩ (.int .i64 t470)).setCell ⟨gb473, 8, none⟩ (.int .i64 t471)).setCell ⟨gb473, 9, none⟩ (.int .i64 t472)).heap[gb473]? = some (.cells #[.bool t463, .bool t464, .bool t465, .bool t466, .bool t467, .bool t468, .bool t469, .int .i64 t470, .int .i64 t471, .int .i64 t472] 23 (0, 0))) := ⟨by (with_reducible repeat (first | refine blk_drewN ?_ _ | refine blk_drew ?_ | refine blk_alloc ?_ _)); refine blk_put (cs := #[.bool t463, .bool t464, .bool t465, .bool t466, .bool t467, .bool t468, .bool t469, .int .i64 t470, .int .i64 t471, .int .i64 0]) ?_ 9 _ rfl; (with_reducible repeat (first | refine blk_drewN ?_ _ | refine blk_drew ?_ | refine blk_alloc ?_ _)); refine blk_put (cs := #[.bool t463, .bool t464, .bool t465, .bool t466, .bool t467, .bool t468, .bool t469, .int .i64 t470, .int .i64 0, .int .i64 0]) ?_ 8 _ rfl; (with_reducible repeat (first | refine blk_drewN ?_ _ | refine blk_drew ?_ | refine blk_alloc ?_ _)); refine blk_put (cs := #[.bool t463, .bool t464, .bool t465, .bool t466, .bool t467, .bool t468, .bool t469, .int .i64 0, .int .i64 0, .int .i64 0]) ?_ 7 _ rfl; (with_reducible repeat (first | refine blk_drewN ?_ _ | refine blk_drew ?_ | refine blk_alloc ?_ _)); refine blk_put (cs := #[.bool t463, .bool t464, .bool t465, .bool t466, .bool t467, .bool t468, .bool false, .int .i64 0, .int .i64 0, .int .i64 0]) ?_ 6 _ rfl; (with_reducible repeat (first | refine blk_drewN ?_ _ | refine blk_drew ?_ | refine blk_alloc ?_ _)); refine blk_put (cs := #[.bool t463, .bool t464, .bool t465, .bool t466, .bool t467, .bool false, .bool false, .int .i64 0, .int .i64 0, .int .i64 0]) ?_ 5 _ rfl; (with_reducible repeat (first | refine blk_drewN ?_ _ | refine blk_drew ?_ | refine blk_alloc ?_ _)); refine blk_put (cs := #[.bool t463, .bool t464, .bool t465, .bool t466, .bool false, .bool false, .bool false, .int .i64 0, .int .i64 0, .int .i64 0]) ?_ 4 _ rfl; (with_reducible repeat (first | refine blk_drewN ?_ _ | refine blk_drew ?_ | refine blk_alloc ?_ _)); refine blk_put (cs := #[.bool t463, .bool t464, .bool t465, .bool false, .bool false, .bool false, .bool false, .int .i64 0, .int .i64 0, .int .i64 0]) ?_ 3 _ rfl; (with_reducible repeat (first | refine blk_drewN ?_ _ | refine blk_drew ?_ | refine blk_alloc ?_ _)); refine blk_put (cs := #[.bool t463, .bool t464, .bool false, .bool false, .bool false, .bool false, .bool false, .int .i64 0, .int .i64 0, .int .i64 0]) ?_ 2 _ rfl; (with_reducible repeat (first | refine blk_drewN ?_ _ | refine blk_drew ?_ | refine blk_alloc ?_ _)); refine blk_put (cs := #[.bool t463, .bool false, .bool false, .bool false, .bool false, .bool false, .bool false, .int .i64 0, .int .i64 0, .int .i64 0]) ?_ 1 _ rfl; (with_reducible repeat (first | refine blk_drewN ?_ _ | refine blk_drew ?_ | refine blk_alloc ?_ _)); refine blk_put (cs := #[.bool false, .bool false, .bool false, .bool false, .bool false, .bool false, .bool false, .int .i64 0, .int .i64 0, .int .i64 0]) ?_ 0 _ rfl; (with_reducible repeat (first | refine blk_drewN ?_ _ | refine blk_drew ?_ | refine blk_alloc ?_ _)); exact BK473.out⟩
                have n5_ : Aside0 (Below w.heap.size w ((((((((((w60.setCell ⟨gb473, 0, none⟩ (.bool t463)).setCell ⟨gb473, 1, none⟩ (.bool t464)).setCell ⟨gb473, 2, none⟩ (.bool t465)).setCell ⟨gb473, 3, none⟩ (.bool t466)).setCell ⟨gb473, 4, none⟩ (.bool t467)).setCell ⟨gb473, 5, none⟩ (.bool t468)).setCell ⟨gb473, 6, none⟩ (.bool t469)).setCell ⟨gb473, 7, none⟩ (.int .i64 t470)).setCell ⟨gb473, 8, none⟩ (.int .i64 t471)).setCell ⟨gb473, 9, none⟩ (.int .i64 t472))) := ⟨by repeat (first | (with_reducible first | exact HB.out | apply below_alloc | apply pw_below_drewN | apply below_drew1 | refine below_set ?_ GE450.out | refine below_set ?_ GE473.out) | exact HB.out)⟩
                (try clear HO_1)
                (try clear HO_2)
                (try clear HO462)
                (try clear BK450)
                (try clear BK473)
                (try clear HB)
                generalize ((((((((((w60.setCell ⟨gb473, 0, none⟩ (.bool t463)).setCell ⟨gb473, 1, none⟩ (.bool t464)).setCell ⟨gb473, 2, none⟩ (.bool t465)).setCell ⟨gb473, 3, none⟩ (.bool t466)).setCell ⟨gb473, 4, none⟩ (.bool t467)).setCell ⟨gb473, 5, none⟩ (.bool t468)).setCell ⟨gb473, 6, none⟩ (.bool t469)).setCell ⟨gb473, 7, none⟩ (.int .i64 t470)).setCell ⟨gb473, 8, none⟩ (.int .i64 t471)).setCell ⟨gb473, 9, none⟩ (.int .i64 t472)) = w63 at n0_ n1_ n2_ n3_ n4_ n5_ ⊢
                have HO_1 := n0_
                have HO_2 := n1_
                have HO462 := n2_
                have BK450 := n3_
                have BK473 := n4_
                have HB := n5_
                clear n0_ n1_ n2_ n3_ n4_ n5_
                have n0_ := Aside0.mk (Kd.V_drew HO_1.out)
                have n1_ := Aside0.mk (Kd.V_drew HO_2.out)
                have n2_ := Aside0.mk (Kd.N_drew HO462.out)
                have n3_ := Aside0.mk (blk_drew BK450.out)
                have n4_ := Aside0.mk (blk_drew BK473.out)
                have n5_ := Aside0.mk (below_drew1 HB.out)
                clear HO_1
                clear HO_2
                clear HO462
                clear BK450
                clear BK473
                clear HB
                have HO_1 := n0_
                have HO_2 := n1_
                have HO462 := n2_
                have BK450 := n3_
                have BK473 := n4_
                have HB := n5_
                clear n0_ n1_ n2_ n3_ n4_ n5_
                refine start_ (n := 20) (S := fun w' => w'.cell? ⟨gb473, 0, none⟩ = some (.bool t463) ∧ w'.cell? ⟨gb473, 1, none⟩ = some (.bool t464) ∧ w'.cell? ⟨gb473, 2, none⟩ = some (.bool t465) ∧ w'.cell? ⟨gb473, 3, none⟩ = some (.bool t466) ∧ w'.cell? ⟨gb473, 4, none⟩ = some (.bool t467) ∧ w'.cell? ⟨gb473, 5, none⟩ = some (.bool t468) ∧ w'.cell? ⟨gb473, 6, none⟩ = some (.bool t469) ∧ w'.cell? ⟨gb473, 7, none⟩ = some (.int .i64 t470) ∧ w'.cell? ⟨gb473, 8, none⟩ = some (.int .i64 t471) ∧ w'.cell? ⟨gb473, 9, none⟩ = some (.int .i64 t472) ∧ w'.cell? ⟨gb450, 0, none⟩ = some (.bool a0_0) ∧ w'.cell? ⟨gb450, 1, none⟩ = some (.bool a0_1) ∧ w'.cell? ⟨gb450, 2, none⟩ = some (.bool a0_2) ∧ w'.cell? ⟨gb450, 3, none⟩ = some (.bool a0_3) ∧ w'.cell? ⟨gb450, 4, none⟩ = some (.bool a0_4) ∧ w'.cell? ⟨gb450, 5, none⟩ = some (.bool a0_5) ∧ w'.cell? ⟨gb450, 6, none⟩ = some (.bool a0_6) ∧ w'.cell? ⟨gb450, 7, none⟩ = some (.int .i64 a0_7) ∧ w'.cell? ⟨gb450, 8, none⟩ = some (.int .i64 a0_8) ∧ w'.cell? ⟨gb450, 9, none⟩ = some (.int .i64 a0_9)) (ds := []) #[false, false, false, false, false, false, false, false, false, false, false, false, false, false, false, false, false, false, false, false] (by kernel_rfl) rfl rfl ⟨(blk_cell BK473.out 0).trans rfl, (blk_cell BK473.out 1).trans rfl, (blk_cell BK473.out 2).trans rfl, (blk_cell BK473.out 3).trans rfl, (blk_cell BK473.out 4).trans rfl, (blk_cell BK473.out 5).trans rfl, (blk_cell BK473.out 6).trans rfl, (blk_cell BK473.out 7).trans rfl, (blk_cell BK473.out 8).trans rfl, (blk_cell BK473.out 9).trans rfl, (blk_cell BK450.out 0).trans rfl, (blk_cell BK450.out 1).trans rfl, (blk_cell BK450.out 2).trans rfl, (blk_cell BK450.out 3).trans rfl, (blk_cell BK450.out 4).trans rfl, (blk_cell BK450.out 5).trans rfl, (blk_cell BK450.out 6).trans rfl, (blk_cell BK450.out 7).trans rfl, (blk_cell BK450.out 8).trans rfl, (blk_cell BK450.out 9).trans rfl⟩ (fun hHeld => ?_); refine with_tabW clavierlaw18_StyleJoins.tab6 clavierlaw18_StyleJoins.bits6 (fun HT_ HW_ => ?_)
                generalize w63.drew = w64 at HO_1 HO_2 HO462 BK450 BK473 HB hHeld ⊢
                refine pure_ (i := 0) (N := some 28) (v := ?_) (a' := ?_) #[true, false, false, false, false, false, false, false, false, false, false, false, false, false, false, false, false, false, false, false] rfl rfl (any_of HT_.out (by kernel_rfl)) (fun _ _ _ h => h) (Or.inl ⟨by rfl, ?_⟩) ?_ ?_
                rotate_left
                · intro w'
                  go_simp
                  with_reducible rfl
                rotate_left
                · simp only [Act.put, List.setIfInBounds_toArray, List.set_cons_zero, List.set_cons_succ, i64_w, i32_w]
                  rfl
                refine pure_ (i := 1) (N := some 29) (v := ?_) (a' := ?_) #[true, true, false, false, false, false, false, false, false, false, false, false, false, false, false, false, false, false, false, false] rfl rfl (any_of HT_.out (by kernel_rfl)) (fun _ _ _ h => h) (Or.inl ⟨by rfl, ?_⟩) ?_ ?_
                rotate_left
                · intro w'
                  go_simp
                  with_reducible rfl
                rotate_left
                · simp only [Act.put, List.setIfInBounds_toArray, List.set_cons_zero, List.set_cons_succ, i64_w, i32_w]
                  rfl
                refine pure_ (i := 4) (N := some 32) (v := ?_) (a' := ?_) #[true, true, false, false, true, false, false, false, false, false, false, false, false, false, false, false, false, false, false, false] rfl rfl (any_of HT_.out (by kernel_rfl)) (fun _ _ _ h => h) (Or.inl ⟨by rfl, ?_⟩) ?_ ?_
                rotate_left
                · intro w'
                  go_simp
                  with_reducible rfl
                rotate_left
                · simp only [Act.put, List.setIfInBounds_toArray, List.set_cons_zero, List.set_cons_succ, i64_w, i32_w]
                  rfl
                refine pure_ (i := 6) (N := some 34) (v := ?_) (a' := ?_) #[true, true, false, false, true, false, true, false, false, false, false, false, false, false, false, false, false, false, false, false] rfl rfl (any_of HT_.out (by kernel_rfl)) (fun _ _ _ h => h) (Or.inl ⟨by rfl, ?_⟩) ?_ ?_
                rotate_left
                · intro w'
                  go_simp
                  with_reducible rfl
                rotate_left
                · simp only [Act.put, List.setIfInBounds_toArray, List.set_cons_zero, List.set_cons_succ, i64_w, i32_w]
                  rfl
                refine take_ (i := 2) (N := some 30) (v := ?_) (a' := ?_) #[true, true, true, false, true, false, true, false, false, false, false, false, false, false, false, false, false, false, false, false] rfl rfl (take_ofW HT_.out HW_.out (by kernel_rfl)) (fun _ _ _ h => h) (Or.inl ⟨by rfl, ?_⟩) hHeld ?_ ?_
                rotate_left
                · rintro w' ⟨s0, s1, s2, s3, s4, s5, s6, s7, s8, s9, s10, s11, s12, s13, s14, s15, s16, s17, s18, s19⟩
                  go_simp
                  with_reducible rfl
                rotate_left
                · simp only [Act.put, List.setIfInBounds_toArray, List.set_cons_zero, List.set_cons_succ, i64_w, i32_w]
                  rfl
                refine take_ (i := 3) (N := some 31) (v := ?_) (a' := ?_) #[true, true, true, true, true, false, true, false, false, false, false, false, false, false, false, false, false, false, false, false] rfl rfl (take_ofW HT_.out HW_.out (by kernel_rfl)) (fun _ _ _ h => h) (Or.inl ⟨by rfl, ?_⟩) hHeld ?_ ?_
                rotate_left
                · rintro w' ⟨s0, s1, s2, s3, s4, s5, s6, s7, s8, s9, s10, s11, s12, s13, s14, s15, s16, s17, s18, s19⟩
                  go_simp
                  with_reducible rfl
                rotate_left
                · simp only [Act.put, List.setIfInBounds_toArray, List.set_cons_zero, List.set_cons_succ, i64_w, i32_w]
                  rfl
                refine one_ (i := 5) (N := some 33) #[true, true, true, true, true, true, true, false, false, false, false, false, false, false, false, false, false, false, false, false] rfl rfl (one_of HT_.out (by kernel_rfl)) (by decide) (fun K hK => ?_)
                refine goes_ Tryd.func18 (by kernel_rfl) rfl #[.agg #[.bool a0_0, .bool a0_1, .bool a0_2, .bool a0_3, .bool a0_4, .bool a0_5, .bool a0_6, .int .i64 a0_7, .int .i64 a0_8, .int .i64 a0_9], .slice A1 l1.length c1] (by rfl) rfl rfl (by (try simp only [List.map_toArray, List.map_cons, List.map_nil]); first | done | rfl | (simp only [List.length_drop, List.length_take]; rfl)) ?_
                with_reducible refine (style_Apply.calls kj4 a0_0 a0_1 a0_2 a0_3 a0_4 a0_5 a0_6 a0_7 a0_8 a0_9 _ _ l1 t474 t475 t476 t477 t478 t479 t480 t481 t482 t483 _ ?side1 ?side2 A16.out).mono ?_
                (case side1 => repeat (first | exact (Kd.V_reads' HO_1.out).2.2 | (with_reducible refine Kd.C_alloc ?_ _) | (with_reducible refine Kd.C_drewN ?_ _) | (with_reducible refine Kd.C_drew ?_)))
                (case side2 => exact (Kd.V_reads' HO_1.out).2.1)
                rintro e w65 ⟨rfl, hb⟩
                refine ⟨_, rfl, ?_⟩
                have n0_ := Aside0.mk (Kd.V_below (by (with_reducible repeat (first | apply Kd.V_alloc | apply Kd.V_drewN | apply Kd.V_drew)); exact HO_1.out) hb)
                have n1_ := Aside0.mk (Kd.V_below (by (with_reducible repeat (first | apply Kd.V_alloc | apply Kd.V_drewN | apply Kd.V_drew)); exact HO_2.out) hb)
                have n2_ := Aside0.mk (Kd.N_below (by (with_reducible repeat (first | apply Kd.N_alloc | apply Kd.N_drewN | apply Kd.N_drew)); exact HO462.out) hb)
                have n3_ := Aside0.mk (blk_below (g := gb450) (o := .cells #[.bool a0_0, .bool a0_1, .bool a0_2, .bool a0_3, .bool a0_4, .bool a0_5, .bool a0_6, .int .i64 a0_7, .int .i64 a0_8, .int .i64 a0_9] 23 (0, 0)) (by (with_reducible repeat (first | refine blk_drewN ?_ _ | refine blk_drew ?_ | refine blk_alloc ?_ _)); exact BK450.out) hb)
                have n4_ := Aside0.mk (blk_below (g := gb473) (o := .cells #[.bool t463, .bool t464, .bool t465, .bool t466, .bool t467, .bool t468, .bool t469, .int .i64 t470, .int .i64 t471, .int .i64 t472] 23 (0, 0)) (by (with_reducible repeat (first | refine blk_drewN ?_ _ | refine blk_drew ?_ | refine blk_alloc ?_ _)); exact BK473.out) hb)
                have n5_ := Aside0.mk (below_step (by repeat (first | (with_reducible first | exact HB.out | apply below_alloc | apply pw_below_drewN | apply below_drew1 | refine below_set ?_ GE450.out | refine below_set ?_ GE473.out) | exact HB.out)) hb)
                clear HO_1
                clear HO_2
                clear HO462
                clear BK450
                clear BK473
                clear HB
                have HO_1 := n0_
                have HO_2 := n1_
                have HO462 := n2_
                have BK450 := n3_
                have BK473 := n4_
                have HB := n5_
                clear n0_ n1_ n2_ n3_ n4_ n5_
                (try clear hb)
                (try clear hb2)
                (try clear hk)
                (try clear hi)
                refine hK.out _ _ ⟨(blk_cell BK473.out 0).trans rfl, (blk_cell BK473.out 1).trans rfl, (blk_cell BK473.out 2).trans rfl, (blk_cell BK473.out 3).trans rfl, (blk_cell BK473.out 4).trans rfl, (blk_cell BK473.out 5).trans rfl, (blk_cell BK473.out 6).trans rfl, (blk_cell BK473.out 7).trans rfl, (blk_cell BK473.out 8).trans rfl, (blk_cell BK473.out 9).trans rfl, (blk_cell BK450.out 0).trans rfl, (blk_cell BK450.out 1).trans rfl, (blk_cell BK450.out 2).trans rfl, (blk_cell BK450.out 3).trans rfl, (blk_cell BK450.out 4).trans rfl, (blk_cell BK450.out 5).trans rfl, (blk_cell BK450.out 6).trans rfl, (blk_cell BK450.out 7).trans rfl, (blk_cell BK450.out 8).trans rfl, (blk_cell BK450.out 9).trans rfl⟩ (fun hHeld => ?_)
                clear hK K
                refine norm_ (a' := ?_) ?_ ?_
                rotate_left
                · show Act.put _ (some 33) _ = _
                  simp only [Act.put, List.setIfInBounds_toArray, List.set_cons_zero, List.set_cons_succ, i64_w, i32_w]
                  rfl
                refine one_ (i := 7) (N := some 35) #[true, true, true, true, true, true, true, true, false, false, false, false, false, false, false, false, false, false, false, false] rfl rfl (one_of HT_.out (by kernel_rfl)) (by decide) (fun K hK => ?_)
                refine goes_ Tryd.func18 (by kernel_rfl) rfl #[.agg #[.bool t474, .bool t475, .bool t476, .bool t477, .bool t478, .bool t479, .bool t480, .int .i64 t481, .int .i64 t482, .int .i64 t483], .slice A2 l2.length c2] (by rfl) rfl rfl (by (try simp only [List.map_toArray, List.map_cons, List.map_nil]); first | done | rfl | (simp only [List.length_drop, List.length_take]; rfl)) ?_
                with_reducible refine (style_Apply.calls kj4 t474 t475 t476 t477 t478 t479 t480 t481 t482 t483 _ _ l2 t484 t485 t486 t487 t488 t489 t490 t491 t492 t493 _ ?side1 ?side2 A17.out).mono ?_
                (case side1 => repeat (first | exact (Kd.V_reads' HO_2.out).2.2 | (with_reducible refine Kd.C_alloc ?_ _) | (with_reducible refine Kd.C_drewN ?_ _) | (with_reducible refine Kd.C_drew ?_)))
                (case side2 => exact (Kd.V_reads' HO_2.out).2.1)
                rintro e w66 ⟨rfl, hb⟩
                refine ⟨_, rfl, ?_⟩
                have n0_ := Aside0.mk (Kd.V_below (by (with_reducible repeat (first | apply Kd.V_alloc | apply Kd.V_drewN | apply Kd.V_drew)); exact HO_1.out) hb)
                have n1_ := Aside0.mk (Kd.V_below (by (with_reducible repeat (first | apply Kd.V_alloc | apply Kd.V_drewN | apply Kd.V_drew)); exact HO_2.out) hb)
                have n2_ := Aside0.mk (Kd.N_below (by (with_reducible repeat (first | apply Kd.N_alloc | apply Kd.N_drewN | apply Kd.N_drew)); exact HO462.out) hb)
                have n3_ := Aside0.mk (blk_below (g := gb450) (o := .cells #[.bool a0_0, .bool a0_1, .bool a0_2, .bool a0_3, .bool a0_4, .bool a0_5, .bool a0_6, .int .i64 a0_7, .int .i64 a0_8, .int .i64 a0_9] 23 (0, 0)) (by (with_reducible repeat (first | refine blk_drewN ?_ _ | refine blk_drew ?_ | refine blk_alloc ?_ _)); exact BK450.out) hb)
                have n4_ := Aside0.mk (blk_below (g := gb473) (o := .cells #[.bool t463, .bool t464, .bool t465, .bool t466, .bool t467, .bool t468, .bool t469, .int .i64 t470, .int .i64 t471, .int .i64 t472] 23 (0, 0)) (by (with_reducible repeat (first | refine blk_drewN ?_ _ | refine blk_drew ?_ | refine blk_alloc ?_ _)); exact BK473.out) hb)
                have n5_ := Aside0.mk (below_step (by repeat (first | (with_reducible first | exact HB.out | apply below_alloc | apply pw_below_drewN | apply below_drew1 | refine below_set ?_ GE450.out | refine below_set ?_ GE473.out) | exact HB.out)) hb)
                clear HO_1
                clear HO_2
                clear HO462
                clear BK450
                clear BK473
                clear HB
                have HO_1 := n0_
                have HO_2 := n1_
                have HO462 := n2_
                have BK450 := n3_
                have BK473 := n4_
                have HB := n5_
                clear n0_ n1_ n2_ n3_ n4_ n5_
                (try clear hb)
                (try clear hb2)
                (try clear hk)
                (try clear hi)
                refine hK.out _ _ ⟨(blk_cell BK473.out 0).trans rfl, (blk_cell BK473.out 1).trans rfl, (blk_cell BK473.out 2).trans rfl, (blk_cell BK473.out 3).trans rfl, (blk_cell BK473.out 4).trans rfl, (blk_cell BK473.out 5).trans rfl, (blk_cell BK473.out 6).trans rfl, (blk_cell BK473.out 7).trans rfl, (blk_cell BK473.out 8).trans rfl, (blk_cell BK473.out 9).trans rfl, (blk_cell BK450.out 0).trans rfl, (blk_cell BK450.out 1).trans rfl, (blk_cell BK450.out 2).trans rfl, (blk_cell BK450.out 3).trans rfl, (blk_cell BK450.out 4).trans rfl, (blk_cell BK450.out 5).trans rfl, (blk_cell BK450.out 6).trans rfl, (blk_cell BK450.out 7).trans rfl, (blk_cell BK450.out 8).trans rfl, (blk_cell BK450.out 9).trans rfl⟩ (fun hHeld => ?_)
                clear hK K
                refine norm_ (a' := ?_) ?_ ?_
                rotate_left
                · show Act.put _ (some 35) _ = _
                  simp only [Act.put, List.setIfInBounds_toArray, List.set_cons_zero, List.set_cons_succ, i64_w, i32_w]
                  rfl
                refine pure_ (i := 8) (N := some 36) (v := ?_) (a' := ?_) #[true, true, true, true, true, true, true, true, true, false, false, false, false, false, false, false, false, false, false, false] rfl rfl (any_of HT_.out (by kernel_rfl)) (fun _ _ _ h => h) (Or.inl ⟨by rfl, ?_⟩) ?_ ?_
                rotate_left
                · intro w'
                  go_simp
                  with_reducible rfl
                rotate_left
                · simp only [Act.put, List.setIfInBounds_toArray, List.set_cons_zero, List.set_cons_succ, i64_w, i32_w]
                  rfl
                refine pure_ (i := 9) (N := some 37) (v := ?_) (a' := ?_) #[true, true, true, true, true, true, true, true, true, true, false, false, false, false, false, false, false, false, false, false] rfl rfl (any_of HT_.out (by kernel_rfl)) (fun _ _ _ h => h) (Or.inl ⟨by rfl, ?_⟩) ?_ ?_
                rotate_left
                · intro w'
                  go_simp
                  with_reducible rfl
                rotate_left
                · simp only [Act.put, List.setIfInBounds_toArray, List.set_cons_zero, List.set_cons_succ, i64_w, i32_w]
                  rfl
                refine pure_ (i := 10) (N := some 38) (v := ?_) (a' := ?_) #[true, true, true, true, true, true, true, true, true, true, true, false, false, false, false, false, false, false, false, false] rfl rfl (any_of HT_.out (by kernel_rfl)) (fun _ _ _ h => h) (Or.inl ⟨by rfl, ?_⟩) ?_ ?_
                rotate_left
                · intro w'
                  go_simp
                  with_reducible rfl
                rotate_left
                · simp only [Act.put, List.setIfInBounds_toArray, List.set_cons_zero, List.set_cons_succ, i64_w, i32_w]
                  rfl
                refine pure_ (i := 11) (N := some 39) (v := undef) (a' := ?_) #[true, true, true, true, true, true, true, true, true, true, true, true, false, false, false, false, false, false, false, false] rfl rfl (any_of HT_.out (by kernel_rfl)) (fun _ _ _ h => h) (Or.inr ⟨by rfl, rfl⟩) ?_ ?_
                rotate_left
                · simp only [Act.put, List.setIfInBounds_toArray, List.set_cons_zero, List.set_cons_succ, i64_w, i32_w]
                  rfl
                refine pure_ (i := 12) (N := some 40) (v := undef) (a' := ?_) #[true, true, true, true, true, true, true, true, true, true, true, true, true, false, false, false, false, false, false, false] rfl rfl (any_of HT_.out (by kernel_rfl)) (fun _ _ _ h => h) (Or.inr ⟨by rfl, rfl⟩) ?_ ?_
                rotate_left
                · simp only [Act.put, List.setIfInBounds_toArray, List.set_cons_zero, List.set_cons_succ, i64_w, i32_w]
                  rfl
                refine pure_ (i := 13) (N := some 41) (v := undef) (a' := ?_) #[true, true, true, true, true, true, true, true, true, true, true, true, true, true, false, false, false, false, false, false] rfl rfl (any_of HT_.out (by kernel_rfl)) (fun _ _ _ h => h) (Or.inr ⟨by rfl, rfl⟩) ?_ ?_
                rotate_left
                · simp only [Act.put, List.setIfInBounds_toArray, List.set_cons_zero, List.set_cons_succ, i64_w, i32_w]
                  rfl
                refine pure_ (i := 14) (N := some 42) (v := undef) (a' := ?_) #[true, true, true, true, true, true, true, true, true, true, true, true, true, true, true, false, false, false, false, false] rfl rfl (any_of HT_.out (by kernel_rfl)) (fun _ _ _ h => h) (Or.inr ⟨by rfl, rfl⟩) ?_ ?_
                rotate_left
                · simp only [Act.put, List.setIfInBounds_toArray, List.set_cons_zero, List.set_cons_succ, i64_w, i32_w]
                  rfl
                refine pure_ (i := 15) (N := some 43) (v := undef) (a' := ?_) #[true, true, true, true, true, true, true, true, true, true, true, true, true, true, true, true, false, false, false, false] rfl rfl (any_of HT_.out (by kernel_rfl)) (fun _ _ _ h => h) (Or.inr ⟨by rfl, rfl⟩) ?_ ?_
                rotate_left
                · simp only [Act.put, List.setIfInBounds_toArray, List.set_cons_zero, List.set_cons_succ, i64_w, i32_w]
                  rfl
                refine pure_ (i := 16) (N := some 44) (v := undef) (a' := ?_) #[true, true, true, true, true, true, true, true, true, true, true, true, true, true, true, true, true, false, false, false] rfl rfl (any_of HT_.out (by kernel_rfl)) (fun _ _ _ h => h) (Or.inr ⟨by rfl, rfl⟩) ?_ ?_
                rotate_left
                · simp only [Act.put, List.setIfInBounds_toArray, List.set_cons_zero, List.set_cons_succ, i64_w, i32_w]
                  rfl
                refine pure_ (i := 17) (N := some 45) (v := undef) (a' := ?_) #[true, true, true, true, true, true, true, true, true, true, true, true, true, true, true, true, true, true, false, false] rfl rfl (any_of HT_.out (by kernel_rfl)) (fun _ _ _ h => h) (Or.inr ⟨by rfl, rfl⟩) ?_ ?_
                rotate_left
                · simp only [Act.put, List.setIfInBounds_toArray, List.set_cons_zero, List.set_cons_succ, i64_w, i32_w]
                  rfl
                refine pure_ (i := 18) (N := some 46) (v := ?_) (a' := ?_) #[true, true, true, true, true, true, true, true, true, true, true, true, true, true, true, true, true, true, true, false] rfl rfl (any_of HT_.out (by kernel_rfl)) (fun _ _ _ h => h) (Or.inl ⟨by rfl, ?_⟩) ?_ ?_
                rotate_left
                · intro w'
                  go_simp
                  with_reducible rfl
                rotate_left
                · simp only [Act.put, List.setIfInBounds_toArray, List.set_cons_zero, List.set_cons_succ, i64_w, i32_w]
                  rfl
                refine pure_ (i := 19) (N := some 6) (v := ?_) (a' := ?_) #[true, true, true, true, true, true, true, true, true, true, true, true, true, true, true, true, true, true, true, true] rfl rfl (any_of HT_.out (by kernel_rfl)) (fun _ _ _ h => h) (Or.inl ⟨by rfl, ?_⟩) ?_ ?_
                rotate_left
                · intro w'
                  go_simp
                  with_reducible rfl
                rotate_left
                · simp only [Act.put, List.setIfInBounds_toArray, List.set_cons_zero, List.set_cons_succ, i64_w, i32_w]
                  rfl
                refine done_ (done_of HT_.out (by kernel_rfl)) ?_
                try go_wp2
                go_ret
                exact ⟨by first | rfl | (simp [errW_none, errW_some] <;> rfl) | (simp [*, errW_none, errW_some] <;> rfl), by repeat (first | (with_reducible first | exact HB.out | apply below_alloc | apply pw_below_drewN | apply below_drew1 | refine below_set ?_ GE450.out | refine below_set ?_ GE473.out) | exact HB.out)⟩
            · replace c15 := Bool.eq_false_iff.mpr c15
              subst c15
              have H1 : (some false) = some r := by rw [if_neg (show ¬ (false = true) by decide)] at H; exact H
              clear H
              have H := H1
              clear H1
              obtain rfl := Option.some.inj H
              try go_wp2_with (first | ((with_reducible refine gate_dst (N := 20) rfl ?_); refine Kd.N_lit (Kd.slice 3 (Kd.int .i64)) _ 35 ?hg (N' := 20) ?hd (xs := ([] : List (List Int))) (inner := []) (ok := (fun k_ => ((P1_ k_ ∨ P2_ k_) ∨ w.heap.size ≤ k_) ∧ k_ ≠ gb450)) (okp := (fun k_ => ((P1_ k_ ∨ P2_ k_) ∨ w.heap.size ≤ k_) ∧ k_ ≠ gb450)) ?hr ?hp (fun _ hk => hk) ((show ∀ k_, wc.heap.size ≤ k_ → (fun k_ => ((P1_ k_ ∨ P2_ k_) ∨ w.heap.size ≤ k_) ∧ k_ ≠ gb450) k_ from fun k_ hk => ⟨(.inr (Nat.le_trans (below_size (by repeat (first | (with_reducible first | exact HB.out | apply below_alloc | apply pw_below_drewN | apply below_drew1 | refine below_set ?_ GE450.out) | exact HB.out))) hk)), Kd.freshB (g := gb450) (o := .cells #[.bool a0_0, .bool a0_1, .bool a0_2, .bool a0_3, .bool a0_4, .bool a0_5, .bool a0_6, .int .i64 a0_7, .int .i64 a0_8, .int .i64 a0_9] 23 (0, 0)) (by (with_reducible repeat (first | refine blk_drewN ?_ _ | refine blk_drew ?_ | refine blk_alloc ?_ _)); exact BK450.out) k_ hk⟩) _ (Nat.le_refl _)) (Below.refl _ _) (Nat.le_refl _) (by simp) ?_; (case hd => rfl); (case hg => rfl); (case hr => first | (go_simp; done) | (go_simp; rfl)); (case hp => exact (Reps.none _ _)); intro v455 w67 ho68 hb hg_ hnew_; clear hg_ hnew_; (first | rw [← Ny454.out] at ho68 | (simp only [Int.reduceToNat] at ho68; rw [← Ny454.out] at ho68)); have n0_ := Aside0.mk (Kd.V_elder' (by (with_reducible repeat (first | apply Kd.V_alloc | apply Kd.V_drewN | apply Kd.V_drew)); exact HO_1.out) (Kd.N_base ho68) hb); have n1_ := Aside0.mk (Kd.V_elder' (by (with_reducible repeat (first | apply Kd.V_alloc | apply Kd.V_drewN | apply Kd.V_drew)); exact HO_2.out) (Kd.N_base ho68) hb); have n2_ := Aside0.mk (Kd.N_lower ho68 (below_size (by repeat (first | (with_reducible first | exact HB.out | apply below_alloc | apply pw_below_drewN | apply below_drew1 | refine below_set ?_ GE450.out) | exact HB.out)))); have n3_ := Aside0.mk (blk_below (g := gb450) (o := .cells #[.bool a0_0, .bool a0_1, .bool a0_2, .bool a0_3, .bool a0_4, .bool a0_5, .bool a0_6, .int .i64 a0_7, .int .i64 a0_8, .int .i64 a0_9] 23 (0, 0)) (by (with_reducible repeat (first | refine blk_drewN ?_ _ | refine blk_drew ?_ | refine blk_alloc ?_ _)); exact BK450.out) hb); have n4_ := Aside0.mk (below_step (by repeat (first | (with_reducible first | exact HB.out | apply below_alloc | apply pw_below_drewN | apply below_drew1 | refine below_set ?_ GE450.out) | exact HB.out)) hb); clear HO_1; clear HO_2; clear BK450; clear HB; have HO_1 := n0_; have HO_2 := n1_; have HO456 := n2_; have BK450 := n3_; have HB := n4_; clear n0_ n1_ n2_ n3_ n4_; clear hb ho68) | ((with_reducible refine gate_builtin (b := .append) (xs := #[.tmp 20, .tmp 21]) rfl ?_); at_builtin; refine Kd.N_append_rows (Kd.slice 3 (Kd.int .i64)) (w0 := w) w.heap.size rfl (.tmp 20) (.tmp 21) 25 35 (.slice none 0 0) 24 rfl Tryd.underlying25 info35 rfl (by decide) (by omega) v455 y454 l1 _ _ _ (fun k_ => ((P1_ k_ ∨ P2_ k_) ∨ w.heap.size ≤ k_) ∧ k_ ≠ gb450) (fun k_ => ((fun k_ => ((P1_ k_ ∨ P2_ k_) ∨ w.heap.size ≤ k_) ∧ k_ ≠ gb450)) k_ ∧ some k_ ≠ (v455 : Value).ownBlock) rfl rfl ?aO ?aR (fun _ hk => hk) ?aF ?aB ?aS ?aL ?_; (case aR => exact (by skip; exact Kd.V_F (Kd.V_mono (ok' := (fun k_ => ((fun k_ => ((P1_ k_ ∨ P2_ k_) ∨ w.heap.size ≤ k_) ∧ k_ ≠ gb450)) k_ ∧ some k_ ≠ (v455 : Value).ownBlock)) (HO_1.out) (fun k_ hk => ⟨⟨hk.1.1, hk.1.2⟩, hk.2⟩)))); (case aB => exact (by repeat (first | (with_reducible first | exact HB.out | apply below_alloc | apply pw_below_drewN | apply below_drew1 | refine below_set ?_ GE450.out) | exact HB.out))); (case aF => exact (fun k_ hk => ⟨(.inr (Nat.le_trans (below_size (by repeat (first | (with_reducible first | exact HB.out | apply below_alloc | apply pw_below_drewN | apply below_drew1 | refine below_set ?_ GE450.out) | exact HB.out))) hk)), Kd.freshB (g := gb450) (o := .cells #[.bool a0_0, .bool a0_1, .bool a0_2, .bool a0_3, .bool a0_4, .bool a0_5, .bool a0_6, .int .i64 a0_7, .int .i64 a0_8, .int .i64 a0_9] 23 (0, 0)) (by (with_reducible repeat (first | refine blk_drewN ?_ _ | refine blk_drew ?_ | refine blk_alloc ?_ _)); exact BK450.out) k_ hk⟩)); (case aO => exact (by (with_reducible repeat (first | apply Kd.N_alloc | apply Kd.N_drewN | apply Kd.N_drew)); exact HO456.out)); (case aS => exact (below_size (by repeat (first | (with_reducible first | exact HB.out | apply below_alloc | apply pw_below_drewN | apply below_drew1 | refine below_set ?_ GE450.out) | exact HB.out)))); (case aL => have := LMc12.out; omega); intro v458 w69 ho hb hg hat; rw [← Ny457.out] at ho; have n0_ := Aside0.mk (Kd.V_afterv (ok := (fun k_ => ((P1_ k_ ∨ P2_ k_) ∨ w.heap.size ≤ k_) ∧ k_ ≠ gb450)) (by (with_reducible repeat (first | apply Kd.V_alloc | apply Kd.V_drewN | apply Kd.V_drew)); exact HO_1.out) hg hat); have n1_ := Aside0.mk (Kd.V_afterv (ok := (fun k_ => ((P1_ k_ ∨ P2_ k_) ∨ w.heap.size ≤ k_) ∧ k_ ≠ gb450)) (by (with_reducible repeat (first | apply Kd.V_alloc | apply Kd.V_drewN | apply Kd.V_drew)); exact HO_2.out) hg hat); have n2_ := Aside0.mk (blk_grown (g := gb450) (o := .cells #[.bool a0_0, .bool a0_1, .bool a0_2, .bool a0_3, .bool a0_4, .bool a0_5, .bool a0_6, .int .i64 a0_7, .int .i64 a0_8, .int .i64 a0_9] 23 (0, 0)) (by (with_reducible repeat (first | refine blk_drewN ?_ _ | refine blk_drew ?_ | refine blk_alloc ?_ _)); exact BK450.out) hg (Kd.N_ne HO456.out BK450.out (by decide))); have n3_ := Aside0.mk (hb); have n4_ := Aside0.mk (ho); clear HO_1; clear HO_2; clear BK450; clear HB; clear HO456; have HO_1 := n0_; have HO_2 := n1_; have BK450 := n2_; have HB := n3_; have HO459 := n4_; clear n0_ n1_ n2_ n3_ n4_; clear ho hb hg hat) | ((with_reducible refine gate_builtin (b := .append) (xs := #[.tmp 22, .tmp 23]) rfl ?_); at_builtin; refine Kd.N_append_rows (Kd.slice 3 (Kd.int .i64)) (w0 := w) w.heap.size rfl (.tmp 22) (.tmp 23) 25 35 (.slice none 0 0) 24 rfl Tryd.underlying25 info35 rfl (by decide) (by omega) v458 y457 l2 _ _ _ (fun k_ => ((P1_ k_ ∨ P2_ k_) ∨ w.heap.size ≤ k_) ∧ k_ ≠ gb450) (fun k_ => ((fun k_ => ((P1_ k_ ∨ P2_ k_) ∨ w.heap.size ≤ k_) ∧ k_ ≠ gb450)) k_ ∧ some k_ ≠ (v458 : Value).ownBlock) rfl rfl ?aO ?aR (fun _ hk => hk) ?aF ?aB ?aS ?aL ?_; (case aR => exact (by skip; exact Kd.V_F (Kd.V_mono (ok' := (fun k_ => ((fun k_ => ((P1_ k_ ∨ P2_ k_) ∨ w.heap.size ≤ k_) ∧ k_ ≠ gb450)) k_ ∧ some k_ ≠ (v458 : Value).ownBlock)) (HO_2.out) (fun k_ hk => ⟨⟨hk.1.1, hk.1.2⟩, hk.2⟩)))); (case aB => exact (by repeat (first | (with_reducible first | exact HB.out | apply below_alloc | apply pw_below_drewN | apply below_drew1 | refine below_set ?_ GE450.out) | exact HB.out))); (case aF => exact (fun k_ hk => ⟨(.inr (Nat.le_trans (below_size (by repeat (first | (with_reducible first | exact HB.out | apply below_alloc | apply pw_below_drewN | apply below_drew1 | refine below_set ?_ GE450.out) | exact HB.out))) hk)), Kd.freshB (g := gb450) (o := .cells #[.bool a0_0, .bool a0_1, .bool a0_2, .bool a0_3, .bool a0_4, .bool a0_5, .bool a0_6, .int .i64 a0_7, .int .i64 a0_8, .int .i64 a0_9] 23 (0, 0)) (by (with_reducible repeat (first | refine blk_drewN ?_ _ | refine blk_drew ?_ | refine blk_alloc ?_ _)); exact BK450.out) k_ hk⟩)); (case aO => exact (by (with_reducible repeat (first | apply Kd.N_alloc | apply Kd.N_drewN | apply Kd.N_drew)); exact HO459.out)); (case aS => exact (below_size (by repeat (first | (with_reducible first | exact HB.out | apply below_alloc | apply pw_below_drewN | apply below_drew1 | refine below_set ?_ GE450.out) | exact HB.out)))); (case aL => have := LMc13.out; omega); intro v461 w70 ho hb hg hat; rw [← Ny460.out] at ho; have n0_ := Aside0.mk (Kd.V_afterv (ok := (fun k_ => ((P1_ k_ ∨ P2_ k_) ∨ w.heap.size ≤ k_) ∧ k_ ≠ gb450)) (by (with_reducible repeat (first | apply Kd.V_alloc | apply Kd.V_drewN | apply Kd.V_drew)); exact HO_1.out) hg hat); have n1_ := Aside0.mk (Kd.V_afterv (ok := (fun k_ => ((P1_ k_ ∨ P2_ k_) ∨ w.heap.size ≤ k_) ∧ k_ ≠ gb450)) (by (with_reducible repeat (first | apply Kd.V_alloc | apply Kd.V_drewN | apply Kd.V_drew)); exact HO_2.out) hg hat); have n2_ := Aside0.mk (blk_grown (g := gb450) (o := .cells #[.bool a0_0, .bool a0_1, .bool a0_2, .bool a0_3, .bool a0_4, .bool a0_5, .bool a0_6, .int .i64 a0_7, .int .i64 a0_8, .int .i64 a0_9] 23 (0, 0)) (by (with_reducible repeat (first | refine blk_drewN ?_ _ | refine blk_drew ?_ | refine blk_alloc ?_ _)); exact BK450.out) hg (Kd.N_ne HO459.out BK450.out (by decide))); have n3_ := Aside0.mk (hb); have n4_ := Aside0.mk (ho); clear HO_1; clear HO_2; clear BK450; clear HB; clear HO459; have HO_1 := n0_; have HO_2 := n1_; have BK450 := n2_; have HB := n3_; have HO462 := n4_; clear n0_ n1_ n2_ n3_ n4_; clear ho hb hg hat; have hcz71_0 : w70.cell? ⟨gb450, 0, none⟩ = some (.bool a0_0) := (blk_cell BK450.out 0).trans rfl; have hcz71_1 : w70.cell? ⟨gb450, 1, none⟩ = some (.bool a0_1) := (blk_cell BK450.out 1).trans rfl; have hcz71_2 : w70.cell? ⟨gb450, 2, none⟩ = some (.bool a0_2) := (blk_cell BK450.out 2).trans rfl; have hcz71_3 : w70.cell? ⟨gb450, 3, none⟩ = some (.bool a0_3) := (blk_cell BK450.out 3).trans rfl; have hcz71_4 : w70.cell? ⟨gb450, 4, none⟩ = some (.bool a0_4) := (blk_cell BK450.out 4).trans rfl; have hcz71_5 : w70.cell? ⟨gb450, 5, none⟩ = some (.bool a0_5) := (blk_cell BK450.out 5).trans rfl; have hcz71_6 : w70.cell? ⟨gb450, 6, none⟩ = some (.bool a0_6) := (blk_cell BK450.out 6).trans rfl; have hcz71_7 : w70.cell? ⟨gb450, 7, none⟩ = some (.int .i64 a0_7) := (blk_cell BK450.out 7).trans rfl; have hcz71_8 : w70.cell? ⟨gb450, 8, none⟩ = some (.int .i64 a0_8) := (blk_cell BK450.out 8).trans rfl; have hcz71_9 : w70.cell? ⟨gb450, 9, none⟩ = some (.int .i64 a0_9) := (blk_cell BK450.out 9).trans rfl; have hfz71_0 := blk_frozen BK450.out 0; have hfz71_1 := blk_frozen BK450.out 1; have hfz71_2 := blk_frozen BK450.out 2; have hfz71_3 := blk_frozen BK450.out 3; have hfz71_4 := blk_frozen BK450.out 4; have hfz71_5 := blk_frozen BK450.out 5; have hfz71_6 := blk_frozen BK450.out 6; have hfz71_7 := blk_frozen BK450.out 7; have hfz71_8 := blk_frozen BK450.out 8; have hfz71_9 := blk_frozen BK450.out 9; obtain ⟨Ao72, co72, eo72⟩ := Kd.N_slice HO462.out; subst eo72) | ((with_reducible refine gate_callee (f := 18) rfl ?_); refine goesL_ (some 27) rfl rfl Tryd.func18 (by kernel_rfl) rfl #[.agg #[.bool a0_0, .bool a0_1, .bool a0_2, .bool a0_3, .bool a0_4, .bool a0_5, .bool a0_6, .int .i64 a0_7, .int .i64 a0_8, .int .i64 a0_9], .slice Ao72 y460.length co72] rfl (by (try simp only [List.map_toArray, List.map_cons, List.map_nil]); first | done | rfl | (simp only [List.length_drop, List.length_take]; rfl)) ?_; (with_reducible refine (style_Apply.calls kj4 a0_0 a0_1 a0_2 a0_3 a0_4 a0_5 a0_6 a0_7 a0_8 a0_9 _ _ y460 t463 t464 t465 t466 t467 t468 t469 t470 t471 t472 _ ?side1 ?side2 A14.out).mono ?_); (case side1 => repeat (first | exact (Kd.N_reads' HO462.out).2.2 | (with_reducible refine Kd.C_alloc ?_ _) | (with_reducible refine Kd.C_drewN ?_ _) | (with_reducible refine Kd.C_drew ?_))); (case side2 => exact (Kd.N_reads' HO462.out).2.1); rintro e w73 ⟨rfl, hb⟩; refine ⟨_, rfl, ?_⟩; have n0_ := Aside0.mk (Kd.V_below (by (with_reducible repeat (first | apply Kd.V_alloc | apply Kd.V_drewN | apply Kd.V_drew)); exact HO_1.out) hb); have n1_ := Aside0.mk (Kd.V_below (by (with_reducible repeat (first | apply Kd.V_alloc | apply Kd.V_drewN | apply Kd.V_drew)); exact HO_2.out) hb); have n2_ := Aside0.mk (Kd.N_below (by (with_reducible repeat (first | apply Kd.N_alloc | apply Kd.N_drewN | apply Kd.N_drew)); exact HO462.out) hb); have n3_ := Aside0.mk (blk_below (g := gb450) (o := .cells #[.bool a0_0, .bool a0_1, .bool a0_2, .bool a0_3, .bool a0_4, .bool a0_5, .bool a0_6, .int .i64 a0_7, .int .i64 a0_8, .int .i64 a0_9] 23 (0, 0)) (by (with_reducible repeat (first | refine blk_drewN ?_ _ | refine blk_drew ?_ | refine blk_alloc ?_ _)); exact BK450.out) hb); have n4_ := Aside0.mk (below_step (by repeat (first | (with_reducible first | exact HB.out | apply below_alloc | apply pw_below_drewN | apply below_drew1 | refine below_set ?_ GE450.out) | exact HB.out)) hb); clear HO_1; clear HO_2; clear HO462; clear BK450; clear HB; have HO_1 := n0_; have HO_2 := n1_; have HO462 := n2_; have BK450 := n3_; have HB := n4_; clear n0_ n1_ n2_ n3_ n4_; (try clear hb); (try clear hb2); (try clear hk); (try clear hi)) | ((with_reducible refine gate_dst (N := 9) rfl ?_); refine box_event ?hg (N := 9) ?hd (cs := #[.bool false, .bool false, .bool false, .bool false, .bool false, .bool false, .bool false, .int .i64 0, .int .i64 0, .int .i64 0]) (t := 23) ?hr ?_; (case hd => rfl); (case hg => rfl); (case hr => first | (go_simp; done) | (go_simp; rfl)); intro gb473 hg w74 hbox hb; have n0_ := Aside0.mk (Kd.V_below (Kd.V_elderB (by (with_reducible repeat (first | apply Kd.V_alloc | apply Kd.V_drewN | apply Kd.V_drew)); exact HO_1.out) gb473 (Nat.le_of_eq hg.symm)) hb); have n1_ := Aside0.mk (Kd.V_below (Kd.V_elderB (by (with_reducible repeat (first | apply Kd.V_alloc | apply Kd.V_drewN | apply Kd.V_drew)); exact HO_2.out) gb473 (Nat.le_of_eq hg.symm)) hb); have n2_ := Aside0.mk (Kd.N_below (Kd.N_elderB (by (with_reducible repeat (first | apply Kd.N_alloc | apply Kd.N_drewN | apply Kd.N_drew)); exact HO462.out) gb473 (Nat.le_of_eq hg.symm)) hb); have n3_ := Aside0.mk (blk_below (g := gb450) (o := .cells #[.bool a0_0, .bool a0_1, .bool a0_2, .bool a0_3, .bool a0_4, .bool a0_5, .bool a0_6, .int .i64 a0_7, .int .i64 a0_8, .int .i64 a0_9] 23 (0, 0)) (by (with_reducible repeat (first | refine blk_drewN ?_ _ | refine blk_drew ?_ | refine blk_alloc ?_ _)); exact BK450.out) hb); have n4_ := Aside0.mk (below_step (by repeat (first | (with_reducible first | exact HB.out | apply below_alloc | apply pw_below_drewN | apply below_drew1 | refine below_set ?_ GE450.out) | exact HB.out)) hb); have n5_ := Aside0.mk (hbox); have n6_ := Aside0.mk ((by rw [hg]; exact (below_size (by repeat (first | (with_reducible first | exact HB.out | apply below_alloc | apply pw_below_drewN | apply below_drew1 | refine below_set ?_ GE450.out) | exact HB.out))) : w.heap.size ≤ gb473)); have n7_ := Aside0.mk ((by rw [hg]; exact (below_size (by repeat (first | (with_reducible first | exact HB.out | apply below_alloc | apply pw_below_drewN | apply below_drew1 | refine below_set ?_ GE450.out) | exact HB.out))) : w.heap.size ≤ gb473)); have n8_ := Aside0.mk ((by rw [hg]; exact Nat.ne_of_lt (blk_lt (g := gb450) (o := .cells #[.bool a0_0, .bool a0_1, .bool a0_2, .bool a0_3, .bool a0_4, .bool a0_5, .bool a0_6, .int .i64 a0_7, .int .i64 a0_8, .int .i64 a0_9] 23 (0, 0)) (by (with_reducible repeat (first | refine blk_drewN ?_ _ | refine blk_drew ?_ | refine blk_alloc ?_ _)); exact BK450.out)) : gb450 ≠ gb473)); have n9_ := Aside0.mk ((by rw [hg]; exact Nat.ne_of_gt (blk_lt (g := gb450) (o := .cells #[.bool a0_0, .bool a0_1, .bool a0_2, .bool a0_3, .bool a0_4, .bool a0_5, .bool a0_6, .int .i64 a0_7, .int .i64 a0_8, .int .i64 a0_9] 23 (0, 0)) (by (with_reducible repeat (first | refine blk_drewN ?_ _ | refine blk_drew ?_ | refine blk_alloc ?_ _)); exact BK450.out)) : gb473 ≠ gb450)); clear HO_1; clear HO_2; clear HO462; clear BK450; clear HB; have HO_1 := n0_; have HO_2 := n1_; have HO462 := n2_; have BK450 := n3_; have HB := n4_; have BK473 := n5_; have GW473 := n6_; have GE473 := n7_; have NB450_473 := n8_; have NB473_450 := n9_; clear n0_ n1_ n2_ n3_ n4_ n5_ n6_ n7_ n8_ n9_; clear hb hbox hg; have hnb75 := NB473_450.out; have hnc75 := NB450_473.out; have hcz76_0 : w74.cell? ⟨gb473, 0, none⟩ = some (.bool false) := (blk_cell BK473.out 0).trans rfl; have hcz76_1 : w74.cell? ⟨gb473, 1, none⟩ = some (.bool false) := (blk_cell BK473.out 1).trans rfl; have hcz76_2 : w74.cell? ⟨gb473, 2, none⟩ = some (.bool false) := (blk_cell BK473.out 2).trans rfl; have hcz76_3 : w74.cell? ⟨gb473, 3, none⟩ = some (.bool false) := (blk_cell BK473.out 3).trans rfl; have hcz76_4 : w74.cell? ⟨gb473, 4, none⟩ = some (.bool false) := (blk_cell BK473.out 4).trans rfl; have hcz76_5 : w74.cell? ⟨gb473, 5, none⟩ = some (.bool false) := (blk_cell BK473.out 5).trans rfl; have hcz76_6 : w74.cell? ⟨gb473, 6, none⟩ = some (.bool false) := (blk_cell BK473.out 6).trans rfl; have hcz76_7 : w74.cell? ⟨gb473, 7, none⟩ = some (.int .i64 0) := (blk_cell BK473.out 7).trans rfl; have hcz76_8 : w74.cell? ⟨gb473, 8, none⟩ = some (.int .i64 0) := (blk_cell BK473.out 8).trans rfl; have hcz76_9 : w74.cell? ⟨gb473, 9, none⟩ = some (.int .i64 0) := (blk_cell BK473.out 9).trans rfl; have hfz76_0 := blk_frozen BK473.out 0; have hfz76_1 := blk_frozen BK473.out 1; have hfz76_2 := blk_frozen BK473.out 2; have hfz76_3 := blk_frozen BK473.out 3; have hfz76_4 := blk_frozen BK473.out 4; have hfz76_5 := blk_frozen BK473.out 5; have hfz76_6 := blk_frozen BK473.out 6; have hfz76_7 := blk_frozen BK473.out 7; have hfz76_8 := blk_frozen BK473.out 8; have hfz76_9 := blk_frozen BK473.out 9))
              have n0_ : Aside0 (Kd.V (Kd.slice 3 (Kd.int .i64)) 35 ((((((((((w74.setCell ⟨gb473, 0, none⟩ (.bool t463)).setCell ⟨gb473, 1, none⟩ (.bool t464)).setCell ⟨gb473, 2, none⟩ (.bool t465)).setCell ⟨gb473, 3, none⟩ (.bool t466)).setCell ⟨gb473, 4, none⟩ (.bool t467)).setCell ⟨gb473, 5, none⟩ (.bool t468)).setCell ⟨gb473, 6, none⟩ (.bool t469)).setCell ⟨gb473, 7, none⟩ (.int .i64 t470)).setCell ⟨gb473, 8, none⟩ (.int .i64 t471)).setCell ⟨gb473, 9, none⟩ (.int .i64 t472)) w.heap.size (fun k_ => ((P1_ k_ ∨ P2_ k_) ∨ w.heap.size ≤ k_) ∧ some k_ ≠ (.slice Ao72 y460.length co72 : Value).ownBlock ∧ k_ ≠ gb450 ∧ k_ ≠ gb473) (.slice A1 l1.length c1) l1) := ⟨by (with_reducible repeat (first | apply Kd.V_alloc | apply Kd.V_drewN | apply Kd.V_drew)); exact Kd.V_mono (Kd.V_far (p := ⟨gb473, 9, none⟩) (Kd.V_far (p := ⟨gb473, 8, none⟩) (Kd.V_far (p := ⟨gb473, 7, none⟩) (Kd.V_far (p := ⟨gb473, 6, none⟩) (Kd.V_far (p := ⟨gb473, 5, none⟩) (Kd.V_far (p := ⟨gb473, 4, none⟩) (Kd.V_far (p := ⟨gb473, 3, none⟩) (Kd.V_far (p := ⟨gb473, 2, none⟩) (Kd.V_far (p := ⟨gb473, 1, none⟩) (Kd.V_far (p := ⟨gb473, 0, none⟩) (Kd.V_mono HO_1.out (fun k_ hk => (⟨hk, hk.2⟩ : _ ∧ k_ ≠ gb473))) (fun _ hk => hk.2) (.bool t463)) (fun _ hk => hk.2) (.bool t464)) (fun _ hk => hk.2) (.bool t465)) (fun _ hk => hk.2) (.bool t466)) (fun _ hk => hk.2) (.bool t467)) (fun _ hk => hk.2) (.bool t468)) (fun _ hk => hk.2) (.bool t469)) (fun _ hk => hk.2) (.int .i64 t470)) (fun _ hk => hk.2) (.int .i64 t471)) (fun _ hk => hk.2) (.int .i64 t472)) (fun _ hk => ⟨hk.1.1.1.1, ⟨hk.1.1.2, ⟨hk.1.1.1.2, hk.1.2⟩⟩⟩)⟩
              have n1_ : Aside0 (Kd.V (Kd.slice 3 (Kd.int .i64)) 35 ((((((((((w74.setCell ⟨gb473, 0, none⟩ (.bool t463)).setCell ⟨gb473, 1, none⟩ (.bool t464)).setCell ⟨gb473, 2, none⟩ (.bool t465)).setCell ⟨gb473, 3, none⟩ (.bool t466)).setCell ⟨gb473, 4, none⟩ (.bool t467)).setCell ⟨gb473, 5, none⟩ (.bool t468)).setCell ⟨gb473, 6, none⟩ (.bool t469)).setCell ⟨gb473, 7, none⟩ (.int .i64 t470)).setCell ⟨gb473, 8, none⟩ (.int .i64 t471)).setCell ⟨gb473, 9, none⟩ (.int .i64 t472)) w.heap.size (fun k_ => ((P1_ k_ ∨ P2_ k_) ∨ w.heap.size ≤ k_) ∧ some k_ ≠ (.slice Ao72 y460.length co72 : Value).ownBlock ∧ k_ ≠ gb450 ∧ k_ ≠ gb473) (.slice A2 l2.length c2) l2) := ⟨by (with_reducible repeat (first | apply Kd.V_alloc | apply Kd.V_drewN | apply Kd.V_drew)); exact Kd.V_mono (Kd.V_far (p := ⟨gb473, 9, none⟩) (Kd.V_far (p := ⟨gb473, 8, none⟩) (Kd.V_far (p := ⟨gb473, 7, none⟩) (Kd.V_far (p := ⟨gb473, 6, none⟩) (Kd.V_far (p := ⟨gb473, 5, none⟩) (Kd.V_far (p := ⟨gb473, 4, none⟩) (Kd.V_far (p := ⟨gb473, 3, none⟩) (Kd.V_far (p := ⟨gb473, 2, none⟩) (Kd.V_far (p := ⟨gb473, 1, none⟩) (Kd.V_far (p := ⟨gb473, 0, none⟩) (Kd.V_mono HO_2.out (fun k_ hk => (⟨hk, hk.2⟩ : _ ∧ k_ ≠ gb473))) (fun _ hk => hk.2) (.bool t463)) (fun _ hk => hk.2) (.bool t464)) (fun _ hk => hk.2) (.bool t465)) (fun _ hk => hk.2) (.bool t466)) (fun _ hk => hk.2) (.bool t467)) (fun _ hk => hk.2) (.bool t468)) (fun _ hk => hk.2) (.bool t469)) (fun _ hk => hk.2) (.int .i64 t470)) (fun _ hk => hk.2) (.int .i64 t471)) (fun _ hk => hk.2) (.int .i64 t472)) (fun _ hk => ⟨hk.1.1.1.1, ⟨hk.1.1.2, ⟨hk.1.1.1.2, hk.1.2⟩⟩⟩)⟩
              have n2_ : Aside0 (Kd.N (Kd.slice 3 (Kd.int .i64)) 35 ((((((((((w74.setCell ⟨gb473, 0, none⟩ (.bool t463)).setCell ⟨gb473, 1, none⟩ (.bool t464)).setCell ⟨gb473, 2, none⟩ (.bool t465)).setCell ⟨gb473, 3, none⟩ (.bool t466)).setCell ⟨gb473, 4, none⟩ (.bool t467)).setCell ⟨gb473, 5, none⟩ (.bool t468)).setCell ⟨gb473, 6, none⟩ (.bool t469)).setCell ⟨gb473, 7, none⟩ (.int .i64 t470)).setCell ⟨gb473, 8, none⟩ (.int .i64 t471)).setCell ⟨gb473, 9, none⟩ (.int .i64 t472)) w.heap.size (fun k_ => ((P1_ k_ ∨ P2_ k_) ∨ w.heap.size ≤ k_) ∧ k_ ≠ gb450 ∧ k_ ≠ gb473) (.slice Ao72 y460.length co72) y460) := ⟨by (with_reducible repeat (first | apply Kd.N_alloc | apply Kd.N_drewN | apply Kd.N_drew)); exact Kd.N_mono (Kd.N_far (p := ⟨gb473, 9, none⟩) (Kd.N_far (p := ⟨gb473, 8, none⟩) (Kd.N_far (p := ⟨gb473, 7, none⟩) (Kd.N_far (p := ⟨gb473, 6, none⟩) (Kd.N_far (p := ⟨gb473, 5, none⟩) (Kd.N_far (p := ⟨gb473, 4, none⟩) (Kd.N_far (p := ⟨gb473, 3, none⟩) (Kd.N_far (p := ⟨gb473, 2, none⟩) (Kd.N_far (p := ⟨gb473, 1, none⟩) (Kd.N_far (p := ⟨gb473, 0, none⟩) (Kd.N_mono HO462.out (fun k_ hk => (⟨hk, hk.2⟩ : _ ∧ k_ ≠ gb473))) (fun _ hk => hk.2) (.bool t463)) (fun _ hk => hk.2) (.bool t464)) (fun _ hk => hk.2) (.bool t465)) (fun _ hk => hk.2) (.bool t466)) (fun _ hk => hk.2) (.bool t467)) (fun _ hk => hk.2) (.bool t468)) (fun _ hk => hk.2) (.bool t469)) (fun _ hk => hk.2) (.int .i64 t470)) (fun _ hk => hk.2) (.int .i64 t471)) (fun _ hk => hk.2) (.int .i64 t472)) (fun _ hk => ⟨hk.1.1.1, ⟨hk.1.1.2, hk.1.2⟩⟩)⟩
              have n3_ : Aside0 (((((((((((w74.setCell ⟨gb473, 0, none⟩ (.bool t463)).setCell ⟨gb473, 1, none⟩ (.bool t464)).setCell ⟨gb473, 2, none⟩ (.bool t465)).setCell ⟨gb473, 3, none⟩ (.bool t466)).setCell ⟨gb473, 4, none⟩ (.bool t467)).setCell ⟨gb473, 5, none⟩ (.bool t468)).setCell ⟨gb473, 6, none⟩ (.bool t469)).setCell ⟨gb473, 7, none⟩ (.int .i64 t470)).setCell ⟨gb473, 8, none⟩ (.int .i64 t471)).setCell ⟨gb473, 9, none⟩ (.int .i64 t472)).heap[gb450]? = some (.cells #[.bool a0_0, .bool a0_1, .bool a0_2, .bool a0_3, .bool a0_4, .bool a0_5, .bool a0_6, .int .i64 a0_7, .int .i64 a0_8, .int .i64 a0_9] 23 (0, 0))) := ⟨by (with_reducible repeat (first | refine blk_drewN ?_ _ | refine blk_drew ?_ | refine blk_alloc ?_ _)); refine blk_far ?_ NB450_473.out _; (with_reducible repeat (first | refine blk_drewN ?_ _ | refine blk_drew ?_ | refine blk_alloc ?_ _)); refine blk_far ?_ NB450_473.out _; (with_reducible repeat (first | refine blk_drewN ?_ _ | refine blk_drew ?_ | refine blk_alloc ?_ _)); refine blk_far ?_ NB450_473.out _; (with_reducible repeat (first | refine blk_drewN ?_ _ | refine blk_drew ?_ | refine blk_alloc ?_ _)); refine blk_far ?_ NB450_473.out _; (with_reducible repeat (first | refine blk_drewN ?_ _ | refine blk_drew ?_ | refine blk_alloc ?_ _)); refine blk_far ?_ NB450_473.out _; (with_reducible repeat (first | refine blk_drewN ?_ _ | refine blk_drew ?_ | refine blk_alloc ?_ _)); refine blk_far ?_ NB450_473.out _; (with_reducible repeat (first | refine blk_drewN ?_ _ | refine blk_drew ?_ | refine blk_alloc ?_ _)); refine blk_far ?_ NB450_473.out _; (with_reducible repeat (first | refine blk_drewN ?_ _ | refine blk_drew ?_ | refine blk_alloc ?_ _)); refine blk_far ?_ NB450_473.out _; (with_reducible repeat (first | refine blk_drewN ?_ _ | refine blk_drew ?_ | refine blk_alloc ?_ _)); refine blk_far ?_ NB450_473.out _; (with_reducible repeat (first | refine blk_drewN ?_ _ | refine blk_drew ?_ | refine blk_alloc ?_ _)); refine blk_far ?_ NB450_473.out _; (with_reducible repeat (first | refine blk_drewN ?_ _ | refine blk_drew ?_ | refine blk_alloc ?_ _)); exact BK450.out⟩
              have n4_ : Aside0 (((((((((((w74.setCell ⟨gb473, 0, none⟩ (.bool t463)).setCell ⟨gb473, 1, none⟩ (.bool t464)).setCell ⟨gb473, 2, none⟩ (.bool t465)).setCell ⟨gb473, 3, none⟩ (.bool t466)).setCell ⟨gb473, 4, none⟩ (.bool t467)).setCell ⟨gb473, 5, none⟩ (.bool t468)).setCell ⟨gb473, 6, none⟩ (.bool t469)).setCell ⟨gb473, 7, none⟩ (.int .i64 t470)).setCell ⟨gb473, 8, none⟩ (.int .i64 t471)).setCell ⟨gb473, 9, none⟩ (.int .i64 t472)).heap[gb473]? = some (.cells #[.bool t463, .bool t464, .bool t465, .bool t466, .bool t467, .bool t468, .bool t469, .int .i64 t470, .int .i64 t471, .int .i64 t472] 23 (0, 0))) := ⟨by (with_reducible repeat (first | refine blk_drewN ?_ _ | refine blk_drew ?_ | refine blk_alloc ?_ _)); refine blk_put (cs := #[.bool t463, .bool t464, .bool t465, .bool t466, .bool t467, .bool t468, .bool t469, .int .i64 t470, .int .i64 t471, .int .i64 0]) ?_ 9 _ rfl; (with_reducible repeat (first | refine blk_drewN ?_ _ | refine blk_drew ?_ | refine blk_alloc ?_ _)); refine blk_put (cs := #[.bool t463, .bool t464, .bool t465, .bool t466, .bool t467, .bool t468, .bool t469, .int .i64 t470, .int .i64 0, .int .i64 0]) ?_ 8 _ rfl; (with_reducible repeat (first | refine blk_drewN ?_ _ | refine blk_drew ?_ | refine blk_alloc ?_ _)); refine blk_put (cs := #[.bool t463, .bool t464, .bool t465, .bool t466, .bool t467, .bool t468, .bool t469, .int .i64 0, .int .i64 0, .int .i64 0]) ?_ 7 _ rfl; (with_reducible repeat (first | refine blk_drewN ?_ _ | refine blk_drew ?_ | refine blk_alloc ?_ _)); refine blk_put (cs := #[.bool t463, .bool t464, .bool t465, .bool t466, .bool t467, .bool t468, .bool false, .int .i64 0, .int .i64 0, .int .i64 0]) ?_ 6 _ rfl; (with_reducible repeat (first | refine blk_drewN ?_ _ | refine blk_drew ?_ | refine blk_alloc ?_ _)); refine blk_put (cs := #[.bool t463, .bool t464, .bool t465, .bool t466, .bool t467, .bool false, .bool false, .int .i64 0, .int .i64 0, .int .i64 0]) ?_ 5 _ rfl; (with_reducible repeat (first | refine blk_drewN ?_ _ | refine blk_drew ?_ | refine blk_alloc ?_ _)); refine blk_put (cs := #[.bool t463, .bool t464, .bool t465, .bool t466, .bool false, .bool false, .bool false, .int .i64 0, .int .i64 0, .int .i64 0]) ?_ 4 _ rfl; (with_reducible repeat (first | refine blk_drewN ?_ _ | refine blk_drew ?_ | refine blk_alloc ?_ _)); refine blk_put (cs := #[.bool t463, .bool t464, .bool t465, .bool false, .bool false, .bool false, .bool false, .int .i64 0, .int .i64 0, .int .i64 0]) ?_ 3 _ rfl; (with_reducible repeat (first | refine blk_drewN ?_ _ | refine blk_drew ?_ | refine blk_alloc ?_ _)); refine blk_put (cs := #[.bool t463, .bool t464, .bool false, .bool false, .bool false, .bool false, .bool false, .int .i64 0, .int .i64 0, .int .i64 0]) ?_ 2 _ rfl; (with_reducible repeat (first | refine blk_drewN ?_ _ | refine blk_drew ?_ | refine blk_alloc ?_ _)); refine blk_put (cs := #[.bool t463, .bool false, .bool false, .bool false, .bool false, .bool false, .bool false, .int .i64 0, .int .i64 0, .int .i64 0]) ?_ 1 _ rfl; (with_reducible repeat (first | refine blk_drewN ?_ _ | refine blk_drew ?_ | refine blk_alloc ?_ _)); refine blk_put (cs := #[.bool false, .bool false, .bool false, .bool false, .bool false, .bool false, .bool false, .int .i64 0, .int .i64 0, .int .i64 0]) ?_ 0 _ rfl; (with_reducible repeat (first | refine blk_drewN ?_ _ | refine blk_drew ?_ | refine blk_alloc ?_ _)); exact BK473.out⟩
              have n5_ : Aside0 (Below w.heap.size w ((((((((((w74.setCell ⟨gb473, 0, none⟩ (.bool t463)).setCell ⟨gb473, 1, none⟩ (.bool t464)).setCell ⟨gb473, 2, none⟩ (.bool t465)).setCell ⟨gb473, 3, none⟩ (.bool t466)).setCell ⟨gb473, 4, none⟩ (.bool t467)).setCell ⟨gb473, 5, none⟩ (.bool t468)).setCell ⟨gb473, 6, none⟩ (.bool t469)).setCell ⟨gb473, 7, none⟩ (.int .i64 t470)).setCell ⟨gb473, 8, none⟩ (.int .i64 t471)).setCell ⟨gb473, 9, none⟩ (.int .i64 t472))) := ⟨by repeat (first | (with_reducible first | exact HB.out | apply below_alloc | apply pw_below_drewN | apply below_drew1 | refine below_set ?_ GE450.out | refine below_set ?_ GE473.out) | exact HB.out)⟩
              (try clear HO_1)
              (try clear HO_2)
              (try clear HO462)
              (try clear BK450)
              (try clear BK473)
              (try clear HB)
              generalize ((((((((((w74.setCell ⟨gb473, 0, none⟩ (.bool t463)).setCell ⟨gb473, 1, none⟩ (.bool t464)).setCell ⟨gb473, 2, none⟩ (.bool t465)).setCell ⟨gb473, 3, none⟩ (.bool t466)).setCell ⟨gb473, 4, none⟩ (.bool t467)).setCell ⟨gb473, 5, none⟩ (.bool t468)).setCell ⟨gb473, 6, none⟩ (.bool t469)).setCell ⟨gb473, 7, none⟩ (.int .i64 t470)).setCell ⟨gb473, 8, none⟩ (.int .i64 t471)).setCell ⟨gb473, 9, none⟩ (.int .i64 t472)) = w77 at n0_ n1_ n2_ n3_ n4_ n5_ ⊢
              have HO_1 := n0_
              have HO_2 := n1_
              have HO462 := n2_
              have BK450 := n3_
              have BK473 := n4_
              have HB := n5_
              clear n0_ n1_ n2_ n3_ n4_ n5_
              have n0_ := Aside0.mk (Kd.V_drew HO_1.out)
              have n1_ := Aside0.mk (Kd.V_drew HO_2.out)
              have n2_ := Aside0.mk (Kd.N_drew HO462.out)
              have n3_ := Aside0.mk (blk_drew BK450.out)
              have n4_ := Aside0.mk (blk_drew BK473.out)
              have n5_ := Aside0.mk (below_drew1 HB.out)
              clear HO_1
              clear HO_2
              clear HO462
              clear BK450
              clear BK473
              clear HB
              have HO_1 := n0_
              have HO_2 := n1_
              have HO462 := n2_
              have BK450 := n3_
              have BK473 := n4_
              have HB := n5_
              clear n0_ n1_ n2_ n3_ n4_ n5_
              refine start_ (n := 20) (S := fun w' => True) (ds := []) #[false, false, false, false, false, false, false, false, false, false, false, false, false, false, false, false, false, false, false, false] (by kernel_rfl) rfl rfl trivial (fun hHeld => ?_); refine with_tabW clavierlaw18_StyleJoins.tab6 clavierlaw18_StyleJoins.bits6 (fun HT_ HW_ => ?_)
              generalize w77.drew = w78 at HO_1 HO_2 HO462 BK450 BK473 HB hHeld ⊢
              refine pure_ (i := 0) (N := some 28) (v := ?_) (a' := ?_) #[true, false, false, false, false, false, false, false, false, false, false, false, false, false, false, false, false, false, false, false] rfl rfl (any_of HT_.out (by kernel_rfl)) (fun _ _ _ h => h) (Or.inl ⟨by rfl, ?_⟩) ?_ ?_
              rotate_left
              · intro w'
                go_simp
                with_reducible rfl
              rotate_left
              · simp only [Act.put, List.setIfInBounds_toArray, List.set_cons_zero, List.set_cons_succ, i64_w, i32_w]
                rfl
              refine pure_ (i := 1) (N := some 29) (v := ?_) (a' := ?_) #[true, true, false, false, false, false, false, false, false, false, false, false, false, false, false, false, false, false, false, false] rfl rfl (any_of HT_.out (by kernel_rfl)) (fun _ _ _ h => h) (Or.inl ⟨by rfl, ?_⟩) ?_ ?_
              rotate_left
              · intro w'
                go_simp
                with_reducible rfl
              rotate_left
              · simp only [Act.put, List.setIfInBounds_toArray, List.set_cons_zero, List.set_cons_succ, i64_w, i32_w]
                rfl
              refine pure_ (i := 2) (N := some 30) (v := undef) (a' := ?_) #[true, true, true, false, false, false, false, false, false, false, false, false, false, false, false, false, false, false, false, false] rfl rfl (any_of HT_.out (by kernel_rfl)) (fun _ _ _ h => h) (Or.inr ⟨by rfl, rfl⟩) ?_ ?_
              rotate_left
              · simp only [Act.put, List.setIfInBounds_toArray, List.set_cons_zero, List.set_cons_succ, i64_w, i32_w]
                rfl
              refine pure_ (i := 3) (N := some 31) (v := undef) (a' := ?_) #[true, true, true, true, false, false, false, false, false, false, false, false, false, false, false, false, false, false, false, false] rfl rfl (any_of HT_.out (by kernel_rfl)) (fun _ _ _ h => h) (Or.inr ⟨by rfl, rfl⟩) ?_ ?_
              rotate_left
              · simp only [Act.put, List.setIfInBounds_toArray, List.set_cons_zero, List.set_cons_succ, i64_w, i32_w]
                rfl
              refine pure_ (i := 4) (N := some 32) (v := undef) (a' := ?_) #[true, true, true, true, true, false, false, false, false, false, false, false, false, false, false, false, false, false, false, false] rfl rfl (any_of HT_.out (by kernel_rfl)) (fun _ _ _ h => h) (Or.inr ⟨by rfl, rfl⟩) ?_ ?_
              rotate_left
              · simp only [Act.put, List.setIfInBounds_toArray, List.set_cons_zero, List.set_cons_succ, i64_w, i32_w]
                rfl
              refine pure_ (i := 5) (N := some 33) (v := undef) (a' := ?_) #[true, true, true, true, true, true, false, false, false, false, false, false, false, false, false, false, false, false, false, false] rfl rfl (any_of HT_.out (by kernel_rfl)) (fun _ _ _ h => h) (Or.inr ⟨by rfl, rfl⟩) ?_ ?_
              rotate_left
              · simp only [Act.put, List.setIfInBounds_toArray, List.set_cons_zero, List.set_cons_succ, i64_w, i32_w]
                rfl
              refine pure_ (i := 6) (N := some 34) (v := undef) (a' := ?_) #[true, true, true, true, true, true, true, false, false, false, false, false, false, false, false, false, false, false, false, false] rfl rfl (any_of HT_.out (by kernel_rfl)) (fun _ _ _ h => h) (Or.inr ⟨by rfl, rfl⟩) ?_ ?_
              rotate_left
              · simp only [Act.put, List.setIfInBounds_toArray, List.set_cons_zero, List.set_cons_succ, i64_w, i32_w]
                rfl
              refine pure_ (i := 7) (N := some 35) (v := undef) (a' := ?_) #[true, true, true, true, true, true, true, true, false, false, false, false, false, false, false, false, false, false, false, false] rfl rfl (any_of HT_.out (by kernel_rfl)) (fun _ _ _ h => h) (Or.inr ⟨by rfl, rfl⟩) ?_ ?_
              rotate_left
              · simp only [Act.put, List.setIfInBounds_toArray, List.set_cons_zero, List.set_cons_succ, i64_w, i32_w]
                rfl
              refine pure_ (i := 8) (N := some 36) (v := undef) (a' := ?_) #[true, true, true, true, true, true, true, true, true, false, false, false, false, false, false, false, false, false, false, false] rfl rfl (any_of HT_.out (by kernel_rfl)) (fun _ _ _ h => h) (Or.inr ⟨by rfl, rfl⟩) ?_ ?_
              rotate_left
              · simp only [Act.put, List.setIfInBounds_toArray, List.set_cons_zero, List.set_cons_succ, i64_w, i32_w]
                rfl
              refine pure_ (i := 9) (N := some 37) (v := ?_) (a' := ?_) #[true, true, true, true, true, true, true, true, true, true, false, false, false, false, false, false, false, false, false, false] rfl rfl (any_of HT_.out (by kernel_rfl)) (fun _ _ _ h => h) (Or.inl ⟨by rfl, ?_⟩) ?_ ?_
              rotate_left
              · intro w'
                go_simp
                with_reducible rfl
              rotate_left
              · simp only [Act.put, List.setIfInBounds_toArray, List.set_cons_zero, List.set_cons_succ, i64_w, i32_w]
                rfl
              refine pure_ (i := 10) (N := some 38) (v := ?_) (a' := ?_) #[true, true, true, true, true, true, true, true, true, true, true, false, false, false, false, false, false, false, false, false] rfl rfl (any_of HT_.out (by kernel_rfl)) (fun _ _ _ h => h) (Or.inl ⟨by rfl, ?_⟩) ?_ ?_
              rotate_left
              · intro w'
                go_simp
                with_reducible rfl
              rotate_left
              · simp only [Act.put, List.setIfInBounds_toArray, List.set_cons_zero, List.set_cons_succ, i64_w, i32_w]
                rfl
              refine pure_ (i := 11) (N := some 39) (v := undef) (a' := ?_) #[true, true, true, true, true, true, true, true, true, true, true, true, false, false, false, false, false, false, false, false] rfl rfl (any_of HT_.out (by kernel_rfl)) (fun _ _ _ h => h) (Or.inr ⟨by rfl, rfl⟩) ?_ ?_
              rotate_left
              · simp only [Act.put, List.setIfInBounds_toArray, List.set_cons_zero, List.set_cons_succ, i64_w, i32_w]
                rfl
              refine pure_ (i := 12) (N := some 40) (v := undef) (a' := ?_) #[true, true, true, true, true, true, true, true, true, true, true, true, true, false, false, false, false, false, false, false] rfl rfl (any_of HT_.out (by kernel_rfl)) (fun _ _ _ h => h) (Or.inr ⟨by rfl, rfl⟩) ?_ ?_
              rotate_left
              · simp only [Act.put, List.setIfInBounds_toArray, List.set_cons_zero, List.set_cons_succ, i64_w, i32_w]
                rfl
              refine pure_ (i := 13) (N := some 41) (v := undef) (a' := ?_) #[true, true, true, true, true, true, true, true, true, true, true, true, true, true, false, false, false, false, false, false] rfl rfl (any_of HT_.out (by kernel_rfl)) (fun _ _ _ h => h) (Or.inr ⟨by rfl, rfl⟩) ?_ ?_
              rotate_left
              · simp only [Act.put, List.setIfInBounds_toArray, List.set_cons_zero, List.set_cons_succ, i64_w, i32_w]
                rfl
              refine pure_ (i := 14) (N := some 42) (v := undef) (a' := ?_) #[true, true, true, true, true, true, true, true, true, true, true, true, true, true, true, false, false, false, false, false] rfl rfl (any_of HT_.out (by kernel_rfl)) (fun _ _ _ h => h) (Or.inr ⟨by rfl, rfl⟩) ?_ ?_
              rotate_left
              · simp only [Act.put, List.setIfInBounds_toArray, List.set_cons_zero, List.set_cons_succ, i64_w, i32_w]
                rfl
              refine pure_ (i := 15) (N := some 43) (v := undef) (a' := ?_) #[true, true, true, true, true, true, true, true, true, true, true, true, true, true, true, true, false, false, false, false] rfl rfl (any_of HT_.out (by kernel_rfl)) (fun _ _ _ h => h) (Or.inr ⟨by rfl, rfl⟩) ?_ ?_
              rotate_left
              · simp only [Act.put, List.setIfInBounds_toArray, List.set_cons_zero, List.set_cons_succ, i64_w, i32_w]
                rfl
              refine pure_ (i := 16) (N := some 44) (v := undef) (a' := ?_) #[true, true, true, true, true, true, true, true, true, true, true, true, true, true, true, true, true, false, false, false] rfl rfl (any_of HT_.out (by kernel_rfl)) (fun _ _ _ h => h) (Or.inr ⟨by rfl, rfl⟩) ?_ ?_
              rotate_left
              · simp only [Act.put, List.setIfInBounds_toArray, List.set_cons_zero, List.set_cons_succ, i64_w, i32_w]
                rfl
              refine pure_ (i := 17) (N := some 45) (v := undef) (a' := ?_) #[true, true, true, true, true, true, true, true, true, true, true, true, true, true, true, true, true, true, false, false] rfl rfl (any_of HT_.out (by kernel_rfl)) (fun _ _ _ h => h) (Or.inr ⟨by rfl, rfl⟩) ?_ ?_
              rotate_left
              · simp only [Act.put, List.setIfInBounds_toArray, List.set_cons_zero, List.set_cons_succ, i64_w, i32_w]
                rfl
              refine pure_ (i := 18) (N := some 46) (v := ?_) (a' := ?_) #[true, true, true, true, true, true, true, true, true, true, true, true, true, true, true, true, true, true, true, false] rfl rfl (any_of HT_.out (by kernel_rfl)) (fun _ _ _ h => h) (Or.inl ⟨by rfl, ?_⟩) ?_ ?_
              rotate_left
              · intro w'
                go_simp
                with_reducible rfl
              rotate_left
              · simp only [Act.put, List.setIfInBounds_toArray, List.set_cons_zero, List.set_cons_succ, i64_w, i32_w]
                rfl
              refine pure_ (i := 19) (N := some 6) (v := ?_) (a' := ?_) #[true, true, true, true, true, true, true, true, true, true, true, true, true, true, true, true, true, true, true, true] rfl rfl (any_of HT_.out (by kernel_rfl)) (fun _ _ _ h => h) (Or.inl ⟨by rfl, ?_⟩) ?_ ?_
              rotate_left
              · intro w'
                go_simp
                with_reducible rfl
              rotate_left
              · simp only [Act.put, List.setIfInBounds_toArray, List.set_cons_zero, List.set_cons_succ, i64_w, i32_w]
                rfl
              refine done_ (done_of HT_.out (by kernel_rfl)) ?_
              try go_wp2
              go_ret
              exact ⟨by first | rfl | (simp [errW_none, errW_some] <;> rfl) | (simp [*, errW_none, errW_some] <;> rfl), by repeat (first | (with_reducible first | exact HB.out | apply below_alloc | apply pw_below_drewN | apply below_drew1 | refine below_set ?_ GE450.out | refine below_set ?_ GE473.out) | exact HB.out)⟩
          · rw [if_neg c13] at H
            exact absurd H (by simp)
        · rw [if_neg c12] at H
          exact absurd H (by simp)
end Go.Proofs.YtbaigfoioiklkaaDoor.G
end
