/- R: texts run together by shake.py: Gclavierref18a. -/
import Derived.ArgAppend
import Derived.Below
import Derived.BigQuiet
import Derived.Deep.AppendLies
import Derived.Deep.CutBlock
import Derived.Deep.DeepCutAuto
import Derived.Deep.Draws
import Derived.Deep.LoopGhost
import Derived.Deep.OwnRows
import Derived.Deep.Quiet
import Derived.Deep.QuietTactic
import Derived.Deep.RegionHeld3
import Derived.Ground.Names2Prog
import Derived.Ground.SlgnProg
import Derived.KernelRfl
import Derived.Laws.AppendOwn
import Derived.Laws.AppendOwnNone
import Derived.Laws.BitsLemmas
import Derived.Laws.BytesArg
import Derived.Laws.Concat
import Derived.Laws.CopyRow
import Derived.Laws.IdiomCopy
import Derived.Laws.IdiomStrings
import Derived.Laws.MakeOwn
import Derived.Laws.OwnMore
import Derived.Laws.Rows
import Derived.Laws.Slices
import Derived.Laws.StructEq
import Derived.Laws.Tables
import Derived.Lib.AppendIntMem
import Derived.Lib.AppendStr
import Derived.Lib.ConvBytes
import Derived.Lib.Hide
import Derived.Lib.ItoaLen
import Derived.Lib.ItoaNum
import Derived.Lib.LaidTab
import Derived.MapKept
import Derived.Maps.AppendAt
import Derived.Orders
import Derived.OrdersHeld
import Derived.Outline
import Derived.OwnWalk
import Derived.RowKit
import Derived.RowKit3
import Derived.Shelf.LaysM
import Derived.Shelf.Slices.Clone
import Derived.Shelf.SlicesE.Clone
import Derived.Shelf.Strconv.Itoa0
import Derived.Shelf.Strconv.Itoa1
import Derived.Shelf.Strconv.Itoa2
import Derived.Shelf.Strconv.Itoa3
import Derived.Shelf.Strings.Builder1
import Derived.Shelf.Strings.Builder2
import Derived.Shelf.Strings.Builder2Cap
import Derived.Shelf.Strings.BuilderCap
import Derived.Shelf.Strings.BuilderF
import Derived.Shelf.Strings.BuilderK
import Derived.Shelf.Strings.OnBuilder
import Derived.Still
import Derived.Tactics
import Derived.Test.YtopcleljecdkkaaDoorProg
import Derived.WalkKit
import Derived.WalkLawsBesides
import Derived.WalkSpells
import Derived.WideLaws
import Derived.Test.YtopcleljecdkkaaDoorZR1
import Derived.Test.YtopcleljecdkkaaDoorZR2
import Derived.Test.YtopcleljecdkkaaDoorZR3
import Derived.Test.YtopcleljecdkkaaDoorZR4
section
namespace Go.Proofs.YtopcleljecdkkaaDoor.G
open Go.RowKit Go.Proofs.YtopcleljecdkkaaDoorW.PrintWords Go.Proofs.YtopcleljecdkkaaDoorW.PrintLast Go.Proofs.YtopcleljecdkkaaDoorW.PrintMore
attribute [local go_sem] max2_int min2_int max_two min_two max_three min_three max_four min_four
set_option linter.unusedVariables false
set_option linter.unusedSimpArgs false
def clavierref18_colour.f (a0 : Int) : Option (Bool) := if a0 ≥ (-1) then (some (decide (a0 < 16777472))) else (some false)
set_option maxHeartbeats 8000000 in
set_option maxRecDepth 100000 in
theorem clavierref18_colour.calls (a0 : Int) (r : Bool) (w : World) (h : clavierref18_colour.f a0 = some r) :
    Calls Tryd.prog 44 #[.int .i64 a0] w fun e w' => e = .returned (.bool r) ∧ Drawn0 w w' := by
  have H : (if a0 ≥ (-1) then (some (decide (a0 < 16777472))) else (some false)) = some r := h
  clear h
  by_cases c2 : a0 ≥ (-1)
  · rw [if_pos c2] at H
    have c2b0 : decide ((-1) ≤ a0) = true := decide_eq_true c2
    clear c2
    obtain rfl := Option.some.inj H
    go_enter Tryd.func44, Tryd.ntmps44
    go_wp2
    go_ret
    exact ⟨by first | rfl | (simp; done) | (simp [*]; done), by repeat (first | exact Drawn0.refl _ | apply Drawn0.step)⟩
  · rw [if_neg c2] at H
    have c2b0 : decide ((-1) ≤ a0) = false := decide_eq_false c2
    clear c2
    obtain rfl := Option.some.inj H
    go_enter Tryd.func44, Tryd.ntmps44
    go_wp2
    go_ret
    exact ⟨by first | rfl | (simp; done) | (simp [*]; done), by repeat (first | exact Drawn0.refl _ | apply Drawn0.step)⟩
def clavierref18_May.f (a0_0 : Bool) (a0_1 : Bool) (a0_2 : Bool) (a0_3 : Bool) (a0_4 : Bool) (a0_5 : Bool) (a0_6 : Bool) (a0_7 : Int) (a0_8 : Int) (a0_9 : Int) : Option (Bool) := if a0_7 ≥ 0 then (if a0_7 ≤ 5 then ((clavierref18_colour.f a0_8).bind fun t256 => (if t256 = true then ((clavierref18_colour.f a0_9).bind fun t257 => (some t257)) else (some false))) else (some false)) else (some false)
set_option maxHeartbeats 8000000 in
set_option maxRecDepth 100000 in
theorem clavierref18_May.calls (a0_0 : Bool) (a0_1 : Bool) (a0_2 : Bool) (a0_3 : Bool) (a0_4 : Bool) (a0_5 : Bool) (a0_6 : Bool) (a0_7 : Int) (a0_8 : Int) (a0_9 : Int) (r : Bool) (w : World) (h : clavierref18_May.f a0_0 a0_1 a0_2 a0_3 a0_4 a0_5 a0_6 a0_7 a0_8 a0_9 = some r) :
    Calls Tryd.prog 15 #[.agg #[.bool a0_0, .bool a0_1, .bool a0_2, .bool a0_3, .bool a0_4, .bool a0_5, .bool a0_6, .int .i64 a0_7, .int .i64 a0_8, .int .i64 a0_9]] w fun e w' => e = .returned (.bool r) ∧ Below w.heap.size w w' := by
  have hu23 := Tryd.underlying23
  have HB := Aside0.mk (Below.refl w.heap.size w)
  have H : (if a0_7 ≥ 0 then (if a0_7 ≤ 5 then ((clavierref18_colour.f a0_8).bind fun t256 => (if t256 = true then ((clavierref18_colour.f a0_9).bind fun t257 => (some t257)) else (some false))) else (some false)) else (some false)) = some r := h
  clear h
  by_cases c2 : a0_7 ≥ 0
  · rw [if_pos c2] at H
    have c2b0 : decide (0 ≤ a0_7) = true := decide_eq_true c2
    clear c2
    by_cases c3 : a0_7 ≤ 5
    · rw [if_pos c3] at H
      have c3b0 : decide (a0_7 ≤ 5) = true := decide_eq_true c3
      clear c3
      replace H := Option.bind_eq_some_iff.mp H
      obtain ⟨t256, A40, H⟩ := H
      replace H : (if t256 = true then ((clavierref18_colour.f a0_9).bind fun t257 => (some t257)) else (some false)) = some r := H
      have A4 := Aside0.mk A40
      clear A40
      by_cases c5 : t256 = true
      · subst c5
        have H1 : ((clavierref18_colour.f a0_9).bind fun t257 => (some t257)) = some r := by rw [if_pos rfl] at H; exact H
        clear H
        have H := H1
        clear H1
        replace H := Option.bind_eq_some_iff.mp H
        obtain ⟨t257, A60, H⟩ := H
        replace H : (some t257) = some r := H
        have A6 := Aside0.mk A60
        clear A60
        obtain rfl := Option.some.inj H
        go_enter Tryd.func15, Tryd.ntmps15
        go_wp2_with (first | ((with_reducible refine gate_dst (N := 1) rfl ?_); refine box_event ?hg (N := 1) ?hd (cs := #[.bool a0_0, .bool a0_1, .bool a0_2, .bool a0_3, .bool a0_4, .bool a0_5, .bool a0_6, .int .i64 a0_7, .int .i64 a0_8, .int .i64 a0_9]) (t := 23) ?hr ?_; (case hd => rfl); (case hg => rfl); (case hr => first | (go_simp; done) | (go_simp; rfl)); intro gb255 hg w7 hbox hb; have n0_ := Aside0.mk (below_step (by repeat (first | (with_reducible first | exact HB.out | apply la1 | apply ln1 | apply ld1) | exact HB.out)) hb); have n1_ := Aside0.mk (hbox); have n2_ := Aside0.mk ((by rw [hg]; exact (below_size (by repeat (first | (with_reducible first | exact HB.out | apply la1 | apply ln1 | apply ld1) | exact HB.out))) : w.heap.size ≤ gb255)); have n3_ := Aside0.mk ((by rw [hg]; exact (below_size (by repeat (first | (with_reducible first | exact HB.out | apply la1 | apply ln1 | apply ld1) | exact HB.out))) : w.heap.size ≤ gb255)); clear HB; have HB := n0_; have BK255 := n1_; have GW255 := n2_; have GE255 := n3_; clear n0_ n1_ n2_ n3_; clear hb hbox hg; have hcz8_0 : w7.cell? ⟨gb255, 0, none⟩ = some (.bool a0_0) := (bc1 BK255.out 0).trans rfl; have hcz8_1 : w7.cell? ⟨gb255, 1, none⟩ = some (.bool a0_1) := (bc1 BK255.out 1).trans rfl; have hcz8_2 : w7.cell? ⟨gb255, 2, none⟩ = some (.bool a0_2) := (bc1 BK255.out 2).trans rfl; have hcz8_3 : w7.cell? ⟨gb255, 3, none⟩ = some (.bool a0_3) := (bc1 BK255.out 3).trans rfl; have hcz8_4 : w7.cell? ⟨gb255, 4, none⟩ = some (.bool a0_4) := (bc1 BK255.out 4).trans rfl; have hcz8_5 : w7.cell? ⟨gb255, 5, none⟩ = some (.bool a0_5) := (bc1 BK255.out 5).trans rfl; have hcz8_6 : w7.cell? ⟨gb255, 6, none⟩ = some (.bool a0_6) := (bc1 BK255.out 6).trans rfl; have hcz8_7 : w7.cell? ⟨gb255, 7, none⟩ = some (.int .i64 a0_7) := (bc1 BK255.out 7).trans rfl; have hcz8_8 : w7.cell? ⟨gb255, 8, none⟩ = some (.int .i64 a0_8) := (bc1 BK255.out 8).trans rfl; have hcz8_9 : w7.cell? ⟨gb255, 9, none⟩ = some (.int .i64 a0_9) := (bc1 BK255.out 9).trans rfl; have hfz8_0 := bz1 BK255.out 0; have hfz8_1 := bz1 BK255.out 1; have hfz8_2 := bz1 BK255.out 2; have hfz8_3 := bz1 BK255.out 3; have hfz8_4 := bz1 BK255.out 4; have hfz8_5 := bz1 BK255.out 5; have hfz8_6 := bz1 BK255.out 6; have hfz8_7 := bz1 BK255.out 7; have hfz8_8 := bz1 BK255.out 8; have hfz8_9 := bz1 BK255.out 9) | (go_at_call 44; (with_reducible refine (clavierref18_colour.calls a0_8 true _ A4.out).mono ?_); rintro e w' ⟨rfl, ⟨nd, rfl⟩⟩) | (go_at_call 44; (with_reducible refine (clavierref18_colour.calls a0_9 t257 _ A6.out).mono ?_); rintro e w' ⟨rfl, ⟨nd, rfl⟩⟩))
        go_ret
        exact ⟨by first | rfl | (simp [errW_none, errW_some] <;> rfl) | (simp [*, errW_none, errW_some] <;> rfl), by repeat (first | (with_reducible first | exact HB.out | apply la1 | apply ln1 | apply ld1 | refine ls1 ?_ GE255.out) | exact HB.out)⟩
      · replace c5 := Bool.eq_false_iff.mpr c5
        subst c5
        have H1 : (some false) = some r := by rw [if_neg (show ¬ (false = true) by decide)] at H; exact H
        clear H
        have H := H1
        clear H1
        obtain rfl := Option.some.inj H
        go_enter Tryd.func15, Tryd.ntmps15
        go_wp2_with (first | ((with_reducible refine gate_dst (N := 1) rfl ?_); refine box_event ?hg (N := 1) ?hd (cs := #[.bool a0_0, .bool a0_1, .bool a0_2, .bool a0_3, .bool a0_4, .bool a0_5, .bool a0_6, .int .i64 a0_7, .int .i64 a0_8, .int .i64 a0_9]) (t := 23) ?hr ?_; (case hd => rfl); (case hg => rfl); (case hr => first | (go_simp; done) | (go_simp; rfl)); intro gb255 hg w9 hbox hb; have n0_ := Aside0.mk (below_step (by repeat (first | (with_reducible first | exact HB.out | apply la1 | apply ln1 | apply ld1) | exact HB.out)) hb); have n1_ := Aside0.mk (hbox); have n2_ := Aside0.mk ((by rw [hg]; exact (below_size (by repeat (first | (with_reducible first | exact HB.out | apply la1 | apply ln1 | apply ld1) | exact HB.out))) : w.heap.size ≤ gb255)); have n3_ := Aside0.mk ((by rw [hg]; exact (below_size (by repeat (first | (with_reducible first | exact HB.out | apply la1 | apply ln1 | apply ld1) | exact HB.out))) : w.heap.size ≤ gb255)); clear HB; have HB := n0_; have BK255 := n1_; have GW255 := n2_; have GE255 := n3_; clear n0_ n1_ n2_ n3_; clear hb hbox hg; have hcz10_0 : w9.cell? ⟨gb255, 0, none⟩ = some (.bool a0_0) := (bc1 BK255.out 0).trans rfl; have hcz10_1 : w9.cell? ⟨gb255, 1, none⟩ = some (.bool a0_1) := (bc1 BK255.out 1).trans rfl; have hcz10_2 : w9.cell? ⟨gb255, 2, none⟩ = some (.bool a0_2) := (bc1 BK255.out 2).trans rfl; have hcz10_3 : w9.cell? ⟨gb255, 3, none⟩ = some (.bool a0_3) := (bc1 BK255.out 3).trans rfl; have hcz10_4 : w9.cell? ⟨gb255, 4, none⟩ = some (.bool a0_4) := (bc1 BK255.out 4).trans rfl; have hcz10_5 : w9.cell? ⟨gb255, 5, none⟩ = some (.bool a0_5) := (bc1 BK255.out 5).trans rfl; have hcz10_6 : w9.cell? ⟨gb255, 6, none⟩ = some (.bool a0_6) := (bc1 BK255.out 6).trans rfl; have hcz10_7 : w9.cell? ⟨gb255, 7, none⟩ = some (.int .i64 a0_7) := (bc1 BK255.out 7).trans rfl; have hcz10_8 : w9.cell? ⟨gb255, 8, none⟩ = some (.int .i64 a0_8) := (bc1 BK255.out 8).trans rfl; have hcz10_9 : w9.cell? ⟨gb255, 9, none⟩ = some (.int .i64 a0_9) := (bc1 BK255.out 9).trans rfl; have hfz10_0 := bz1 BK255.out 0; have hfz10_1 := bz1 BK255.out 1; have hfz10_2 := bz1 BK255.out 2; have hfz10_3 := bz1 BK255.out 3; have hfz10_4 := bz1 BK255.out 4; have hfz10_5 := bz1 BK255.out 5; have hfz10_6 := bz1 BK255.out 6; have hfz10_7 := bz1 BK255.out 7; have hfz10_8 := bz1 BK255.out 8; have hfz10_9 := bz1 BK255.out 9) | (go_at_call 44; (with_reducible refine (clavierref18_colour.calls a0_8 false _ A4.out).mono ?_); rintro e w' ⟨rfl, ⟨nd, rfl⟩⟩))
        go_ret
        exact ⟨by first | rfl | (simp [errW_none, errW_some] <;> rfl) | (simp [*, errW_none, errW_some] <;> rfl), by repeat (first | (with_reducible first | exact HB.out | apply la1 | apply ln1 | apply ld1 | refine ls1 ?_ GE255.out) | exact HB.out)⟩
    · rw [if_neg c3] at H
      have c3b0 : decide (a0_7 ≤ 5) = false := decide_eq_false c3
      clear c3
      obtain rfl := Option.some.inj H
      go_enter Tryd.func15, Tryd.ntmps15
      go_wp2_with (first | ((with_reducible refine gate_dst (N := 1) rfl ?_); refine box_event ?hg (N := 1) ?hd (cs := #[.bool a0_0, .bool a0_1, .bool a0_2, .bool a0_3, .bool a0_4, .bool a0_5, .bool a0_6, .int .i64 a0_7, .int .i64 a0_8, .int .i64 a0_9]) (t := 23) ?hr ?_; (case hd => rfl); (case hg => rfl); (case hr => first | (go_simp; done) | (go_simp; rfl)); intro gb255 hg w11 hbox hb; have n0_ := Aside0.mk (below_step (by repeat (first | (with_reducible first | exact HB.out | apply la1 | apply ln1 | apply ld1) | exact HB.out)) hb); have n1_ := Aside0.mk (hbox); have n2_ := Aside0.mk ((by rw [hg]; exact (below_size (by repeat (first | (with_reducible first | exact HB.out | apply la1 | apply ln1 | apply ld1) | exact HB.out))) : w.heap.size ≤ gb255)); have n3_ := Aside0.mk ((by rw [hg]; exact (below_size (by repeat (first | (with_reducible first | exact HB.out | apply la1 | apply ln1 | apply ld1) | exact HB.out))) : w.heap.size ≤ gb255)); clear HB; have HB := n0_; have BK255 := n1_; have GW255 := n2_; have GE255 := n3_; clear n0_ n1_ n2_ n3_; clear hb hbox hg; have hcz12_0 : w11.cell? ⟨gb255, 0, none⟩ = some (.bool a0_0) := (bc1 BK255.out 0).trans rfl; have hcz12_1 : w11.cell? ⟨gb255, 1, none⟩ = some (.bool a0_1) := (bc1 BK255.out 1).trans rfl; have hcz12_2 : w11.cell? ⟨gb255, 2, none⟩ = some (.bool a0_2) := (bc1 BK255.out 2).trans rfl; have hcz12_3 : w11.cell? ⟨gb255, 3, none⟩ = some (.bool a0_3) := (bc1 BK255.out 3).trans rfl; have hcz12_4 : w11.cell? ⟨gb255, 4, none⟩ = some (.bool a0_4) := (bc1 BK255.out 4).trans rfl; have hcz12_5 : w11.cell? ⟨gb255, 5, none⟩ = some (.bool a0_5) := (bc1 BK255.out 5).trans rfl; have hcz12_6 : w11.cell? ⟨gb255, 6, none⟩ = some (.bool a0_6) := (bc1 BK255.out 6).trans rfl; have hcz12_7 : w11.cell? ⟨gb255, 7, none⟩ = some (.int .i64 a0_7) := (bc1 BK255.out 7).trans rfl; have hcz12_8 : w11.cell? ⟨gb255, 8, none⟩ = some (.int .i64 a0_8) := (bc1 BK255.out 8).trans rfl; have hcz12_9 : w11.cell? ⟨gb255, 9, none⟩ = some (.int .i64 a0_9) := (bc1 BK255.out 9).trans rfl; have hfz12_0 := bz1 BK255.out 0; have hfz12_1 := bz1 BK255.out 1; have hfz12_2 := bz1 BK255.out 2; have hfz12_3 := bz1 BK255.out 3; have hfz12_4 := bz1 BK255.out 4; have hfz12_5 := bz1 BK255.out 5; have hfz12_6 := bz1 BK255.out 6; have hfz12_7 := bz1 BK255.out 7; have hfz12_8 := bz1 BK255.out 8; have hfz12_9 := bz1 BK255.out 9))
      go_ret
      exact ⟨by first | rfl | (simp [errW_none, errW_some] <;> rfl) | (simp [*, errW_none, errW_some] <;> rfl), by repeat (first | (with_reducible first | exact HB.out | apply la1 | apply ln1 | apply ld1 | refine ls1 ?_ GE255.out) | exact HB.out)⟩
  · rw [if_neg c2] at H
    have c2b0 : decide (0 ≤ a0_7) = false := decide_eq_false c2
    clear c2
    obtain rfl := Option.some.inj H
    go_enter Tryd.func15, Tryd.ntmps15
    go_wp2_with (first | ((with_reducible refine gate_dst (N := 1) rfl ?_); refine box_event ?hg (N := 1) ?hd (cs := #[.bool a0_0, .bool a0_1, .bool a0_2, .bool a0_3, .bool a0_4, .bool a0_5, .bool a0_6, .int .i64 a0_7, .int .i64 a0_8, .int .i64 a0_9]) (t := 23) ?hr ?_; (case hd => rfl); (case hg => rfl); (case hr => first | (go_simp; done) | (go_simp; rfl)); intro gb255 hg w13 hbox hb; have n0_ := Aside0.mk (below_step (by repeat (first | (with_reducible first | exact HB.out | apply la1 | apply ln1 | apply ld1) | exact HB.out)) hb); have n1_ := Aside0.mk (hbox); have n2_ := Aside0.mk ((by rw [hg]; exact (below_size (by repeat (first | (with_reducible first | exact HB.out | apply la1 | apply ln1 | apply ld1) | exact HB.out))) : w.heap.size ≤ gb255)); have n3_ := Aside0.mk ((by rw [hg]; exact (below_size (by repeat (first | (with_reducible first | exact HB.out | apply la1 | apply ln1 | apply ld1) | exact HB.out))) : w.heap.size ≤ gb255)); clear HB; have HB := n0_; have BK255 := n1_; have GW255 := n2_; have GE255 := n3_; clear n0_ n1_ n2_ n3_; clear hb hbox hg; have hcz14_0 : w13.cell? ⟨gb255, 0, none⟩ = some (.bool a0_0) := (bc1 BK255.out 0).trans rfl; have hcz14_1 : w13.cell? ⟨gb255, 1, none⟩ = some (.bool a0_1) := (bc1 BK255.out 1).trans rfl; have hcz14_2 : w13.cell? ⟨gb255, 2, none⟩ = some (.bool a0_2) := (bc1 BK255.out 2).trans rfl; have hcz14_3 : w13.cell? ⟨gb255, 3, none⟩ = some (.bool a0_3) := (bc1 BK255.out 3).trans rfl; have hcz14_4 : w13.cell? ⟨gb255, 4, none⟩ = some (.bool a0_4) := (bc1 BK255.out 4).trans rfl; have hcz14_5 : w13.cell? ⟨gb255, 5, none⟩ = some (.bool a0_5) := (bc1 BK255.out 5).trans rfl; have hcz14_6 : w13.cell? ⟨gb255, 6, none⟩ = some (.bool a0_6) := (bc1 BK255.out 6).trans rfl; have hcz14_7 : w13.cell? ⟨gb255, 7, none⟩ = some (.int .i64 a0_7) := (bc1 BK255.out 7).trans rfl; have hcz14_8 : w13.cell? ⟨gb255, 8, none⟩ = some (.int .i64 a0_8) := (bc1 BK255.out 8).trans rfl; have hcz14_9 : w13.cell? ⟨gb255, 9, none⟩ = some (.int .i64 a0_9) := (bc1 BK255.out 9).trans rfl; have hfz14_0 := bz1 BK255.out 0; have hfz14_1 := bz1 BK255.out 1; have hfz14_2 := bz1 BK255.out 2; have hfz14_3 := bz1 BK255.out 3; have hfz14_4 := bz1 BK255.out 4; have hfz14_5 := bz1 BK255.out 5; have hfz14_6 := bz1 BK255.out 6; have hfz14_7 := bz1 BK255.out 7; have hfz14_8 := bz1 BK255.out 8; have hfz14_9 := bz1 BK255.out 9))
    go_ret
    exact ⟨by first | rfl | (simp [errW_none, errW_some] <;> rfl) | (simp [*, errW_none, errW_some] <;> rfl), by repeat (first | (with_reducible first | exact HB.out | apply la1 | apply ln1 | apply ld1 | refine ls1 ?_ GE255.out) | exact HB.out)⟩
def clavierref18_one.f (l0 : List (List Int)) (a1 : Bool) (a2 : Int) : Option ((List (List Int))) := if a1 = true then ((some (([] : List (List Int)) : List (List Int))).bind fun y265 => (if y265.length + l0.length < 5864062014805 then ((some (y265 ++ l0 : List (List Int))).bind fun y268 => (if y268.length < 5864062014805 then (some (y268 ++ [(([a2] : List Int))])) else (none))) else (none))) else (some l0)
set_option maxHeartbeats 8000000 in
set_option maxRecDepth 100000 in
theorem clavierref18_one.calls (P0_ : Nat → Prop) (A0 : Option Addr) (c0 : Nat) (l0 : List (List Int)) (a1 : Bool) (a2 : Int) (r : List (List Int)) (w : World) (hs0 : Kd.V (Kd.slice 3 (Kd.int .i64)) 52 w w.heap.size (fun k_ => P0_ k_) (.slice A0 l0.length c0) l0) (h : clavierref18_one.f l0 a1 a2 = some r) :
    Calls Tryd.prog 73 #[.slice A0 l0.length c0, .bool a1, .int .i64 a2] w fun e w' => ∃ v0_ : Value, e = .returned (v0_) ∧ Kd.V (Kd.slice 3 (Kd.int .i64)) 52 w' w.heap.size (fun k_ => (P0_ k_ ∨ w.heap.size ≤ k_)) v0_ r ∧ Below w.heap.size w w' := by
  have HO0 := Aside0.mk (show Kd.V (Kd.slice 3 (Kd.int .i64)) 52 w w.heap.size (fun k_ => (P0_ k_ ∨ w.heap.size ≤ k_)) (.slice A0 l0.length c0) l0 from Kd.V_mono hs0 (fun k_ hk => .inl hk))
  have HB := Aside0.mk (Below.refl w.heap.size w)
  have H : (if a1 = true then ((some (([] : List (List Int)) : List (List Int))).bind fun y265 => (if y265.length + l0.length < 5864062014805 then ((some (y265 ++ l0 : List (List Int))).bind fun y268 => (if y268.length < 5864062014805 then (some (y268 ++ [(([a2] : List Int))])) else (none))) else (none))) else (some l0)) = some r := h
  clear h
  by_cases c4 : a1 = true
  · subst c4
    have H1 : ((some (([] : List (List Int)) : List (List Int))).bind fun y265 => (if y265.length + l0.length < 5864062014805 then ((some (y265 ++ l0 : List (List Int))).bind fun y268 => (if y268.length < 5864062014805 then (some (y268 ++ [(([a2] : List Int))])) else (none))) else (none))) = some r := by rw [if_pos rfl] at H; exact H
    clear H
    have H := H1
    clear H1
    obtain ⟨y265, hy265⟩ : ∃ y_ : List (List Int), y_ = (([] : List (List Int))) := ⟨_, rfl⟩
    replace H : (if y265.length + l0.length < 5864062014805 then ((some (y265 ++ l0 : List (List Int))).bind fun y268 => (if y268.length < 5864062014805 then (some (y268 ++ [(([a2] : List Int))])) else (none))) else (none)) = some r := by first | (rw [hy265]; with_reducible exact H) | (have H2_ := (Option.bind_some _ _).symm.trans H; rw [hy265]; with_reducible exact H2_) | (have H2_ := (Option.bind_some _ _).symm.trans H; with_reducible exact H2_) | with_reducible exact H | (rw [hy265]; exact H) | exact H
    have Ny265 := Aside0.mk hy265
    clear hy265
    by_cases c5 : y265.length + l0.length < 5864062014805
    · rw [if_pos c5] at H
      have LMc5 := Aside0.mk c5
      clear c5
      obtain ⟨y268, hy268⟩ : ∃ y_ : List (List Int), y_ = (y265 ++ l0) := ⟨_, rfl⟩
      replace H : (if y268.length < 5864062014805 then (some (y268 ++ [(([a2] : List Int))])) else (none)) = some r := by first | (rw [hy268]; with_reducible exact H) | (have H2_ := (Option.bind_some _ _).symm.trans H; rw [hy268]; with_reducible exact H2_) | (have H2_ := (Option.bind_some _ _).symm.trans H; with_reducible exact H2_) | with_reducible exact H | (rw [hy268]; exact H) | exact H
      have Ny268 := Aside0.mk hy268
      clear hy268
      obtain ⟨y271, hy271⟩ : ∃ y_ : List Int, y_ = (([a2] : List Int)) := ⟨_, rfl⟩
      replace H : (if y268.length < 5864062014805 then (some (y268 ++ [y271])) else (none)) = some r := by first | (rw [hy271]; with_reducible exact H) | (have H2_ := (Option.bind_some _ _).symm.trans H; rw [hy271]; with_reducible exact H2_) | (have H2_ := (Option.bind_some _ _).symm.trans H; with_reducible exact H2_) | with_reducible exact H | (rw [hy271]; exact H) | exact H
      have Ny271 := Aside0.mk hy271
      clear hy271
      by_cases c6 : y268.length < 5864062014805
      · rw [if_pos c6] at H
        have LMc6 := Aside0.mk c6
        clear c6
        obtain ⟨y274, hy274⟩ : ∃ y_ : List (List Int), y_ = (y268 ++ [y271]) := ⟨_, rfl⟩
        replace H : (some y274) = some r := by first | (rw [hy274]; with_reducible exact H) | (have H2_ := (Option.bind_some _ _).symm.trans H; rw [hy274]; with_reducible exact H2_) | (have H2_ := (Option.bind_some _ _).symm.trans H; with_reducible exact H2_) | with_reducible exact H | (rw [hy274]; exact H) | exact H
        have Ny274 := Aside0.mk hy274
        clear hy274
        obtain rfl := Option.some.inj H
        go_enter Tryd.func73, Tryd.ntmps73
        go_wp2_with (first | ((with_reducible refine gate_dst (N := 11) rfl ?_); refine Kd.N_lit (Kd.slice 3 (Kd.int .i64)) _ 52 ?hg (N' := 11) ?hd (xs := ([] : List (List Int))) (inner := []) (ok := (fun k_ => (P0_ k_ ∨ w.heap.size ≤ k_))) (okp := (fun k_ => (P0_ k_ ∨ w.heap.size ≤ k_))) ?hr ?hp (fun _ hk => hk) ((show ∀ k_, w.heap.size ≤ k_ → (fun k_ => (P0_ k_ ∨ w.heap.size ≤ k_)) k_ from fun k_ hk => (.inr (Nat.le_trans (below_size (by repeat (first | (with_reducible first | exact HB.out | apply la1 | apply ln1 | apply ld1) | exact HB.out))) hk))) _ (Nat.le_refl _)) (Below.refl _ _) (Nat.le_refl _) (by simp) ?_; (case hd => rfl); (case hg => rfl); (case hr => first | (go_simp; done) | (go_simp; rfl)); (case hp => exact (Reps.none _ _)); intro v266 w7 ho8 hb hg_ hnew_; clear hg_ hnew_; (first | rw [← Ny265.out] at ho8 | (simp only [Int.reduceToNat] at ho8; rw [← Ny265.out] at ho8)); have n0_ := Aside0.mk (Kd.V_elder' (by (with_reducible repeat (first | apply Kd.V_alloc | apply Kd.V_drewN | apply Kd.V_drew)); exact HO0.out) (Kd.N_base ho8) hb); have n1_ := Aside0.mk (Kd.N_lower ho8 (below_size (by repeat (first | (with_reducible first | exact HB.out | apply la1 | apply ln1 | apply ld1) | exact HB.out)))); have n2_ := Aside0.mk (below_step (by repeat (first | (with_reducible first | exact HB.out | apply la1 | apply ln1 | apply ld1) | exact HB.out)) hb); clear HO0; clear HB; have HO0 := n0_; have HO267 := n1_; have HB := n2_; clear n0_ n1_ n2_; clear hb ho8) | ((with_reducible refine gate_builtin (b := .append) (xs := #[.tmp 11, .tmp 12]) rfl ?_); at_builtin; refine Kd.N_append_rows (Kd.slice 3 (Kd.int .i64)) (w0 := w) w.heap.size rfl (.tmp 11) (.tmp 12) 28 52 (.slice none 0 0) 24 rfl Tryd.underlying28 info52 rfl (by decide) (by omega) v266 y265 l0 _ _ _ (fun k_ => (P0_ k_ ∨ w.heap.size ≤ k_)) (fun k_ => ((fun k_ => (P0_ k_ ∨ w.heap.size ≤ k_))) k_ ∧ some k_ ≠ (v266 : Value).ownBlock) rfl rfl ?aO ?aR (fun _ hk => hk) ?aF ?aB ?aS ?aL ?_; (case aR => exact (by skip; exact Kd.V_F (Kd.V_mono (ok' := (fun k_ => ((fun k_ => (P0_ k_ ∨ w.heap.size ≤ k_))) k_ ∧ some k_ ≠ (v266 : Value).ownBlock)) (HO0.out) (fun k_ hk => ⟨hk.1, hk.2⟩)))); (case aB => exact (by repeat (first | (with_reducible first | exact HB.out | apply la1 | apply ln1 | apply ld1) | exact HB.out))); (case aF => exact (fun k_ hk => (.inr (Nat.le_trans (below_size (by repeat (first | (with_reducible first | exact HB.out | apply la1 | apply ln1 | apply ld1) | exact HB.out))) hk)))); (case aO => exact (by (with_reducible repeat (first | apply Kd.N_alloc | apply Kd.N_drewN | apply Kd.N_drew)); exact HO267.out)); (case aS => exact (below_size (by repeat (first | (with_reducible first | exact HB.out | apply la1 | apply ln1 | apply ld1) | exact HB.out)))); (case aL => have := LMc5.out; omega); intro v269 w9 ho hb hg hat; rw [← Ny268.out] at ho; have n0_ := Aside0.mk (Kd.V_afterv (ok := (fun k_ => (P0_ k_ ∨ w.heap.size ≤ k_))) (by (with_reducible repeat (first | apply Kd.V_alloc | apply Kd.V_drewN | apply Kd.V_drew)); exact HO0.out) hg hat); have n1_ := Aside0.mk (hb); have n2_ := Aside0.mk (ho); clear HO0; clear HB; clear HO267; have HO0 := n0_; have HB := n1_; have HO270 := n2_; clear n0_ n1_ n2_; clear ho hb hg hat) | ((with_reducible refine gate_dst (N := 16) rfl ?_); refine Kd.R_lit (Kd.int .i64) _ 3 ?hg (N := 16) ?hd (xs := ([a2] : List Int)) (inner := [.int .i64 a2]) (ok := fun _ => True) (okp := fun _ => True) ?hr ?hp (fun _ hk => hk) trivial (Below.refl _ _) (Nat.le_refl _) (by simp) ?_; (case hd => rfl); (case hg => rfl); (case hr => first | (go_simp; done) | (go_simp; rfl)); (case hp => exact (Reps.one (show Kd.M (Kd.int .i64) _ _ _ a2 [.int .i64 a2] from rfl) (Reps.none _ _))); intro v272 w10 ho11 hb hg_ hnew_; clear hg_ hnew_; (first | rw [← Ny271.out] at ho11 | (simp only [Int.reduceToNat] at ho11; rw [← Ny271.out] at ho11)); have n0_ := Aside0.mk (Kd.V_elder' (by (with_reducible repeat (first | apply Kd.V_alloc | apply Kd.V_drewN | apply Kd.V_drew)); exact HO0.out) (Kd.R_base ho11) hb); have n1_ := Aside0.mk (Kd.N_elder' (by (with_reducible repeat (first | apply Kd.N_alloc | apply Kd.N_drewN | apply Kd.N_drew)); exact HO270.out) (Kd.R_base ho11) hb); have n2_ := Aside0.mk (Kd.R_lower (Kd.R_newM (M := fun k_ => (w.heap.size ≤ k_)) ho11 (below_size (by repeat (first | (with_reducible first | exact HB.out | apply la1 | apply ln1 | apply ld1) | exact HB.out))) (fun k_ h_ => h_)) (below_size (by repeat (first | (with_reducible first | exact HB.out | apply la1 | apply ln1 | apply ld1) | exact HB.out)))); have n3_ := Aside0.mk (below_step (by repeat (first | (with_reducible first | exact HB.out | apply la1 | apply ln1 | apply ld1) | exact HB.out)) hb); clear HO0; clear HO270; clear HB; have HO0 := n0_; have HO270 := n1_; have HO273 := n2_; have HB := n3_; clear n0_ n1_ n2_ n3_; clear hb ho11; obtain ⟨Ao13, co13, eo13⟩ := Kd.R_slice HO273.out; subst eo13) | ((with_reducible refine gate_builtin (b := .append) (xs := #[.tmp 14, .tmp 17]) rfl ?_); at_builtin; refine Kd.N_append (Kd.slice 3 (Kd.int .i64)) (w0 := w) w.heap.size rfl (.tmp 14) (.tmp 17) 28 52 (.slice none 0 0) 24 rfl Tryd.underlying28 info52 rfl (by decide) (by omega) v269 y268 y271 [.slice Ao13 y271.length co13] (fun k_ => (P0_ k_ ∨ w.heap.size ≤ k_)) (fun k_ => ((fun k_ => (P0_ k_ ∨ w.heap.size ≤ k_))) k_ ∧ some k_ ≠ (v269 : Value).ownBlock) rfl rfl ?aP (fun _ hk => hk) ?aF ?aO ?aB ?aS ?aL ?_; (case aP => exact (Kd.FK_slice_mk (Kd.R_reads' (Kd.R_mono (ok' := (fun k_ => ((fun k_ => (P0_ k_ ∨ w.heap.size ≤ k_))) k_ ∧ some k_ ≠ (v269 : Value).ownBlock)) (Kd.R_apart' (HO273.out) (Kd.N_typed HO270.out) (by decide)) (fun k_ hk => ⟨(.inr (hk.1.1)), hk.2⟩))).2.1 (Kd.R_F (Kd.R_mono (ok' := (fun k_ => ((fun k_ => (P0_ k_ ∨ w.heap.size ≤ k_))) k_ ∧ some k_ ≠ (v269 : Value).ownBlock)) (Kd.R_apart' (HO273.out) (Kd.N_typed HO270.out) (by decide)) (fun k_ hk => ⟨(.inr (hk.1.1)), hk.2⟩))))); (case aB => exact (by repeat (first | (with_reducible first | exact HB.out | apply la1 | apply ln1 | apply ld1) | exact HB.out))); (case aF => exact (fun k_ hk => (.inr (Nat.le_trans (below_size (by repeat (first | (with_reducible first | exact HB.out | apply la1 | apply ln1 | apply ld1) | exact HB.out))) hk)))); (case aO => exact (by (with_reducible repeat (first | apply Kd.N_alloc | apply Kd.N_drewN | apply Kd.N_drew)); exact Kd.N_mono HO270.out (fun _ hk => hk.1))); (case aS => exact (below_size (by repeat (first | (with_reducible first | exact HB.out | apply la1 | apply ln1 | apply ld1) | exact HB.out)))); (case aL => have := LMc6.out; omega); intro v275 w12 ho hb hg hat; rw [← Ny274.out] at ho; have n0_ := Aside0.mk (Kd.V_afterv (ok := (fun k_ => (P0_ k_ ∨ w.heap.size ≤ k_) ∧ some k_ ≠ (.slice Ao13 y271.length co13 : Value).ownBlock)) (by (with_reducible repeat (first | apply Kd.V_alloc | apply Kd.V_drewN | apply Kd.V_drew)); exact Kd.V_mono HO0.out (fun _ hk => ⟨⟨hk.1.1, hk.2⟩, hk.1.2⟩)) hg hat); have n1_ := Aside0.mk (hb); have n2_ := Aside0.mk (ho); clear HO0; clear HB; clear HO270; clear HO273; have HO0 := n0_; have HB := n1_; have HO276 := n2_; clear n0_ n1_ n2_; clear ho hb hg hat))
        go_ret
        exact ⟨_, by first | rfl | (simp [errW_none, errW_some] <;> rfl) | (simp [*, errW_none, errW_some] <;> rfl), Kd.N_V (by (with_reducible repeat (first | apply Kd.N_alloc | apply Kd.N_drewN | apply Kd.N_drew)); exact HO276.out), by repeat (first | (with_reducible first | exact HB.out | apply la1 | apply ln1 | apply ld1) | exact HB.out)⟩
      · rw [if_neg c6] at H
        exact absurd H (by simp)
    · rw [if_neg c5] at H
      exact absurd H (by simp)
  · replace c4 := Bool.eq_false_iff.mpr c4
    subst c4
    have H1 : (some l0) = some r := by rw [if_neg (show ¬ (false = true) by decide)] at H; exact H
    clear H
    have H := H1
    clear H1
    obtain rfl := Option.some.inj H
    go_enter Tryd.func73, Tryd.ntmps73
    go_wp2
    go_ret
    exact ⟨_, by first | rfl | (simp [errW_none, errW_some] <;> rfl) | (simp [*, errW_none, errW_some] <;> rfl), by (with_reducible repeat (first | apply Kd.V_alloc | apply Kd.V_drewN | apply Kd.V_drew)); exact HO0.out, by repeat (first | (with_reducible first | exact HB.out | apply la1 | apply ln1 | apply ld1) | exact HB.out)⟩
def clavierref18_tint.f (l0 : List (List Int)) (a1 : Int) (a2 : Int) : Option ((List (List Int))) := if a1 < 0 then (some l0) else (if a1 < 8 then ((clavierref18_one.f l0 true (wrap64 (a2 + a1))).bind fun t277 => (some t277)) else (if a1 < 16 then ((clavierref18_one.f l0 true (wrap64 ((wrap64 (a2 + 52)) + a1))).bind fun t280 => (some t280)) else ((some (([] : List (List Int)) : List (List Int))).bind fun y283 => (if y283.length + l0.length < 5864062014805 then ((some (y283 ++ l0 : List (List Int))).bind fun y286 => (if a1 < 256 then (if y286.length < 5864062014805 then (some (y286 ++ [(([wrap64 (a2 + 8), 5, a1] : List Int))])) else (none)) else (if y286.length < 5864062014805 then (some (y286 ++ [(([wrap64 (a2 + 8), 2, (-1), wrap64 (Int.tdiv (wrap64 (a1 - 256)) 65536), Int.tmod (wrap64 (Int.tdiv (wrap64 (a1 - 256)) 256)) 256, Int.tmod (wrap64 (a1 - 256)) 256] : List Int))])) else (none)))) else (none)))))
set_option maxHeartbeats 8000000 in
set_option maxRecDepth 100000 in
theorem clavierref18_tint.calls (P0_ : Nat → Prop) (A0 : Option Addr) (c0 : Nat) (l0 : List (List Int)) (a1 : Int) (a2 : Int) (r : List (List Int)) (w : World) (hs0 : Kd.V (Kd.slice 3 (Kd.int .i64)) 52 w w.heap.size (fun k_ => P0_ k_) (.slice A0 l0.length c0) l0) (h : clavierref18_tint.f l0 a1 a2 = some r) :
    Calls Tryd.prog 74 #[.slice A0 l0.length c0, .int .i64 a1, .int .i64 a2] w fun e w' => ∃ v0_ : Value, e = .returned (v0_) ∧ Kd.V (Kd.slice 3 (Kd.int .i64)) 52 w' w.heap.size (fun k_ => (P0_ k_ ∨ w.heap.size ≤ k_)) v0_ r ∧ Below w.heap.size w w' := by
  have HO0 := Aside0.mk (show Kd.V (Kd.slice 3 (Kd.int .i64)) 52 w w.heap.size (fun k_ => (P0_ k_ ∨ w.heap.size ≤ k_)) (.slice A0 l0.length c0) l0 from Kd.V_mono hs0 (fun k_ hk => .inl hk))
  have HB := Aside0.mk (Below.refl w.heap.size w)
  have H : (if a1 < 0 then (some l0) else (if a1 < 8 then ((clavierref18_one.f l0 true (wrap64 (a2 + a1))).bind fun t277 => (some t277)) else (if a1 < 16 then ((clavierref18_one.f l0 true (wrap64 ((wrap64 (a2 + 52)) + a1))).bind fun t280 => (some t280)) else ((some (([] : List (List Int)) : List (List Int))).bind fun y283 => (if y283.length + l0.length < 5864062014805 then ((some (y283 ++ l0 : List (List Int))).bind fun y286 => (if a1 < 256 then (if y286.length < 5864062014805 then (some (y286 ++ [(([wrap64 (a2 + 8), 5, a1] : List Int))])) else (none)) else (if y286.length < 5864062014805 then (some (y286 ++ [(([wrap64 (a2 + 8), 2, (-1), wrap64 (Int.tdiv (wrap64 (a1 - 256)) 65536), Int.tmod (wrap64 (Int.tdiv (wrap64 (a1 - 256)) 256)) 256, Int.tmod (wrap64 (a1 - 256)) 256] : List Int))])) else (none)))) else (none)))))) = some r := h
  clear h
  by_cases c4 : a1 < 0
  · rw [if_pos c4] at H
    have c4b0 : decide (a1 < 0) = true := decide_eq_true c4
    clear c4
    obtain rfl := Option.some.inj H
    go_enter Tryd.func74, Tryd.ntmps74
    go_wp2
    go_ret
    exact ⟨_, by first | rfl | (simp [errW_none, errW_some] <;> rfl) | (simp [*, errW_none, errW_some] <;> rfl), by (with_reducible repeat (first | apply Kd.V_alloc | apply Kd.V_drewN | apply Kd.V_drew)); exact HO0.out, by repeat (first | (with_reducible first | exact HB.out | apply la1 | apply ln1 | apply ld1) | exact HB.out)⟩
  · rw [if_neg c4] at H
    have c4b0 : decide (a1 < 0) = false := decide_eq_false c4
    clear c4
    by_cases c5 : a1 < 8
    · rw [if_pos c5] at H
      have c5b0 : decide (a1 < 8) = true := decide_eq_true c5
      clear c5
      replace H := Option.bind_eq_some_iff.mp H
      obtain ⟨t277, A60, H⟩ := H
      replace H : (some t277) = some r := H
      have A6 := Aside0.mk A60
      clear A60
      obtain rfl := Option.some.inj H
      go_enter Tryd.func74, Tryd.ntmps74
      go_wp2_with (first | ((with_reducible refine gate_callee (f := 73) rfl ?_); refine goesL_ (some 20) rfl rfl Tryd.func73 (by kernel_rfl) rfl #[.slice A0 l0.length c0, .bool true, .int .i64 (wrap64 (a2 + a1))] rfl (by (try simp only [List.map_toArray, List.map_cons, List.map_nil]); first | done | rfl | (simp only [List.length_drop, List.length_take]; rfl)) ?_; (with_reducible refine (clavierref18_one.calls (fun k_ => (P0_ k_ ∨ w.heap.size ≤ k_)) _ _ l0 true (wrap64 (a2 + a1)) t277 _ ?side1 A6.out).mono ?_); (case side1 => exact HO0.out); rintro e w7 ⟨v278, rfl, ho0, hb⟩; refine ⟨_, rfl, ?_⟩; have n0_ := Aside0.mk (Kd.V_below (by (with_reducible repeat (first | apply Kd.V_alloc | apply Kd.V_drewN | apply Kd.V_drew)); exact HO0.out) hb); have n1_ := Aside0.mk (Kd.V_lower (Kd.V_mono (ok' := fun k_ => (P0_ k_ ∨ w.heap.size ≤ k_)) ho0 (fun k_ hk_ => Or.elim hk_ (fun hs_ => hs_) (fun hn_ => (.inr (Nat.le_trans (below_size (by repeat (first | (with_reducible first | exact HB.out | apply la1 | apply ln1 | apply ld1) | exact HB.out))) hn_))))) (below_size (by repeat (first | (with_reducible first | exact HB.out | apply la1 | apply ln1 | apply ld1) | exact HB.out)))); have n2_ := Aside0.mk (below_step (by repeat (first | (with_reducible first | exact HB.out | apply la1 | apply ln1 | apply ld1) | exact HB.out)) hb); clear HO0; clear HB; have HO0 := n0_; have HO279 := n1_; have HB := n2_; clear n0_ n1_ n2_; (try clear hb); (try clear hb2); (try clear hk); (try clear hi); (try clear ho0)))
      go_ret
      exact ⟨_, by first | rfl | (simp [errW_none, errW_some] <;> rfl) | (simp [*, errW_none, errW_some] <;> rfl), by (with_reducible repeat (first | apply Kd.V_alloc | apply Kd.V_drewN | apply Kd.V_drew)); exact HO279.out, by repeat (first | (with_reducible first | exact HB.out | apply la1 | apply ln1 | apply ld1) | exact HB.out)⟩
    · rw [if_neg c5] at H
      have c5b0 : decide (a1 < 8) = false := decide_eq_false c5
      clear c5
      by_cases c8 : a1 < 16
      · rw [if_pos c8] at H
        have c8b0 : decide (a1 < 16) = true := decide_eq_true c8
        clear c8
        replace H := Option.bind_eq_some_iff.mp H
        obtain ⟨t280, A90, H⟩ := H
        replace H : (some t280) = some r := H
        have A9 := Aside0.mk A90
        clear A90
        obtain rfl := Option.some.inj H
        go_enter Tryd.func74, Tryd.ntmps74
        go_wp2_with (first | ((with_reducible refine gate_callee (f := 73) rfl ?_); refine goesL_ (some 29) rfl rfl Tryd.func73 (by kernel_rfl) rfl #[.slice A0 l0.length c0, .bool true, .int .i64 (wrap64 ((wrap64 (a2 + 52)) + a1))] rfl (by (try simp only [List.map_toArray, List.map_cons, List.map_nil]); first | done | rfl | (simp only [List.length_drop, List.length_take]; rfl)) ?_; (with_reducible refine (clavierref18_one.calls (fun k_ => (P0_ k_ ∨ w.heap.size ≤ k_)) _ _ l0 true (wrap64 ((wrap64 (a2 + 52)) + a1)) t280 _ ?side1 A9.out).mono ?_); (case side1 => exact HO0.out); rintro e w10 ⟨v281, rfl, ho0, hb⟩; refine ⟨_, rfl, ?_⟩; have n0_ := Aside0.mk (Kd.V_below (by (with_reducible repeat (first | apply Kd.V_alloc | apply Kd.V_drewN | apply Kd.V_drew)); exact HO0.out) hb); have n1_ := Aside0.mk (Kd.V_lower (Kd.V_mono (ok' := fun k_ => (P0_ k_ ∨ w.heap.size ≤ k_)) ho0 (fun k_ hk_ => Or.elim hk_ (fun hs_ => hs_) (fun hn_ => (.inr (Nat.le_trans (below_size (by repeat (first | (with_reducible first | exact HB.out | apply la1 | apply ln1 | apply ld1) | exact HB.out))) hn_))))) (below_size (by repeat (first | (with_reducible first | exact HB.out | apply la1 | apply ln1 | apply ld1) | exact HB.out)))); have n2_ := Aside0.mk (below_step (by repeat (first | (with_reducible first | exact HB.out | apply la1 | apply ln1 | apply ld1) | exact HB.out)) hb); clear HO0; clear HB; have HO0 := n0_; have HO282 := n1_; have HB := n2_; clear n0_ n1_ n2_; (try clear hb); (try clear hb2); (try clear hk); (try clear hi); (try clear ho0)))
        go_ret
        exact ⟨_, by first | rfl | (simp [errW_none, errW_some] <;> rfl) | (simp [*, errW_none, errW_some] <;> rfl), by (with_reducible repeat (first | apply Kd.V_alloc | apply Kd.V_drewN | apply Kd.V_drew)); exact HO282.out, by repeat (first | (with_reducible first | exact HB.out | apply la1 | apply ln1 | apply ld1) | exact HB.out)⟩
      · rw [if_neg c8] at H
        have c8b0 : decide (a1 < 16) = false := decide_eq_false c8
        clear c8
        obtain ⟨y283, hy283⟩ : ∃ y_ : List (List Int), y_ = (([] : List (List Int))) := ⟨_, rfl⟩
        replace H : (if y283.length + l0.length < 5864062014805 then ((some (y283 ++ l0 : List (List Int))).bind fun y286 => (if a1 < 256 then (if y286.length < 5864062014805 then (some (y286 ++ [(([wrap64 (a2 + 8), 5, a1] : List Int))])) else (none)) else (if y286.length < 5864062014805 then (some (y286 ++ [(([wrap64 (a2 + 8), 2, (-1), wrap64 (Int.tdiv (wrap64 (a1 - 256)) 65536), Int.tmod (wrap64 (Int.tdiv (wrap64 (a1 - 256)) 256)) 256, Int.tmod (wrap64 (a1 - 256)) 256] : List Int))])) else (none)))) else (none)) = some r := by first | (rw [hy283]; with_reducible exact H) | (have H2_ := (Option.bind_some _ _).symm.trans H; rw [hy283]; with_reducible exact H2_) | (have H2_ := (Option.bind_some _ _).symm.trans H; with_reducible exact H2_) | with_reducible exact H | (rw [hy283]; exact H) | exact H
        have Ny283 := Aside0.mk hy283
        clear hy283
        by_cases c11 : y283.length + l0.length < 5864062014805
        · rw [if_pos c11] at H
          have LMc11 := Aside0.mk c11
          clear c11
          obtain ⟨y286, hy286⟩ : ∃ y_ : List (List Int), y_ = (y283 ++ l0) := ⟨_, rfl⟩
          replace H : (if a1 < 256 then (if y286.length < 5864062014805 then (some (y286 ++ [(([wrap64 (a2 + 8), 5, a1] : List Int))])) else (none)) else (if y286.length < 5864062014805 then (some (y286 ++ [(([wrap64 (a2 + 8), 2, (-1), wrap64 (Int.tdiv (wrap64 (a1 - 256)) 65536), Int.tmod (wrap64 (Int.tdiv (wrap64 (a1 - 256)) 256)) 256, Int.tmod (wrap64 (a1 - 256)) 256] : List Int))])) else (none))) = some r := by first | (rw [hy286]; with_reducible exact H) | (have H2_ := (Option.bind_some _ _).symm.trans H; rw [hy286]; with_reducible exact H2_) | (have H2_ := (Option.bind_some _ _).symm.trans H; with_reducible exact H2_) | with_reducible exact H | (rw [hy286]; exact H) | exact H
          have Ny286 := Aside0.mk hy286
          clear hy286
          by_cases c12 : a1 < 256
          · rw [if_pos c12] at H
            have c12b0 : decide (a1 < 256) = true := decide_eq_true c12
            clear c12
            obtain ⟨y289, hy289⟩ : ∃ y_ : List Int, y_ = (([wrap64 (a2 + 8), 5, a1] : List Int)) := ⟨_, rfl⟩
            replace H : (if y286.length < 5864062014805 then (some (y286 ++ [y289])) else (none)) = some r := by first | (rw [hy289]; with_reducible exact H) | (have H2_ := (Option.bind_some _ _).symm.trans H; rw [hy289]; with_reducible exact H2_) | (have H2_ := (Option.bind_some _ _).symm.trans H; with_reducible exact H2_) | with_reducible exact H | (rw [hy289]; exact H) | exact H
            have Ny289 := Aside0.mk hy289
            clear hy289
            by_cases c13 : y286.length < 5864062014805
            · rw [if_pos c13] at H
              have LMc13 := Aside0.mk c13
              clear c13
              obtain ⟨y292, hy292⟩ : ∃ y_ : List (List Int), y_ = (y286 ++ [y289]) := ⟨_, rfl⟩
              replace H : (some y292) = some r := by first | (rw [hy292]; with_reducible exact H) | (have H2_ := (Option.bind_some _ _).symm.trans H; rw [hy292]; with_reducible exact H2_) | (have H2_ := (Option.bind_some _ _).symm.trans H; with_reducible exact H2_) | with_reducible exact H | (rw [hy292]; exact H) | exact H
              have Ny292 := Aside0.mk hy292
              clear hy292
              obtain rfl := Option.some.inj H
              go_enter Tryd.func74, Tryd.ntmps74
              go_wp2_with (first | ((with_reducible refine gate_dst (N := 30) rfl ?_); refine Kd.N_lit (Kd.slice 3 (Kd.int .i64)) _ 52 ?hg (N' := 30) ?hd (xs := ([] : List (List Int))) (inner := []) (ok := (fun k_ => (P0_ k_ ∨ w.heap.size ≤ k_))) (okp := (fun k_ => (P0_ k_ ∨ w.heap.size ≤ k_))) ?hr ?hp (fun _ hk => hk) ((show ∀ k_, w.heap.size ≤ k_ → (fun k_ => (P0_ k_ ∨ w.heap.size ≤ k_)) k_ from fun k_ hk => (.inr (Nat.le_trans (below_size (by repeat (first | (with_reducible first | exact HB.out | apply la1 | apply ln1 | apply ld1) | exact HB.out))) hk))) _ (Nat.le_refl _)) (Below.refl _ _) (Nat.le_refl _) (by simp) ?_; (case hd => rfl); (case hg => rfl); (case hr => first | (go_simp; done) | (go_simp; rfl)); (case hp => exact (Reps.none _ _)); intro v284 w14 ho15 hb hg_ hnew_; clear hg_ hnew_; (first | rw [← Ny283.out] at ho15 | (simp only [Int.reduceToNat] at ho15; rw [← Ny283.out] at ho15)); have n0_ := Aside0.mk (Kd.V_elder' (by (with_reducible repeat (first | apply Kd.V_alloc | apply Kd.V_drewN | apply Kd.V_drew)); exact HO0.out) (Kd.N_base ho15) hb); have n1_ := Aside0.mk (Kd.N_lower ho15 (below_size (by repeat (first | (with_reducible first | exact HB.out | apply la1 | apply ln1 | apply ld1) | exact HB.out)))); have n2_ := Aside0.mk (below_step (by repeat (first | (with_reducible first | exact HB.out | apply la1 | apply ln1 | apply ld1) | exact HB.out)) hb); clear HO0; clear HB; have HO0 := n0_; have HO285 := n1_; have HB := n2_; clear n0_ n1_ n2_; clear hb ho15) | ((with_reducible refine gate_builtin (b := .append) (xs := #[.tmp 30, .tmp 31]) rfl ?_); at_builtin; refine Kd.N_append_rows (Kd.slice 3 (Kd.int .i64)) (w0 := w) w.heap.size rfl (.tmp 30) (.tmp 31) 28 52 (.slice none 0 0) 24 rfl Tryd.underlying28 info52 rfl (by decide) (by omega) v284 y283 l0 _ _ _ (fun k_ => (P0_ k_ ∨ w.heap.size ≤ k_)) (fun k_ => ((fun k_ => (P0_ k_ ∨ w.heap.size ≤ k_))) k_ ∧ some k_ ≠ (v284 : Value).ownBlock) rfl rfl ?aO ?aR (fun _ hk => hk) ?aF ?aB ?aS ?aL ?_; (case aR => exact (by skip; exact Kd.V_F (Kd.V_mono (ok' := (fun k_ => ((fun k_ => (P0_ k_ ∨ w.heap.size ≤ k_))) k_ ∧ some k_ ≠ (v284 : Value).ownBlock)) (HO0.out) (fun k_ hk => ⟨hk.1, hk.2⟩)))); (case aB => exact (by repeat (first | (with_reducible first | exact HB.out | apply la1 | apply ln1 | apply ld1) | exact HB.out))); (case aF => exact (fun k_ hk => (.inr (Nat.le_trans (below_size (by repeat (first | (with_reducible first | exact HB.out | apply la1 | apply ln1 | apply ld1) | exact HB.out))) hk)))); (case aO => exact (by (with_reducible repeat (first | apply Kd.N_alloc | apply Kd.N_drewN | apply Kd.N_drew)); exact HO285.out)); (case aS => exact (below_size (by repeat (first | (with_reducible first | exact HB.out | apply la1 | apply ln1 | apply ld1) | exact HB.out)))); (case aL => have := LMc11.out; omega); intro v287 w16 ho hb hg hat; rw [← Ny286.out] at ho; have n0_ := Aside0.mk (Kd.V_afterv (ok := (fun k_ => (P0_ k_ ∨ w.heap.size ≤ k_))) (by (with_reducible repeat (first | apply Kd.V_alloc | apply Kd.V_drewN | apply Kd.V_drew)); exact HO0.out) hg hat); have n1_ := Aside0.mk (hb); have n2_ := Aside0.mk (ho); clear HO0; clear HB; clear HO285; have HO0 := n0_; have HB := n1_; have HO288 := n2_; clear n0_ n1_ n2_; clear ho hb hg hat) | ((with_reducible refine gate_dst (N := 39) rfl ?_); refine Kd.R_lit (Kd.int .i64) _ 3 ?hg (N := 39) ?hd (xs := ([wrap64 (a2 + 8), 5, a1] : List Int)) (inner := [.int .i64 (wrap64 (a2 + 8)), .int .i64 5, .int .i64 a1]) (ok := fun _ => True) (okp := fun _ => True) ?hr ?hp (fun _ hk => hk) trivial (Below.refl _ _) (Nat.le_refl _) (by simp) ?_; (case hd => rfl); (case hg => rfl); (case hr => first | (go_simp; done) | (go_simp; rfl)); (case hp => exact (Reps.one (show Kd.M (Kd.int .i64) _ _ _ (wrap64 (a2 + 8)) [.int .i64 (wrap64 (a2 + 8))] from rfl) (Reps.one (show Kd.M (Kd.int .i64) _ _ _ 5 [.int .i64 5] from rfl) (Reps.one (show Kd.M (Kd.int .i64) _ _ _ a1 [.int .i64 a1] from rfl) (Reps.none _ _))))); intro v290 w17 ho18 hb hg_ hnew_; clear hg_ hnew_; (first | rw [← Ny289.out] at ho18 | (simp only [Int.reduceToNat] at ho18; rw [← Ny289.out] at ho18)); have n0_ := Aside0.mk (Kd.V_elder' (by (with_reducible repeat (first | apply Kd.V_alloc | apply Kd.V_drewN | apply Kd.V_drew)); exact HO0.out) (Kd.R_base ho18) hb); have n1_ := Aside0.mk (Kd.N_elder' (by (with_reducible repeat (first | apply Kd.N_alloc | apply Kd.N_drewN | apply Kd.N_drew)); exact HO288.out) (Kd.R_base ho18) hb); have n2_ := Aside0.mk (Kd.R_lower (Kd.R_newM (M := fun k_ => (w.heap.size ≤ k_)) ho18 (below_size (by repeat (first | (with_reducible first | exact HB.out | apply la1 | apply ln1 | apply ld1) | exact HB.out))) (fun k_ h_ => h_)) (below_size (by repeat (first | (with_reducible first | exact HB.out | apply la1 | apply ln1 | apply ld1) | exact HB.out)))); have n3_ := Aside0.mk (below_step (by repeat (first | (with_reducible first | exact HB.out | apply la1 | apply ln1 | apply ld1) | exact HB.out)) hb); clear HO0; clear HO288; clear HB; have HO0 := n0_; have HO288 := n1_; have HO291 := n2_; have HB := n3_; clear n0_ n1_ n2_ n3_; clear hb ho18; obtain ⟨Ao20, co20, eo20⟩ := Kd.R_slice HO291.out; subst eo20) | ((with_reducible refine gate_builtin (b := .append) (xs := #[.tmp 35, .tmp 40]) rfl ?_); at_builtin; refine Kd.N_append (Kd.slice 3 (Kd.int .i64)) (w0 := w) w.heap.size rfl (.tmp 35) (.tmp 40) 28 52 (.slice none 0 0) 24 rfl Tryd.underlying28 info52 rfl (by decide) (by omega) v287 y286 y289 [.slice Ao20 y289.length co20] (fun k_ => (P0_ k_ ∨ w.heap.size ≤ k_)) (fun k_ => ((fun k_ => (P0_ k_ ∨ w.heap.size ≤ k_))) k_ ∧ some k_ ≠ (v287 : Value).ownBlock) rfl rfl ?aP (fun _ hk => hk) ?aF ?aO ?aB ?aS ?aL ?_; (case aP => exact (Kd.FK_slice_mk (Kd.R_reads' (Kd.R_mono (ok' := (fun k_ => ((fun k_ => (P0_ k_ ∨ w.heap.size ≤ k_))) k_ ∧ some k_ ≠ (v287 : Value).ownBlock)) (Kd.R_apart' (HO291.out) (Kd.N_typed HO288.out) (by decide)) (fun k_ hk => ⟨(.inr (hk.1.1)), hk.2⟩))).2.1 (Kd.R_F (Kd.R_mono (ok' := (fun k_ => ((fun k_ => (P0_ k_ ∨ w.heap.size ≤ k_))) k_ ∧ some k_ ≠ (v287 : Value).ownBlock)) (Kd.R_apart' (HO291.out) (Kd.N_typed HO288.out) (by decide)) (fun k_ hk => ⟨(.inr (hk.1.1)), hk.2⟩))))); (case aB => exact (by repeat (first | (with_reducible first | exact HB.out | apply la1 | apply ln1 | apply ld1) | exact HB.out))); (case aF => exact (fun k_ hk => (.inr (Nat.le_trans (below_size (by repeat (first | (with_reducible first | exact HB.out | apply la1 | apply ln1 | apply ld1) | exact HB.out))) hk)))); (case aO => exact (by (with_reducible repeat (first | apply Kd.N_alloc | apply Kd.N_drewN | apply Kd.N_drew)); exact Kd.N_mono HO288.out (fun _ hk => hk.1))); (case aS => exact (below_size (by repeat (first | (with_reducible first | exact HB.out | apply la1 | apply ln1 | apply ld1) | exact HB.out)))); (case aL => have := LMc13.out; omega); intro v293 w19 ho hb hg hat; rw [← Ny292.out] at ho; have n0_ := Aside0.mk (Kd.V_afterv (ok := (fun k_ => (P0_ k_ ∨ w.heap.size ≤ k_) ∧ some k_ ≠ (.slice Ao20 y289.length co20 : Value).ownBlock)) (by (with_reducible repeat (first | apply Kd.V_alloc | apply Kd.V_drewN | apply Kd.V_drew)); exact Kd.V_mono HO0.out (fun _ hk => ⟨⟨hk.1.1, hk.2⟩, hk.1.2⟩)) hg hat); have n1_ := Aside0.mk (hb); have n2_ := Aside0.mk (ho); clear HO0; clear HB; clear HO288; clear HO291; have HO0 := n0_; have HB := n1_; have HO294 := n2_; clear n0_ n1_ n2_; clear ho hb hg hat))
              go_ret
              exact ⟨_, by first | rfl | (simp [errW_none, errW_some] <;> rfl) | (simp [*, errW_none, errW_some] <;> rfl), Kd.N_V (by (with_reducible repeat (first | apply Kd.N_alloc | apply Kd.N_drewN | apply Kd.N_drew)); exact HO294.out), by repeat (first | (with_reducible first | exact HB.out | apply la1 | apply ln1 | apply ld1) | exact HB.out)⟩
            · rw [if_neg c13] at H
              exact absurd H (by simp)
          · rw [if_neg c12] at H
            have c12b0 : decide (a1 < 256) = false := decide_eq_false c12
            clear c12
            obtain ⟨y295, hy295⟩ : ∃ y_ : List Int, y_ = (([wrap64 (a2 + 8), 2, (-1), wrap64 (Int.tdiv (wrap64 (a1 - 256)) 65536), Int.tmod (wrap64 (Int.tdiv (wrap64 (a1 - 256)) 256)) 256, Int.tmod (wrap64 (a1 - 256)) 256] : List Int)) := ⟨_, rfl⟩
            replace H : (if y286.length < 5864062014805 then (some (y286 ++ [y295])) else (none)) = some r := by first | (rw [hy295]; with_reducible exact H) | (have H2_ := (Option.bind_some _ _).symm.trans H; rw [hy295]; with_reducible exact H2_) | (have H2_ := (Option.bind_some _ _).symm.trans H; with_reducible exact H2_) | with_reducible exact H | (rw [hy295]; exact H) | exact H
            have Ny295 := Aside0.mk hy295
            clear hy295
            by_cases c21 : y286.length < 5864062014805
            · rw [if_pos c21] at H
              have LMc21 := Aside0.mk c21
              clear c21
              obtain ⟨y298, hy298⟩ : ∃ y_ : List (List Int), y_ = (y286 ++ [y295]) := ⟨_, rfl⟩
              replace H : (some y298) = some r := by first | (rw [hy298]; with_reducible exact H) | (have H2_ := (Option.bind_some _ _).symm.trans H; rw [hy298]; with_reducible exact H2_) | (have H2_ := (Option.bind_some _ _).symm.trans H; with_reducible exact H2_) | with_reducible exact H | (rw [hy298]; exact H) | exact H
              have Ny298 := Aside0.mk hy298
              clear hy298
              obtain rfl := Option.some.inj H
              go_enter Tryd.func74, Tryd.ntmps74
              go_wp2_with (first | ((with_reducible refine gate_dst (N := 30) rfl ?_); refine Kd.N_lit (Kd.slice 3 (Kd.int .i64)) _ 52 ?hg (N' := 30) ?hd (xs := ([] : List (List Int))) (inner := []) (ok := (fun k_ => (P0_ k_ ∨ w.heap.size ≤ k_))) (okp := (fun k_ => (P0_ k_ ∨ w.heap.size ≤ k_))) ?hr ?hp (fun _ hk => hk) ((show ∀ k_, w.heap.size ≤ k_ → (fun k_ => (P0_ k_ ∨ w.heap.size ≤ k_)) k_ from fun k_ hk => (.inr (Nat.le_trans (below_size (by repeat (first | (with_reducible first | exact HB.out | apply la1 | apply ln1 | apply ld1) | exact HB.out))) hk))) _ (Nat.le_refl _)) (Below.refl _ _) (Nat.le_refl _) (by simp) ?_; (case hd => rfl); (case hg => rfl); (case hr => first | (go_simp; done) | (go_simp; rfl)); (case hp => exact (Reps.none _ _)); intro v284 w22 ho23 hb hg_ hnew_; clear hg_ hnew_; (first | rw [← Ny283.out] at ho23 | (simp only [Int.reduceToNat] at ho23; rw [← Ny283.out] at ho23)); have n0_ := Aside0.mk (Kd.V_elder' (by (with_reducible repeat (first | apply Kd.V_alloc | apply Kd.V_drewN | apply Kd.V_drew)); exact HO0.out) (Kd.N_base ho23) hb); have n1_ := Aside0.mk (Kd.N_lower ho23 (below_size (by repeat (first | (with_reducible first | exact HB.out | apply la1 | apply ln1 | apply ld1) | exact HB.out)))); have n2_ := Aside0.mk (below_step (by repeat (first | (with_reducible first | exact HB.out | apply la1 | apply ln1 | apply ld1) | exact HB.out)) hb); clear HO0; clear HB; have HO0 := n0_; have HO285 := n1_; have HB := n2_; clear n0_ n1_ n2_; clear hb ho23) | ((with_reducible refine gate_builtin (b := .append) (xs := #[.tmp 30, .tmp 31]) rfl ?_); at_builtin; refine Kd.N_append_rows (Kd.slice 3 (Kd.int .i64)) (w0 := w) w.heap.size rfl (.tmp 30) (.tmp 31) 28 52 (.slice none 0 0) 24 rfl Tryd.underlying28 info52 rfl (by decide) (by omega) v284 y283 l0 _ _ _ (fun k_ => (P0_ k_ ∨ w.heap.size ≤ k_)) (fun k_ => ((fun k_ => (P0_ k_ ∨ w.heap.size ≤ k_))) k_ ∧ some k_ ≠ (v284 : Value).ownBlock) rfl rfl ?aO ?aR (fun _ hk => hk) ?aF ?aB ?aS ?aL ?_; (case aR => exact (by skip; exact Kd.V_F (Kd.V_mono (ok' := (fun k_ => ((fun k_ => (P0_ k_ ∨ w.heap.size ≤ k_))) k_ ∧ some k_ ≠ (v284 : Value).ownBlock)) (HO0.out) (fun k_ hk => ⟨hk.1, hk.2⟩)))); (case aB => exact (by repeat (first | (with_reducible first | exact HB.out | apply la1 | apply ln1 | apply ld1) | exact HB.out))); (case aF => exact (fun k_ hk => (.inr (Nat.le_trans (below_size (by repeat (first | (with_reducible first | exact HB.out | apply la1 | apply ln1 | apply ld1) | exact HB.out))) hk)))); (case aO => exact (by (with_reducible repeat (first | apply Kd.N_alloc | apply Kd.N_drewN | apply Kd.N_drew)); exact HO285.out)); (case aS => exact (below_size (by repeat (first | (with_reducible first | exact HB.out | apply la1 | apply ln1 | apply ld1) | exact HB.out)))); (case aL => have := LMc11.out; omega); intro v287 w24 ho hb hg hat; rw [← Ny286.out] at ho; have n0_ := Aside0.mk (Kd.V_afterv (ok := (fun k_ => (P0_ k_ ∨ w.heap.size ≤ k_))) (by (with_reducible repeat (first | apply Kd.V_alloc | apply Kd.V_drewN | apply Kd.V_drew)); exact HO0.out) hg hat); have n1_ := Aside0.mk (hb); have n2_ := Aside0.mk (ho); clear HO0; clear HB; clear HO285; have HO0 := n0_; have HB := n1_; have HO288 := n2_; clear n0_ n1_ n2_; clear ho hb hg hat) | ((with_reducible refine gate_dst (N := 54) rfl ?_); refine Kd.R_lit (Kd.int .i64) _ 3 ?hg (N := 54) ?hd (xs := ([wrap64 (a2 + 8), 2, (-1), wrap64 (Int.tdiv (wrap64 (a1 - 256)) 65536), Int.tmod (wrap64 (Int.tdiv (wrap64 (a1 - 256)) 256)) 256, Int.tmod (wrap64 (a1 - 256)) 256] : List Int)) (inner := [.int .i64 (wrap64 (a2 + 8)), .int .i64 2, .int .i64 (-1), .int .i64 (wrap64 (Int.tdiv (wrap64 (a1 - 256)) 65536)), .int .i64 (Int.tmod (wrap64 (Int.tdiv (wrap64 (a1 - 256)) 256)) 256), .int .i64 (Int.tmod (wrap64 (a1 - 256)) 256)]) (ok := fun _ => True) (okp := fun _ => True) ?hr ?hp (fun _ hk => hk) trivial (Below.refl _ _) (Nat.le_refl _) (by simp) ?_; (case hd => rfl); (case hg => rfl); (case hr => first | (go_simp; done) | (go_simp; rfl)); (case hp => exact (Reps.one (show Kd.M (Kd.int .i64) _ _ _ (wrap64 (a2 + 8)) [.int .i64 (wrap64 (a2 + 8))] from rfl) (Reps.one (show Kd.M (Kd.int .i64) _ _ _ 2 [.int .i64 2] from rfl) (Reps.one (show Kd.M (Kd.int .i64) _ _ _ (-1) [.int .i64 (-1)] from rfl) (Reps.one (show Kd.M (Kd.int .i64) _ _ _ (wrap64 (Int.tdiv (wrap64 (a1 - 256)) 65536)) [.int .i64 (wrap64 (Int.tdiv (wrap64 (a1 - 256)) 65536))] from rfl) (Reps.one (show Kd.M (Kd.int .i64) _ _ _ (Int.tmod (wrap64 (Int.tdiv (wrap64 (a1 - 256)) 256)) 256) [.int .i64 (Int.tmod (wrap64 (Int.tdiv (wrap64 (a1 - 256)) 256)) 256)] from rfl) (Reps.one (show Kd.M (Kd.int .i64) _ _ _ (Int.tmod (wrap64 (a1 - 256)) 256) [.int .i64 (Int.tmod (wrap64 (a1 - 256)) 256)] from rfl) (Reps.none _ _)))))))); intro v296 w25 ho26 hb hg_ hnew_; clear hg_ hnew_; (first | rw [← Ny295.out] at ho26 | (simp only [Int.reduceToNat] at ho26; rw [← Ny295.out] at ho26)); have n0_ := Aside0.mk (Kd.V_elder' (by (with_reducible repeat (first | apply Kd.V_alloc | apply Kd.V_drewN | apply Kd.V_drew)); exact HO0.out) (Kd.R_base ho26) hb); have n1_ := Aside0.mk (Kd.N_elder' (by (with_reducible repeat (first | apply Kd.N_alloc | apply Kd.N_drewN | apply Kd.N_drew)); exact HO288.out) (Kd.R_base ho26) hb); have n2_ := Aside0.mk (Kd.R_lower (Kd.R_newM (M := fun k_ => (w.heap.size ≤ k_)) ho26 (below_size (by repeat (first | (with_reducible first | exact HB.out | apply la1 | apply ln1 | apply ld1) | exact HB.out))) (fun k_ h_ => h_)) (below_size (by repeat (first | (with_reducible first | exact HB.out | apply la1 | apply ln1 | apply ld1) | exact HB.out)))); have n3_ := Aside0.mk (below_step (by repeat (first | (with_reducible first | exact HB.out | apply la1 | apply ln1 | apply ld1) | exact HB.out)) hb); clear HO0; clear HO288; clear HB; have HO0 := n0_; have HO288 := n1_; have HO297 := n2_; have HB := n3_; clear n0_ n1_ n2_ n3_; clear hb ho26; obtain ⟨Ao28, co28, eo28⟩ := Kd.R_slice HO297.out; subst eo28) | ((with_reducible refine gate_builtin (b := .append) (xs := #[.tmp 44, .tmp 55]) rfl ?_); at_builtin; refine Kd.N_append (Kd.slice 3 (Kd.int .i64)) (w0 := w) w.heap.size rfl (.tmp 44) (.tmp 55) 28 52 (.slice none 0 0) 24 rfl Tryd.underlying28 info52 rfl (by decide) (by omega) v287 y286 y295 [.slice Ao28 y295.length co28] (fun k_ => (P0_ k_ ∨ w.heap.size ≤ k_)) (fun k_ => ((fun k_ => (P0_ k_ ∨ w.heap.size ≤ k_))) k_ ∧ some k_ ≠ (v287 : Value).ownBlock) rfl rfl ?aP (fun _ hk => hk) ?aF ?aO ?aB ?aS ?aL ?_; (case aP => exact (Kd.FK_slice_mk (Kd.R_reads' (Kd.R_mono (ok' := (fun k_ => ((fun k_ => (P0_ k_ ∨ w.heap.size ≤ k_))) k_ ∧ some k_ ≠ (v287 : Value).ownBlock)) (Kd.R_apart' (HO297.out) (Kd.N_typed HO288.out) (by decide)) (fun k_ hk => ⟨(.inr (hk.1.1)), hk.2⟩))).2.1 (Kd.R_F (Kd.R_mono (ok' := (fun k_ => ((fun k_ => (P0_ k_ ∨ w.heap.size ≤ k_))) k_ ∧ some k_ ≠ (v287 : Value).ownBlock)) (Kd.R_apart' (HO297.out) (Kd.N_typed HO288.out) (by decide)) (fun k_ hk => ⟨(.inr (hk.1.1)), hk.2⟩))))); (case aB => exact (by repeat (first | (with_reducible first | exact HB.out | apply la1 | apply ln1 | apply ld1) | exact HB.out))); (case aF => exact (fun k_ hk => (.inr (Nat.le_trans (below_size (by repeat (first | (with_reducible first | exact HB.out | apply la1 | apply ln1 | apply ld1) | exact HB.out))) hk)))); (case aO => exact (by (with_reducible repeat (first | apply Kd.N_alloc | apply Kd.N_drewN | apply Kd.N_drew)); exact Kd.N_mono HO288.out (fun _ hk => hk.1))); (case aS => exact (below_size (by repeat (first | (with_reducible first | exact HB.out | apply la1 | apply ln1 | apply ld1) | exact HB.out)))); (case aL => have := LMc21.out; omega); intro v299 w27 ho hb hg hat; rw [← Ny298.out] at ho; have n0_ := Aside0.mk (Kd.V_afterv (ok := (fun k_ => (P0_ k_ ∨ w.heap.size ≤ k_) ∧ some k_ ≠ (.slice Ao28 y295.length co28 : Value).ownBlock)) (by (with_reducible repeat (first | apply Kd.V_alloc | apply Kd.V_drewN | apply Kd.V_drew)); exact Kd.V_mono HO0.out (fun _ hk => ⟨⟨hk.1.1, hk.2⟩, hk.1.2⟩)) hg hat); have n1_ := Aside0.mk (hb); have n2_ := Aside0.mk (ho); clear HO0; clear HB; clear HO288; clear HO297; have HO0 := n0_; have HB := n1_; have HO300 := n2_; clear n0_ n1_ n2_; clear ho hb hg hat))
              go_ret
              exact ⟨_, by first | rfl | (simp [errW_none, errW_some] <;> rfl) | (simp [*, errW_none, errW_some] <;> rfl), Kd.N_V (by (with_reducible repeat (first | apply Kd.N_alloc | apply Kd.N_drewN | apply Kd.N_drew)); exact HO300.out), by repeat (first | (with_reducible first | exact HB.out | apply la1 | apply ln1 | apply ld1) | exact HB.out)⟩
            · rw [if_neg c21] at H
              exact absurd H (by simp)
        · rw [if_neg c11] at H
          exact absurd H (by simp)
def clavierref18_Params.j0 : Nat → List (List Int) → Bool → Bool → Bool → Bool → Bool → Bool → Bool → Int → Int → Int → Option ((List (List Int)))
  | 0, _, _, _, _, _, _, _, _, _, _, _ => none
  | k + 1, x3, x302000, x302001, x302002, x302003, x302004, x302005, x302006, x302007, x302008, x302009 => (clavierref18_one.f x3 x302003 5).bind fun t333 => ((clavierref18_one.f t333 x302004 7).bind fun t336 => ((clavierref18_one.f t336 x302005 8).bind fun t339 => ((clavierref18_one.f t339 x302006 9).bind fun t342 => ((clavierref18_tint.f t342 x302008 30).bind fun t345 => ((clavierref18_tint.f t345 x302009 40).bind fun t348 => (some t348))))))
def clavierref18_Params.f (k : Nat) (a0_0 : Bool) (a0_1 : Bool) (a0_2 : Bool) (a0_3 : Bool) (a0_4 : Bool) (a0_5 : Bool) (a0_6 : Bool) (a0_7 : Int) (a0_8 : Int) (a0_9 : Int) : Option ((List (List Int))) := (clavierref18_May.f a0_0 a0_1 a0_2 a0_3 a0_4 a0_5 a0_6 a0_7 a0_8 a0_9).bind fun t302 => (if t302 = true then ((clavierref18_one.f (([(([0] : List Int))] : List (List Int))) a0_0 1).bind fun t309 => ((clavierref18_one.f t309 a0_1 2).bind fun t312 => ((clavierref18_one.f t312 a0_2 3).bind fun t315 => ((clavierref18_one.f t315 (a0_7 == 1) 4).bind fun t318 => (if a0_7 > 1 then ((some (([] : List (List Int)) : List (List Int))).bind fun y321 => (if y321.length + t318.length < 5864062014805 then ((some (y321 ++ t318 : List (List Int))).bind fun y324 => (if y324.length < 5864062014805 then (clavierref18_Params.j0 k (y324 ++ [(([4, a0_7] : List Int))]) a0_0 a0_1 a0_2 a0_3 a0_4 a0_5 a0_6 a0_7 a0_8 a0_9) else (none))) else (none))) else (clavierref18_Params.j0 k t318 a0_0 a0_1 a0_2 a0_3 a0_4 a0_5 a0_6 a0_7 a0_8 a0_9)))))) else (some ([] : List (List Int))))
theorem clavierref18_Params.mono_l : ∀ k, (∀ y0 y1 y2 y3 y4 y5 y6 y7 y8 y9 y10, LeO (clavierref18_Params.j0 k y0 y1 y2 y3 y4 y5 y6 y7 y8 y9 y10) (clavierref18_Params.j0 (k + 1) y0 y1 y2 y3 y4 y5 y6 y7 y8 y9 y10))
  | 0 => fun _ _ _ _ _ _ _ _ _ _ _ r h => by simp [clavierref18_Params.j0] at h
  | k + 1 => by
    have ih0 := clavierref18_Params.mono_l k
    · intro y0 y1 y2 y3 y4 y5 y6 y7 y8 y9 y10
      unfold clavierref18_Params.j0
      repeat' first
      | (with_reducible exact ih0 _ _ _ _ _ _ _ _ _ _ _)
      | (with_reducible exact LeO.refl _)
      | (with_reducible exact LeO.none _)
      | (with_reducible refine LeO.ite ?_ ?_)
      | (with_reducible refine LeO.bind ?_ (fun _ => ?_))
      | exact ih0 _ _ _ _ _ _ _ _ _ _ _
      | exact LeO.none _
      | refine LeO.ite ?_ ?_
      | refine LeO.bind ?_ (fun _ => ?_)
theorem clavierref18_Params.mono : ∀ a0 a1 a2 a3 a4 a5 a6 a7 a8 a9 k, LeO (clavierref18_Params.f k a0 a1 a2 a3 a4 a5 a6 a7 a8 a9) (clavierref18_Params.f (k + 1) a0 a1 a2 a3 a4 a5 a6 a7 a8 a9) := by
  intro a0 a1 a2 a3 a4 a5 a6 a7 a8 a9 k
  have ih0 := clavierref18_Params.mono_l k
  unfold clavierref18_Params.f
  repeat' first
      | (with_reducible exact ih0 _ _ _ _ _ _ _ _ _ _ _)
      | (with_reducible exact LeO.refl _)
      | (with_reducible exact LeO.none _)
      | (with_reducible refine LeO.ite ?_ ?_)
      | (with_reducible refine LeO.bind ?_ (fun _ => ?_))
      | exact ih0 _ _ _ _ _ _ _ _ _ _ _
      | exact LeO.none _
      | refine LeO.ite ?_ ?_
      | refine LeO.bind ?_ (fun _ => ?_)
def clavierref18_Params.T16 : Bool × List (List Nat × List Nat) := (true, [([], []), ([], []), ([1], [1]), ([0, 2], [0, 2]), ([], []), ([4], [4]), ([3, 5, 3], [3, 5]), ([6, 6, 0, 1, 2, 3, 4, 5, 6], [6])])
def clavierref18_Params.B16 : List Nat := [0, 0, 2, 7, 0, 16, 63, 127]
theorem clavierref18_Params.tab16 : rtab .any (opsOf Tryd.f61 16) = clavierref18_Params.T16 := by kernel_rfl
theorem clavierref18_Params.bits16 : waitsOk clavierref18_Params.T16.2 clavierref18_Params.B16 = true := by kernel_rfl
set_option maxHeartbeats 8000000 in
set_option maxRecDepth 100000 in
theorem clavierref18_Params.calls (k : Nat) (a0_0 : Bool) (a0_1 : Bool) (a0_2 : Bool) (a0_3 : Bool) (a0_4 : Bool) (a0_5 : Bool) (a0_6 : Bool) (a0_7 : Int) (a0_8 : Int) (a0_9 : Int) (r : List (List Int)) (w : World) (h : clavierref18_Params.f k a0_0 a0_1 a0_2 a0_3 a0_4 a0_5 a0_6 a0_7 a0_8 a0_9 = some r) :
    Calls Tryd.prog 61 #[.agg #[.bool a0_0, .bool a0_1, .bool a0_2, .bool a0_3, .bool a0_4, .bool a0_5, .bool a0_6, .int .i64 a0_7, .int .i64 a0_8, .int .i64 a0_9]] w fun e w' => ∃ v0_ : Value, e = .returned (v0_) ∧ Kd.V (Kd.slice 3 (Kd.int .i64)) 52 w' w.heap.size (fun k_ => (w.heap.size ≤ k_)) v0_ r ∧ Below w.heap.size w w' := by
  have hu23 := Tryd.underlying23
  have HB := Aside0.mk (Below.refl w.heap.size w)
  have H : ((clavierref18_May.f a0_0 a0_1 a0_2 a0_3 a0_4 a0_5 a0_6 a0_7 a0_8 a0_9).bind fun t302 => (if t302 = true then ((clavierref18_one.f (([(([0] : List Int))] : List (List Int))) a0_0 1).bind fun t309 => ((clavierref18_one.f t309 a0_1 2).bind fun t312 => ((clavierref18_one.f t312 a0_2 3).bind fun t315 => ((clavierref18_one.f t315 (a0_7 == 1) 4).bind fun t318 => (if a0_7 > 1 then ((some (([] : List (List Int)) : List (List Int))).bind fun y321 => (if y321.length + t318.length < 5864062014805 then ((some (y321 ++ t318 : List (List Int))).bind fun y324 => (if y324.length < 5864062014805 then (clavierref18_Params.j0 k (y324 ++ [(([4, a0_7] : List Int))]) a0_0 a0_1 a0_2 a0_3 a0_4 a0_5 a0_6 a0_7 a0_8 a0_9) else (none))) else (none))) else (clavierref18_Params.j0 k t318 a0_0 a0_1 a0_2 a0_3 a0_4 a0_5 a0_6 a0_7 a0_8 a0_9)))))) else (some ([] : List (List Int))))) = some r := h
  clear h
  replace H := Option.bind_eq_some_iff.mp H
  obtain ⟨t302, A20, H⟩ := H
  replace H : (if t302 = true then ((clavierref18_one.f (([(([0] : List Int))] : List (List Int))) a0_0 1).bind fun t309 => ((clavierref18_one.f t309 a0_1 2).bind fun t312 => ((clavierref18_one.f t312 a0_2 3).bind fun t315 => ((clavierref18_one.f t315 (a0_7 == 1) 4).bind fun t318 => (if a0_7 > 1 then ((some (([] : List (List Int)) : List (List Int))).bind fun y321 => (if y321.length + t318.length < 5864062014805 then ((some (y321 ++ t318 : List (List Int))).bind fun y324 => (if y324.length < 5864062014805 then (clavierref18_Params.j0 k (y324 ++ [(([4, a0_7] : List Int))]) a0_0 a0_1 a0_2 a0_3 a0_4 a0_5 a0_6 a0_7 a0_8 a0_9) else (none))) else (none))) else (clavierref18_Params.j0 k t318 a0_0 a0_1 a0_2 a0_3 a0_4 a0_5 a0_6 a0_7 a0_8 a0_9)))))) else (some ([] : List (List Int)))) = some r := H
  have A2 := Aside0.mk A20
  clear A20
  by_cases c3 : t302 = true
  · subst c3
    have H1 : ((clavierref18_one.f (([(([0] : List Int))] : List (List Int))) a0_0 1).bind fun t309 => ((clavierref18_one.f t309 a0_1 2).bind fun t312 => ((clavierref18_one.f t312 a0_2 3).bind fun t315 => ((clavierref18_one.f t315 (a0_7 == 1) 4).bind fun t318 => (if a0_7 > 1 then ((some (([] : List (List Int)) : List (List Int))).bind fun y321 => (if y321.length + t318.length < 5864062014805 then ((some (y321 ++ t318 : List (List Int))).bind fun y324 => (if y324.length < 5864062014805 then (clavierref18_Params.j0 k (y324 ++ [(([4, a0_7] : List Int))]) a0_0 a0_1 a0_2 a0_3 a0_4 a0_5 a0_6 a0_7 a0_8 a0_9) else (none))) else (none))) else (clavierref18_Params.j0 k t318 a0_0 a0_1 a0_2 a0_3 a0_4 a0_5 a0_6 a0_7 a0_8 a0_9)))))) = some r := by rw [if_pos rfl] at H; exact H
    clear H
    have H := H1
    clear H1
    obtain ⟨y303, hy303⟩ : ∃ y_ : List Int, y_ = (([0] : List Int)) := ⟨_, rfl⟩
    replace H : ((clavierref18_one.f (([y303] : List (List Int))) a0_0 1).bind fun t309 => ((clavierref18_one.f t309 a0_1 2).bind fun t312 => ((clavierref18_one.f t312 a0_2 3).bind fun t315 => ((clavierref18_one.f t315 (a0_7 == 1) 4).bind fun t318 => (if a0_7 > 1 then ((some (([] : List (List Int)) : List (List Int))).bind fun y321 => (if y321.length + t318.length < 5864062014805 then ((some (y321 ++ t318 : List (List Int))).bind fun y324 => (if y324.length < 5864062014805 then (clavierref18_Params.j0 k (y324 ++ [(([4, a0_7] : List Int))]) a0_0 a0_1 a0_2 a0_3 a0_4 a0_5 a0_6 a0_7 a0_8 a0_9) else (none))) else (none))) else (clavierref18_Params.j0 k t318 a0_0 a0_1 a0_2 a0_3 a0_4 a0_5 a0_6 a0_7 a0_8 a0_9)))))) = some r := by first | (rw [hy303]; with_reducible exact H) | (have H2_ := (Option.bind_some _ _).symm.trans H; rw [hy303]; with_reducible exact H2_) | (have H2_ := (Option.bind_some _ _).symm.trans H; with_reducible exact H2_) | with_reducible exact H | (rw [hy303]; exact H) | exact H
    have Ny303 := Aside0.mk hy303
    clear hy303
    obtain ⟨y306, hy306⟩ : ∃ y_ : List (List Int), y_ = (([y303] : List (List Int))) := ⟨_, rfl⟩
    replace H : ((clavierref18_one.f y306 a0_0 1).bind fun t309 => ((clavierref18_one.f t309 a0_1 2).bind fun t312 => ((clavierref18_one.f t312 a0_2 3).bind fun t315 => ((clavierref18_one.f t315 (a0_7 == 1) 4).bind fun t318 => (if a0_7 > 1 then ((some (([] : List (List Int)) : List (List Int))).bind fun y321 => (if y321.length + t318.length < 5864062014805 then ((some (y321 ++ t318 : List (List Int))).bind fun y324 => (if y324.length < 5864062014805 then (clavierref18_Params.j0 k (y324 ++ [(([4, a0_7] : List Int))]) a0_0 a0_1 a0_2 a0_3 a0_4 a0_5 a0_6 a0_7 a0_8 a0_9) else (none))) else (none))) else (clavierref18_Params.j0 k t318 a0_0 a0_1 a0_2 a0_3 a0_4 a0_5 a0_6 a0_7 a0_8 a0_9)))))) = some r := by first | (rw [hy306]; with_reducible exact H) | (have H2_ := (Option.bind_some _ _).symm.trans H; rw [hy306]; with_reducible exact H2_) | (have H2_ := (Option.bind_some _ _).symm.trans H; with_reducible exact H2_) | with_reducible exact H | (rw [hy306]; exact H) | exact H
    have Ny306 := Aside0.mk hy306
    clear hy306
    replace H := Option.bind_eq_some_iff.mp H
    obtain ⟨t309, A40, H⟩ := H
    replace H : ((clavierref18_one.f t309 a0_1 2).bind fun t312 => ((clavierref18_one.f t312 a0_2 3).bind fun t315 => ((clavierref18_one.f t315 (a0_7 == 1) 4).bind fun t318 => (if a0_7 > 1 then ((some (([] : List (List Int)) : List (List Int))).bind fun y321 => (if y321.length + t318.length < 5864062014805 then ((some (y321 ++ t318 : List (List Int))).bind fun y324 => (if y324.length < 5864062014805 then (clavierref18_Params.j0 k (y324 ++ [(([4, a0_7] : List Int))]) a0_0 a0_1 a0_2 a0_3 a0_4 a0_5 a0_6 a0_7 a0_8 a0_9) else (none))) else (none))) else (clavierref18_Params.j0 k t318 a0_0 a0_1 a0_2 a0_3 a0_4 a0_5 a0_6 a0_7 a0_8 a0_9))))) = some r := H
    have A4 := Aside0.mk A40
    clear A40
    replace H := Option.bind_eq_some_iff.mp H
    obtain ⟨t312, A50, H⟩ := H
    replace H : ((clavierref18_one.f t312 a0_2 3).bind fun t315 => ((clavierref18_one.f t315 (a0_7 == 1) 4).bind fun t318 => (if a0_7 > 1 then ((some (([] : List (List Int)) : List (List Int))).bind fun y321 => (if y321.length + t318.length < 5864062014805 then ((some (y321 ++ t318 : List (List Int))).bind fun y324 => (if y324.length < 5864062014805 then (clavierref18_Params.j0 k (y324 ++ [(([4, a0_7] : List Int))]) a0_0 a0_1 a0_2 a0_3 a0_4 a0_5 a0_6 a0_7 a0_8 a0_9) else (none))) else (none))) else (clavierref18_Params.j0 k t318 a0_0 a0_1 a0_2 a0_3 a0_4 a0_5 a0_6 a0_7 a0_8 a0_9)))) = some r := H
    have A5 := Aside0.mk A50
    clear A50
    replace H := Option.bind_eq_some_iff.mp H
    obtain ⟨t315, A60, H⟩ := H
    replace H : ((clavierref18_one.f t315 (a0_7 == 1) 4).bind fun t318 => (if a0_7 > 1 then ((some (([] : List (List Int)) : List (List Int))).bind fun y321 => (if y321.length + t318.length < 5864062014805 then ((some (y321 ++ t318 : List (List Int))).bind fun y324 => (if y324.length < 5864062014805 then (clavierref18_Params.j0 k (y324 ++ [(([4, a0_7] : List Int))]) a0_0 a0_1 a0_2 a0_3 a0_4 a0_5 a0_6 a0_7 a0_8 a0_9) else (none))) else (none))) else (clavierref18_Params.j0 k t318 a0_0 a0_1 a0_2 a0_3 a0_4 a0_5 a0_6 a0_7 a0_8 a0_9))) = some r := H
    have A6 := Aside0.mk A60
    clear A60
    replace H := Option.bind_eq_some_iff.mp H
    obtain ⟨t318, A70, H⟩ := H
    replace H : (if a0_7 > 1 then ((some (([] : List (List Int)) : List (List Int))).bind fun y321 => (if y321.length + t318.length < 5864062014805 then ((some (y321 ++ t318 : List (List Int))).bind fun y324 => (if y324.length < 5864062014805 then (clavierref18_Params.j0 k (y324 ++ [(([4, a0_7] : List Int))]) a0_0 a0_1 a0_2 a0_3 a0_4 a0_5 a0_6 a0_7 a0_8 a0_9) else (none))) else (none))) else (clavierref18_Params.j0 k t318 a0_0 a0_1 a0_2 a0_3 a0_4 a0_5 a0_6 a0_7 a0_8 a0_9)) = some r := H
    have A7 := Aside0.mk A70
    clear A70
    have HC8 := Aside0.mk H
    clear H
    go_enter Tryd.func61, Tryd.ntmps61
    go_upto_if 29 with (first | ((with_reducible refine gate_dst (N := 1) rfl ?_); refine box_event ?hg (N := 1) ?hd (cs := #[.bool a0_0, .bool a0_1, .bool a0_2, .bool a0_3, .bool a0_4, .bool a0_5, .bool a0_6, .int .i64 a0_7, .int .i64 a0_8, .int .i64 a0_9]) (t := 23) ?hr ?_; (case hd => rfl); (case hg => rfl); (case hr => first | (go_simp; done) | (go_simp; rfl)); intro gb301 hg w9 hbox hb; have n0_ := Aside0.mk (below_step (by repeat (first | (with_reducible first | exact HB.out | apply la1 | apply ln1 | apply ld1) | exact HB.out)) hb); have n1_ := Aside0.mk (hbox); have n2_ := Aside0.mk ((by rw [hg]; exact (below_size (by repeat (first | (with_reducible first | exact HB.out | apply la1 | apply ln1 | apply ld1) | exact HB.out))) : w.heap.size ≤ gb301)); have n3_ := Aside0.mk ((by rw [hg]; exact (below_size (by repeat (first | (with_reducible first | exact HB.out | apply la1 | apply ln1 | apply ld1) | exact HB.out))) : w.heap.size ≤ gb301)); clear HB; have HB := n0_; have BK301 := n1_; have GW301 := n2_; have GE301 := n3_; clear n0_ n1_ n2_ n3_; clear hb hbox hg; have hcz10_0 : w9.cell? ⟨gb301, 0, none⟩ = some (.bool a0_0) := (bc1 BK301.out 0).trans rfl; have hcz10_1 : w9.cell? ⟨gb301, 1, none⟩ = some (.bool a0_1) := (bc1 BK301.out 1).trans rfl; have hcz10_2 : w9.cell? ⟨gb301, 2, none⟩ = some (.bool a0_2) := (bc1 BK301.out 2).trans rfl; have hcz10_3 : w9.cell? ⟨gb301, 3, none⟩ = some (.bool a0_3) := (bc1 BK301.out 3).trans rfl; have hcz10_4 : w9.cell? ⟨gb301, 4, none⟩ = some (.bool a0_4) := (bc1 BK301.out 4).trans rfl; have hcz10_5 : w9.cell? ⟨gb301, 5, none⟩ = some (.bool a0_5) := (bc1 BK301.out 5).trans rfl; have hcz10_6 : w9.cell? ⟨gb301, 6, none⟩ = some (.bool a0_6) := (bc1 BK301.out 6).trans rfl; have hcz10_7 : w9.cell? ⟨gb301, 7, none⟩ = some (.int .i64 a0_7) := (bc1 BK301.out 7).trans rfl; have hcz10_8 : w9.cell? ⟨gb301, 8, none⟩ = some (.int .i64 a0_8) := (bc1 BK301.out 8).trans rfl; have hcz10_9 : w9.cell? ⟨gb301, 9, none⟩ = some (.int .i64 a0_9) := (bc1 BK301.out 9).trans rfl; have hfz10_0 := bz1 BK301.out 0; have hfz10_1 := bz1 BK301.out 1; have hfz10_2 := bz1 BK301.out 2; have hfz10_3 := bz1 BK301.out 3; have hfz10_4 := bz1 BK301.out 4; have hfz10_5 := bz1 BK301.out 5; have hfz10_6 := bz1 BK301.out 6; have hfz10_7 := bz1 BK301.out 7; have hfz10_8 := bz1 BK301.out 8; have hfz10_9 := bz1 BK301.out 9) | ((with_reducible refine gate_callee (f := 15) rfl ?_); refine goesL_ (some 6) rfl rfl Tryd.func15 (by kernel_rfl) rfl #[.agg #[.bool a0_0, .bool a0_1, .bool a0_2, .bool a0_3, .bool a0_4, .bool a0_5, .bool a0_6, .int .i64 a0_7, .int .i64 a0_8, .int .i64 a0_9]] rfl (by (try simp only [List.map_toArray, List.map_cons, List.map_nil]); first | done | rfl | (simp only [List.length_drop, List.length_take]; rfl)) ?_; (with_reducible refine (clavierref18_May.calls a0_0 a0_1 a0_2 a0_3 a0_4 a0_5 a0_6 a0_7 a0_8 a0_9 true _ A2.out).mono ?_); rintro e w11 ⟨rfl, hb⟩; refine ⟨_, rfl, ?_⟩; have n0_ := Aside0.mk (bb1 (g := gb301) (o := .cells #[.bool a0_0, .bool a0_1, .bool a0_2, .bool a0_3, .bool a0_4, .bool a0_5, .bool a0_6, .int .i64 a0_7, .int .i64 a0_8, .int .i64 a0_9] 23 (0, 0)) (by (with_reducible repeat (first | refine bn1 ?_ _ | refine bd1 ?_ | refine ba1 ?_ _)); exact BK301.out) hb); have n1_ := Aside0.mk (below_step (by repeat (first | (with_reducible first | exact HB.out | apply la1 | apply ln1 | apply ld1 | refine ls1 ?_ GE301.out) | exact HB.out)) hb); clear BK301; clear HB; have BK301 := n0_; have HB := n1_; clear n0_ n1_; (try clear hb); (try clear hb2); (try clear hk); (try clear hi)) | ((with_reducible refine gate_dst (N := 8) rfl ?_); refine Kd.R_lit (Kd.int .i64) _ 3 ?hg (N := 8) ?hd (xs := ([0] : List Int)) (inner := [.int .i64 0]) (ok := fun _ => True) (okp := fun _ => True) ?hr ?hp (fun _ hk => hk) trivial (Below.refl _ _) (Nat.le_refl _) (by simp) ?_; (case hd => rfl); (case hg => rfl); (case hr => first | (go_simp; done) | (go_simp; rfl)); (case hp => exact (Reps.one (show Kd.M (Kd.int .i64) _ _ _ 0 [.int .i64 0] from rfl) (Reps.none _ _))); intro v304 w12 ho13 hb hg_ hnew_; clear hg_ hnew_; (first | rw [← Ny303.out] at ho13 | (simp only [Int.reduceToNat] at ho13; rw [← Ny303.out] at ho13)); have n0_ := Aside0.mk (Kd.R_lower (Kd.R_newM (M := fun k_ => (w.heap.size ≤ k_)) ho13 (below_size (by repeat (first | (with_reducible first | exact HB.out | apply la1 | apply ln1 | apply ld1 | refine ls1 ?_ GE301.out) | exact HB.out))) (fun k_ h_ => h_)) (below_size (by repeat (first | (with_reducible first | exact HB.out | apply la1 | apply ln1 | apply ld1 | refine ls1 ?_ GE301.out) | exact HB.out)))); have n1_ := Aside0.mk (bb1 (g := gb301) (o := .cells #[.bool a0_0, .bool a0_1, .bool a0_2, .bool a0_3, .bool a0_4, .bool a0_5, .bool a0_6, .int .i64 a0_7, .int .i64 a0_8, .int .i64 a0_9] 23 (0, 0)) (by (with_reducible repeat (first | refine bn1 ?_ _ | refine bd1 ?_ | refine ba1 ?_ _)); exact BK301.out) hb); have n2_ := Aside0.mk (below_step (by repeat (first | (with_reducible first | exact HB.out | apply la1 | apply ln1 | apply ld1 | refine ls1 ?_ GE301.out) | exact HB.out)) hb); clear BK301; clear HB; have HO305 := n0_; have BK301 := n1_; have HB := n2_; clear n0_ n1_ n2_; clear hb ho13; obtain ⟨Ao14, co14, eo14⟩ := Kd.R_slice HO305.out; subst eo14) | ((with_reducible refine gate_dst (N := 9) rfl ?_); refine Kd.N_lit (Kd.slice 3 (Kd.int .i64)) _ 52 ?hg (N' := 9) ?hd (xs := ([y303] : List (List Int))) (inner := [.slice Ao14 y303.length co14]) (ok := (fun k_ => (w.heap.size ≤ k_) ∧ k_ ≠ gb301)) (okp := (fun k_ => (w.heap.size ≤ k_) ∧ k_ ≠ gb301)) ?hr ?hp (fun _ hk => hk) ((show ∀ k_, w12.heap.size ≤ k_ → (fun k_ => (w.heap.size ≤ k_) ∧ k_ ≠ gb301) k_ from fun k_ hk => ⟨(Nat.le_trans (below_size (by repeat (first | (with_reducible first | exact HB.out | apply la1 | apply ln1 | apply ld1 | refine ls1 ?_ GE301.out) | exact HB.out))) hk), Kd.freshB (g := gb301) (o := .cells #[.bool a0_0, .bool a0_1, .bool a0_2, .bool a0_3, .bool a0_4, .bool a0_5, .bool a0_6, .int .i64 a0_7, .int .i64 a0_8, .int .i64 a0_9] 23 (0, 0)) (by (with_reducible repeat (first | refine bn1 ?_ _ | refine bd1 ?_ | refine ba1 ?_ _)); exact BK301.out) k_ hk⟩) _ (Nat.le_refl _)) (Below.refl _ _) (Nat.le_refl _) (by simp) ?_; (case hd => rfl); (case hg => rfl); (case hr => first | (go_simp; done) | (go_simp; rfl)); (case hp => exact (Reps.one (show Kd.FK (Kd.slice 3 (Kd.int .i64)) _ _ y303 [.slice Ao14 y303.length co14] from (Kd.FK_slice_mk (Kd.R_reads' (Kd.R_mono (ok' := (fun k_ => (w.heap.size ≤ k_) ∧ k_ ≠ gb301)) (Kd.R_types (HO305.out) BK301.out (by decide)) (fun k_ hk => ⟨hk.1.1, hk.2⟩))).2.1 (Kd.R_F (Kd.R_mono (ok' := (fun k_ => (w.heap.size ≤ k_) ∧ k_ ≠ gb301)) (Kd.R_types (HO305.out) BK301.out (by decide)) (fun k_ hk => ⟨hk.1.1, hk.2⟩))))) (Reps.none _ _))); intro v307 w15 ho16 hb hg_ hnew_; clear hg_ hnew_; (first | rw [← Ny306.out] at ho16 | (simp only [Int.reduceToNat] at ho16; rw [← Ny306.out] at ho16)); have n0_ := Aside0.mk (Kd.N_lower ho16 (below_size (by repeat (first | (with_reducible first | exact HB.out | apply la1 | apply ln1 | apply ld1 | refine ls1 ?_ GE301.out) | exact HB.out)))); have n1_ := Aside0.mk (bb1 (g := gb301) (o := .cells #[.bool a0_0, .bool a0_1, .bool a0_2, .bool a0_3, .bool a0_4, .bool a0_5, .bool a0_6, .int .i64 a0_7, .int .i64 a0_8, .int .i64 a0_9] 23 (0, 0)) (by (with_reducible repeat (first | refine bn1 ?_ _ | refine bd1 ?_ | refine ba1 ?_ _)); exact BK301.out) hb); have n2_ := Aside0.mk (below_step (by repeat (first | (with_reducible first | exact HB.out | apply la1 | apply ln1 | apply ld1 | refine ls1 ?_ GE301.out) | exact HB.out)) hb); clear BK301; clear HB; clear HO305; have HO308 := n0_; have BK301 := n1_; have HB := n2_; clear n0_ n1_ n2_; clear hb ho16; have hcz17_0 : w15.cell? ⟨gb301, 0, none⟩ = some (.bool a0_0) := (bc1 BK301.out 0).trans rfl; have hcz17_1 : w15.cell? ⟨gb301, 1, none⟩ = some (.bool a0_1) := (bc1 BK301.out 1).trans rfl; have hcz17_2 : w15.cell? ⟨gb301, 2, none⟩ = some (.bool a0_2) := (bc1 BK301.out 2).trans rfl; have hcz17_3 : w15.cell? ⟨gb301, 3, none⟩ = some (.bool a0_3) := (bc1 BK301.out 3).trans rfl; have hcz17_4 : w15.cell? ⟨gb301, 4, none⟩ = some (.bool a0_4) := (bc1 BK301.out 4).trans rfl; have hcz17_5 : w15.cell? ⟨gb301, 5, none⟩ = some (.bool a0_5) := (bc1 BK301.out 5).trans rfl; have hcz17_6 : w15.cell? ⟨gb301, 6, none⟩ = some (.bool a0_6) := (bc1 BK301.out 6).trans rfl; have hcz17_7 : w15.cell? ⟨gb301, 7, none⟩ = some (.int .i64 a0_7) := (bc1 BK301.out 7).trans rfl; have hcz17_8 : w15.cell? ⟨gb301, 8, none⟩ = some (.int .i64 a0_8) := (bc1 BK301.out 8).trans rfl; have hcz17_9 : w15.cell? ⟨gb301, 9, none⟩ = some (.int .i64 a0_9) := (bc1 BK301.out 9).trans rfl; have hfz17_0 := bz1 BK301.out 0; have hfz17_1 := bz1 BK301.out 1; have hfz17_2 := bz1 BK301.out 2; have hfz17_3 := bz1 BK301.out 3; have hfz17_4 := bz1 BK301.out 4; have hfz17_5 := bz1 BK301.out 5; have hfz17_6 := bz1 BK301.out 6; have hfz17_7 := bz1 BK301.out 7; have hfz17_8 := bz1 BK301.out 8; have hfz17_9 := bz1 BK301.out 9; obtain ⟨Ao18, co18, eo18⟩ := Kd.N_slice HO308.out; subst eo18) | ((with_reducible refine gate_callee (f := 73) rfl ?_); refine goesL_ (some 13) rfl rfl Tryd.func73 (by kernel_rfl) rfl #[.slice Ao18 y306.length co18, .bool a0_0, .int .i64 1] rfl (by (try simp only [List.map_toArray, List.map_cons, List.map_nil]); first | done | rfl | (simp only [List.length_drop, List.length_take]; rfl)) ?_; (with_reducible refine (clavierref18_one.calls (fun k_ => ((w.heap.size ≤ k_) ∧ k_ ≠ gb301)) _ _ y306 a0_0 1 t309 _ ?side1 A4.out).mono ?_); (case side1 => exact Kd.N_V (HO308.out)); rintro e w19 ⟨v310, rfl, ho0, hb⟩; refine ⟨_, rfl, ?_⟩; have n0_ := Aside0.mk (Kd.N_below (by (with_reducible repeat (first | apply Kd.N_alloc | apply Kd.N_drewN | apply Kd.N_drew)); exact HO308.out) hb); have n1_ := Aside0.mk (Kd.V_lower (Kd.V_mono (ok' := fun k_ => (w.heap.size ≤ k_) ∧ k_ ≠ gb301) ho0 (fun k_ hk_ => ⟨Or.elim hk_ (fun hs_ => hs_.1) (fun hn_ => (Nat.le_trans (below_size (by repeat (first | (with_reducible first | exact HB.out | apply la1 | apply ln1 | apply ld1 | refine ls1 ?_ GE301.out) | exact HB.out))) hn_)), Or.elim hk_ (fun hs_ => hs_.2) (fun hn_ => (Kd.freshB (g := gb301) (o := .cells #[.bool a0_0, .bool a0_1, .bool a0_2, .bool a0_3, .bool a0_4, .bool a0_5, .bool a0_6, .int .i64 a0_7, .int .i64 a0_8, .int .i64 a0_9] 23 (0, 0)) (by (with_reducible repeat (first | refine bn1 ?_ _ | refine bd1 ?_ | refine ba1 ?_ _)); exact BK301.out) k_ hn_))⟩)) (below_size (by repeat (first | (with_reducible first | exact HB.out | apply la1 | apply ln1 | apply ld1 | refine ls1 ?_ GE301.out) | exact HB.out)))); have n2_ := Aside0.mk (bb1 (g := gb301) (o := .cells #[.bool a0_0, .bool a0_1, .bool a0_2, .bool a0_3, .bool a0_4, .bool a0_5, .bool a0_6, .int .i64 a0_7, .int .i64 a0_8, .int .i64 a0_9] 23 (0, 0)) (by (with_reducible repeat (first | refine bn1 ?_ _ | refine bd1 ?_ | refine ba1 ?_ _)); exact BK301.out) hb); have n3_ := Aside0.mk (below_step (by repeat (first | (with_reducible first | exact HB.out | apply la1 | apply ln1 | apply ld1 | refine ls1 ?_ GE301.out) | exact HB.out)) hb); clear HO308; clear BK301; clear HB; have HO308 := n0_; have HO311 := n1_; have BK301 := n2_; have HB := n3_; clear n0_ n1_ n2_ n3_; (try clear hb); (try clear hb2); (try clear hk); (try clear hi); (try clear ho0); have hcz20_0 : w19.cell? ⟨gb301, 0, none⟩ = some (.bool a0_0) := (bc1 BK301.out 0).trans rfl; have hcz20_1 : w19.cell? ⟨gb301, 1, none⟩ = some (.bool a0_1) := (bc1 BK301.out 1).trans rfl; have hcz20_2 : w19.cell? ⟨gb301, 2, none⟩ = some (.bool a0_2) := (bc1 BK301.out 2).trans rfl; have hcz20_3 : w19.cell? ⟨gb301, 3, none⟩ = some (.bool a0_3) := (bc1 BK301.out 3).trans rfl; have hcz20_4 : w19.cell? ⟨gb301, 4, none⟩ = some (.bool a0_4) := (bc1 BK301.out 4).trans rfl; have hcz20_5 : w19.cell? ⟨gb301, 5, none⟩ = some (.bool a0_5) := (bc1 BK301.out 5).trans rfl; have hcz20_6 : w19.cell? ⟨gb301, 6, none⟩ = some (.bool a0_6) := (bc1 BK301.out 6).trans rfl; have hcz20_7 : w19.cell? ⟨gb301, 7, none⟩ = some (.int .i64 a0_7) := (bc1 BK301.out 7).trans rfl; have hcz20_8 : w19.cell? ⟨gb301, 8, none⟩ = some (.int .i64 a0_8) := (bc1 BK301.out 8).trans rfl; have hcz20_9 : w19.cell? ⟨gb301, 9, none⟩ = some (.int .i64 a0_9) := (bc1 BK301.out 9).trans rfl; have hfz20_0 := bz1 BK301.out 0; have hfz20_1 := bz1 BK301.out 1; have hfz20_2 := bz1 BK301.out 2; have hfz20_3 := bz1 BK301.out 3; have hfz20_4 := bz1 BK301.out 4; have hfz20_5 := bz1 BK301.out 5; have hfz20_6 := bz1 BK301.out 6; have hfz20_7 := bz1 BK301.out 7; have hfz20_8 := bz1 BK301.out 8; have hfz20_9 := bz1 BK301.out 9; obtain ⟨Ao21, co21, eo21⟩ := Kd.V_slice HO311.out; subst eo21) | ((with_reducible refine gate_callee (f := 73) rfl ?_); refine goesL_ (some 17) rfl rfl Tryd.func73 (by kernel_rfl) rfl #[.slice Ao21 t309.length co21, .bool a0_1, .int .i64 2] rfl (by (try simp only [List.map_toArray, List.map_cons, List.map_nil]); first | done | rfl | (simp only [List.length_drop, List.length_take]; rfl)) ?_; (with_reducible refine (clavierref18_one.calls (fun k_ => ((w.heap.size ≤ k_) ∧ k_ ≠ gb301)) _ _ t309 a0_1 2 t312 _ ?side1 A5.out).mono ?_); (case side1 => exact HO311.out); rintro e w22 ⟨v313, rfl, ho0, hb⟩; refine ⟨_, rfl, ?_⟩; have n0_ := Aside0.mk (Kd.N_below (by (with_reducible repeat (first | apply Kd.N_alloc | apply Kd.N_drewN | apply Kd.N_drew)); exact HO308.out) hb); have n1_ := Aside0.mk (Kd.V_below (by (with_reducible repeat (first | apply Kd.V_alloc | apply Kd.V_drewN | apply Kd.V_drew)); exact HO311.out) hb); have n2_ := Aside0.mk (Kd.V_lower (Kd.V_mono (ok' := fun k_ => (w.heap.size ≤ k_) ∧ k_ ≠ gb301) ho0 (fun k_ hk_ => ⟨Or.elim hk_ (fun hs_ => hs_.1) (fun hn_ => (Nat.le_trans (below_size (by repeat (first | (with_reducible first | exact HB.out | apply la1 | apply ln1 | apply ld1 | refine ls1 ?_ GE301.out) | exact HB.out))) hn_)), Or.elim hk_ (fun hs_ => hs_.2) (fun hn_ => (Kd.freshB (g := gb301) (o := .cells #[.bool a0_0, .bool a0_1, .bool a0_2, .bool a0_3, .bool a0_4, .bool a0_5, .bool a0_6, .int .i64 a0_7, .int .i64 a0_8, .int .i64 a0_9] 23 (0, 0)) (by (with_reducible repeat (first | refine bn1 ?_ _ | refine bd1 ?_ | refine ba1 ?_ _)); exact BK301.out) k_ hn_))⟩)) (below_size (by repeat (first | (with_reducible first | exact HB.out | apply la1 | apply ln1 | apply ld1 | refine ls1 ?_ GE301.out) | exact HB.out)))); have n3_ := Aside0.mk (bb1 (g := gb301) (o := .cells #[.bool a0_0, .bool a0_1, .bool a0_2, .bool a0_3, .bool a0_4, .bool a0_5, .bool a0_6, .int .i64 a0_7, .int .i64 a0_8, .int .i64 a0_9] 23 (0, 0)) (by (with_reducible repeat (first | refine bn1 ?_ _ | refine bd1 ?_ | refine ba1 ?_ _)); exact BK301.out) hb); have n4_ := Aside0.mk (below_step (by repeat (first | (with_reducible first | exact HB.out | apply la1 | apply ln1 | apply ld1 | refine ls1 ?_ GE301.out) | exact HB.out)) hb); clear HO308; clear HO311; clear BK301; clear HB; have HO308 := n0_; have HO311 := n1_; have HO314 := n2_; have BK301 := n3_; have HB := n4_; clear n0_ n1_ n2_ n3_ n4_; (try clear hb); (try clear hb2); (try clear hk); (try clear hi); (try clear ho0); have hcz23_0 : w22.cell? ⟨gb301, 0, none⟩ = some (.bool a0_0) := (bc1 BK301.out 0).trans rfl; have hcz23_1 : w22.cell? ⟨gb301, 1, none⟩ = some (.bool a0_1) := (bc1 BK301.out 1).trans rfl; have hcz23_2 : w22.cell? ⟨gb301, 2, none⟩ = some (.bool a0_2) := (bc1 BK301.out 2).trans rfl; have hcz23_3 : w22.cell? ⟨gb301, 3, none⟩ = some (.bool a0_3) := (bc1 BK301.out 3).trans rfl; have hcz23_4 : w22.cell? ⟨gb301, 4, none⟩ = some (.bool a0_4) := (bc1 BK301.out 4).trans rfl; have hcz23_5 : w22.cell? ⟨gb301, 5, none⟩ = some (.bool a0_5) := (bc1 BK301.out 5).trans rfl; have hcz23_6 : w22.cell? ⟨gb301, 6, none⟩ = some (.bool a0_6) := (bc1 BK301.out 6).trans rfl; have hcz23_7 : w22.cell? ⟨gb301, 7, none⟩ = some (.int .i64 a0_7) := (bc1 BK301.out 7).trans rfl; have hcz23_8 : w22.cell? ⟨gb301, 8, none⟩ = some (.int .i64 a0_8) := (bc1 BK301.out 8).trans rfl; have hcz23_9 : w22.cell? ⟨gb301, 9, none⟩ = some (.int .i64 a0_9) := (bc1 BK301.out 9).trans rfl; have hfz23_0 := bz1 BK301.out 0; have hfz23_1 := bz1 BK301.out 1; have hfz23_2 := bz1 BK301.out 2; have hfz23_3 := bz1 BK301.out 3; have hfz23_4 := bz1 BK301.out 4; have hfz23_5 := bz1 BK301.out 5; have hfz23_6 := bz1 BK301.out 6; have hfz23_7 := bz1 BK301.out 7; have hfz23_8 := bz1 BK301.out 8; have hfz23_9 := bz1 BK301.out 9; obtain ⟨Ao24, co24, eo24⟩ := Kd.V_slice HO314.out; subst eo24) | ((with_reducible refine gate_callee (f := 73) rfl ?_); refine goesL_ (some 21) rfl rfl Tryd.func73 (by kernel_rfl) rfl #[.slice Ao24 t312.length co24, .bool a0_2, .int .i64 3] rfl (by (try simp only [List.map_toArray, List.map_cons, List.map_nil]); first | done | rfl | (simp only [List.length_drop, List.length_take]; rfl)) ?_; (with_reducible refine (clavierref18_one.calls (fun k_ => ((w.heap.size ≤ k_) ∧ k_ ≠ gb301)) _ _ t312 a0_2 3 t315 _ ?side1 A6.out).mono ?_); (case side1 => exact HO314.out); rintro e w25 ⟨v316, rfl, ho0, hb⟩; refine ⟨_, rfl, ?_⟩; have n0_ := Aside0.mk (Kd.N_below (by (with_reducible repeat (first | apply Kd.N_alloc | apply Kd.N_drewN | apply Kd.N_drew)); exact HO308.out) hb); have n1_ := Aside0.mk (Kd.V_below (by (with_reducible repeat (first | apply Kd.V_alloc | apply Kd.V_drewN | apply Kd.V_drew)); exact HO311.out) hb); have n2_ := Aside0.mk (Kd.V_below (by (with_reducible repeat (first | apply Kd.V_alloc | apply Kd.V_drewN | apply Kd.V_drew)); exact HO314.out) hb); have n3_ := Aside0.mk (Kd.V_lower (Kd.V_mono (ok' := fun k_ => (w.heap.size ≤ k_) ∧ k_ ≠ gb301) ho0 (fun k_ hk_ => ⟨Or.elim hk_ (fun hs_ => hs_.1) (fun hn_ => (Nat.le_trans (below_size (by repeat (first | (with_reducible first | exact HB.out | apply la1 | apply ln1 | apply ld1 | refine ls1 ?_ GE301.out) | exact HB.out))) hn_)), Or.elim hk_ (fun hs_ => hs_.2) (fun hn_ => (Kd.freshB (g := gb301) (o := .cells #[.bool a0_0, .bool a0_1, .bool a0_2, .bool a0_3, .bool a0_4, .bool a0_5, .bool a0_6, .int .i64 a0_7, .int .i64 a0_8, .int .i64 a0_9] 23 (0, 0)) (by (with_reducible repeat (first | refine bn1 ?_ _ | refine bd1 ?_ | refine ba1 ?_ _)); exact BK301.out) k_ hn_))⟩)) (below_size (by repeat (first | (with_reducible first | exact HB.out | apply la1 | apply ln1 | apply ld1 | refine ls1 ?_ GE301.out) | exact HB.out)))); have n4_ := Aside0.mk (bb1 (g := gb301) (o := .cells #[.bool a0_0, .bool a0_1, .bool a0_2, .bool a0_3, .bool a0_4, .bool a0_5, .bool a0_6, .int .i64 a0_7, .int .i64 a0_8, .int .i64 a0_9] 23 (0, 0)) (by (with_reducible repeat (first | refine bn1 ?_ _ | refine bd1 ?_ | refine ba1 ?_ _)); exact BK301.out) hb); have n5_ := Aside0.mk (below_step (by repeat (first | (with_reducible first | exact HB.out | apply la1 | apply ln1 | apply ld1 | refine ls1 ?_ GE301.out) | exact HB.out)) hb); clear HO308; clear HO311; clear HO314; clear BK301; clear HB; have HO308 := n0_; have HO311 := n1_; have HO314 := n2_; have HO317 := n3_; have BK301 := n4_; have HB := n5_; clear n0_ n1_ n2_ n3_ n4_ n5_; (try clear hb); (try clear hb2); (try clear hk); (try clear hi); (try clear ho0); have hcz26_0 : w25.cell? ⟨gb301, 0, none⟩ = some (.bool a0_0) := (bc1 BK301.out 0).trans rfl; have hcz26_1 : w25.cell? ⟨gb301, 1, none⟩ = some (.bool a0_1) := (bc1 BK301.out 1).trans rfl; have hcz26_2 : w25.cell? ⟨gb301, 2, none⟩ = some (.bool a0_2) := (bc1 BK301.out 2).trans rfl; have hcz26_3 : w25.cell? ⟨gb301, 3, none⟩ = some (.bool a0_3) := (bc1 BK301.out 3).trans rfl; have hcz26_4 : w25.cell? ⟨gb301, 4, none⟩ = some (.bool a0_4) := (bc1 BK301.out 4).trans rfl; have hcz26_5 : w25.cell? ⟨gb301, 5, none⟩ = some (.bool a0_5) := (bc1 BK301.out 5).trans rfl; have hcz26_6 : w25.cell? ⟨gb301, 6, none⟩ = some (.bool a0_6) := (bc1 BK301.out 6).trans rfl; have hcz26_7 : w25.cell? ⟨gb301, 7, none⟩ = some (.int .i64 a0_7) := (bc1 BK301.out 7).trans rfl; have hcz26_8 : w25.cell? ⟨gb301, 8, none⟩ = some (.int .i64 a0_8) := (bc1 BK301.out 8).trans rfl; have hcz26_9 : w25.cell? ⟨gb301, 9, none⟩ = some (.int .i64 a0_9) := (bc1 BK301.out 9).trans rfl; have hfz26_0 := bz1 BK301.out 0; have hfz26_1 := bz1 BK301.out 1; have hfz26_2 := bz1 BK301.out 2; have hfz26_3 := bz1 BK301.out 3; have hfz26_4 := bz1 BK301.out 4; have hfz26_5 := bz1 BK301.out 5; have hfz26_6 := bz1 BK301.out 6; have hfz26_7 := bz1 BK301.out 7; have hfz26_8 := bz1 BK301.out 8; have hfz26_9 := bz1 BK301.out 9; obtain ⟨Ao27, co27, eo27⟩ := Kd.V_slice HO317.out; subst eo27) | ((with_reducible refine gate_callee (f := 73) rfl ?_); refine goesL_ (some 26) rfl rfl Tryd.func73 (by kernel_rfl) rfl #[.slice Ao27 t315.length co27, .bool (a0_7 == 1), .int .i64 4] rfl (by (try simp only [List.map_toArray, List.map_cons, List.map_nil]); first | done | rfl | (simp only [List.length_drop, List.length_take]; rfl)) ?_; (with_reducible refine (clavierref18_one.calls (fun k_ => ((w.heap.size ≤ k_) ∧ k_ ≠ gb301)) _ _ t315 (a0_7 == 1) 4 t318 _ ?side1 A7.out).mono ?_); (case side1 => exact HO317.out); rintro e w28 ⟨v319, rfl, ho0, hb⟩; refine ⟨_, rfl, ?_⟩; have n0_ := Aside0.mk (Kd.N_below (by (with_reducible repeat (first | apply Kd.N_alloc | apply Kd.N_drewN | apply Kd.N_drew)); exact HO308.out) hb); have n1_ := Aside0.mk (Kd.V_below (by (with_reducible repeat (first | apply Kd.V_alloc | apply Kd.V_drewN | apply Kd.V_drew)); exact HO311.out) hb); have n2_ := Aside0.mk (Kd.V_below (by (with_reducible repeat (first | apply Kd.V_alloc | apply Kd.V_drewN | apply Kd.V_drew)); exact HO314.out) hb); have n3_ := Aside0.mk (Kd.V_below (by (with_reducible repeat (first | apply Kd.V_alloc | apply Kd.V_drewN | apply Kd.V_drew)); exact HO317.out) hb); have n4_ := Aside0.mk (Kd.V_lower (Kd.V_mono (ok' := fun k_ => (w.heap.size ≤ k_) ∧ k_ ≠ gb301) ho0 (fun k_ hk_ => ⟨Or.elim hk_ (fun hs_ => hs_.1) (fun hn_ => (Nat.le_trans (below_size (by repeat (first | (with_reducible first | exact HB.out | apply la1 | apply ln1 | apply ld1 | refine ls1 ?_ GE301.out) | exact HB.out))) hn_)), Or.elim hk_ (fun hs_ => hs_.2) (fun hn_ => (Kd.freshB (g := gb301) (o := .cells #[.bool a0_0, .bool a0_1, .bool a0_2, .bool a0_3, .bool a0_4, .bool a0_5, .bool a0_6, .int .i64 a0_7, .int .i64 a0_8, .int .i64 a0_9] 23 (0, 0)) (by (with_reducible repeat (first | refine bn1 ?_ _ | refine bd1 ?_ | refine ba1 ?_ _)); exact BK301.out) k_ hn_))⟩)) (below_size (by repeat (first | (with_reducible first | exact HB.out | apply la1 | apply ln1 | apply ld1 | refine ls1 ?_ GE301.out) | exact HB.out)))); have n5_ := Aside0.mk (bb1 (g := gb301) (o := .cells #[.bool a0_0, .bool a0_1, .bool a0_2, .bool a0_3, .bool a0_4, .bool a0_5, .bool a0_6, .int .i64 a0_7, .int .i64 a0_8, .int .i64 a0_9] 23 (0, 0)) (by (with_reducible repeat (first | refine bn1 ?_ _ | refine bd1 ?_ | refine ba1 ?_ _)); exact BK301.out) hb); have n6_ := Aside0.mk (below_step (by repeat (first | (with_reducible first | exact HB.out | apply la1 | apply ln1 | apply ld1 | refine ls1 ?_ GE301.out) | exact HB.out)) hb); clear HO308; clear HO311; clear HO314; clear HO317; clear BK301; clear HB; have HO308 := n0_; have HO311 := n1_; have HO314 := n2_; have HO317 := n3_; have HO320 := n4_; have BK301 := n5_; have HB := n6_; clear n0_ n1_ n2_ n3_ n4_ n5_ n6_; (try clear hb); (try clear hb2); (try clear hk); (try clear hi); (try clear ho0); have hcz29_0 : w28.cell? ⟨gb301, 0, none⟩ = some (.bool a0_0) := (bc1 BK301.out 0).trans rfl; have hcz29_1 : w28.cell? ⟨gb301, 1, none⟩ = some (.bool a0_1) := (bc1 BK301.out 1).trans rfl; have hcz29_2 : w28.cell? ⟨gb301, 2, none⟩ = some (.bool a0_2) := (bc1 BK301.out 2).trans rfl; have hcz29_3 : w28.cell? ⟨gb301, 3, none⟩ = some (.bool a0_3) := (bc1 BK301.out 3).trans rfl; have hcz29_4 : w28.cell? ⟨gb301, 4, none⟩ = some (.bool a0_4) := (bc1 BK301.out 4).trans rfl; have hcz29_5 : w28.cell? ⟨gb301, 5, none⟩ = some (.bool a0_5) := (bc1 BK301.out 5).trans rfl; have hcz29_6 : w28.cell? ⟨gb301, 6, none⟩ = some (.bool a0_6) := (bc1 BK301.out 6).trans rfl; have hcz29_7 : w28.cell? ⟨gb301, 7, none⟩ = some (.int .i64 a0_7) := (bc1 BK301.out 7).trans rfl; have hcz29_8 : w28.cell? ⟨gb301, 8, none⟩ = some (.int .i64 a0_8) := (bc1 BK301.out 8).trans rfl; have hcz29_9 : w28.cell? ⟨gb301, 9, none⟩ = some (.int .i64 a0_9) := (bc1 BK301.out 9).trans rfl; have hfz29_0 := bz1 BK301.out 0; have hfz29_1 := bz1 BK301.out 1; have hfz29_2 := bz1 BK301.out 2; have hfz29_3 := bz1 BK301.out 3; have hfz29_4 := bz1 BK301.out 4; have hfz29_5 := bz1 BK301.out 5; have hfz29_6 := bz1 BK301.out 6; have hfz29_7 := bz1 BK301.out 7; have hfz29_8 := bz1 BK301.out 8; have hfz29_9 := bz1 BK301.out 9))
    (try simp only [Act.put, List.setIfInBounds_toArray, List.set_cons_zero, List.set_cons_succ])
    go_cut [3] (fun v3 wc => ∃ (kq : Nat) (x3_7 : List (List Int)), Aside0 (clavierref18_Params.j0 kq x3_7 a0_0 a0_1 a0_2 a0_3 a0_4 a0_5 a0_6 a0_7 a0_8 a0_9 = some r) ∧ Aside0 (kq ≤ k) ∧ Aside0 (Kd.V (Kd.slice 3 (Kd.int .i64)) 52 wc w.heap.size (fun k_ => (w.heap.size ≤ k_) ∧ k_ ≠ gb301) v3 x3_7) ∧ Aside0 (wc.heap[gb301]? = some (.cells #[.bool a0_0, .bool a0_1, .bool a0_2, .bool a0_3, .bool a0_4, .bool a0_5, .bool a0_6, .int .i64 a0_7, .int .i64 a0_8, .int .i64 a0_9] 23 (0, 0))) ∧ Aside0 (Below w.heap.size w wc))
    case first =>
      have H := HC8.out
      clear HC8
      by_cases c30 : a0_7 > 1
      · rw [if_pos c30] at H
        have c30b0 : decide (1 < a0_7) = true := decide_eq_true c30
        clear c30
        (first | rw [c30b0] | (simp only [i64_w, i32_w]; rw [c30b0]) | skip)
        obtain ⟨y321, hy321⟩ : ∃ y_ : List (List Int), y_ = (([] : List (List Int))) := ⟨_, rfl⟩
        replace H : (if y321.length + t318.length < 5864062014805 then ((some (y321 ++ t318 : List (List Int))).bind fun y324 => (if y324.length < 5864062014805 then (clavierref18_Params.j0 k (y324 ++ [(([4, a0_7] : List Int))]) a0_0 a0_1 a0_2 a0_3 a0_4 a0_5 a0_6 a0_7 a0_8 a0_9) else (none))) else (none)) = some r := by first | (rw [hy321]; with_reducible exact H) | (have H2_ := (Option.bind_some _ _).symm.trans H; rw [hy321]; with_reducible exact H2_) | (have H2_ := (Option.bind_some _ _).symm.trans H; with_reducible exact H2_) | with_reducible exact H | (rw [hy321]; exact H) | exact H
        have Ny321 := Aside0.mk hy321
        clear hy321
        by_cases c31 : y321.length + t318.length < 5864062014805
        · rw [if_pos c31] at H
          have LMc31 := Aside0.mk c31
          clear c31
          obtain ⟨y324, hy324⟩ : ∃ y_ : List (List Int), y_ = (y321 ++ t318) := ⟨_, rfl⟩
          replace H : (if y324.length < 5864062014805 then (clavierref18_Params.j0 k (y324 ++ [(([4, a0_7] : List Int))]) a0_0 a0_1 a0_2 a0_3 a0_4 a0_5 a0_6 a0_7 a0_8 a0_9) else (none)) = some r := by first | (rw [hy324]; with_reducible exact H) | (have H2_ := (Option.bind_some _ _).symm.trans H; rw [hy324]; with_reducible exact H2_) | (have H2_ := (Option.bind_some _ _).symm.trans H; with_reducible exact H2_) | with_reducible exact H | (rw [hy324]; exact H) | exact H
          have Ny324 := Aside0.mk hy324
          clear hy324
          obtain ⟨y327, hy327⟩ : ∃ y_ : List Int, y_ = (([4, a0_7] : List Int)) := ⟨_, rfl⟩
          replace H : (if y324.length < 5864062014805 then (clavierref18_Params.j0 k (y324 ++ [y327]) a0_0 a0_1 a0_2 a0_3 a0_4 a0_5 a0_6 a0_7 a0_8 a0_9) else (none)) = some r := by first | (rw [hy327]; with_reducible exact H) | (have H2_ := (Option.bind_some _ _).symm.trans H; rw [hy327]; with_reducible exact H2_) | (have H2_ := (Option.bind_some _ _).symm.trans H; with_reducible exact H2_) | with_reducible exact H | (rw [hy327]; exact H) | exact H
          have Ny327 := Aside0.mk hy327
          clear hy327
          by_cases c32 : y324.length < 5864062014805
          · rw [if_pos c32] at H
            have LMc32 := Aside0.mk c32
            clear c32
            obtain ⟨y330, hy330⟩ : ∃ y_ : List (List Int), y_ = (y324 ++ [y327]) := ⟨_, rfl⟩
            replace H : (clavierref18_Params.j0 k y330 a0_0 a0_1 a0_2 a0_3 a0_4 a0_5 a0_6 a0_7 a0_8 a0_9) = some r := by first | (rw [hy330]; with_reducible exact H) | (have H2_ := (Option.bind_some _ _).symm.trans H; rw [hy330]; with_reducible exact H2_) | (have H2_ := (Option.bind_some _ _).symm.trans H; with_reducible exact H2_) | with_reducible exact H | (rw [hy330]; exact H) | exact H
            have Ny330 := Aside0.mk hy330
            clear hy330
            have H' := Aside0.mk H
            clear H
            go_wp2_with (first | ((with_reducible refine gate_dst (N := 30) rfl ?_); refine Kd.N_lit (Kd.slice 3 (Kd.int .i64)) _ 52 ?hg (N' := 30) ?hd (xs := ([] : List (List Int))) (inner := []) (ok := (fun k_ => (w.heap.size ≤ k_) ∧ some k_ ≠ (.slice Ao18 y306.length co18 : Value).ownBlock ∧ k_ ≠ gb301)) (okp := (fun k_ => (w.heap.size ≤ k_) ∧ some k_ ≠ (.slice Ao18 y306.length co18 : Value).ownBlock ∧ k_ ≠ gb301)) ?hr ?hp (fun _ hk => hk) ((show ∀ k_, w28.heap.size ≤ k_ → (fun k_ => (w.heap.size ≤ k_) ∧ some k_ ≠ (.slice Ao18 y306.length co18 : Value).ownBlock ∧ k_ ≠ gb301) k_ from fun k_ hk => ⟨(Nat.le_trans (below_size (by repeat (first | (with_reducible first | exact HB.out | apply la1 | apply ln1 | apply ld1 | refine ls1 ?_ GE301.out) | exact HB.out))) hk), Kd.fresh' (Kd.N_lt (by (with_reducible repeat (first | apply Kd.N_alloc | apply Kd.N_drewN | apply Kd.N_drew)); exact HO308.out)) k_ hk, Kd.freshB (g := gb301) (o := .cells #[.bool a0_0, .bool a0_1, .bool a0_2, .bool a0_3, .bool a0_4, .bool a0_5, .bool a0_6, .int .i64 a0_7, .int .i64 a0_8, .int .i64 a0_9] 23 (0, 0)) (by (with_reducible repeat (first | refine bn1 ?_ _ | refine bd1 ?_ | refine ba1 ?_ _)); exact BK301.out) k_ hk⟩) _ (Nat.le_refl _)) (Below.refl _ _) (Nat.le_refl _) (by simp) ?_; (case hd => rfl); (case hg => rfl); (case hr => first | (go_simp; done) | (go_simp; rfl)); (case hp => exact (Reps.none _ _)); intro v322 w33 ho34 hb hg_ hnew_; clear hg_ hnew_; (first | rw [← Ny321.out] at ho34 | (simp only [Int.reduceToNat] at ho34; rw [← Ny321.out] at ho34)); have n0_ := Aside0.mk (Kd.N_elder' (by (with_reducible repeat (first | apply Kd.N_alloc | apply Kd.N_drewN | apply Kd.N_drew)); exact HO308.out) (Kd.N_base ho34) hb); have n1_ := Aside0.mk (Kd.V_elder' (by (with_reducible repeat (first | apply Kd.V_alloc | apply Kd.V_drewN | apply Kd.V_drew)); exact HO311.out) (Kd.N_base ho34) hb); have n2_ := Aside0.mk (Kd.V_elder' (by (with_reducible repeat (first | apply Kd.V_alloc | apply Kd.V_drewN | apply Kd.V_drew)); exact HO314.out) (Kd.N_base ho34) hb); have n3_ := Aside0.mk (Kd.V_elder' (by (with_reducible repeat (first | apply Kd.V_alloc | apply Kd.V_drewN | apply Kd.V_drew)); exact HO317.out) (Kd.N_base ho34) hb); have n4_ := Aside0.mk (Kd.V_elder' (by (with_reducible repeat (first | apply Kd.V_alloc | apply Kd.V_drewN | apply Kd.V_drew)); exact HO320.out) (Kd.N_base ho34) hb); have n5_ := Aside0.mk (Kd.N_lower ho34 (below_size (by repeat (first | (with_reducible first | exact HB.out | apply la1 | apply ln1 | apply ld1 | refine ls1 ?_ GE301.out) | exact HB.out)))); have n6_ := Aside0.mk (bb1 (g := gb301) (o := .cells #[.bool a0_0, .bool a0_1, .bool a0_2, .bool a0_3, .bool a0_4, .bool a0_5, .bool a0_6, .int .i64 a0_7, .int .i64 a0_8, .int .i64 a0_9] 23 (0, 0)) (by (with_reducible repeat (first | refine bn1 ?_ _ | refine bd1 ?_ | refine ba1 ?_ _)); exact BK301.out) hb); have n7_ := Aside0.mk (below_step (by repeat (first | (with_reducible first | exact HB.out | apply la1 | apply ln1 | apply ld1 | refine ls1 ?_ GE301.out) | exact HB.out)) hb); clear HO308; clear HO311; clear HO314; clear HO317; clear HO320; clear BK301; clear HB; have HO308 := n0_; have HO311 := n1_; have HO314 := n2_; have HO317 := n3_; have HO320 := n4_; have HO323 := n5_; have BK301 := n6_; have HB := n7_; clear n0_ n1_ n2_ n3_ n4_ n5_ n6_ n7_; clear hb ho34; obtain ⟨Ao36, co36, eo36⟩ := Kd.V_slice HO320.out; subst eo36) | ((with_reducible refine gate_builtin (b := .append) (xs := #[.tmp 30, .tmp 31]) rfl ?_); at_builtin; refine Kd.N_append_rows (Kd.slice 3 (Kd.int .i64)) (w0 := w) w.heap.size rfl (.tmp 30) (.tmp 31) 28 52 (.slice none 0 0) 24 rfl Tryd.underlying28 info52 rfl (by decide) (by omega) v322 y321 t318 _ _ _ (fun k_ => (w.heap.size ≤ k_) ∧ k_ ≠ gb301) (fun k_ => ((fun k_ => (w.heap.size ≤ k_) ∧ k_ ≠ gb301)) k_ ∧ some k_ ≠ (v322 : Value).ownBlock) rfl rfl ?aO ?aR (fun _ hk => hk) ?aF ?aB ?aS ?aL ?_; (case aR => exact (by skip; exact Kd.V_F (Kd.V_mono (ok' := (fun k_ => ((fun k_ => (w.heap.size ≤ k_) ∧ k_ ≠ gb301)) k_ ∧ some k_ ≠ (v322 : Value).ownBlock)) (HO320.out) (fun k_ hk => ⟨⟨hk.1.1, hk.1.2⟩, hk.2⟩)))); (case aB => exact (by repeat (first | (with_reducible first | exact HB.out | apply la1 | apply ln1 | apply ld1 | refine ls1 ?_ GE301.out) | exact HB.out))); (case aF => exact (fun k_ hk => ⟨(Nat.le_trans (below_size (by repeat (first | (with_reducible first | exact HB.out | apply la1 | apply ln1 | apply ld1 | refine ls1 ?_ GE301.out) | exact HB.out))) hk), Kd.freshB (g := gb301) (o := .cells #[.bool a0_0, .bool a0_1, .bool a0_2, .bool a0_3, .bool a0_4, .bool a0_5, .bool a0_6, .int .i64 a0_7, .int .i64 a0_8, .int .i64 a0_9] 23 (0, 0)) (by (with_reducible repeat (first | refine bn1 ?_ _ | refine bd1 ?_ | refine ba1 ?_ _)); exact BK301.out) k_ hk⟩)); (case aO => exact (by (with_reducible repeat (first | apply Kd.N_alloc | apply Kd.N_drewN | apply Kd.N_drew)); exact Kd.N_mono HO323.out (fun _ hk => ⟨hk.1, hk.2.2⟩))); (case aS => exact (below_size (by repeat (first | (with_reducible first | exact HB.out | apply la1 | apply ln1 | apply ld1 | refine ls1 ?_ GE301.out) | exact HB.out)))); (case aL => have := LMc31.out; omega); intro v325 w35 ho hb hg hat; rw [← Ny324.out] at ho; have n0_ := Aside0.mk (blk_grown (g := gb301) (o := .cells #[.bool a0_0, .bool a0_1, .bool a0_2, .bool a0_3, .bool a0_4, .bool a0_5, .bool a0_6, .int .i64 a0_7, .int .i64 a0_8, .int .i64 a0_9] 23 (0, 0)) (by (with_reducible repeat (first | refine bn1 ?_ _ | refine bd1 ?_ | refine ba1 ?_ _)); exact BK301.out) hg (Kd.N_ne HO323.out BK301.out (by decide))); have n1_ := Aside0.mk (Kd.N_afterv (ok := (fun k_ => (w.heap.size ≤ k_) ∧ k_ ≠ gb301)) (by (with_reducible repeat (first | apply Kd.N_alloc | apply Kd.N_drewN | apply Kd.N_drew)); exact HO308.out) hg hat); have n2_ := Aside0.mk (Kd.V_afterv (ok := (fun k_ => (w.heap.size ≤ k_) ∧ k_ ≠ gb301)) (by (with_reducible repeat (first | apply Kd.V_alloc | apply Kd.V_drewN | apply Kd.V_drew)); exact HO311.out) hg hat); have n3_ := Aside0.mk (Kd.V_afterv (ok := (fun k_ => (w.heap.size ≤ k_) ∧ k_ ≠ gb301)) (by (with_reducible repeat (first | apply Kd.V_alloc | apply Kd.V_drewN | apply Kd.V_drew)); exact HO314.out) hg hat); have n4_ := Aside0.mk (Kd.V_afterv (ok := (fun k_ => (w.heap.size ≤ k_) ∧ k_ ≠ gb301)) (by (with_reducible repeat (first | apply Kd.V_alloc | apply Kd.V_drewN | apply Kd.V_drew)); exact HO317.out) hg hat); have n5_ := Aside0.mk (Kd.V_afterv (ok := (fun k_ => (w.heap.size ≤ k_) ∧ k_ ≠ gb301)) (by (with_reducible repeat (first | apply Kd.V_alloc | apply Kd.V_drewN | apply Kd.V_drew)); exact HO320.out) hg hat); have n6_ := Aside0.mk (hb); have n7_ := Aside0.mk (ho); clear BK301; clear HO308; clear HO311; clear HO314; clear HO317; clear HO320; clear HB; clear HO323; have BK301 := n0_; have HO308 := n1_; have HO311 := n2_; have HO314 := n3_; have HO317 := n4_; have HO320 := n5_; have HB := n6_; have HO326 := n7_; clear n0_ n1_ n2_ n3_ n4_ n5_ n6_ n7_; clear ho hb hg hat; have hcz37_0 : w35.cell? ⟨gb301, 0, none⟩ = some (.bool a0_0) := (bc1 BK301.out 0).trans rfl; have hcz37_1 : w35.cell? ⟨gb301, 1, none⟩ = some (.bool a0_1) := (bc1 BK301.out 1).trans rfl; have hcz37_2 : w35.cell? ⟨gb301, 2, none⟩ = some (.bool a0_2) := (bc1 BK301.out 2).trans rfl; have hcz37_3 : w35.cell? ⟨gb301, 3, none⟩ = some (.bool a0_3) := (bc1 BK301.out 3).trans rfl; have hcz37_4 : w35.cell? ⟨gb301, 4, none⟩ = some (.bool a0_4) := (bc1 BK301.out 4).trans rfl; have hcz37_5 : w35.cell? ⟨gb301, 5, none⟩ = some (.bool a0_5) := (bc1 BK301.out 5).trans rfl; have hcz37_6 : w35.cell? ⟨gb301, 6, none⟩ = some (.bool a0_6) := (bc1 BK301.out 6).trans rfl; have hcz37_7 : w35.cell? ⟨gb301, 7, none⟩ = some (.int .i64 a0_7) := (bc1 BK301.out 7).trans rfl; have hcz37_8 : w35.cell? ⟨gb301, 8, none⟩ = some (.int .i64 a0_8) := (bc1 BK301.out 8).trans rfl; have hcz37_9 : w35.cell? ⟨gb301, 9, none⟩ = some (.int .i64 a0_9) := (bc1 BK301.out 9).trans rfl; have hfz37_0 := bz1 BK301.out 0; have hfz37_1 := bz1 BK301.out 1; have hfz37_2 := bz1 BK301.out 2; have hfz37_3 := bz1 BK301.out 3; have hfz37_4 := bz1 BK301.out 4; have hfz37_5 := bz1 BK301.out 5; have hfz37_6 := bz1 BK301.out 6; have hfz37_7 := bz1 BK301.out 7; have hfz37_8 := bz1 BK301.out 8; have hfz37_9 := bz1 BK301.out 9) | ((with_reducible refine gate_dst (N := 36) rfl ?_); refine Kd.R_lit (Kd.int .i64) _ 3 ?hg (N := 36) ?hd (xs := ([4, a0_7] : List Int)) (inner := [.int .i64 4, .int .i64 a0_7]) (ok := fun _ => True) (okp := fun _ => True) ?hr ?hp (fun _ hk => hk) trivial (Below.refl _ _) (Nat.le_refl _) (by simp) ?_; (case hd => rfl); (case hg => rfl); (case hr => first | (go_simp; done) | (go_simp; rfl)); (case hp => exact (Reps.one (show Kd.M (Kd.int .i64) _ _ _ 4 [.int .i64 4] from rfl) (Reps.one (show Kd.M (Kd.int .i64) _ _ _ a0_7 [.int .i64 a0_7] from rfl) (Reps.none _ _)))); intro v328 w38 ho39 hb hg_ hnew_; clear hg_ hnew_; (first | rw [← Ny327.out] at ho39 | (simp only [Int.reduceToNat] at ho39; rw [← Ny327.out] at ho39)); have n0_ := Aside0.mk (Kd.N_elder' (by (with_reducible repeat (first | apply Kd.N_alloc | apply Kd.N_drewN | apply Kd.N_drew)); exact HO308.out) (Kd.R_base ho39) hb); have n1_ := Aside0.mk (Kd.V_elder' (by (with_reducible repeat (first | apply Kd.V_alloc | apply Kd.V_drewN | apply Kd.V_drew)); exact HO311.out) (Kd.R_base ho39) hb); have n2_ := Aside0.mk (Kd.V_elder' (by (with_reducible repeat (first | apply Kd.V_alloc | apply Kd.V_drewN | apply Kd.V_drew)); exact HO314.out) (Kd.R_base ho39) hb); have n3_ := Aside0.mk (Kd.V_elder' (by (with_reducible repeat (first | apply Kd.V_alloc | apply Kd.V_drewN | apply Kd.V_drew)); exact HO317.out) (Kd.R_base ho39) hb); have n4_ := Aside0.mk (Kd.V_elder' (by (with_reducible repeat (first | apply Kd.V_alloc | apply Kd.V_drewN | apply Kd.V_drew)); exact HO320.out) (Kd.R_base ho39) hb); have n5_ := Aside0.mk (Kd.N_elder' (by (with_reducible repeat (first | apply Kd.N_alloc | apply Kd.N_drewN | apply Kd.N_drew)); exact HO326.out) (Kd.R_base ho39) hb); have n6_ := Aside0.mk (Kd.R_lower (Kd.R_newM (M := fun k_ => (w.heap.size ≤ k_)) ho39 (below_size (by repeat (first | (with_reducible first | exact HB.out | apply la1 | apply ln1 | apply ld1 | refine ls1 ?_ GE301.out) | exact HB.out))) (fun k_ h_ => h_)) (below_size (by repeat (first | (with_reducible first | exact HB.out | apply la1 | apply ln1 | apply ld1 | refine ls1 ?_ GE301.out) | exact HB.out)))); have n7_ := Aside0.mk (bb1 (g := gb301) (o := .cells #[.bool a0_0, .bool a0_1, .bool a0_2, .bool a0_3, .bool a0_4, .bool a0_5, .bool a0_6, .int .i64 a0_7, .int .i64 a0_8, .int .i64 a0_9] 23 (0, 0)) (by (with_reducible repeat (first | refine bn1 ?_ _ | refine bd1 ?_ | refine ba1 ?_ _)); exact BK301.out) hb); have n8_ := Aside0.mk (below_step (by repeat (first | (with_reducible first | exact HB.out | apply la1 | apply ln1 | apply ld1 | refine ls1 ?_ GE301.out) | exact HB.out)) hb); clear HO308; clear HO311; clear HO314; clear HO317; clear HO320; clear HO326; clear BK301; clear HB; have HO308 := n0_; have HO311 := n1_; have HO314 := n2_; have HO317 := n3_; have HO320 := n4_; have HO326 := n5_; have HO329 := n6_; have BK301 := n7_; have HB := n8_; clear n0_ n1_ n2_ n3_ n4_ n5_ n6_ n7_ n8_; clear hb ho39; obtain ⟨Ao41, co41, eo41⟩ := Kd.R_slice HO329.out; subst eo41) | ((with_reducible refine gate_builtin (b := .append) (xs := #[.tmp 33, .tmp 37]) rfl ?_); at_builtin; refine Kd.N_append (Kd.slice 3 (Kd.int .i64)) (w0 := w) w.heap.size rfl (.tmp 33) (.tmp 37) 28 52 (.slice none 0 0) 24 rfl Tryd.underlying28 info52 rfl (by decide) (by omega) v325 y324 y327 [.slice Ao41 y327.length co41] (fun k_ => (w.heap.size ≤ k_) ∧ k_ ≠ gb301) (fun k_ => ((fun k_ => (w.heap.size ≤ k_) ∧ k_ ≠ gb301)) k_ ∧ some k_ ≠ (v325 : Value).ownBlock) rfl rfl ?aP (fun _ hk => hk) ?aF ?aO ?aB ?aS ?aL ?_; (case aP => exact (Kd.FK_slice_mk (Kd.R_reads' (Kd.R_mono (ok' := (fun k_ => ((fun k_ => (w.heap.size ≤ k_) ∧ k_ ≠ gb301)) k_ ∧ some k_ ≠ (v325 : Value).ownBlock)) (Kd.R_types (Kd.R_apart' (HO329.out) (Kd.N_typed HO326.out) (by decide)) BK301.out (by decide)) (fun k_ hk => ⟨⟨hk.1.1.1, hk.2⟩, hk.1.2⟩))).2.1 (Kd.R_F (Kd.R_mono (ok' := (fun k_ => ((fun k_ => (w.heap.size ≤ k_) ∧ k_ ≠ gb301)) k_ ∧ some k_ ≠ (v325 : Value).ownBlock)) (Kd.R_types (Kd.R_apart' (HO329.out) (Kd.N_typed HO326.out) (by decide)) BK301.out (by decide)) (fun k_ hk => ⟨⟨hk.1.1.1, hk.2⟩, hk.1.2⟩))))); (case aB => exact (by repeat (first | (with_reducible first | exact HB.out | apply la1 | apply ln1 | apply ld1 | refine ls1 ?_ GE301.out) | exact HB.out))); (case aF => exact (fun k_ hk => ⟨(Nat.le_trans (below_size (by repeat (first | (with_reducible first | exact HB.out | apply la1 | apply ln1 | apply ld1 | refine ls1 ?_ GE301.out) | exact HB.out))) hk), Kd.freshB (g := gb301) (o := .cells #[.bool a0_0, .bool a0_1, .bool a0_2, .bool a0_3, .bool a0_4, .bool a0_5, .bool a0_6, .int .i64 a0_7, .int .i64 a0_8, .int .i64 a0_9] 23 (0, 0)) (by (with_reducible repeat (first | refine bn1 ?_ _ | refine bd1 ?_ | refine ba1 ?_ _)); exact BK301.out) k_ hk⟩)); (case aO => exact (by (with_reducible repeat (first | apply Kd.N_alloc | apply Kd.N_drewN | apply Kd.N_drew)); exact Kd.N_mono HO326.out (fun _ hk => ⟨hk.1.1, hk.1.2⟩))); (case aS => exact (below_size (by repeat (first | (with_reducible first | exact HB.out | apply la1 | apply ln1 | apply ld1 | refine ls1 ?_ GE301.out) | exact HB.out)))); (case aL => have := LMc32.out; omega); intro v331 w40 ho hb hg hat; rw [← Ny330.out] at ho; have n0_ := Aside0.mk (blk_grown (g := gb301) (o := .cells #[.bool a0_0, .bool a0_1, .bool a0_2, .bool a0_3, .bool a0_4, .bool a0_5, .bool a0_6, .int .i64 a0_7, .int .i64 a0_8, .int .i64 a0_9] 23 (0, 0)) (by (with_reducible repeat (first | refine bn1 ?_ _ | refine bd1 ?_ | refine ba1 ?_ _)); exact BK301.out) hg (Kd.N_ne HO326.out BK301.out (by decide))); have n1_ := Aside0.mk (Kd.N_afterv (ok := (fun k_ => (w.heap.size ≤ k_) ∧ some k_ ≠ (.slice Ao41 y327.length co41 : Value).ownBlock ∧ k_ ≠ gb301)) (by (with_reducible repeat (first | apply Kd.N_alloc | apply Kd.N_drewN | apply Kd.N_drew)); exact Kd.N_mono HO308.out (fun _ hk => ⟨⟨hk.1.1.1, ⟨hk.2, hk.1.1.2⟩⟩, hk.1.2⟩)) hg hat); have n2_ := Aside0.mk (Kd.V_afterv (ok := (fun k_ => (w.heap.size ≤ k_) ∧ some k_ ≠ (.slice Ao41 y327.length co41 : Value).ownBlock ∧ k_ ≠ gb301)) (by (with_reducible repeat (first | apply Kd.V_alloc | apply Kd.V_drewN | apply Kd.V_drew)); exact Kd.V_mono HO311.out (fun _ hk => ⟨⟨hk.1.1.1, ⟨hk.2, hk.1.1.2⟩⟩, hk.1.2⟩)) hg hat); have n3_ := Aside0.mk (Kd.V_afterv (ok := (fun k_ => (w.heap.size ≤ k_) ∧ some k_ ≠ (.slice Ao41 y327.length co41 : Value).ownBlock ∧ k_ ≠ gb301)) (by (with_reducible repeat (first | apply Kd.V_alloc | apply Kd.V_drewN | apply Kd.V_drew)); exact Kd.V_mono HO314.out (fun _ hk => ⟨⟨hk.1.1.1, ⟨hk.2, hk.1.1.2⟩⟩, hk.1.2⟩)) hg hat); have n4_ := Aside0.mk (Kd.V_afterv (ok := (fun k_ => (w.heap.size ≤ k_) ∧ some k_ ≠ (.slice Ao41 y327.length co41 : Value).ownBlock ∧ k_ ≠ gb301)) (by (with_reducible repeat (first | apply Kd.V_alloc | apply Kd.V_drewN | apply Kd.V_drew)); exact Kd.V_mono HO317.out (fun _ hk => ⟨⟨hk.1.1.1, ⟨hk.2, hk.1.1.2⟩⟩, hk.1.2⟩)) hg hat); have n5_ := Aside0.mk (Kd.V_afterv (ok := (fun k_ => (w.heap.size ≤ k_) ∧ some k_ ≠ (.slice Ao41 y327.length co41 : Value).ownBlock ∧ k_ ≠ gb301)) (by (with_reducible repeat (first | apply Kd.V_alloc | apply Kd.V_drewN | apply Kd.V_drew)); exact Kd.V_mono HO320.out (fun _ hk => ⟨⟨hk.1.1.1, ⟨hk.2, hk.1.1.2⟩⟩, hk.1.2⟩)) hg hat); have n6_ := Aside0.mk (hb); have n7_ := Aside0.mk (ho); clear BK301; clear HO308; clear HO311; clear HO314; clear HO317; clear HO320; clear HB; clear HO326; clear HO329; have BK301 := n0_; have HO308 := n1_; have HO311 := n2_; have HO314 := n3_; have HO317 := n4_; have HO320 := n5_; have HB := n6_; have HO332 := n7_; clear n0_ n1_ n2_ n3_ n4_ n5_ n6_ n7_; clear ho hb hg hat))
            go_meet
            case rel => exact ⟨_, (y330), H', ⟨by first | omega | exact Nat.le_refl _⟩, ⟨Kd.N_V (by (with_reducible repeat (first | apply Kd.N_alloc | apply Kd.N_drewN | apply Kd.N_drew)); exact HO332.out)⟩, ⟨by (with_reducible repeat (first | refine bn1 ?_ _ | refine bd1 ?_ | refine ba1 ?_ _)); exact BK301.out⟩, ⟨by repeat (first | (with_reducible first | exact HB.out | apply la1 | apply ln1 | apply ld1 | refine ls1 ?_ GE301.out) | exact HB.out)⟩⟩
          · rw [if_neg c32] at H
            exact absurd H (by simp)
        · rw [if_neg c31] at H
          exact absurd H (by simp)
      · rw [if_neg c30] at H
        have c30b0 : decide (1 < a0_7) = false := decide_eq_false c30
        clear c30
        (first | rw [c30b0] | (simp only [i64_w, i32_w]; rw [c30b0]) | skip)
        have H' := Aside0.mk H
        clear H
        go_wp2
        go_meet
        case rel => exact ⟨_, (t318), H', ⟨by first | omega | exact Nat.le_refl _⟩, ⟨by (with_reducible repeat (first | apply Kd.V_alloc | apply Kd.V_drewN | apply Kd.V_drew)); exact HO320.out⟩, ⟨by (with_reducible repeat (first | refine bn1 ?_ _ | refine bd1 ?_ | refine ba1 ?_ _)); exact BK301.out⟩, ⟨by repeat (first | (with_reducible first | exact HB.out | apply la1 | apply ln1 | apply ld1 | refine ls1 ?_ GE301.out) | exact HB.out)⟩⟩
    case rest =>
      clear HC8
      try clear c1
      try clear p2
      try clear c3
      try clear c6
      try clear c7
      try clear c15
      try clear c30
      try clear c30b0
      try clear c31
      try clear c32
      try clear hcz10_0
      try clear hcz10_1
      try clear hcz10_2
      try clear hcz10_3
      try clear hcz10_4
      try clear hcz10_5
      try clear hcz10_6
      try clear hcz10_7
      try clear hcz10_8
      try clear hcz10_9
      try clear hcz17_0
      try clear hcz17_1
      try clear hcz17_2
      try clear hcz17_3
      try clear hcz17_4
      try clear hcz17_5
      try clear hcz17_6
      try clear hcz17_7
      try clear hcz17_8
      try clear hcz17_9
      try clear hcz20_0
      try clear hcz20_1
      try clear hcz20_2
      try clear hcz20_3
      try clear hcz20_4
      try clear hcz20_5
      try clear hcz20_6
      try clear hcz20_7
      try clear hcz20_8
      try clear hcz20_9
      try clear hcz23_0
      try clear hcz23_1
      try clear hcz23_2
      try clear hcz23_3
      try clear hcz23_4
      try clear hcz23_5
      try clear hcz23_6
      try clear hcz23_7
      try clear hcz23_8
      try clear hcz23_9
      try clear hcz26_0
      try clear hcz26_1
      try clear hcz26_2
      try clear hcz26_3
      try clear hcz26_4
      try clear hcz26_5
      try clear hcz26_6
      try clear hcz26_7
      try clear hcz26_8
      try clear hcz26_9
      try clear hcz29_0
      try clear hcz29_1
      try clear hcz29_2
      try clear hcz29_3
      try clear hcz29_4
      try clear hcz29_5
      try clear hcz29_6
      try clear hcz29_7
      try clear hcz29_8
      try clear hcz29_9
      try clear hcz37_0
      try clear hcz37_1
      try clear hcz37_2
      try clear hcz37_3
      try clear hcz37_4
      try clear hcz37_5
      try clear hcz37_6
      try clear hcz37_7
      try clear hcz37_8
      try clear hcz37_9
      try clear hfz10_0
      try clear hfz10_1
      try clear hfz10_2
      try clear hfz10_3
      try clear hfz10_4
      try clear hfz10_5
      try clear hfz10_6
      try clear hfz10_7
      try clear hfz10_8
      try clear hfz10_9
      try clear hfz17_0
      try clear hfz17_1
      try clear hfz17_2
      try clear hfz17_3
      try clear hfz17_4
      try clear hfz17_5
      try clear hfz17_6
      try clear hfz17_7
      try clear hfz17_8
      try clear hfz17_9
      try clear hfz20_0
      try clear hfz20_1
      try clear hfz20_2
      try clear hfz20_3
      try clear hfz20_4
      try clear hfz20_5
      try clear hfz20_6
      try clear hfz20_7
      try clear hfz20_8
      try clear hfz20_9
      try clear hfz23_0
      try clear hfz23_1
      try clear hfz23_2
      try clear hfz23_3
      try clear hfz23_4
      try clear hfz23_5
      try clear hfz23_6
      try clear hfz23_7
      try clear hfz23_8
      try clear hfz23_9
      try clear hfz26_0
      try clear hfz26_1
      try clear hfz26_2
      try clear hfz26_3
      try clear hfz26_4
      try clear hfz26_5
      try clear hfz26_6
      try clear hfz26_7
      try clear hfz26_8
      try clear hfz26_9
      try clear hfz29_0
      try clear hfz29_1
      try clear hfz29_2
      try clear hfz29_3
      try clear hfz29_4
      try clear hfz29_5
      try clear hfz29_6
      try clear hfz29_7
      try clear hfz29_8
      try clear hfz29_9
      try clear hfz37_0
      try clear hfz37_1
      try clear hfz37_2
      try clear hfz37_3
      try clear hfz37_4
      try clear hfz37_5
      try clear hfz37_6
      try clear hfz37_7
      try clear hfz37_8
      try clear hfz37_9
      obtain ⟨kq, x3_7, HA, HJ7, HO_3, BK301, HB⟩ := hcut
      cases kq with
      | zero => exact absurd HA.out (by simp [clavierref18_Params.j0])
      | succ kj7 =>
        have H := HA.out
        clear HA
        simp only [clavierref18_Params.j0] at H
        replace H := Option.bind_eq_some_iff.mp H
        obtain ⟨t333, A420, H⟩ := H
        replace H : ((clavierref18_one.f t333 a0_4 7).bind fun t336 => ((clavierref18_one.f t336 a0_5 8).bind fun t339 => ((clavierref18_one.f t339 a0_6 9).bind fun t342 => ((clavierref18_tint.f t342 a0_8 30).bind fun t345 => ((clavierref18_tint.f t345 a0_9 40).bind fun t348 => (some t348)))))) = some r := H
        have A42 := Aside0.mk A420
        clear A420
        replace H := Option.bind_eq_some_iff.mp H
        obtain ⟨t336, A430, H⟩ := H
        replace H : ((clavierref18_one.f t336 a0_5 8).bind fun t339 => ((clavierref18_one.f t339 a0_6 9).bind fun t342 => ((clavierref18_tint.f t342 a0_8 30).bind fun t345 => ((clavierref18_tint.f t345 a0_9 40).bind fun t348 => (some t348))))) = some r := H
        have A43 := Aside0.mk A430
        clear A430
        replace H := Option.bind_eq_some_iff.mp H
        obtain ⟨t339, A440, H⟩ := H
        replace H : ((clavierref18_one.f t339 a0_6 9).bind fun t342 => ((clavierref18_tint.f t342 a0_8 30).bind fun t345 => ((clavierref18_tint.f t345 a0_9 40).bind fun t348 => (some t348)))) = some r := H
        have A44 := Aside0.mk A440
        clear A440
        replace H := Option.bind_eq_some_iff.mp H
        obtain ⟨t342, A450, H⟩ := H
        replace H : ((clavierref18_tint.f t342 a0_8 30).bind fun t345 => ((clavierref18_tint.f t345 a0_9 40).bind fun t348 => (some t348))) = some r := H
        have A45 := Aside0.mk A450
        clear A450
        replace H := Option.bind_eq_some_iff.mp H
        obtain ⟨t345, A460, H⟩ := H
        replace H : ((clavierref18_tint.f t345 a0_9 40).bind fun t348 => (some t348)) = some r := H
        have A46 := Aside0.mk A460
        clear A460
        replace H := Option.bind_eq_some_iff.mp H
        obtain ⟨t348, A470, H⟩ := H
        replace H : (some t348) = some r := H
        have A47 := Aside0.mk A470
        clear A470
        obtain rfl := Option.some.inj H
        have hcz48_0 : wc.cell? ⟨gb301, 0, none⟩ = some (.bool a0_0) := (bc1 BK301.out 0).trans rfl
        have hcz48_1 : wc.cell? ⟨gb301, 1, none⟩ = some (.bool a0_1) := (bc1 BK301.out 1).trans rfl
        have hcz48_2 : wc.cell? ⟨gb301, 2, none⟩ = some (.bool a0_2) := (bc1 BK301.out 2).trans rfl
        have hcz48_3 : wc.cell? ⟨gb301, 3, none⟩ = some (.bool a0_3) := (bc1 BK301.out 3).trans rfl
        have hcz48_4 : wc.cell? ⟨gb301, 4, none⟩ = some (.bool a0_4) := (bc1 BK301.out 4).trans rfl
        have hcz48_5 : wc.cell? ⟨gb301, 5, none⟩ = some (.bool a0_5) := (bc1 BK301.out 5).trans rfl
        have hcz48_6 : wc.cell? ⟨gb301, 6, none⟩ = some (.bool a0_6) := (bc1 BK301.out 6).trans rfl
        have hcz48_7 : wc.cell? ⟨gb301, 7, none⟩ = some (.int .i64 a0_7) := (bc1 BK301.out 7).trans rfl
        have hcz48_8 : wc.cell? ⟨gb301, 8, none⟩ = some (.int .i64 a0_8) := (bc1 BK301.out 8).trans rfl
        have hcz48_9 : wc.cell? ⟨gb301, 9, none⟩ = some (.int .i64 a0_9) := (bc1 BK301.out 9).trans rfl
        have hfz48_0 := bz1 BK301.out 0
        have hfz48_1 := bz1 BK301.out 1
        have hfz48_2 := bz1 BK301.out 2
        have hfz48_3 := bz1 BK301.out 3
        have hfz48_4 := bz1 BK301.out 4
        have hfz48_5 := bz1 BK301.out 5
        have hfz48_6 := bz1 BK301.out 6
        have hfz48_7 := bz1 BK301.out 7
        have hfz48_8 := bz1 BK301.out 8
        have hfz48_9 := bz1 BK301.out 9
        obtain ⟨Ao49, co49, eo49⟩ := Kd.V_slice HO_3.out
        subst eo49
        try go_wp2_with (first | ((with_reducible refine gate_callee (f := 73) rfl ?_); refine goesL_ (some 43) rfl rfl Tryd.func73 (by kernel_rfl) rfl #[.slice Ao49 x3_7.length co49, .bool a0_3, .int .i64 5] rfl (by (try simp only [List.map_toArray, List.map_cons, List.map_nil]); first | done | rfl | (simp only [List.length_drop, List.length_take]; rfl)) ?_; (with_reducible refine (clavierref18_one.calls (fun k_ => ((w.heap.size ≤ k_) ∧ k_ ≠ gb301)) _ _ x3_7 a0_3 5 t333 _ ?side1 A42.out).mono ?_); (case side1 => exact HO_3.out); rintro e w50 ⟨v334, rfl, ho0, hb⟩; refine ⟨_, rfl, ?_⟩; have n0_ := Aside0.mk (Kd.V_below (by (with_reducible repeat (first | apply Kd.V_alloc | apply Kd.V_drewN | apply Kd.V_drew)); exact HO_3.out) hb); have n1_ := Aside0.mk (Kd.V_lower (Kd.V_mono (ok' := fun k_ => (w.heap.size ≤ k_) ∧ k_ ≠ gb301) ho0 (fun k_ hk_ => ⟨Or.elim hk_ (fun hs_ => hs_.1) (fun hn_ => (Nat.le_trans (below_size (by repeat (first | (with_reducible first | exact HB.out | apply la1 | apply ln1 | apply ld1 | refine ls1 ?_ GE301.out) | exact HB.out))) hn_)), Or.elim hk_ (fun hs_ => hs_.2) (fun hn_ => (Kd.freshB (g := gb301) (o := .cells #[.bool a0_0, .bool a0_1, .bool a0_2, .bool a0_3, .bool a0_4, .bool a0_5, .bool a0_6, .int .i64 a0_7, .int .i64 a0_8, .int .i64 a0_9] 23 (0, 0)) (by (with_reducible repeat (first | refine bn1 ?_ _ | refine bd1 ?_ | refine ba1 ?_ _)); exact BK301.out) k_ hn_))⟩)) (below_size (by repeat (first | (with_reducible first | exact HB.out | apply la1 | apply ln1 | apply ld1 | refine ls1 ?_ GE301.out) | exact HB.out)))); have n2_ := Aside0.mk (bb1 (g := gb301) (o := .cells #[.bool a0_0, .bool a0_1, .bool a0_2, .bool a0_3, .bool a0_4, .bool a0_5, .bool a0_6, .int .i64 a0_7, .int .i64 a0_8, .int .i64 a0_9] 23 (0, 0)) (by (with_reducible repeat (first | refine bn1 ?_ _ | refine bd1 ?_ | refine ba1 ?_ _)); exact BK301.out) hb); have n3_ := Aside0.mk (below_step (by repeat (first | (with_reducible first | exact HB.out | apply la1 | apply ln1 | apply ld1 | refine ls1 ?_ GE301.out) | exact HB.out)) hb); clear HO_3; clear BK301; clear HB; have HO_3 := n0_; have HO335 := n1_; have BK301 := n2_; have HB := n3_; clear n0_ n1_ n2_ n3_; (try clear hb); (try clear hb2); (try clear hk); (try clear hi); (try clear ho0); have hcz51_0 : w50.cell? ⟨gb301, 0, none⟩ = some (.bool a0_0) := (bc1 BK301.out 0).trans rfl; have hcz51_1 : w50.cell? ⟨gb301, 1, none⟩ = some (.bool a0_1) := (bc1 BK301.out 1).trans rfl; have hcz51_2 : w50.cell? ⟨gb301, 2, none⟩ = some (.bool a0_2) := (bc1 BK301.out 2).trans rfl; have hcz51_3 : w50.cell? ⟨gb301, 3, none⟩ = some (.bool a0_3) := (bc1 BK301.out 3).trans rfl; have hcz51_4 : w50.cell? ⟨gb301, 4, none⟩ = some (.bool a0_4) := (bc1 BK301.out 4).trans rfl; have hcz51_5 : w50.cell? ⟨gb301, 5, none⟩ = some (.bool a0_5) := (bc1 BK301.out 5).trans rfl; have hcz51_6 : w50.cell? ⟨gb301, 6, none⟩ = some (.bool a0_6) := (bc1 BK301.out 6).trans rfl; have hcz51_7 : w50.cell? ⟨gb301, 7, none⟩ = some (.int .i64 a0_7) := (bc1 BK301.out 7).trans rfl; have hcz51_8 : w50.cell? ⟨gb301, 8, none⟩ = some (.int .i64 a0_8) := (bc1 BK301.out 8).trans rfl; have hcz51_9 : w50.cell? ⟨gb301, 9, none⟩ = some (.int .i64 a0_9) := (bc1 BK301.out 9).trans rfl; have hfz51_0 := bz1 BK301.out 0; have hfz51_1 := bz1 BK301.out 1; have hfz51_2 := bz1 BK301.out 2; have hfz51_3 := bz1 BK301.out 3; have hfz51_4 := bz1 BK301.out 4; have hfz51_5 := bz1 BK301.out 5; have hfz51_6 := bz1 BK301.out 6; have hfz51_7 := bz1 BK301.out 7; have hfz51_8 := bz1 BK301.out 8; have hfz51_9 := bz1 BK301.out 9; obtain ⟨Ao52, co52, eo52⟩ := Kd.V_slice HO335.out; subst eo52) | ((with_reducible refine gate_callee (f := 73) rfl ?_); refine goesL_ (some 47) rfl rfl Tryd.func73 (by kernel_rfl) rfl #[.slice Ao52 t333.length co52, .bool a0_4, .int .i64 7] rfl (by (try simp only [List.map_toArray, List.map_cons, List.map_nil]); first | done | rfl | (simp only [List.length_drop, List.length_take]; rfl)) ?_; (with_reducible refine (clavierref18_one.calls (fun k_ => ((w.heap.size ≤ k_) ∧ k_ ≠ gb301)) _ _ t333 a0_4 7 t336 _ ?side1 A43.out).mono ?_); (case side1 => exact HO335.out); rintro e w53 ⟨v337, rfl, ho0, hb⟩; refine ⟨_, rfl, ?_⟩; have n0_ := Aside0.mk (Kd.V_below (by (with_reducible repeat (first | apply Kd.V_alloc | apply Kd.V_drewN | apply Kd.V_drew)); exact HO_3.out) hb); have n1_ := Aside0.mk (Kd.V_below (by (with_reducible repeat (first | apply Kd.V_alloc | apply Kd.V_drewN | apply Kd.V_drew)); exact HO335.out) hb); have n2_ := Aside0.mk (Kd.V_lower (Kd.V_mono (ok' := fun k_ => (w.heap.size ≤ k_) ∧ k_ ≠ gb301) ho0 (fun k_ hk_ => ⟨Or.elim hk_ (fun hs_ => hs_.1) (fun hn_ => (Nat.le_trans (below_size (by repeat (first | (with_reducible first | exact HB.out | apply la1 | apply ln1 | apply ld1 | refine ls1 ?_ GE301.out) | exact HB.out))) hn_)), Or.elim hk_ (fun hs_ => hs_.2) (fun hn_ => (Kd.freshB (g := gb301) (o := .cells #[.bool a0_0, .bool a0_1, .bool a0_2, .bool a0_3, .bool a0_4, .bool a0_5, .bool a0_6, .int .i64 a0_7, .int .i64 a0_8, .int .i64 a0_9] 23 (0, 0)) (by (with_reducible repeat (first | refine bn1 ?_ _ | refine bd1 ?_ | refine ba1 ?_ _)); exact BK301.out) k_ hn_))⟩)) (below_size (by repeat (first | (with_reducible first | exact HB.out | apply la1 | apply ln1 | apply ld1 | refine ls1 ?_ GE301.out) | exact HB.out)))); have n3_ := Aside0.mk (bb1 (g := gb301) (o := .cells #[.bool a0_0, .bool a0_1, .bool a0_2, .bool a0_3, .bool a0_4, .bool a0_5, .bool a0_6, .int .i64 a0_7, .int .i64 a0_8, .int .i64 a0_9] 23 (0, 0)) (by (with_reducible repeat (first | refine bn1 ?_ _ | refine bd1 ?_ | refine ba1 ?_ _)); exact BK301.out) hb); have n4_ := Aside0.mk (below_step (by repeat (first | (with_reducible first | exact HB.out | apply la1 | apply ln1 | apply ld1 | refine ls1 ?_ GE301.out) | exact HB.out)) hb); clear HO_3; clear HO335; clear BK301; clear HB; have HO_3 := n0_; have HO335 := n1_; have HO338 := n2_; have BK301 := n3_; have HB := n4_; clear n0_ n1_ n2_ n3_ n4_; (try clear hb); (try clear hb2); (try clear hk); (try clear hi); (try clear ho0); have hcz54_0 : w53.cell? ⟨gb301, 0, none⟩ = some (.bool a0_0) := (bc1 BK301.out 0).trans rfl; have hcz54_1 : w53.cell? ⟨gb301, 1, none⟩ = some (.bool a0_1) := (bc1 BK301.out 1).trans rfl; have hcz54_2 : w53.cell? ⟨gb301, 2, none⟩ = some (.bool a0_2) := (bc1 BK301.out 2).trans rfl; have hcz54_3 : w53.cell? ⟨gb301, 3, none⟩ = some (.bool a0_3) := (bc1 BK301.out 3).trans rfl; have hcz54_4 : w53.cell? ⟨gb301, 4, none⟩ = some (.bool a0_4) := (bc1 BK301.out 4).trans rfl; have hcz54_5 : w53.cell? ⟨gb301, 5, none⟩ = some (.bool a0_5) := (bc1 BK301.out 5).trans rfl; have hcz54_6 : w53.cell? ⟨gb301, 6, none⟩ = some (.bool a0_6) := (bc1 BK301.out 6).trans rfl; have hcz54_7 : w53.cell? ⟨gb301, 7, none⟩ = some (.int .i64 a0_7) := (bc1 BK301.out 7).trans rfl; have hcz54_8 : w53.cell? ⟨gb301, 8, none⟩ = some (.int .i64 a0_8) := (bc1 BK301.out 8).trans rfl; have hcz54_9 : w53.cell? ⟨gb301, 9, none⟩ = some (.int .i64 a0_9) := (bc1 BK301.out 9).trans rfl; have hfz54_0 := bz1 BK301.out 0; have hfz54_1 := bz1 BK301.out 1; have hfz54_2 := bz1 BK301.out 2; have hfz54_3 := bz1 BK301.out 3; have hfz54_4 := bz1 BK301.out 4; have hfz54_5 := bz1 BK301.out 5; have hfz54_6 := bz1 BK301.out 6; have hfz54_7 := bz1 BK301.out 7; have hfz54_8 := bz1 BK301.out 8; have hfz54_9 := bz1 BK301.out 9; obtain ⟨Ao55, co55, eo55⟩ := Kd.V_slice HO338.out; subst eo55) | ((with_reducible refine gate_callee (f := 73) rfl ?_); refine goesL_ (some 51) rfl rfl Tryd.func73 (by kernel_rfl) rfl #[.slice Ao55 t336.length co55, .bool a0_5, .int .i64 8] rfl (by (try simp only [List.map_toArray, List.map_cons, List.map_nil]); first | done | rfl | (simp only [List.length_drop, List.length_take]; rfl)) ?_; (with_reducible refine (clavierref18_one.calls (fun k_ => ((w.heap.size ≤ k_) ∧ k_ ≠ gb301)) _ _ t336 a0_5 8 t339 _ ?side1 A44.out).mono ?_); (case side1 => exact HO338.out); rintro e w56 ⟨v340, rfl, ho0, hb⟩; refine ⟨_, rfl, ?_⟩; have n0_ := Aside0.mk (Kd.V_below (by (with_reducible repeat (first | apply Kd.V_alloc | apply Kd.V_drewN | apply Kd.V_drew)); exact HO_3.out) hb); have n1_ := Aside0.mk (Kd.V_below (by (with_reducible repeat (first | apply Kd.V_alloc | apply Kd.V_drewN | apply Kd.V_drew)); exact HO335.out) hb); have n2_ := Aside0.mk (Kd.V_below (by (with_reducible repeat (first | apply Kd.V_alloc | apply Kd.V_drewN | apply Kd.V_drew)); exact HO338.out) hb); have n3_ := Aside0.mk (Kd.V_lower (Kd.V_mono (ok' := fun k_ => (w.heap.size ≤ k_) ∧ k_ ≠ gb301) ho0 (fun k_ hk_ => ⟨Or.elim hk_ (fun hs_ => hs_.1) (fun hn_ => (Nat.le_trans (below_size (by repeat (first | (with_reducible first | exact HB.out | apply la1 | apply ln1 | apply ld1 | refine ls1 ?_ GE301.out) | exact HB.out))) hn_)), Or.elim hk_ (fun hs_ => hs_.2) (fun hn_ => (Kd.freshB (g := gb301) (o := .cells #[.bool a0_0, .bool a0_1, .bool a0_2, .bool a0_3, .bool a0_4, .bool a0_5, .bool a0_6, .int .i64 a0_7, .int .i64 a0_8, .int .i64 a0_9] 23 (0, 0)) (by (with_reducible repeat (first | refine bn1 ?_ _ | refine bd1 ?_ | refine ba1 ?_ _)); exact BK301.out) k_ hn_))⟩)) (below_size (by repeat (first | (with_reducible first | exact HB.out | apply la1 | apply ln1 | apply ld1 | refine ls1 ?_ GE301.out) | exact HB.out)))); have n4_ := Aside0.mk (bb1 (g := gb301) (o := .cells #[.bool a0_0, .bool a0_1, .bool a0_2, .bool a0_3, .bool a0_4, .bool a0_5, .bool a0_6, .int .i64 a0_7, .int .i64 a0_8, .int .i64 a0_9] 23 (0, 0)) (by (with_reducible repeat (first | refine bn1 ?_ _ | refine bd1 ?_ | refine ba1 ?_ _)); exact BK301.out) hb); have n5_ := Aside0.mk (below_step (by repeat (first | (with_reducible first | exact HB.out | apply la1 | apply ln1 | apply ld1 | refine ls1 ?_ GE301.out) | exact HB.out)) hb); clear HO_3; clear HO335; clear HO338; clear BK301; clear HB; have HO_3 := n0_; have HO335 := n1_; have HO338 := n2_; have HO341 := n3_; have BK301 := n4_; have HB := n5_; clear n0_ n1_ n2_ n3_ n4_ n5_; (try clear hb); (try clear hb2); (try clear hk); (try clear hi); (try clear ho0); have hcz57_0 : w56.cell? ⟨gb301, 0, none⟩ = some (.bool a0_0) := (bc1 BK301.out 0).trans rfl; have hcz57_1 : w56.cell? ⟨gb301, 1, none⟩ = some (.bool a0_1) := (bc1 BK301.out 1).trans rfl; have hcz57_2 : w56.cell? ⟨gb301, 2, none⟩ = some (.bool a0_2) := (bc1 BK301.out 2).trans rfl; have hcz57_3 : w56.cell? ⟨gb301, 3, none⟩ = some (.bool a0_3) := (bc1 BK301.out 3).trans rfl; have hcz57_4 : w56.cell? ⟨gb301, 4, none⟩ = some (.bool a0_4) := (bc1 BK301.out 4).trans rfl; have hcz57_5 : w56.cell? ⟨gb301, 5, none⟩ = some (.bool a0_5) := (bc1 BK301.out 5).trans rfl; have hcz57_6 : w56.cell? ⟨gb301, 6, none⟩ = some (.bool a0_6) := (bc1 BK301.out 6).trans rfl; have hcz57_7 : w56.cell? ⟨gb301, 7, none⟩ = some (.int .i64 a0_7) := (bc1 BK301.out 7).trans rfl; have hcz57_8 : w56.cell? ⟨gb301, 8, none⟩ = some (.int .i64 a0_8) := (bc1 BK301.out 8).trans rfl; have hcz57_9 : w56.cell? ⟨gb301, 9, none⟩ = some (.int .i64 a0_9) := (bc1 BK301.out 9).trans rfl; have hfz57_0 := bz1 BK301.out 0; have hfz57_1 := bz1 BK301.out 1; have hfz57_2 := bz1 BK301.out 2; have hfz57_3 := bz1 BK301.out 3; have hfz57_4 := bz1 BK301.out 4; have hfz57_5 := bz1 BK301.out 5; have hfz57_6 := bz1 BK301.out 6; have hfz57_7 := bz1 BK301.out 7; have hfz57_8 := bz1 BK301.out 8; have hfz57_9 := bz1 BK301.out 9; obtain ⟨Ao58, co58, eo58⟩ := Kd.V_slice HO341.out; subst eo58) | ((with_reducible refine gate_callee (f := 73) rfl ?_); refine goesL_ (some 55) rfl rfl Tryd.func73 (by kernel_rfl) rfl #[.slice Ao58 t339.length co58, .bool a0_6, .int .i64 9] rfl (by (try simp only [List.map_toArray, List.map_cons, List.map_nil]); first | done | rfl | (simp only [List.length_drop, List.length_take]; rfl)) ?_; (with_reducible refine (clavierref18_one.calls (fun k_ => ((w.heap.size ≤ k_) ∧ k_ ≠ gb301)) _ _ t339 a0_6 9 t342 _ ?side1 A45.out).mono ?_); (case side1 => exact HO341.out); rintro e w59 ⟨v343, rfl, ho0, hb⟩; refine ⟨_, rfl, ?_⟩; have n0_ := Aside0.mk (Kd.V_below (by (with_reducible repeat (first | apply Kd.V_alloc | apply Kd.V_drewN | apply Kd.V_drew)); exact HO_3.out) hb); have n1_ := Aside0.mk (Kd.V_below (by (with_reducible repeat (first | apply Kd.V_alloc | apply Kd.V_drewN | apply Kd.V_drew)); exact HO335.out) hb); have n2_ := Aside0.mk (Kd.V_below (by (with_reducible repeat (first | apply Kd.V_alloc | apply Kd.V_drewN | apply Kd.V_drew)); exact HO338.out) hb); have n3_ := Aside0.mk (Kd.V_below (by (with_reducible repeat (first | apply Kd.V_alloc | apply Kd.V_drewN | apply Kd.V_drew)); exact HO341.out) hb); have n4_ := Aside0.mk (Kd.V_lower (Kd.V_mono (ok' := fun k_ => (w.heap.size ≤ k_) ∧ k_ ≠ gb301) ho0 (fun k_ hk_ => ⟨Or.elim hk_ (fun hs_ => hs_.1) (fun hn_ => (Nat.le_trans (below_size (by repeat (first | (with_reducible first | exact HB.out | apply la1 | apply ln1 | apply ld1 | refine ls1 ?_ GE301.out) | exact HB.out))) hn_)), Or.elim hk_ (fun hs_ => hs_.2) (fun hn_ => (Kd.freshB (g := gb301) (o := .cells #[.bool a0_0, .bool a0_1, .bool a0_2, .bool a0_3, .bool a0_4, .bool a0_5, .bool a0_6, .int .i64 a0_7, .int .i64 a0_8, .int .i64 a0_9] 23 (0, 0)) (by (with_reducible repeat (first | refine bn1 ?_ _ | refine bd1 ?_ | refine ba1 ?_ _)); exact BK301.out) k_ hn_))⟩)) (below_size (by repeat (first | (with_reducible first | exact HB.out | apply la1 | apply ln1 | apply ld1 | refine ls1 ?_ GE301.out) | exact HB.out)))); have n5_ := Aside0.mk (bb1 (g := gb301) (o := .cells #[.bool a0_0, .bool a0_1, .bool a0_2, .bool a0_3, .bool a0_4, .bool a0_5, .bool a0_6, .int .i64 a0_7, .int .i64 a0_8, .int .i64 a0_9] 23 (0, 0)) (by (with_reducible repeat (first | refine bn1 ?_ _ | refine bd1 ?_ | refine ba1 ?_ _)); exact BK301.out) hb); have n6_ := Aside0.mk (below_step (by repeat (first | (with_reducible first | exact HB.out | apply la1 | apply ln1 | apply ld1 | refine ls1 ?_ GE301.out) | exact HB.out)) hb); clear HO_3; clear HO335; clear HO338; clear HO341; clear BK301; clear HB; have HO_3 := n0_; have HO335 := n1_; have HO338 := n2_; have HO341 := n3_; have HO344 := n4_; have BK301 := n5_; have HB := n6_; clear n0_ n1_ n2_ n3_ n4_ n5_ n6_; (try clear hb); (try clear hb2); (try clear hk); (try clear hi); (try clear ho0)))
        have n0_ := Aside0.mk (Kd.V_drew HO_3.out)
        have n1_ := Aside0.mk (Kd.V_drew HO335.out)
        have n2_ := Aside0.mk (Kd.V_drew HO338.out)
        have n3_ := Aside0.mk (Kd.V_drew HO341.out)
        have n4_ := Aside0.mk (Kd.V_drew HO344.out)
        have n5_ := Aside0.mk (bd1 BK301.out)
        have n6_ := Aside0.mk (ld1 HB.out)
        clear HO_3
        clear HO335
        clear HO338
        clear HO341
        clear HO344
        clear BK301
        clear HB
        have HO_3 := n0_
        have HO335 := n1_
        have HO338 := n2_
        have HO341 := n3_
        have HO344 := n4_
        have BK301 := n5_
        have HB := n6_
        clear n0_ n1_ n2_ n3_ n4_ n5_ n6_
        obtain ⟨Ao61, co61, eo61⟩ := Kd.V_slice HO344.out
        (first | subst eo61 | (injection eo61 with f1_ f2_ f3_; have f4_ := f1_.symm; have f5_ := f3_.symm; clear f1_ f2_ f3_; subst f4_; subst f5_))
        refine start_ (n := 8) (S := fun w' => w'.cell? ⟨gb301, 0, none⟩ = some (.bool a0_0) ∧ w'.cell? ⟨gb301, 1, none⟩ = some (.bool a0_1) ∧ w'.cell? ⟨gb301, 2, none⟩ = some (.bool a0_2) ∧ w'.cell? ⟨gb301, 3, none⟩ = some (.bool a0_3) ∧ w'.cell? ⟨gb301, 4, none⟩ = some (.bool a0_4) ∧ w'.cell? ⟨gb301, 5, none⟩ = some (.bool a0_5) ∧ w'.cell? ⟨gb301, 6, none⟩ = some (.bool a0_6) ∧ w'.cell? ⟨gb301, 7, none⟩ = some (.int .i64 a0_7) ∧ w'.cell? ⟨gb301, 8, none⟩ = some (.int .i64 a0_8) ∧ w'.cell? ⟨gb301, 9, none⟩ = some (.int .i64 a0_9)) (ds := []) #[false, false, false, false, false, false, false, false] (by kernel_rfl) rfl rfl ⟨(bc1 BK301.out 0).trans rfl, (bc1 BK301.out 1).trans rfl, (bc1 BK301.out 2).trans rfl, (bc1 BK301.out 3).trans rfl, (bc1 BK301.out 4).trans rfl, (bc1 BK301.out 5).trans rfl, (bc1 BK301.out 6).trans rfl, (bc1 BK301.out 7).trans rfl, (bc1 BK301.out 8).trans rfl, (bc1 BK301.out 9).trans rfl⟩ (fun hHeld => ?_); refine with_tabW clavierref18_Params.tab16 clavierref18_Params.bits16 (fun HT_ HW_ => ?_)
        generalize w59.drew = w60 at HO_3 HO335 HO338 HO341 HO344 BK301 HB hHeld ⊢
        refine pure_ (i := 0) (N := some 56) (v := ?_) (a' := ?_) #[true, false, false, false, false, false, false, false] rfl rfl (any_of HT_.out (by kernel_rfl)) (fun _ _ _ h => h) (Or.inl ⟨by rfl, ?_⟩) ?_ ?_
        rotate_left
        · intro w'
          go_simp
          with_reducible rfl
        rotate_left
        · simp only [Act.put, List.setIfInBounds_toArray, List.set_cons_zero, List.set_cons_succ, i64_w, i32_w]
          rfl
        refine pure_ (i := 1) (N := some 57) (v := ?_) (a' := ?_) #[true, true, false, false, false, false, false, false] rfl rfl (any_of HT_.out (by kernel_rfl)) (fun _ _ _ h => h) (Or.inl ⟨by rfl, ?_⟩) ?_ ?_
        rotate_left
        · intro w'
          go_simp
          with_reducible rfl
        rotate_left
        · simp only [Act.put, List.setIfInBounds_toArray, List.set_cons_zero, List.set_cons_succ, i64_w, i32_w]
          rfl
        refine pure_ (i := 4) (N := some 60) (v := ?_) (a' := ?_) #[true, true, false, false, true, false, false, false] rfl rfl (any_of HT_.out (by kernel_rfl)) (fun _ _ _ h => h) (Or.inl ⟨by rfl, ?_⟩) ?_ ?_
        rotate_left
        · intro w'
          go_simp
          with_reducible rfl
        rotate_left
        · simp only [Act.put, List.setIfInBounds_toArray, List.set_cons_zero, List.set_cons_succ, i64_w, i32_w]
          rfl
        refine take_ (i := 2) (N := some 58) (v := ?_) (a' := ?_) #[true, true, true, false, true, false, false, false] rfl rfl (take_ofW HT_.out HW_.out (by kernel_rfl)) (fun _ _ _ h => h) (Or.inl ⟨by rfl, ?_⟩) hHeld ?_ ?_
        rotate_left
        · rintro w' ⟨s0, s1, s2, s3, s4, s5, s6, s7, s8, s9⟩
          go_simp
          with_reducible rfl
        rotate_left
        · simp only [Act.put, List.setIfInBounds_toArray, List.set_cons_zero, List.set_cons_succ, i64_w, i32_w]
          rfl
        refine take_ (i := 5) (N := some 61) (v := ?_) (a' := ?_) #[true, true, true, false, true, true, false, false] rfl rfl (take_ofW HT_.out HW_.out (by kernel_rfl)) (fun _ _ _ h => h) (Or.inl ⟨by rfl, ?_⟩) hHeld ?_ ?_
        rotate_left
        · rintro w' ⟨s0, s1, s2, s3, s4, s5, s6, s7, s8, s9⟩
          go_simp
          with_reducible rfl
        rotate_left
        · simp only [Act.put, List.setIfInBounds_toArray, List.set_cons_zero, List.set_cons_succ, i64_w, i32_w]
          rfl
        refine one_ (i := 3) (N := some 59) #[true, true, true, true, true, true, false, false] rfl rfl (one_of HT_.out (by kernel_rfl)) (by decide) (fun K hK => ?_)
        refine goes_ Tryd.func74 (by kernel_rfl) rfl #[.slice Ao61 t342.length co61, .int .i64 a0_8, .int .i64 30] (by rfl) rfl rfl (by (try simp only [List.map_toArray, List.map_cons, List.map_nil]); first | done | rfl | (simp only [List.length_drop, List.length_take]; rfl)) ?_
        with_reducible refine (clavierref18_tint.calls (fun k_ => ((w.heap.size ≤ k_) ∧ k_ ≠ gb301)) _ _ t342 a0_8 30 t345 _ ?side1 A46.out).mono ?_
        (case side1 => exact HO344.out)
        rintro e w62 ⟨v346, rfl, ho0, hb⟩
        refine ⟨_, rfl, ?_⟩
        have n0_ := Aside0.mk (Kd.V_below (by (with_reducible repeat (first | apply Kd.V_alloc | apply Kd.V_drewN | apply Kd.V_drew)); exact HO_3.out) hb)
        have n1_ := Aside0.mk (Kd.V_below (by (with_reducible repeat (first | apply Kd.V_alloc | apply Kd.V_drewN | apply Kd.V_drew)); exact HO335.out) hb)
        have n2_ := Aside0.mk (Kd.V_below (by (with_reducible repeat (first | apply Kd.V_alloc | apply Kd.V_drewN | apply Kd.V_drew)); exact HO338.out) hb)
        have n3_ := Aside0.mk (Kd.V_below (by (with_reducible repeat (first | apply Kd.V_alloc | apply Kd.V_drewN | apply Kd.V_drew)); exact HO341.out) hb)
        have n4_ := Aside0.mk (Kd.V_below (by (with_reducible repeat (first | apply Kd.V_alloc | apply Kd.V_drewN | apply Kd.V_drew)); exact HO344.out) hb)
        have n5_ := Aside0.mk (Kd.V_lower (Kd.V_mono (ok' := fun k_ => (w.heap.size ≤ k_) ∧ k_ ≠ gb301) ho0 (fun k_ hk_ => ⟨Or.elim hk_ (fun hs_ => hs_.1) (fun hn_ => (Nat.le_trans (below_size (by repeat (first | (with_reducible first | exact HB.out | apply la1 | apply ln1 | apply ld1 | refine ls1 ?_ GE301.out) | exact HB.out))) hn_)), Or.elim hk_ (fun hs_ => hs_.2) (fun hn_ => (Kd.freshB (g := gb301) (o := .cells #[.bool a0_0, .bool a0_1, .bool a0_2, .bool a0_3, .bool a0_4, .bool a0_5, .bool a0_6, .int .i64 a0_7, .int .i64 a0_8, .int .i64 a0_9] 23 (0, 0)) (by (with_reducible repeat (first | refine bn1 ?_ _ | refine bd1 ?_ | refine ba1 ?_ _)); exact BK301.out) k_ hn_))⟩)) (below_size (by repeat (first | (with_reducible first | exact HB.out | apply la1 | apply ln1 | apply ld1 | refine ls1 ?_ GE301.out) | exact HB.out))))
        have n6_ := Aside0.mk (bb1 (g := gb301) (o := .cells #[.bool a0_0, .bool a0_1, .bool a0_2, .bool a0_3, .bool a0_4, .bool a0_5, .bool a0_6, .int .i64 a0_7, .int .i64 a0_8, .int .i64 a0_9] 23 (0, 0)) (by (with_reducible repeat (first | refine bn1 ?_ _ | refine bd1 ?_ | refine ba1 ?_ _)); exact BK301.out) hb)
        have n7_ := Aside0.mk (below_step (by repeat (first | (with_reducible first | exact HB.out | apply la1 | apply ln1 | apply ld1 | refine ls1 ?_ GE301.out) | exact HB.out)) hb)
        clear HO_3
        clear HO335
        clear HO338
        clear HO341
        clear HO344
        clear BK301
        clear HB
        have HO_3 := n0_
        have HO335 := n1_
        have HO338 := n2_
        have HO341 := n3_
        have HO344 := n4_
        have HO347 := n5_
        have BK301 := n6_
        have HB := n7_
        clear n0_ n1_ n2_ n3_ n4_ n5_ n6_ n7_
        (try clear hb)
        (try clear hb2)
        (try clear hk)
        (try clear hi)
        (try clear ho0)
        obtain ⟨Ao63, co63, eo63⟩ := Kd.V_slice HO347.out
        (first | subst eo63 | (injection eo63 with f1_ f2_ f3_; have f4_ := f1_.symm; have f5_ := f3_.symm; clear f1_ f2_ f3_; subst f4_; subst f5_))
        refine hK.out _ _ ⟨(bc1 BK301.out 0).trans rfl, (bc1 BK301.out 1).trans rfl, (bc1 BK301.out 2).trans rfl, (bc1 BK301.out 3).trans rfl, (bc1 BK301.out 4).trans rfl, (bc1 BK301.out 5).trans rfl, (bc1 BK301.out 6).trans rfl, (bc1 BK301.out 7).trans rfl, (bc1 BK301.out 8).trans rfl, (bc1 BK301.out 9).trans rfl⟩ (fun hHeld => ?_)
        clear hK K
        refine norm_ (a' := ?_) ?_ ?_
        rotate_left
        · show Act.put _ (some 59) _ = _
          simp only [Act.put, List.setIfInBounds_toArray, List.set_cons_zero, List.set_cons_succ, i64_w, i32_w]
          rfl
        refine one_ (i := 6) (N := some 62) #[true, true, true, true, true, true, true, false] rfl rfl (one_of HT_.out (by kernel_rfl)) (by decide) (fun K hK => ?_)
        refine goes_ Tryd.func74 (by kernel_rfl) rfl #[.slice Ao63 t345.length co63, .int .i64 a0_9, .int .i64 40] (by rfl) rfl rfl (by (try simp only [List.map_toArray, List.map_cons, List.map_nil]); first | done | rfl | (simp only [List.length_drop, List.length_take]; rfl)) ?_
        with_reducible refine (clavierref18_tint.calls (fun k_ => ((w.heap.size ≤ k_) ∧ k_ ≠ gb301)) _ _ t345 a0_9 40 t348 _ ?side1 A47.out).mono ?_
        (case side1 => exact HO347.out)
        rintro e w64 ⟨v349, rfl, ho0, hb⟩
        refine ⟨_, rfl, ?_⟩
        have n0_ := Aside0.mk (Kd.V_below (by (with_reducible repeat (first | apply Kd.V_alloc | apply Kd.V_drewN | apply Kd.V_drew)); exact HO_3.out) hb)
        have n1_ := Aside0.mk (Kd.V_below (by (with_reducible repeat (first | apply Kd.V_alloc | apply Kd.V_drewN | apply Kd.V_drew)); exact HO335.out) hb)
        have n2_ := Aside0.mk (Kd.V_below (by (with_reducible repeat (first | apply Kd.V_alloc | apply Kd.V_drewN | apply Kd.V_drew)); exact HO338.out) hb)
        have n3_ := Aside0.mk (Kd.V_below (by (with_reducible repeat (first | apply Kd.V_alloc | apply Kd.V_drewN | apply Kd.V_drew)); exact HO341.out) hb)
        have n4_ := Aside0.mk (Kd.V_below (by (with_reducible repeat (first | apply Kd.V_alloc | apply Kd.V_drewN | apply Kd.V_drew)); exact HO344.out) hb)
        have n5_ := Aside0.mk (Kd.V_below (by (with_reducible repeat (first | apply Kd.V_alloc | apply Kd.V_drewN | apply Kd.V_drew)); exact HO347.out) hb)
        have n6_ := Aside0.mk (Kd.V_lower (Kd.V_mono (ok' := fun k_ => (w.heap.size ≤ k_) ∧ k_ ≠ gb301) ho0 (fun k_ hk_ => ⟨Or.elim hk_ (fun hs_ => hs_.1) (fun hn_ => (Nat.le_trans (below_size (by repeat (first | (with_reducible first | exact HB.out | apply la1 | apply ln1 | apply ld1 | refine ls1 ?_ GE301.out) | exact HB.out))) hn_)), Or.elim hk_ (fun hs_ => hs_.2) (fun hn_ => (Kd.freshB (g := gb301) (o := .cells #[.bool a0_0, .bool a0_1, .bool a0_2, .bool a0_3, .bool a0_4, .bool a0_5, .bool a0_6, .int .i64 a0_7, .int .i64 a0_8, .int .i64 a0_9] 23 (0, 0)) (by (with_reducible repeat (first | refine bn1 ?_ _ | refine bd1 ?_ | refine ba1 ?_ _)); exact BK301.out) k_ hn_))⟩)) (below_size (by repeat (first | (with_reducible first | exact HB.out | apply la1 | apply ln1 | apply ld1 | refine ls1 ?_ GE301.out) | exact HB.out))))
        have n7_ := Aside0.mk (bb1 (g := gb301) (o := .cells #[.bool a0_0, .bool a0_1, .bool a0_2, .bool a0_3, .bool a0_4, .bool a0_5, .bool a0_6, .int .i64 a0_7, .int .i64 a0_8, .int .i64 a0_9] 23 (0, 0)) (by (with_reducible repeat (first | refine bn1 ?_ _ | refine bd1 ?_ | refine ba1 ?_ _)); exact BK301.out) hb)
        have n8_ := Aside0.mk (below_step (by repeat (first | (with_reducible first | exact HB.out | apply la1 | apply ln1 | apply ld1 | refine ls1 ?_ GE301.out) | exact HB.out)) hb)
        clear HO_3
        clear HO335
        clear HO338
        clear HO341
        clear HO344
        clear HO347
        clear BK301
        clear HB
        have HO_3 := n0_
        have HO335 := n1_
        have HO338 := n2_
        have HO341 := n3_
        have HO344 := n4_
        have HO347 := n5_
        have HO350 := n6_
        have BK301 := n7_
        have HB := n8_
        clear n0_ n1_ n2_ n3_ n4_ n5_ n6_ n7_ n8_
        (try clear hb)
        (try clear hb2)
        (try clear hk)
        (try clear hi)
        (try clear ho0)
        refine hK.out _ _ ⟨(bc1 BK301.out 0).trans rfl, (bc1 BK301.out 1).trans rfl, (bc1 BK301.out 2).trans rfl, (bc1 BK301.out 3).trans rfl, (bc1 BK301.out 4).trans rfl, (bc1 BK301.out 5).trans rfl, (bc1 BK301.out 6).trans rfl, (bc1 BK301.out 7).trans rfl, (bc1 BK301.out 8).trans rfl, (bc1 BK301.out 9).trans rfl⟩ (fun hHeld => ?_)
        clear hK K
        refine norm_ (a' := ?_) ?_ ?_
        rotate_left
        · show Act.put _ (some 62) _ = _
          simp only [Act.put, List.setIfInBounds_toArray, List.set_cons_zero, List.set_cons_succ, i64_w, i32_w]
          rfl
        refine pure_ (i := 7) (N := some 2) (v := ?_) (a' := ?_) #[true, true, true, true, true, true, true, true] rfl rfl (any_of HT_.out (by kernel_rfl)) (fun _ _ _ h => h) (Or.inl ⟨by rfl, ?_⟩) ?_ ?_
        rotate_left
        · intro w'
          go_simp
          with_reducible rfl
        rotate_left
        · simp only [Act.put, List.setIfInBounds_toArray, List.set_cons_zero, List.set_cons_succ, i64_w, i32_w]
          rfl
        refine done_ (done_of HT_.out (by kernel_rfl)) ?_
        try go_wp2
        go_ret
        exact ⟨_, by first | rfl | (simp [errW_none, errW_some] <;> rfl) | (simp [*, errW_none, errW_some] <;> rfl), by (with_reducible repeat (first | apply Kd.V_alloc | apply Kd.V_drewN | apply Kd.V_drew)); exact Kd.V_mono HO350.out (fun _ hk => hk.1), by repeat (first | (with_reducible first | exact HB.out | apply la1 | apply ln1 | apply ld1 | refine ls1 ?_ GE301.out) | exact HB.out)⟩
  · replace c3 := Bool.eq_false_iff.mpr c3
    subst c3
    have H1 : (some ([] : List (List Int))) = some r := by rw [if_neg (show ¬ (false = true) by decide)] at H; exact H
    clear H
    have H := H1
    clear H1
    obtain rfl := Option.some.inj H
    go_enter Tryd.func61, Tryd.ntmps61
    go_wp2_with (first | ((with_reducible refine gate_dst (N := 1) rfl ?_); refine box_event ?hg (N := 1) ?hd (cs := #[.bool a0_0, .bool a0_1, .bool a0_2, .bool a0_3, .bool a0_4, .bool a0_5, .bool a0_6, .int .i64 a0_7, .int .i64 a0_8, .int .i64 a0_9]) (t := 23) ?hr ?_; (case hd => rfl); (case hg => rfl); (case hr => first | (go_simp; done) | (go_simp; rfl)); intro gb301 hg w65 hbox hb; have n0_ := Aside0.mk (below_step (by repeat (first | (with_reducible first | exact HB.out | apply la1 | apply ln1 | apply ld1) | exact HB.out)) hb); have n1_ := Aside0.mk (hbox); have n2_ := Aside0.mk ((by rw [hg]; exact (below_size (by repeat (first | (with_reducible first | exact HB.out | apply la1 | apply ln1 | apply ld1) | exact HB.out))) : w.heap.size ≤ gb301)); have n3_ := Aside0.mk ((by rw [hg]; exact (below_size (by repeat (first | (with_reducible first | exact HB.out | apply la1 | apply ln1 | apply ld1) | exact HB.out))) : w.heap.size ≤ gb301)); clear HB; have HB := n0_; have BK301 := n1_; have GW301 := n2_; have GE301 := n3_; clear n0_ n1_ n2_ n3_; clear hb hbox hg; have hcz66_0 : w65.cell? ⟨gb301, 0, none⟩ = some (.bool a0_0) := (bc1 BK301.out 0).trans rfl; have hcz66_1 : w65.cell? ⟨gb301, 1, none⟩ = some (.bool a0_1) := (bc1 BK301.out 1).trans rfl; have hcz66_2 : w65.cell? ⟨gb301, 2, none⟩ = some (.bool a0_2) := (bc1 BK301.out 2).trans rfl; have hcz66_3 : w65.cell? ⟨gb301, 3, none⟩ = some (.bool a0_3) := (bc1 BK301.out 3).trans rfl; have hcz66_4 : w65.cell? ⟨gb301, 4, none⟩ = some (.bool a0_4) := (bc1 BK301.out 4).trans rfl; have hcz66_5 : w65.cell? ⟨gb301, 5, none⟩ = some (.bool a0_5) := (bc1 BK301.out 5).trans rfl; have hcz66_6 : w65.cell? ⟨gb301, 6, none⟩ = some (.bool a0_6) := (bc1 BK301.out 6).trans rfl; have hcz66_7 : w65.cell? ⟨gb301, 7, none⟩ = some (.int .i64 a0_7) := (bc1 BK301.out 7).trans rfl; have hcz66_8 : w65.cell? ⟨gb301, 8, none⟩ = some (.int .i64 a0_8) := (bc1 BK301.out 8).trans rfl; have hcz66_9 : w65.cell? ⟨gb301, 9, none⟩ = some (.int .i64 a0_9) := (bc1 BK301.out 9).trans rfl; have hfz66_0 := bz1 BK301.out 0; have hfz66_1 := bz1 BK301.out 1; have hfz66_2 := bz1 BK301.out 2; have hfz66_3 := bz1 BK301.out 3; have hfz66_4 := bz1 BK301.out 4; have hfz66_5 := bz1 BK301.out 5; have hfz66_6 := bz1 BK301.out 6; have hfz66_7 := bz1 BK301.out 7; have hfz66_8 := bz1 BK301.out 8; have hfz66_9 := bz1 BK301.out 9) | ((with_reducible refine gate_callee (f := 15) rfl ?_); refine goesL_ (some 6) rfl rfl Tryd.func15 (by kernel_rfl) rfl #[.agg #[.bool a0_0, .bool a0_1, .bool a0_2, .bool a0_3, .bool a0_4, .bool a0_5, .bool a0_6, .int .i64 a0_7, .int .i64 a0_8, .int .i64 a0_9]] rfl (by (try simp only [List.map_toArray, List.map_cons, List.map_nil]); first | done | rfl | (simp only [List.length_drop, List.length_take]; rfl)) ?_; (with_reducible refine (clavierref18_May.calls a0_0 a0_1 a0_2 a0_3 a0_4 a0_5 a0_6 a0_7 a0_8 a0_9 false _ A2.out).mono ?_); rintro e w67 ⟨rfl, hb⟩; refine ⟨_, rfl, ?_⟩; have n0_ := Aside0.mk (bb1 (g := gb301) (o := .cells #[.bool a0_0, .bool a0_1, .bool a0_2, .bool a0_3, .bool a0_4, .bool a0_5, .bool a0_6, .int .i64 a0_7, .int .i64 a0_8, .int .i64 a0_9] 23 (0, 0)) (by (with_reducible repeat (first | refine bn1 ?_ _ | refine bd1 ?_ | refine ba1 ?_ _)); exact BK301.out) hb); have n1_ := Aside0.mk (below_step (by repeat (first | (with_reducible first | exact HB.out | apply la1 | apply ln1 | apply ld1 | refine ls1 ?_ GE301.out) | exact HB.out)) hb); clear BK301; clear HB; have BK301 := n0_; have HB := n1_; clear n0_ n1_; (try clear hb); (try clear hb2); (try clear hk); (try clear hi)))
    go_ret
    exact ⟨_, by first | rfl | (simp [errW_none, errW_some] <;> rfl) | (simp [*, errW_none, errW_some] <;> rfl), (by first | exact Kd.V_nil _ _ _ _ _ | (refine Kd.N_V ?_; first | exact Kd.S_nil _ _ _ _ _ | exact Kd.N_nil _ _ _ _ _ | exact Kd.V_nil _ _ _ _ _ | exact Kd.Q_nil _ _ _ _ _ | exact Kd.R_nil _ _ _ _ _)), by repeat (first | (with_reducible first | exact HB.out | apply la1 | apply ln1 | apply ld1 | refine ls1 ?_ GE301.out) | exact HB.out)⟩
end Go.Proofs.YtopcleljecdkkaaDoor.G
end
