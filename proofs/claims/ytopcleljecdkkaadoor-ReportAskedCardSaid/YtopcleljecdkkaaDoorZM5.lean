/- M: texts run together by shake.py: Gclavierref03a3. -/
import Derived.ArgAppend
import Derived.Below
import Derived.BigQuiet
import Derived.Deep.AppendLies
import Derived.Deep.CutBlock
import Derived.Deep.DeepCutAuto
import Derived.Deep.Draws
import Derived.Deep.LoopGhost
import Derived.Deep.OwnRows
import Derived.Deep.Quiet
import Derived.Deep.QuietTactic
import Derived.Deep.RegionHeld3
import Derived.Ground.Names2Prog
import Derived.Ground.SlgnProg
import Derived.KernelRfl
import Derived.Laws.AppendOwn
import Derived.Laws.AppendOwnNone
import Derived.Laws.BitsLemmas
import Derived.Laws.BytesArg
import Derived.Laws.Concat
import Derived.Laws.CopyRow
import Derived.Laws.IdiomCopy
import Derived.Laws.IdiomStrings
import Derived.Laws.MakeOwn
import Derived.Laws.OwnMore
import Derived.Laws.Rows
import Derived.Laws.Slices
import Derived.Laws.StructEq
import Derived.Laws.Tables
import Derived.Lib.AppendIntMem
import Derived.Lib.AppendStr
import Derived.Lib.ConvBytes
import Derived.Lib.Hide
import Derived.Lib.ItoaLen
import Derived.Lib.ItoaNum
import Derived.Lib.LaidTab
import Derived.MapKept
import Derived.Maps.AppendAt
import Derived.Orders
import Derived.OrdersHeld
import Derived.Outline
import Derived.OwnWalk
import Derived.RowKit
import Derived.RowKit3
import Derived.Shelf.LaysM
import Derived.Shelf.Slices.Clone
import Derived.Shelf.SlicesE.Clone
import Derived.Shelf.Strconv.Itoa0
import Derived.Shelf.Strconv.Itoa1
import Derived.Shelf.Strconv.Itoa2
import Derived.Shelf.Strconv.Itoa3
import Derived.Shelf.Strings.Builder1
import Derived.Shelf.Strings.Builder2
import Derived.Shelf.Strings.Builder2Cap
import Derived.Shelf.Strings.BuilderCap
import Derived.Shelf.Strings.BuilderF
import Derived.Shelf.Strings.BuilderK
import Derived.Shelf.Strings.OnBuilder
import Derived.Still
import Derived.Tactics
import Derived.Test.YtopcleljecdkkaaDoorProg
import Derived.WalkKit
import Derived.WalkLawsBesides
import Derived.WalkSpells
import Derived.WideLaws
import Derived.Test.YtopcleljecdkkaaDoorZM1
import Derived.Test.YtopcleljecdkkaaDoorZM2
import Derived.Test.YtopcleljecdkkaaDoorZM3
import Derived.Test.YtopcleljecdkkaaDoorZM4
section
namespace Go.Proofs.YtopcleljecdkkaaDoor.G
open Go.RowKit Go.Proofs.YtopcleljecdkkaaDoorW.PrintWords Go.Proofs.YtopcleljecdkkaaDoorW.PrintLast Go.Proofs.YtopcleljecdkkaaDoorW.PrintMore
attribute [local go_sem] max2_int min2_int max_two min_two max_three min_three max_four min_four
set_option linter.unusedVariables false
set_option linter.unusedSimpArgs false
def clavierref03_May.f (k : Nat) (a0_0 : Int) (a0_1 : Int) (l0_2 : List (List Int)) (a0_3 : ByteArray) (a0_4 : Int) (a0_5 : ByteArray) : Option (Int) := if (a0_5.size : Int) > 4096 then (some 4) else (if a0_1 = 0 then ((clavierref03_params.f k l0_2).bind fun t190 => (if t190 = true then (if (a0_3.size : Int) > 2 then (some 1) else ((clavierref03_within.f k a0_3 32 47).bind fun t191 => (if t191 = true then ((clavierref03_within.f k a0_5 32 126).bind fun t192 => (if t192 = true then ((clavierref03_last.f k a0_0 a0_1 l0_2 a0_3 a0_4 a0_5).bind fun t193 => (if t193 = true then ((clavierref03_bare.f k a0_0 a0_1 l0_2 a0_3 a0_4 a0_5).bind fun t194 => (if t194 = true then (some 0) else (some 1))) else (some 1))) else (some 1))) else (some 1)))) else (some 1))) else (if a0_1 < 60 then (some 1) else (if a0_1 > 63 then (some 1) else ((clavierref03_params.f k l0_2).bind fun t195 => (if t195 = true then (if (a0_3.size : Int) > 2 then (some 1) else ((clavierref03_within.f k a0_3 32 47).bind fun t196 => (if t196 = true then ((clavierref03_within.f k a0_5 32 126).bind fun t197 => (if t197 = true then ((clavierref03_last.f k a0_0 a0_1 l0_2 a0_3 a0_4 a0_5).bind fun t198 => (if t198 = true then ((clavierref03_bare.f k a0_0 a0_1 l0_2 a0_3 a0_4 a0_5).bind fun t199 => (if t199 = true then (some 0) else (some 1))) else (some 1))) else (some 1))) else (some 1)))) else (some 1))))))
theorem clavierref03_May.mono : ∀ a0 a1 a2 a3 a4 a5 k, LeO (clavierref03_May.f k a0 a1 a2 a3 a4 a5) (clavierref03_May.f (k + 1) a0 a1 a2 a3 a4 a5) := by
  intro a0 a1 a2 a3 a4 a5 k
  unfold clavierref03_May.f
  repeat' first
      | (with_reducible exact clavierref03_bare.mono _ _ _ _ _ _ _)
      | (with_reducible exact clavierref03_last.mono _ _ _ _ _ _ _)
      | (with_reducible exact clavierref03_params.mono _ _)
      | (with_reducible exact clavierref03_within.mono _ _ _ _)
      | (with_reducible exact LeO.refl _)
      | (with_reducible exact LeO.none _)
      | (with_reducible refine LeO.ite ?_ ?_)
      | (with_reducible refine LeO.bind ?_ (fun _ => ?_))
      | exact clavierref03_bare.mono _ _ _ _ _ _ _
      | exact clavierref03_last.mono _ _ _ _ _ _ _
      | exact clavierref03_params.mono _ _
      | exact clavierref03_within.mono _ _ _ _
      | exact LeO.none _
      | refine LeO.ite ?_ ?_
      | refine LeO.bind ?_ (fun _ => ?_)
set_option maxHeartbeats 8000000 in
set_option maxRecDepth 100000 in
theorem clavierref03_May.calls (k : Nat) (a0_0 : Int) (a0_1 : Int) (A0_2 : Option Addr) (c0_2 : Nat) (l0_2 : List (List Int)) (a0_3 : ByteArray) (a0_4 : Int) (a0_5 : ByteArray) (r : Int) (w : World) (hr0_2 : Kd.C (Kd.slice 3 (Kd.int .i64)) w A0_2 l0_2.length l0_2) (hc0_2 : l0_2.length ≤ c0_2) (h : clavierref03_May.f k a0_0 a0_1 l0_2 a0_3 a0_4 a0_5 = some r) :
    Calls Tryd.prog 26 #[.agg #[.int .i64 a0_0, .int .u8 a0_1, .slice A0_2 l0_2.length c0_2, .string a0_3, .int .u8 a0_4, .string a0_5]] w fun e w' => e = .returned (.int .i64 r) ∧ Below w.heap.size w w' := by
  have hu30 := Tryd.underlying30
  have HR0_2 := Aside0.mk hr0_2
  have HC0_2 := Aside0.mk hc0_2
  clear hr0_2 hc0_2
  have HB := Aside0.mk (Below.refl w.heap.size w)
  have H : (if (a0_5.size : Int) > 4096 then (some 4) else (if a0_1 = 0 then ((clavierref03_params.f k l0_2).bind fun t190 => (if t190 = true then (if (a0_3.size : Int) > 2 then (some 1) else ((clavierref03_within.f k a0_3 32 47).bind fun t191 => (if t191 = true then ((clavierref03_within.f k a0_5 32 126).bind fun t192 => (if t192 = true then ((clavierref03_last.f k a0_0 a0_1 l0_2 a0_3 a0_4 a0_5).bind fun t193 => (if t193 = true then ((clavierref03_bare.f k a0_0 a0_1 l0_2 a0_3 a0_4 a0_5).bind fun t194 => (if t194 = true then (some 0) else (some 1))) else (some 1))) else (some 1))) else (some 1)))) else (some 1))) else (if a0_1 < 60 then (some 1) else (if a0_1 > 63 then (some 1) else ((clavierref03_params.f k l0_2).bind fun t195 => (if t195 = true then (if (a0_3.size : Int) > 2 then (some 1) else ((clavierref03_within.f k a0_3 32 47).bind fun t196 => (if t196 = true then ((clavierref03_within.f k a0_5 32 126).bind fun t197 => (if t197 = true then ((clavierref03_last.f k a0_0 a0_1 l0_2 a0_3 a0_4 a0_5).bind fun t198 => (if t198 = true then ((clavierref03_bare.f k a0_0 a0_1 l0_2 a0_3 a0_4 a0_5).bind fun t199 => (if t199 = true then (some 0) else (some 1))) else (some 1))) else (some 1))) else (some 1)))) else (some 1))))))) = some r := h
  clear h
  by_cases c2 : (a0_5.size : Int) > 4096
  · rw [if_pos c2] at H
    have c2b0 : decide (4096 < (a0_5.size : Int)) = true := decide_eq_true c2
    have c2b1 : decide (4096 < a0_5.size) = true := decide_eq_true (by omega)
    clear c2
    obtain rfl := Option.some.inj H
    go_enter Tryd.func26, Tryd.ntmps26
    go_wp2_with (first | ((with_reducible refine gate_dst (N := 1) rfl ?_); (try (refine gate_guard (by rfl) ?_; dsimp only)); refine box_event ?hg (N := 1) ?hd (cs := #[.int .i64 a0_0, .int .u8 a0_1, .slice A0_2 l0_2.length c0_2, .string a0_3, .int .u8 a0_4, .string a0_5]) (t := 30) ?hr ?_; (case hd => rfl); (case hg => rfl); (case hr => first | (go_simp; done) | (go_simp; rfl)); intro gb189 hg w3 hbox hb; have n0_ := Aside0.mk (below_step (by repeat (first | (with_reducible first | exact HB.out | apply la1 | apply ln1 | apply ld1) | exact HB.out)) hb); have n1_ := Aside0.mk (hbox); have n2_ := Aside0.mk ((by rw [hg]; exact (below_size (by repeat (first | (with_reducible first | exact HB.out | apply la1 | apply ln1 | apply ld1) | exact HB.out))) : w.heap.size ≤ gb189)); have n3_ := Aside0.mk ((by rw [hg]; exact (below_size (by repeat (first | (with_reducible first | exact HB.out | apply la1 | apply ln1 | apply ld1) | exact HB.out))) : w.heap.size ≤ gb189)); clear HB; have HB := n0_; have BK189 := n1_; have GW189 := n2_; have GE189 := n3_; clear n0_ n1_ n2_ n3_; clear hb hbox hg; have hcz4_0 : w3.cell? ⟨gb189, 0, none⟩ = some (.int .i64 a0_0) := (bc1 BK189.out 0).trans rfl; have hcz4_1 : w3.cell? ⟨gb189, 1, none⟩ = some (.int .u8 a0_1) := (bc1 BK189.out 1).trans rfl; have hcz4_2 : w3.cell? ⟨gb189, 2, none⟩ = some (.slice A0_2 l0_2.length c0_2) := (bc1 BK189.out 2).trans rfl; have hcz4_3 : w3.cell? ⟨gb189, 3, none⟩ = some (.string a0_3) := (bc1 BK189.out 3).trans rfl; have hcz4_4 : w3.cell? ⟨gb189, 4, none⟩ = some (.int .u8 a0_4) := (bc1 BK189.out 4).trans rfl; have hcz4_5 : w3.cell? ⟨gb189, 5, none⟩ = some (.string a0_5) := (bc1 BK189.out 5).trans rfl; have hfz4_0 := bz1 BK189.out 0; have hfz4_1 := bz1 BK189.out 1; have hfz4_2 := bz1 BK189.out 2; have hfz4_3 := bz1 BK189.out 3; have hfz4_4 := bz1 BK189.out 4; have hfz4_5 := bz1 BK189.out 5))
    go_ret
    exact ⟨by first | rfl | (simp [errW_none, errW_some] <;> rfl) | (simp [*, errW_none, errW_some] <;> rfl), by repeat (first | (with_reducible first | exact HB.out | apply la1 | apply ln1 | apply ld1 | refine ls1 ?_ GE189.out) | exact HB.out)⟩
  · rw [if_neg c2] at H
    have c2b0 : decide (4096 < (a0_5.size : Int)) = false := decide_eq_false c2
    have c2b1 : decide (4096 < a0_5.size) = false := decide_eq_false (by omega)
    clear c2
    by_cases c5 : a0_1 = 0
    · rw [if_pos c5] at H
      have c5b0 : (a0_1 == 0) = true := beq_iff_eq.mpr c5
      have c5b1 : (a0_1 != 0) = false := bne_eq_false_iff_eq.mpr c5
      clear c5
      replace H := Option.bind_eq_some_iff.mp H
      obtain ⟨t190, A60, H⟩ := H
      replace H : (if t190 = true then (if (a0_3.size : Int) > 2 then (some 1) else ((clavierref03_within.f k a0_3 32 47).bind fun t191 => (if t191 = true then ((clavierref03_within.f k a0_5 32 126).bind fun t192 => (if t192 = true then ((clavierref03_last.f k a0_0 a0_1 l0_2 a0_3 a0_4 a0_5).bind fun t193 => (if t193 = true then ((clavierref03_bare.f k a0_0 a0_1 l0_2 a0_3 a0_4 a0_5).bind fun t194 => (if t194 = true then (some 0) else (some 1))) else (some 1))) else (some 1))) else (some 1)))) else (some 1)) = some r := H
      have A6 := Aside0.mk A60
      clear A60
      by_cases c7 : t190 = true
      · subst c7
        have H1 : (if (a0_3.size : Int) > 2 then (some 1) else ((clavierref03_within.f k a0_3 32 47).bind fun t191 => (if t191 = true then ((clavierref03_within.f k a0_5 32 126).bind fun t192 => (if t192 = true then ((clavierref03_last.f k a0_0 a0_1 l0_2 a0_3 a0_4 a0_5).bind fun t193 => (if t193 = true then ((clavierref03_bare.f k a0_0 a0_1 l0_2 a0_3 a0_4 a0_5).bind fun t194 => (if t194 = true then (some 0) else (some 1))) else (some 1))) else (some 1))) else (some 1)))) = some r := by rw [if_pos rfl] at H; exact H
        clear H
        have H := H1
        clear H1
        by_cases c8 : (a0_3.size : Int) > 2
        · rw [if_pos c8] at H
          have c8b0 : decide (2 < (a0_3.size : Int)) = true := decide_eq_true c8
          have c8b1 : decide (2 < a0_3.size) = true := decide_eq_true (by omega)
          clear c8
          obtain rfl := Option.some.inj H
          go_enter Tryd.func26, Tryd.ntmps26
          go_wp2_with (first | ((with_reducible refine gate_dst (N := 1) rfl ?_); (try (refine gate_guard (by rfl) ?_; dsimp only)); refine box_event ?hg (N := 1) ?hd (cs := #[.int .i64 a0_0, .int .u8 a0_1, .slice A0_2 l0_2.length c0_2, .string a0_3, .int .u8 a0_4, .string a0_5]) (t := 30) ?hr ?_; (case hd => rfl); (case hg => rfl); (case hr => first | (go_simp; done) | (go_simp; rfl)); intro gb189 hg w9 hbox hb; have n0_ := Aside0.mk (below_step (by repeat (first | (with_reducible first | exact HB.out | apply la1 | apply ln1 | apply ld1) | exact HB.out)) hb); have n1_ := Aside0.mk (hbox); have n2_ := Aside0.mk ((by rw [hg]; exact (below_size (by repeat (first | (with_reducible first | exact HB.out | apply la1 | apply ln1 | apply ld1) | exact HB.out))) : w.heap.size ≤ gb189)); have n3_ := Aside0.mk ((by rw [hg]; exact (below_size (by repeat (first | (with_reducible first | exact HB.out | apply la1 | apply ln1 | apply ld1) | exact HB.out))) : w.heap.size ≤ gb189)); clear HB; have HB := n0_; have BK189 := n1_; have GW189 := n2_; have GE189 := n3_; clear n0_ n1_ n2_ n3_; clear hb hbox hg; have hcz10_0 : w9.cell? ⟨gb189, 0, none⟩ = some (.int .i64 a0_0) := (bc1 BK189.out 0).trans rfl; have hcz10_1 : w9.cell? ⟨gb189, 1, none⟩ = some (.int .u8 a0_1) := (bc1 BK189.out 1).trans rfl; have hcz10_2 : w9.cell? ⟨gb189, 2, none⟩ = some (.slice A0_2 l0_2.length c0_2) := (bc1 BK189.out 2).trans rfl; have hcz10_3 : w9.cell? ⟨gb189, 3, none⟩ = some (.string a0_3) := (bc1 BK189.out 3).trans rfl; have hcz10_4 : w9.cell? ⟨gb189, 4, none⟩ = some (.int .u8 a0_4) := (bc1 BK189.out 4).trans rfl; have hcz10_5 : w9.cell? ⟨gb189, 5, none⟩ = some (.string a0_5) := (bc1 BK189.out 5).trans rfl; have hfz10_0 := bz1 BK189.out 0; have hfz10_1 := bz1 BK189.out 1; have hfz10_2 := bz1 BK189.out 2; have hfz10_3 := bz1 BK189.out 3; have hfz10_4 := bz1 BK189.out 4; have hfz10_5 := bz1 BK189.out 5) | (go_at_call 49; (with_reducible refine (clavierref03_params.calls k _ _ l0_2 true _ ?side1 ?side2 A6.out).mono ?_); (case side1 => repeat (first | exact (Kd.C_below HR0_2.out HB.out) | (with_reducible refine Kd.C_alloc ?_ _) | (with_reducible refine Kd.C_drewN ?_ _) | (with_reducible refine Kd.C_drew ?_))); (case side2 => exact HC0_2.out); rintro e w' ⟨rfl, ⟨nd, rfl⟩⟩))
          go_ret
          exact ⟨by first | rfl | (simp [errW_none, errW_some] <;> rfl) | (simp [*, errW_none, errW_some] <;> rfl), by repeat (first | (with_reducible first | exact HB.out | apply la1 | apply ln1 | apply ld1 | refine ls1 ?_ GE189.out) | exact HB.out)⟩
        · rw [if_neg c8] at H
          have c8b0 : decide (2 < (a0_3.size : Int)) = false := decide_eq_false c8
          have c8b1 : decide (2 < a0_3.size) = false := decide_eq_false (by omega)
          clear c8
          replace H := Option.bind_eq_some_iff.mp H
          obtain ⟨t191, A110, H⟩ := H
          replace H : (if t191 = true then ((clavierref03_within.f k a0_5 32 126).bind fun t192 => (if t192 = true then ((clavierref03_last.f k a0_0 a0_1 l0_2 a0_3 a0_4 a0_5).bind fun t193 => (if t193 = true then ((clavierref03_bare.f k a0_0 a0_1 l0_2 a0_3 a0_4 a0_5).bind fun t194 => (if t194 = true then (some 0) else (some 1))) else (some 1))) else (some 1))) else (some 1)) = some r := H
          have A11 := Aside0.mk A110
          clear A110
          by_cases c12 : t191 = true
          · subst c12
            have H1 : ((clavierref03_within.f k a0_5 32 126).bind fun t192 => (if t192 = true then ((clavierref03_last.f k a0_0 a0_1 l0_2 a0_3 a0_4 a0_5).bind fun t193 => (if t193 = true then ((clavierref03_bare.f k a0_0 a0_1 l0_2 a0_3 a0_4 a0_5).bind fun t194 => (if t194 = true then (some 0) else (some 1))) else (some 1))) else (some 1))) = some r := by rw [if_pos rfl] at H; exact H
            clear H
            have H := H1
            clear H1
            replace H := Option.bind_eq_some_iff.mp H
            obtain ⟨t192, A130, H⟩ := H
            replace H : (if t192 = true then ((clavierref03_last.f k a0_0 a0_1 l0_2 a0_3 a0_4 a0_5).bind fun t193 => (if t193 = true then ((clavierref03_bare.f k a0_0 a0_1 l0_2 a0_3 a0_4 a0_5).bind fun t194 => (if t194 = true then (some 0) else (some 1))) else (some 1))) else (some 1)) = some r := H
            have A13 := Aside0.mk A130
            clear A130
            by_cases c14 : t192 = true
            · subst c14
              have H1 : ((clavierref03_last.f k a0_0 a0_1 l0_2 a0_3 a0_4 a0_5).bind fun t193 => (if t193 = true then ((clavierref03_bare.f k a0_0 a0_1 l0_2 a0_3 a0_4 a0_5).bind fun t194 => (if t194 = true then (some 0) else (some 1))) else (some 1))) = some r := by rw [if_pos rfl] at H; exact H
              clear H
              have H := H1
              clear H1
              replace H := Option.bind_eq_some_iff.mp H
              obtain ⟨t193, A150, H⟩ := H
              replace H : (if t193 = true then ((clavierref03_bare.f k a0_0 a0_1 l0_2 a0_3 a0_4 a0_5).bind fun t194 => (if t194 = true then (some 0) else (some 1))) else (some 1)) = some r := H
              have A15 := Aside0.mk A150
              clear A150
              by_cases c16 : t193 = true
              · subst c16
                have H1 : ((clavierref03_bare.f k a0_0 a0_1 l0_2 a0_3 a0_4 a0_5).bind fun t194 => (if t194 = true then (some 0) else (some 1))) = some r := by rw [if_pos rfl] at H; exact H
                clear H
                have H := H1
                clear H1
                replace H := Option.bind_eq_some_iff.mp H
                obtain ⟨t194, A170, H⟩ := H
                replace H : (if t194 = true then (some 0) else (some 1)) = some r := H
                have A17 := Aside0.mk A170
                clear A170
                by_cases c18 : t194 = true
                · subst c18
                  have H1 : (some 0) = some r := by rw [if_pos rfl] at H; exact H
                  clear H
                  have H := H1
                  clear H1
                  obtain rfl := Option.some.inj H
                  go_enter Tryd.func26, Tryd.ntmps26
                  go_wp2_with (first | ((with_reducible refine gate_dst (N := 1) rfl ?_); (try (refine gate_guard (by rfl) ?_; dsimp only)); refine box_event ?hg (N := 1) ?hd (cs := #[.int .i64 a0_0, .int .u8 a0_1, .slice A0_2 l0_2.length c0_2, .string a0_3, .int .u8 a0_4, .string a0_5]) (t := 30) ?hr ?_; (case hd => rfl); (case hg => rfl); (case hr => first | (go_simp; done) | (go_simp; rfl)); intro gb189 hg w19 hbox hb; have n0_ := Aside0.mk (below_step (by repeat (first | (with_reducible first | exact HB.out | apply la1 | apply ln1 | apply ld1) | exact HB.out)) hb); have n1_ := Aside0.mk (hbox); have n2_ := Aside0.mk ((by rw [hg]; exact (below_size (by repeat (first | (with_reducible first | exact HB.out | apply la1 | apply ln1 | apply ld1) | exact HB.out))) : w.heap.size ≤ gb189)); have n3_ := Aside0.mk ((by rw [hg]; exact (below_size (by repeat (first | (with_reducible first | exact HB.out | apply la1 | apply ln1 | apply ld1) | exact HB.out))) : w.heap.size ≤ gb189)); clear HB; have HB := n0_; have BK189 := n1_; have GW189 := n2_; have GE189 := n3_; clear n0_ n1_ n2_ n3_; clear hb hbox hg; have hcz20_0 : w19.cell? ⟨gb189, 0, none⟩ = some (.int .i64 a0_0) := (bc1 BK189.out 0).trans rfl; have hcz20_1 : w19.cell? ⟨gb189, 1, none⟩ = some (.int .u8 a0_1) := (bc1 BK189.out 1).trans rfl; have hcz20_2 : w19.cell? ⟨gb189, 2, none⟩ = some (.slice A0_2 l0_2.length c0_2) := (bc1 BK189.out 2).trans rfl; have hcz20_3 : w19.cell? ⟨gb189, 3, none⟩ = some (.string a0_3) := (bc1 BK189.out 3).trans rfl; have hcz20_4 : w19.cell? ⟨gb189, 4, none⟩ = some (.int .u8 a0_4) := (bc1 BK189.out 4).trans rfl; have hcz20_5 : w19.cell? ⟨gb189, 5, none⟩ = some (.string a0_5) := (bc1 BK189.out 5).trans rfl; have hfz20_0 := bz1 BK189.out 0; have hfz20_1 := bz1 BK189.out 1; have hfz20_2 := bz1 BK189.out 2; have hfz20_3 := bz1 BK189.out 3; have hfz20_4 := bz1 BK189.out 4; have hfz20_5 := bz1 BK189.out 5) | (go_at_call 49; (with_reducible refine (clavierref03_params.calls k _ _ l0_2 true _ ?side1 ?side2 A6.out).mono ?_); (case side1 => repeat (first | exact (Kd.C_below HR0_2.out HB.out) | (with_reducible refine Kd.C_alloc ?_ _) | (with_reducible refine Kd.C_drewN ?_ _) | (with_reducible refine Kd.C_drew ?_))); (case side2 => exact HC0_2.out); rintro e w' ⟨rfl, ⟨nd, rfl⟩⟩) | (go_at_call 50; (with_reducible refine (clavierref03_within.calls k a0_3 32 47 true _ A11.out).mono ?_); rintro e w' ⟨rfl, ⟨nd, rfl⟩⟩) | (go_at_call 50; (with_reducible refine (clavierref03_within.calls k a0_5 32 126 true _ A13.out).mono ?_); rintro e w' ⟨rfl, ⟨nd, rfl⟩⟩) | (go_at_call 51; (with_reducible refine (clavierref03_last.calls k a0_0 a0_1 _ _ l0_2 a0_3 a0_4 a0_5 true _ ?side1 ?side2 A15.out).mono ?_); (case side1 => repeat (first | exact (Kd.C_below HR0_2.out (by repeat (first | (with_reducible first | exact HB.out | apply la1 | apply ln1 | apply ld1 | refine ls1 ?_ GE189.out) | exact HB.out))) | (with_reducible refine Kd.C_alloc ?_ _) | (with_reducible refine Kd.C_drewN ?_ _) | (with_reducible refine Kd.C_drew ?_))); (case side2 => exact HC0_2.out); rintro e w21 ⟨rfl, hb⟩; have n0_ := Aside0.mk (bb1 (g := gb189) (o := .cells #[.int .i64 a0_0, .int .u8 a0_1, .slice A0_2 l0_2.length c0_2, .string a0_3, .int .u8 a0_4, .string a0_5] 30 (0, 0)) (by (with_reducible repeat (first | refine bn1 ?_ _ | refine bd1 ?_ | refine ba1 ?_ _)); exact BK189.out) hb); have n1_ := Aside0.mk (below_step (by repeat (first | (with_reducible first | exact HB.out | apply la1 | apply ln1 | apply ld1 | refine ls1 ?_ GE189.out) | exact HB.out)) hb); clear BK189; clear HB; have BK189 := n0_; have HB := n1_; clear n0_ n1_; (try clear hb); (try clear hb2); (try clear hk); (try clear hi); have hcz22_0 : w21.cell? ⟨gb189, 0, none⟩ = some (.int .i64 a0_0) := (bc1 BK189.out 0).trans rfl; have hcz22_1 : w21.cell? ⟨gb189, 1, none⟩ = some (.int .u8 a0_1) := (bc1 BK189.out 1).trans rfl; have hcz22_2 : w21.cell? ⟨gb189, 2, none⟩ = some (.slice A0_2 l0_2.length c0_2) := (bc1 BK189.out 2).trans rfl; have hcz22_3 : w21.cell? ⟨gb189, 3, none⟩ = some (.string a0_3) := (bc1 BK189.out 3).trans rfl; have hcz22_4 : w21.cell? ⟨gb189, 4, none⟩ = some (.int .u8 a0_4) := (bc1 BK189.out 4).trans rfl; have hcz22_5 : w21.cell? ⟨gb189, 5, none⟩ = some (.string a0_5) := (bc1 BK189.out 5).trans rfl; have hfz22_0 := bz1 BK189.out 0; have hfz22_1 := bz1 BK189.out 1; have hfz22_2 := bz1 BK189.out 2; have hfz22_3 := bz1 BK189.out 3; have hfz22_4 := bz1 BK189.out 4; have hfz22_5 := bz1 BK189.out 5) | (go_at_call 52; (with_reducible refine (clavierref03_bare.calls k a0_0 a0_1 _ _ l0_2 a0_3 a0_4 a0_5 true _ ?side1 ?side2 A17.out).mono ?_); (case side1 => repeat (first | exact (Kd.C_below HR0_2.out HB.out) | (with_reducible refine Kd.C_alloc ?_ _) | (with_reducible refine Kd.C_drewN ?_ _) | (with_reducible refine Kd.C_drew ?_))); (case side2 => exact HC0_2.out); rintro e w23 ⟨rfl, hb⟩; have n0_ := Aside0.mk (bb1 (g := gb189) (o := .cells #[.int .i64 a0_0, .int .u8 a0_1, .slice A0_2 l0_2.length c0_2, .string a0_3, .int .u8 a0_4, .string a0_5] 30 (0, 0)) (by (with_reducible repeat (first | refine bn1 ?_ _ | refine bd1 ?_ | refine ba1 ?_ _)); exact BK189.out) hb); have n1_ := Aside0.mk (below_step (by repeat (first | (with_reducible first | exact HB.out | apply la1 | apply ln1 | apply ld1 | refine ls1 ?_ GE189.out) | exact HB.out)) hb); clear BK189; clear HB; have BK189 := n0_; have HB := n1_; clear n0_ n1_; (try clear hb); (try clear hb2); (try clear hk); (try clear hi)))
                  go_ret
                  exact ⟨by first | rfl | (simp [errW_none, errW_some] <;> rfl) | (simp [*, errW_none, errW_some] <;> rfl), by repeat (first | (with_reducible first | exact HB.out | apply la1 | apply ln1 | apply ld1 | refine ls1 ?_ GE189.out) | exact HB.out)⟩
                · replace c18 := Bool.eq_false_iff.mpr c18
                  subst c18
                  have H1 : (some 1) = some r := by rw [if_neg (show ¬ (false = true) by decide)] at H; exact H
                  clear H
                  have H := H1
                  clear H1
                  obtain rfl := Option.some.inj H
                  go_enter Tryd.func26, Tryd.ntmps26
                  go_wp2_with (first | ((with_reducible refine gate_dst (N := 1) rfl ?_); (try (refine gate_guard (by rfl) ?_; dsimp only)); refine box_event ?hg (N := 1) ?hd (cs := #[.int .i64 a0_0, .int .u8 a0_1, .slice A0_2 l0_2.length c0_2, .string a0_3, .int .u8 a0_4, .string a0_5]) (t := 30) ?hr ?_; (case hd => rfl); (case hg => rfl); (case hr => first | (go_simp; done) | (go_simp; rfl)); intro gb189 hg w24 hbox hb; have n0_ := Aside0.mk (below_step (by repeat (first | (with_reducible first | exact HB.out | apply la1 | apply ln1 | apply ld1) | exact HB.out)) hb); have n1_ := Aside0.mk (hbox); have n2_ := Aside0.mk ((by rw [hg]; exact (below_size (by repeat (first | (with_reducible first | exact HB.out | apply la1 | apply ln1 | apply ld1) | exact HB.out))) : w.heap.size ≤ gb189)); have n3_ := Aside0.mk ((by rw [hg]; exact (below_size (by repeat (first | (with_reducible first | exact HB.out | apply la1 | apply ln1 | apply ld1) | exact HB.out))) : w.heap.size ≤ gb189)); clear HB; have HB := n0_; have BK189 := n1_; have GW189 := n2_; have GE189 := n3_; clear n0_ n1_ n2_ n3_; clear hb hbox hg; have hcz25_0 : w24.cell? ⟨gb189, 0, none⟩ = some (.int .i64 a0_0) := (bc1 BK189.out 0).trans rfl; have hcz25_1 : w24.cell? ⟨gb189, 1, none⟩ = some (.int .u8 a0_1) := (bc1 BK189.out 1).trans rfl; have hcz25_2 : w24.cell? ⟨gb189, 2, none⟩ = some (.slice A0_2 l0_2.length c0_2) := (bc1 BK189.out 2).trans rfl; have hcz25_3 : w24.cell? ⟨gb189, 3, none⟩ = some (.string a0_3) := (bc1 BK189.out 3).trans rfl; have hcz25_4 : w24.cell? ⟨gb189, 4, none⟩ = some (.int .u8 a0_4) := (bc1 BK189.out 4).trans rfl; have hcz25_5 : w24.cell? ⟨gb189, 5, none⟩ = some (.string a0_5) := (bc1 BK189.out 5).trans rfl; have hfz25_0 := bz1 BK189.out 0; have hfz25_1 := bz1 BK189.out 1; have hfz25_2 := bz1 BK189.out 2; have hfz25_3 := bz1 BK189.out 3; have hfz25_4 := bz1 BK189.out 4; have hfz25_5 := bz1 BK189.out 5) | (go_at_call 49; (with_reducible refine (clavierref03_params.calls k _ _ l0_2 true _ ?side1 ?side2 A6.out).mono ?_); (case side1 => repeat (first | exact (Kd.C_below HR0_2.out HB.out) | (with_reducible refine Kd.C_alloc ?_ _) | (with_reducible refine Kd.C_drewN ?_ _) | (with_reducible refine Kd.C_drew ?_))); (case side2 => exact HC0_2.out); rintro e w' ⟨rfl, ⟨nd, rfl⟩⟩) | (go_at_call 50; (with_reducible refine (clavierref03_within.calls k a0_3 32 47 true _ A11.out).mono ?_); rintro e w' ⟨rfl, ⟨nd, rfl⟩⟩) | (go_at_call 50; (with_reducible refine (clavierref03_within.calls k a0_5 32 126 true _ A13.out).mono ?_); rintro e w' ⟨rfl, ⟨nd, rfl⟩⟩) | (go_at_call 51; (with_reducible refine (clavierref03_last.calls k a0_0 a0_1 _ _ l0_2 a0_3 a0_4 a0_5 true _ ?side1 ?side2 A15.out).mono ?_); (case side1 => repeat (first | exact (Kd.C_below HR0_2.out (by repeat (first | (with_reducible first | exact HB.out | apply la1 | apply ln1 | apply ld1 | refine ls1 ?_ GE189.out) | exact HB.out))) | (with_reducible refine Kd.C_alloc ?_ _) | (with_reducible refine Kd.C_drewN ?_ _) | (with_reducible refine Kd.C_drew ?_))); (case side2 => exact HC0_2.out); rintro e w26 ⟨rfl, hb⟩; have n0_ := Aside0.mk (bb1 (g := gb189) (o := .cells #[.int .i64 a0_0, .int .u8 a0_1, .slice A0_2 l0_2.length c0_2, .string a0_3, .int .u8 a0_4, .string a0_5] 30 (0, 0)) (by (with_reducible repeat (first | refine bn1 ?_ _ | refine bd1 ?_ | refine ba1 ?_ _)); exact BK189.out) hb); have n1_ := Aside0.mk (below_step (by repeat (first | (with_reducible first | exact HB.out | apply la1 | apply ln1 | apply ld1 | refine ls1 ?_ GE189.out) | exact HB.out)) hb); clear BK189; clear HB; have BK189 := n0_; have HB := n1_; clear n0_ n1_; (try clear hb); (try clear hb2); (try clear hk); (try clear hi); have hcz27_0 : w26.cell? ⟨gb189, 0, none⟩ = some (.int .i64 a0_0) := (bc1 BK189.out 0).trans rfl; have hcz27_1 : w26.cell? ⟨gb189, 1, none⟩ = some (.int .u8 a0_1) := (bc1 BK189.out 1).trans rfl; have hcz27_2 : w26.cell? ⟨gb189, 2, none⟩ = some (.slice A0_2 l0_2.length c0_2) := (bc1 BK189.out 2).trans rfl; have hcz27_3 : w26.cell? ⟨gb189, 3, none⟩ = some (.string a0_3) := (bc1 BK189.out 3).trans rfl; have hcz27_4 : w26.cell? ⟨gb189, 4, none⟩ = some (.int .u8 a0_4) := (bc1 BK189.out 4).trans rfl; have hcz27_5 : w26.cell? ⟨gb189, 5, none⟩ = some (.string a0_5) := (bc1 BK189.out 5).trans rfl; have hfz27_0 := bz1 BK189.out 0; have hfz27_1 := bz1 BK189.out 1; have hfz27_2 := bz1 BK189.out 2; have hfz27_3 := bz1 BK189.out 3; have hfz27_4 := bz1 BK189.out 4; have hfz27_5 := bz1 BK189.out 5) | (go_at_call 52; (with_reducible refine (clavierref03_bare.calls k a0_0 a0_1 _ _ l0_2 a0_3 a0_4 a0_5 false _ ?side1 ?side2 A17.out).mono ?_); (case side1 => repeat (first | exact (Kd.C_below HR0_2.out HB.out) | (with_reducible refine Kd.C_alloc ?_ _) | (with_reducible refine Kd.C_drewN ?_ _) | (with_reducible refine Kd.C_drew ?_))); (case side2 => exact HC0_2.out); rintro e w28 ⟨rfl, hb⟩; have n0_ := Aside0.mk (bb1 (g := gb189) (o := .cells #[.int .i64 a0_0, .int .u8 a0_1, .slice A0_2 l0_2.length c0_2, .string a0_3, .int .u8 a0_4, .string a0_5] 30 (0, 0)) (by (with_reducible repeat (first | refine bn1 ?_ _ | refine bd1 ?_ | refine ba1 ?_ _)); exact BK189.out) hb); have n1_ := Aside0.mk (below_step (by repeat (first | (with_reducible first | exact HB.out | apply la1 | apply ln1 | apply ld1 | refine ls1 ?_ GE189.out) | exact HB.out)) hb); clear BK189; clear HB; have BK189 := n0_; have HB := n1_; clear n0_ n1_; (try clear hb); (try clear hb2); (try clear hk); (try clear hi)))
                  go_ret
                  exact ⟨by first | rfl | (simp [errW_none, errW_some] <;> rfl) | (simp [*, errW_none, errW_some] <;> rfl), by repeat (first | (with_reducible first | exact HB.out | apply la1 | apply ln1 | apply ld1 | refine ls1 ?_ GE189.out) | exact HB.out)⟩
              · replace c16 := Bool.eq_false_iff.mpr c16
                subst c16
                have H1 : (some 1) = some r := by rw [if_neg (show ¬ (false = true) by decide)] at H; exact H
                clear H
                have H := H1
                clear H1
                obtain rfl := Option.some.inj H
                go_enter Tryd.func26, Tryd.ntmps26
                go_wp2_with (first | ((with_reducible refine gate_dst (N := 1) rfl ?_); (try (refine gate_guard (by rfl) ?_; dsimp only)); refine box_event ?hg (N := 1) ?hd (cs := #[.int .i64 a0_0, .int .u8 a0_1, .slice A0_2 l0_2.length c0_2, .string a0_3, .int .u8 a0_4, .string a0_5]) (t := 30) ?hr ?_; (case hd => rfl); (case hg => rfl); (case hr => first | (go_simp; done) | (go_simp; rfl)); intro gb189 hg w29 hbox hb; have n0_ := Aside0.mk (below_step (by repeat (first | (with_reducible first | exact HB.out | apply la1 | apply ln1 | apply ld1) | exact HB.out)) hb); have n1_ := Aside0.mk (hbox); have n2_ := Aside0.mk ((by rw [hg]; exact (below_size (by repeat (first | (with_reducible first | exact HB.out | apply la1 | apply ln1 | apply ld1) | exact HB.out))) : w.heap.size ≤ gb189)); have n3_ := Aside0.mk ((by rw [hg]; exact (below_size (by repeat (first | (with_reducible first | exact HB.out | apply la1 | apply ln1 | apply ld1) | exact HB.out))) : w.heap.size ≤ gb189)); clear HB; have HB := n0_; have BK189 := n1_; have GW189 := n2_; have GE189 := n3_; clear n0_ n1_ n2_ n3_; clear hb hbox hg; have hcz30_0 : w29.cell? ⟨gb189, 0, none⟩ = some (.int .i64 a0_0) := (bc1 BK189.out 0).trans rfl; have hcz30_1 : w29.cell? ⟨gb189, 1, none⟩ = some (.int .u8 a0_1) := (bc1 BK189.out 1).trans rfl; have hcz30_2 : w29.cell? ⟨gb189, 2, none⟩ = some (.slice A0_2 l0_2.length c0_2) := (bc1 BK189.out 2).trans rfl; have hcz30_3 : w29.cell? ⟨gb189, 3, none⟩ = some (.string a0_3) := (bc1 BK189.out 3).trans rfl; have hcz30_4 : w29.cell? ⟨gb189, 4, none⟩ = some (.int .u8 a0_4) := (bc1 BK189.out 4).trans rfl; have hcz30_5 : w29.cell? ⟨gb189, 5, none⟩ = some (.string a0_5) := (bc1 BK189.out 5).trans rfl; have hfz30_0 := bz1 BK189.out 0; have hfz30_1 := bz1 BK189.out 1; have hfz30_2 := bz1 BK189.out 2; have hfz30_3 := bz1 BK189.out 3; have hfz30_4 := bz1 BK189.out 4; have hfz30_5 := bz1 BK189.out 5) | (go_at_call 49; (with_reducible refine (clavierref03_params.calls k _ _ l0_2 true _ ?side1 ?side2 A6.out).mono ?_); (case side1 => repeat (first | exact (Kd.C_below HR0_2.out HB.out) | (with_reducible refine Kd.C_alloc ?_ _) | (with_reducible refine Kd.C_drewN ?_ _) | (with_reducible refine Kd.C_drew ?_))); (case side2 => exact HC0_2.out); rintro e w' ⟨rfl, ⟨nd, rfl⟩⟩) | (go_at_call 50; (with_reducible refine (clavierref03_within.calls k a0_3 32 47 true _ A11.out).mono ?_); rintro e w' ⟨rfl, ⟨nd, rfl⟩⟩) | (go_at_call 50; (with_reducible refine (clavierref03_within.calls k a0_5 32 126 true _ A13.out).mono ?_); rintro e w' ⟨rfl, ⟨nd, rfl⟩⟩) | (go_at_call 51; (with_reducible refine (clavierref03_last.calls k a0_0 a0_1 _ _ l0_2 a0_3 a0_4 a0_5 false _ ?side1 ?side2 A15.out).mono ?_); (case side1 => repeat (first | exact (Kd.C_below HR0_2.out (by repeat (first | (with_reducible first | exact HB.out | apply la1 | apply ln1 | apply ld1 | refine ls1 ?_ GE189.out) | exact HB.out))) | (with_reducible refine Kd.C_alloc ?_ _) | (with_reducible refine Kd.C_drewN ?_ _) | (with_reducible refine Kd.C_drew ?_))); (case side2 => exact HC0_2.out); rintro e w31 ⟨rfl, hb⟩; have n0_ := Aside0.mk (bb1 (g := gb189) (o := .cells #[.int .i64 a0_0, .int .u8 a0_1, .slice A0_2 l0_2.length c0_2, .string a0_3, .int .u8 a0_4, .string a0_5] 30 (0, 0)) (by (with_reducible repeat (first | refine bn1 ?_ _ | refine bd1 ?_ | refine ba1 ?_ _)); exact BK189.out) hb); have n1_ := Aside0.mk (below_step (by repeat (first | (with_reducible first | exact HB.out | apply la1 | apply ln1 | apply ld1 | refine ls1 ?_ GE189.out) | exact HB.out)) hb); clear BK189; clear HB; have BK189 := n0_; have HB := n1_; clear n0_ n1_; (try clear hb); (try clear hb2); (try clear hk); (try clear hi)))
                go_ret
                exact ⟨by first | rfl | (simp [errW_none, errW_some] <;> rfl) | (simp [*, errW_none, errW_some] <;> rfl), by repeat (first | (with_reducible first | exact HB.out | apply la1 | apply ln1 | apply ld1 | refine ls1 ?_ GE189.out) | exact HB.out)⟩
            · replace c14 := Bool.eq_false_iff.mpr c14
              subst c14
              have H1 : (some 1) = some r := by rw [if_neg (show ¬ (false = true) by decide)] at H; exact H
              clear H
              have H := H1
              clear H1
              obtain rfl := Option.some.inj H
              go_enter Tryd.func26, Tryd.ntmps26
              go_wp2_with (first | ((with_reducible refine gate_dst (N := 1) rfl ?_); (try (refine gate_guard (by rfl) ?_; dsimp only)); refine box_event ?hg (N := 1) ?hd (cs := #[.int .i64 a0_0, .int .u8 a0_1, .slice A0_2 l0_2.length c0_2, .string a0_3, .int .u8 a0_4, .string a0_5]) (t := 30) ?hr ?_; (case hd => rfl); (case hg => rfl); (case hr => first | (go_simp; done) | (go_simp; rfl)); intro gb189 hg w32 hbox hb; have n0_ := Aside0.mk (below_step (by repeat (first | (with_reducible first | exact HB.out | apply la1 | apply ln1 | apply ld1) | exact HB.out)) hb); have n1_ := Aside0.mk (hbox); have n2_ := Aside0.mk ((by rw [hg]; exact (below_size (by repeat (first | (with_reducible first | exact HB.out | apply la1 | apply ln1 | apply ld1) | exact HB.out))) : w.heap.size ≤ gb189)); have n3_ := Aside0.mk ((by rw [hg]; exact (below_size (by repeat (first | (with_reducible first | exact HB.out | apply la1 | apply ln1 | apply ld1) | exact HB.out))) : w.heap.size ≤ gb189)); clear HB; have HB := n0_; have BK189 := n1_; have GW189 := n2_; have GE189 := n3_; clear n0_ n1_ n2_ n3_; clear hb hbox hg; have hcz33_0 : w32.cell? ⟨gb189, 0, none⟩ = some (.int .i64 a0_0) := (bc1 BK189.out 0).trans rfl; have hcz33_1 : w32.cell? ⟨gb189, 1, none⟩ = some (.int .u8 a0_1) := (bc1 BK189.out 1).trans rfl; have hcz33_2 : w32.cell? ⟨gb189, 2, none⟩ = some (.slice A0_2 l0_2.length c0_2) := (bc1 BK189.out 2).trans rfl; have hcz33_3 : w32.cell? ⟨gb189, 3, none⟩ = some (.string a0_3) := (bc1 BK189.out 3).trans rfl; have hcz33_4 : w32.cell? ⟨gb189, 4, none⟩ = some (.int .u8 a0_4) := (bc1 BK189.out 4).trans rfl; have hcz33_5 : w32.cell? ⟨gb189, 5, none⟩ = some (.string a0_5) := (bc1 BK189.out 5).trans rfl; have hfz33_0 := bz1 BK189.out 0; have hfz33_1 := bz1 BK189.out 1; have hfz33_2 := bz1 BK189.out 2; have hfz33_3 := bz1 BK189.out 3; have hfz33_4 := bz1 BK189.out 4; have hfz33_5 := bz1 BK189.out 5) | (go_at_call 49; (with_reducible refine (clavierref03_params.calls k _ _ l0_2 true _ ?side1 ?side2 A6.out).mono ?_); (case side1 => repeat (first | exact (Kd.C_below HR0_2.out HB.out) | (with_reducible refine Kd.C_alloc ?_ _) | (with_reducible refine Kd.C_drewN ?_ _) | (with_reducible refine Kd.C_drew ?_))); (case side2 => exact HC0_2.out); rintro e w' ⟨rfl, ⟨nd, rfl⟩⟩) | (go_at_call 50; (with_reducible refine (clavierref03_within.calls k a0_3 32 47 true _ A11.out).mono ?_); rintro e w' ⟨rfl, ⟨nd, rfl⟩⟩) | (go_at_call 50; (with_reducible refine (clavierref03_within.calls k a0_5 32 126 false _ A13.out).mono ?_); rintro e w' ⟨rfl, ⟨nd, rfl⟩⟩))
              go_ret
              exact ⟨by first | rfl | (simp [errW_none, errW_some] <;> rfl) | (simp [*, errW_none, errW_some] <;> rfl), by repeat (first | (with_reducible first | exact HB.out | apply la1 | apply ln1 | apply ld1 | refine ls1 ?_ GE189.out) | exact HB.out)⟩
          · replace c12 := Bool.eq_false_iff.mpr c12
            subst c12
            have H1 : (some 1) = some r := by rw [if_neg (show ¬ (false = true) by decide)] at H; exact H
            clear H
            have H := H1
            clear H1
            obtain rfl := Option.some.inj H
            go_enter Tryd.func26, Tryd.ntmps26
            go_wp2_with (first | ((with_reducible refine gate_dst (N := 1) rfl ?_); (try (refine gate_guard (by rfl) ?_; dsimp only)); refine box_event ?hg (N := 1) ?hd (cs := #[.int .i64 a0_0, .int .u8 a0_1, .slice A0_2 l0_2.length c0_2, .string a0_3, .int .u8 a0_4, .string a0_5]) (t := 30) ?hr ?_; (case hd => rfl); (case hg => rfl); (case hr => first | (go_simp; done) | (go_simp; rfl)); intro gb189 hg w34 hbox hb; have n0_ := Aside0.mk (below_step (by repeat (first | (with_reducible first | exact HB.out | apply la1 | apply ln1 | apply ld1) | exact HB.out)) hb); have n1_ := Aside0.mk (hbox); have n2_ := Aside0.mk ((by rw [hg]; exact (below_size (by repeat (first | (with_reducible first | exact HB.out | apply la1 | apply ln1 | apply ld1) | exact HB.out))) : w.heap.size ≤ gb189)); have n3_ := Aside0.mk ((by rw [hg]; exact (below_size (by repeat (first | (with_reducible first | exact HB.out | apply la1 | apply ln1 | apply ld1) | exact HB.out))) : w.heap.size ≤ gb189)); clear HB; have HB := n0_; have BK189 := n1_; have GW189 := n2_; have GE189 := n3_; clear n0_ n1_ n2_ n3_; clear hb hbox hg; have hcz35_0 : w34.cell? ⟨gb189, 0, none⟩ = some (.int .i64 a0_0) := (bc1 BK189.out 0).trans rfl; have hcz35_1 : w34.cell? ⟨gb189, 1, none⟩ = some (.int .u8 a0_1) := (bc1 BK189.out 1).trans rfl; have hcz35_2 : w34.cell? ⟨gb189, 2, none⟩ = some (.slice A0_2 l0_2.length c0_2) := (bc1 BK189.out 2).trans rfl; have hcz35_3 : w34.cell? ⟨gb189, 3, none⟩ = some (.string a0_3) := (bc1 BK189.out 3).trans rfl; have hcz35_4 : w34.cell? ⟨gb189, 4, none⟩ = some (.int .u8 a0_4) := (bc1 BK189.out 4).trans rfl; have hcz35_5 : w34.cell? ⟨gb189, 5, none⟩ = some (.string a0_5) := (bc1 BK189.out 5).trans rfl; have hfz35_0 := bz1 BK189.out 0; have hfz35_1 := bz1 BK189.out 1; have hfz35_2 := bz1 BK189.out 2; have hfz35_3 := bz1 BK189.out 3; have hfz35_4 := bz1 BK189.out 4; have hfz35_5 := bz1 BK189.out 5) | (go_at_call 49; (with_reducible refine (clavierref03_params.calls k _ _ l0_2 true _ ?side1 ?side2 A6.out).mono ?_); (case side1 => repeat (first | exact (Kd.C_below HR0_2.out HB.out) | (with_reducible refine Kd.C_alloc ?_ _) | (with_reducible refine Kd.C_drewN ?_ _) | (with_reducible refine Kd.C_drew ?_))); (case side2 => exact HC0_2.out); rintro e w' ⟨rfl, ⟨nd, rfl⟩⟩) | (go_at_call 50; (with_reducible refine (clavierref03_within.calls k a0_3 32 47 false _ A11.out).mono ?_); rintro e w' ⟨rfl, ⟨nd, rfl⟩⟩))
            go_ret
            exact ⟨by first | rfl | (simp [errW_none, errW_some] <;> rfl) | (simp [*, errW_none, errW_some] <;> rfl), by repeat (first | (with_reducible first | exact HB.out | apply la1 | apply ln1 | apply ld1 | refine ls1 ?_ GE189.out) | exact HB.out)⟩
      · replace c7 := Bool.eq_false_iff.mpr c7
        subst c7
        have H1 : (some 1) = some r := by rw [if_neg (show ¬ (false = true) by decide)] at H; exact H
        clear H
        have H := H1
        clear H1
        obtain rfl := Option.some.inj H
        go_enter Tryd.func26, Tryd.ntmps26
        go_wp2_with (first | ((with_reducible refine gate_dst (N := 1) rfl ?_); (try (refine gate_guard (by rfl) ?_; dsimp only)); refine box_event ?hg (N := 1) ?hd (cs := #[.int .i64 a0_0, .int .u8 a0_1, .slice A0_2 l0_2.length c0_2, .string a0_3, .int .u8 a0_4, .string a0_5]) (t := 30) ?hr ?_; (case hd => rfl); (case hg => rfl); (case hr => first | (go_simp; done) | (go_simp; rfl)); intro gb189 hg w36 hbox hb; have n0_ := Aside0.mk (below_step (by repeat (first | (with_reducible first | exact HB.out | apply la1 | apply ln1 | apply ld1) | exact HB.out)) hb); have n1_ := Aside0.mk (hbox); have n2_ := Aside0.mk ((by rw [hg]; exact (below_size (by repeat (first | (with_reducible first | exact HB.out | apply la1 | apply ln1 | apply ld1) | exact HB.out))) : w.heap.size ≤ gb189)); have n3_ := Aside0.mk ((by rw [hg]; exact (below_size (by repeat (first | (with_reducible first | exact HB.out | apply la1 | apply ln1 | apply ld1) | exact HB.out))) : w.heap.size ≤ gb189)); clear HB; have HB := n0_; have BK189 := n1_; have GW189 := n2_; have GE189 := n3_; clear n0_ n1_ n2_ n3_; clear hb hbox hg; have hcz37_0 : w36.cell? ⟨gb189, 0, none⟩ = some (.int .i64 a0_0) := (bc1 BK189.out 0).trans rfl; have hcz37_1 : w36.cell? ⟨gb189, 1, none⟩ = some (.int .u8 a0_1) := (bc1 BK189.out 1).trans rfl; have hcz37_2 : w36.cell? ⟨gb189, 2, none⟩ = some (.slice A0_2 l0_2.length c0_2) := (bc1 BK189.out 2).trans rfl; have hcz37_3 : w36.cell? ⟨gb189, 3, none⟩ = some (.string a0_3) := (bc1 BK189.out 3).trans rfl; have hcz37_4 : w36.cell? ⟨gb189, 4, none⟩ = some (.int .u8 a0_4) := (bc1 BK189.out 4).trans rfl; have hcz37_5 : w36.cell? ⟨gb189, 5, none⟩ = some (.string a0_5) := (bc1 BK189.out 5).trans rfl; have hfz37_0 := bz1 BK189.out 0; have hfz37_1 := bz1 BK189.out 1; have hfz37_2 := bz1 BK189.out 2; have hfz37_3 := bz1 BK189.out 3; have hfz37_4 := bz1 BK189.out 4; have hfz37_5 := bz1 BK189.out 5) | (go_at_call 49; (with_reducible refine (clavierref03_params.calls k _ _ l0_2 false _ ?side1 ?side2 A6.out).mono ?_); (case side1 => repeat (first | exact (Kd.C_below HR0_2.out HB.out) | (with_reducible refine Kd.C_alloc ?_ _) | (with_reducible refine Kd.C_drewN ?_ _) | (with_reducible refine Kd.C_drew ?_))); (case side2 => exact HC0_2.out); rintro e w' ⟨rfl, ⟨nd, rfl⟩⟩))
        go_ret
        exact ⟨by first | rfl | (simp [errW_none, errW_some] <;> rfl) | (simp [*, errW_none, errW_some] <;> rfl), by repeat (first | (with_reducible first | exact HB.out | apply la1 | apply ln1 | apply ld1 | refine ls1 ?_ GE189.out) | exact HB.out)⟩
    · rw [if_neg c5] at H
      have c5b0 : (a0_1 == 0) = false := beq_eq_false_iff_ne.mpr c5
      have c5b1 : (a0_1 != 0) = true := bne_iff_ne.mpr c5
      by_cases c38 : a0_1 < 60
      · rw [if_pos c38] at H
        have c38b0 : decide (a0_1 < 60) = true := decide_eq_true c38
        clear c38
        obtain rfl := Option.some.inj H
        go_enter Tryd.func26, Tryd.ntmps26
        go_wp2_with (first | ((with_reducible refine gate_dst (N := 1) rfl ?_); (try (refine gate_guard (by rfl) ?_; dsimp only)); refine box_event ?hg (N := 1) ?hd (cs := #[.int .i64 a0_0, .int .u8 a0_1, .slice A0_2 l0_2.length c0_2, .string a0_3, .int .u8 a0_4, .string a0_5]) (t := 30) ?hr ?_; (case hd => rfl); (case hg => rfl); (case hr => first | (go_simp; done) | (go_simp; rfl)); intro gb189 hg w39 hbox hb; have n0_ := Aside0.mk (below_step (by repeat (first | (with_reducible first | exact HB.out | apply la1 | apply ln1 | apply ld1) | exact HB.out)) hb); have n1_ := Aside0.mk (hbox); have n2_ := Aside0.mk ((by rw [hg]; exact (below_size (by repeat (first | (with_reducible first | exact HB.out | apply la1 | apply ln1 | apply ld1) | exact HB.out))) : w.heap.size ≤ gb189)); have n3_ := Aside0.mk ((by rw [hg]; exact (below_size (by repeat (first | (with_reducible first | exact HB.out | apply la1 | apply ln1 | apply ld1) | exact HB.out))) : w.heap.size ≤ gb189)); clear HB; have HB := n0_; have BK189 := n1_; have GW189 := n2_; have GE189 := n3_; clear n0_ n1_ n2_ n3_; clear hb hbox hg; have hcz40_0 : w39.cell? ⟨gb189, 0, none⟩ = some (.int .i64 a0_0) := (bc1 BK189.out 0).trans rfl; have hcz40_1 : w39.cell? ⟨gb189, 1, none⟩ = some (.int .u8 a0_1) := (bc1 BK189.out 1).trans rfl; have hcz40_2 : w39.cell? ⟨gb189, 2, none⟩ = some (.slice A0_2 l0_2.length c0_2) := (bc1 BK189.out 2).trans rfl; have hcz40_3 : w39.cell? ⟨gb189, 3, none⟩ = some (.string a0_3) := (bc1 BK189.out 3).trans rfl; have hcz40_4 : w39.cell? ⟨gb189, 4, none⟩ = some (.int .u8 a0_4) := (bc1 BK189.out 4).trans rfl; have hcz40_5 : w39.cell? ⟨gb189, 5, none⟩ = some (.string a0_5) := (bc1 BK189.out 5).trans rfl; have hfz40_0 := bz1 BK189.out 0; have hfz40_1 := bz1 BK189.out 1; have hfz40_2 := bz1 BK189.out 2; have hfz40_3 := bz1 BK189.out 3; have hfz40_4 := bz1 BK189.out 4; have hfz40_5 := bz1 BK189.out 5))
        go_ret
        exact ⟨by first | rfl | (simp [errW_none, errW_some] <;> rfl) | (simp [*, errW_none, errW_some] <;> rfl), by repeat (first | (with_reducible first | exact HB.out | apply la1 | apply ln1 | apply ld1 | refine ls1 ?_ GE189.out) | exact HB.out)⟩
      · rw [if_neg c38] at H
        have c38b0 : decide (a0_1 < 60) = false := decide_eq_false c38
        clear c38
        by_cases c41 : a0_1 > 63
        · rw [if_pos c41] at H
          have c41b0 : decide (63 < a0_1) = true := decide_eq_true c41
          clear c41
          obtain rfl := Option.some.inj H
          go_enter Tryd.func26, Tryd.ntmps26
          go_wp2_with (first | ((with_reducible refine gate_dst (N := 1) rfl ?_); (try (refine gate_guard (by rfl) ?_; dsimp only)); refine box_event ?hg (N := 1) ?hd (cs := #[.int .i64 a0_0, .int .u8 a0_1, .slice A0_2 l0_2.length c0_2, .string a0_3, .int .u8 a0_4, .string a0_5]) (t := 30) ?hr ?_; (case hd => rfl); (case hg => rfl); (case hr => first | (go_simp; done) | (go_simp; rfl)); intro gb189 hg w42 hbox hb; have n0_ := Aside0.mk (below_step (by repeat (first | (with_reducible first | exact HB.out | apply la1 | apply ln1 | apply ld1) | exact HB.out)) hb); have n1_ := Aside0.mk (hbox); have n2_ := Aside0.mk ((by rw [hg]; exact (below_size (by repeat (first | (with_reducible first | exact HB.out | apply la1 | apply ln1 | apply ld1) | exact HB.out))) : w.heap.size ≤ gb189)); have n3_ := Aside0.mk ((by rw [hg]; exact (below_size (by repeat (first | (with_reducible first | exact HB.out | apply la1 | apply ln1 | apply ld1) | exact HB.out))) : w.heap.size ≤ gb189)); clear HB; have HB := n0_; have BK189 := n1_; have GW189 := n2_; have GE189 := n3_; clear n0_ n1_ n2_ n3_; clear hb hbox hg; have hcz43_0 : w42.cell? ⟨gb189, 0, none⟩ = some (.int .i64 a0_0) := (bc1 BK189.out 0).trans rfl; have hcz43_1 : w42.cell? ⟨gb189, 1, none⟩ = some (.int .u8 a0_1) := (bc1 BK189.out 1).trans rfl; have hcz43_2 : w42.cell? ⟨gb189, 2, none⟩ = some (.slice A0_2 l0_2.length c0_2) := (bc1 BK189.out 2).trans rfl; have hcz43_3 : w42.cell? ⟨gb189, 3, none⟩ = some (.string a0_3) := (bc1 BK189.out 3).trans rfl; have hcz43_4 : w42.cell? ⟨gb189, 4, none⟩ = some (.int .u8 a0_4) := (bc1 BK189.out 4).trans rfl; have hcz43_5 : w42.cell? ⟨gb189, 5, none⟩ = some (.string a0_5) := (bc1 BK189.out 5).trans rfl; have hfz43_0 := bz1 BK189.out 0; have hfz43_1 := bz1 BK189.out 1; have hfz43_2 := bz1 BK189.out 2; have hfz43_3 := bz1 BK189.out 3; have hfz43_4 := bz1 BK189.out 4; have hfz43_5 := bz1 BK189.out 5))
          go_ret
          exact ⟨by first | rfl | (simp [errW_none, errW_some] <;> rfl) | (simp [*, errW_none, errW_some] <;> rfl), by repeat (first | (with_reducible first | exact HB.out | apply la1 | apply ln1 | apply ld1 | refine ls1 ?_ GE189.out) | exact HB.out)⟩
        · rw [if_neg c41] at H
          have c41b0 : decide (63 < a0_1) = false := decide_eq_false c41
          clear c41
          replace H := Option.bind_eq_some_iff.mp H
          obtain ⟨t195, A440, H⟩ := H
          replace H : (if t195 = true then (if (a0_3.size : Int) > 2 then (some 1) else ((clavierref03_within.f k a0_3 32 47).bind fun t196 => (if t196 = true then ((clavierref03_within.f k a0_5 32 126).bind fun t197 => (if t197 = true then ((clavierref03_last.f k a0_0 a0_1 l0_2 a0_3 a0_4 a0_5).bind fun t198 => (if t198 = true then ((clavierref03_bare.f k a0_0 a0_1 l0_2 a0_3 a0_4 a0_5).bind fun t199 => (if t199 = true then (some 0) else (some 1))) else (some 1))) else (some 1))) else (some 1)))) else (some 1)) = some r := H
          have A44 := Aside0.mk A440
          clear A440
          by_cases c45 : t195 = true
          · subst c45
            have H1 : (if (a0_3.size : Int) > 2 then (some 1) else ((clavierref03_within.f k a0_3 32 47).bind fun t196 => (if t196 = true then ((clavierref03_within.f k a0_5 32 126).bind fun t197 => (if t197 = true then ((clavierref03_last.f k a0_0 a0_1 l0_2 a0_3 a0_4 a0_5).bind fun t198 => (if t198 = true then ((clavierref03_bare.f k a0_0 a0_1 l0_2 a0_3 a0_4 a0_5).bind fun t199 => (if t199 = true then (some 0) else (some 1))) else (some 1))) else (some 1))) else (some 1)))) = some r := by rw [if_pos rfl] at H; exact H
            clear H
            have H := H1
            clear H1
            by_cases c46 : (a0_3.size : Int) > 2
            · rw [if_pos c46] at H
              have c46b0 : decide (2 < (a0_3.size : Int)) = true := decide_eq_true c46
              have c46b1 : decide (2 < a0_3.size) = true := decide_eq_true (by omega)
              clear c46
              obtain rfl := Option.some.inj H
              go_enter Tryd.func26, Tryd.ntmps26
              go_wp2_with (first | ((with_reducible refine gate_dst (N := 1) rfl ?_); (try (refine gate_guard (by rfl) ?_; dsimp only)); refine box_event ?hg (N := 1) ?hd (cs := #[.int .i64 a0_0, .int .u8 a0_1, .slice A0_2 l0_2.length c0_2, .string a0_3, .int .u8 a0_4, .string a0_5]) (t := 30) ?hr ?_; (case hd => rfl); (case hg => rfl); (case hr => first | (go_simp; done) | (go_simp; rfl)); intro gb189 hg w47 hbox hb; have n0_ := Aside0.mk (below_step (by repeat (first | (with_reducible first | exact HB.out | apply la1 | apply ln1 | apply ld1) | exact HB.out)) hb); have n1_ := Aside0.mk (hbox); have n2_ := Aside0.mk ((by rw [hg]; exact (below_size (by repeat (first | (with_reducible first | exact HB.out | apply la1 | apply ln1 | apply ld1) | exact HB.out))) : w.heap.size ≤ gb189)); have n3_ := Aside0.mk ((by rw [hg]; exact (below_size (by repeat (first | (with_reducible first | exact HB.out | apply la1 | apply ln1 | apply ld1) | exact HB.out))) : w.heap.size ≤ gb189)); clear HB; have HB := n0_; have BK189 := n1_; have GW189 := n2_; have GE189 := n3_; clear n0_ n1_ n2_ n3_; clear hb hbox hg; have hcz48_0 : w47.cell? ⟨gb189, 0, none⟩ = some (.int .i64 a0_0) := (bc1 BK189.out 0).trans rfl; have hcz48_1 : w47.cell? ⟨gb189, 1, none⟩ = some (.int .u8 a0_1) := (bc1 BK189.out 1).trans rfl; have hcz48_2 : w47.cell? ⟨gb189, 2, none⟩ = some (.slice A0_2 l0_2.length c0_2) := (bc1 BK189.out 2).trans rfl; have hcz48_3 : w47.cell? ⟨gb189, 3, none⟩ = some (.string a0_3) := (bc1 BK189.out 3).trans rfl; have hcz48_4 : w47.cell? ⟨gb189, 4, none⟩ = some (.int .u8 a0_4) := (bc1 BK189.out 4).trans rfl; have hcz48_5 : w47.cell? ⟨gb189, 5, none⟩ = some (.string a0_5) := (bc1 BK189.out 5).trans rfl; have hfz48_0 := bz1 BK189.out 0; have hfz48_1 := bz1 BK189.out 1; have hfz48_2 := bz1 BK189.out 2; have hfz48_3 := bz1 BK189.out 3; have hfz48_4 := bz1 BK189.out 4; have hfz48_5 := bz1 BK189.out 5) | (go_at_call 49; (with_reducible refine (clavierref03_params.calls k _ _ l0_2 true _ ?side1 ?side2 A44.out).mono ?_); (case side1 => repeat (first | exact (Kd.C_below HR0_2.out HB.out) | (with_reducible refine Kd.C_alloc ?_ _) | (with_reducible refine Kd.C_drewN ?_ _) | (with_reducible refine Kd.C_drew ?_))); (case side2 => exact HC0_2.out); rintro e w' ⟨rfl, ⟨nd, rfl⟩⟩))
              go_ret
              exact ⟨by first | rfl | (simp [errW_none, errW_some] <;> rfl) | (simp [*, errW_none, errW_some] <;> rfl), by repeat (first | (with_reducible first | exact HB.out | apply la1 | apply ln1 | apply ld1 | refine ls1 ?_ GE189.out) | exact HB.out)⟩
            · rw [if_neg c46] at H
              have c46b0 : decide (2 < (a0_3.size : Int)) = false := decide_eq_false c46
              have c46b1 : decide (2 < a0_3.size) = false := decide_eq_false (by omega)
              clear c46
              replace H := Option.bind_eq_some_iff.mp H
              obtain ⟨t196, A490, H⟩ := H
              replace H : (if t196 = true then ((clavierref03_within.f k a0_5 32 126).bind fun t197 => (if t197 = true then ((clavierref03_last.f k a0_0 a0_1 l0_2 a0_3 a0_4 a0_5).bind fun t198 => (if t198 = true then ((clavierref03_bare.f k a0_0 a0_1 l0_2 a0_3 a0_4 a0_5).bind fun t199 => (if t199 = true then (some 0) else (some 1))) else (some 1))) else (some 1))) else (some 1)) = some r := H
              have A49 := Aside0.mk A490
              clear A490
              by_cases c50 : t196 = true
              · subst c50
                have H1 : ((clavierref03_within.f k a0_5 32 126).bind fun t197 => (if t197 = true then ((clavierref03_last.f k a0_0 a0_1 l0_2 a0_3 a0_4 a0_5).bind fun t198 => (if t198 = true then ((clavierref03_bare.f k a0_0 a0_1 l0_2 a0_3 a0_4 a0_5).bind fun t199 => (if t199 = true then (some 0) else (some 1))) else (some 1))) else (some 1))) = some r := by rw [if_pos rfl] at H; exact H
                clear H
                have H := H1
                clear H1
                replace H := Option.bind_eq_some_iff.mp H
                obtain ⟨t197, A510, H⟩ := H
                replace H : (if t197 = true then ((clavierref03_last.f k a0_0 a0_1 l0_2 a0_3 a0_4 a0_5).bind fun t198 => (if t198 = true then ((clavierref03_bare.f k a0_0 a0_1 l0_2 a0_3 a0_4 a0_5).bind fun t199 => (if t199 = true then (some 0) else (some 1))) else (some 1))) else (some 1)) = some r := H
                have A51 := Aside0.mk A510
                clear A510
                by_cases c52 : t197 = true
                · subst c52
                  have H1 : ((clavierref03_last.f k a0_0 a0_1 l0_2 a0_3 a0_4 a0_5).bind fun t198 => (if t198 = true then ((clavierref03_bare.f k a0_0 a0_1 l0_2 a0_3 a0_4 a0_5).bind fun t199 => (if t199 = true then (some 0) else (some 1))) else (some 1))) = some r := by rw [if_pos rfl] at H; exact H
                  clear H
                  have H := H1
                  clear H1
                  replace H := Option.bind_eq_some_iff.mp H
                  obtain ⟨t198, A530, H⟩ := H
                  replace H : (if t198 = true then ((clavierref03_bare.f k a0_0 a0_1 l0_2 a0_3 a0_4 a0_5).bind fun t199 => (if t199 = true then (some 0) else (some 1))) else (some 1)) = some r := H
                  have A53 := Aside0.mk A530
                  clear A530
                  by_cases c54 : t198 = true
                  · subst c54
                    have H1 : ((clavierref03_bare.f k a0_0 a0_1 l0_2 a0_3 a0_4 a0_5).bind fun t199 => (if t199 = true then (some 0) else (some 1))) = some r := by rw [if_pos rfl] at H; exact H
                    clear H
                    have H := H1
                    clear H1
                    replace H := Option.bind_eq_some_iff.mp H
                    obtain ⟨t199, A550, H⟩ := H
                    replace H : (if t199 = true then (some 0) else (some 1)) = some r := H
                    have A55 := Aside0.mk A550
                    clear A550
                    by_cases c56 : t199 = true
                    · subst c56
                      have H1 : (some 0) = some r := by rw [if_pos rfl] at H; exact H
                      clear H
                      have H := H1
                      clear H1
                      obtain rfl := Option.some.inj H
                      go_enter Tryd.func26, Tryd.ntmps26
                      go_wp2_with (first | ((with_reducible refine gate_dst (N := 1) rfl ?_); (try (refine gate_guard (by rfl) ?_; dsimp only)); refine box_event ?hg (N := 1) ?hd (cs := #[.int .i64 a0_0, .int .u8 a0_1, .slice A0_2 l0_2.length c0_2, .string a0_3, .int .u8 a0_4, .string a0_5]) (t := 30) ?hr ?_; (case hd => rfl); (case hg => rfl); (case hr => first | (go_simp; done) | (go_simp; rfl)); intro gb189 hg w57 hbox hb; have n0_ := Aside0.mk (below_step (by repeat (first | (with_reducible first | exact HB.out | apply la1 | apply ln1 | apply ld1) | exact HB.out)) hb); have n1_ := Aside0.mk (hbox); have n2_ := Aside0.mk ((by rw [hg]; exact (below_size (by repeat (first | (with_reducible first | exact HB.out | apply la1 | apply ln1 | apply ld1) | exact HB.out))) : w.heap.size ≤ gb189)); have n3_ := Aside0.mk ((by rw [hg]; exact (below_size (by repeat (first | (with_reducible first | exact HB.out | apply la1 | apply ln1 | apply ld1) | exact HB.out))) : w.heap.size ≤ gb189)); clear HB; have HB := n0_; have BK189 := n1_; have GW189 := n2_; have GE189 := n3_; clear n0_ n1_ n2_ n3_; clear hb hbox hg; have hcz58_0 : w57.cell? ⟨gb189, 0, none⟩ = some (.int .i64 a0_0) := (bc1 BK189.out 0).trans rfl; have hcz58_1 : w57.cell? ⟨gb189, 1, none⟩ = some (.int .u8 a0_1) := (bc1 BK189.out 1).trans rfl; have hcz58_2 : w57.cell? ⟨gb189, 2, none⟩ = some (.slice A0_2 l0_2.length c0_2) := (bc1 BK189.out 2).trans rfl; have hcz58_3 : w57.cell? ⟨gb189, 3, none⟩ = some (.string a0_3) := (bc1 BK189.out 3).trans rfl; have hcz58_4 : w57.cell? ⟨gb189, 4, none⟩ = some (.int .u8 a0_4) := (bc1 BK189.out 4).trans rfl; have hcz58_5 : w57.cell? ⟨gb189, 5, none⟩ = some (.string a0_5) := (bc1 BK189.out 5).trans rfl; have hfz58_0 := bz1 BK189.out 0; have hfz58_1 := bz1 BK189.out 1; have hfz58_2 := bz1 BK189.out 2; have hfz58_3 := bz1 BK189.out 3; have hfz58_4 := bz1 BK189.out 4; have hfz58_5 := bz1 BK189.out 5) | (go_at_call 49; (with_reducible refine (clavierref03_params.calls k _ _ l0_2 true _ ?side1 ?side2 A44.out).mono ?_); (case side1 => repeat (first | exact (Kd.C_below HR0_2.out HB.out) | (with_reducible refine Kd.C_alloc ?_ _) | (with_reducible refine Kd.C_drewN ?_ _) | (with_reducible refine Kd.C_drew ?_))); (case side2 => exact HC0_2.out); rintro e w' ⟨rfl, ⟨nd, rfl⟩⟩) | (go_at_call 50; (with_reducible refine (clavierref03_within.calls k a0_3 32 47 true _ A49.out).mono ?_); rintro e w' ⟨rfl, ⟨nd, rfl⟩⟩) | (go_at_call 50; (with_reducible refine (clavierref03_within.calls k a0_5 32 126 true _ A51.out).mono ?_); rintro e w' ⟨rfl, ⟨nd, rfl⟩⟩) | (go_at_call 51; (with_reducible refine (clavierref03_last.calls k a0_0 a0_1 _ _ l0_2 a0_3 a0_4 a0_5 true _ ?side1 ?side2 A53.out).mono ?_); (case side1 => repeat (first | exact (Kd.C_below HR0_2.out (by repeat (first | (with_reducible first | exact HB.out | apply la1 | apply ln1 | apply ld1 | refine ls1 ?_ GE189.out) | exact HB.out))) | (with_reducible refine Kd.C_alloc ?_ _) | (with_reducible refine Kd.C_drewN ?_ _) | (with_reducible refine Kd.C_drew ?_))); (case side2 => exact HC0_2.out); rintro e w59 ⟨rfl, hb⟩; have n0_ := Aside0.mk (bb1 (g := gb189) (o := .cells #[.int .i64 a0_0, .int .u8 a0_1, .slice A0_2 l0_2.length c0_2, .string a0_3, .int .u8 a0_4, .string a0_5] 30 (0, 0)) (by (with_reducible repeat (first | refine bn1 ?_ _ | refine bd1 ?_ | refine ba1 ?_ _)); exact BK189.out) hb); have n1_ := Aside0.mk (below_step (by repeat (first | (with_reducible first | exact HB.out | apply la1 | apply ln1 | apply ld1 | refine ls1 ?_ GE189.out) | exact HB.out)) hb); clear BK189; clear HB; have BK189 := n0_; have HB := n1_; clear n0_ n1_; (try clear hb); (try clear hb2); (try clear hk); (try clear hi); have hcz60_0 : w59.cell? ⟨gb189, 0, none⟩ = some (.int .i64 a0_0) := (bc1 BK189.out 0).trans rfl; have hcz60_1 : w59.cell? ⟨gb189, 1, none⟩ = some (.int .u8 a0_1) := (bc1 BK189.out 1).trans rfl; have hcz60_2 : w59.cell? ⟨gb189, 2, none⟩ = some (.slice A0_2 l0_2.length c0_2) := (bc1 BK189.out 2).trans rfl; have hcz60_3 : w59.cell? ⟨gb189, 3, none⟩ = some (.string a0_3) := (bc1 BK189.out 3).trans rfl; have hcz60_4 : w59.cell? ⟨gb189, 4, none⟩ = some (.int .u8 a0_4) := (bc1 BK189.out 4).trans rfl; have hcz60_5 : w59.cell? ⟨gb189, 5, none⟩ = some (.string a0_5) := (bc1 BK189.out 5).trans rfl; have hfz60_0 := bz1 BK189.out 0; have hfz60_1 := bz1 BK189.out 1; have hfz60_2 := bz1 BK189.out 2; have hfz60_3 := bz1 BK189.out 3; have hfz60_4 := bz1 BK189.out 4; have hfz60_5 := bz1 BK189.out 5) | (go_at_call 52; (with_reducible refine (clavierref03_bare.calls k a0_0 a0_1 _ _ l0_2 a0_3 a0_4 a0_5 true _ ?side1 ?side2 A55.out).mono ?_); (case side1 => repeat (first | exact (Kd.C_below HR0_2.out HB.out) | (with_reducible refine Kd.C_alloc ?_ _) | (with_reducible refine Kd.C_drewN ?_ _) | (with_reducible refine Kd.C_drew ?_))); (case side2 => exact HC0_2.out); rintro e w61 ⟨rfl, hb⟩; have n0_ := Aside0.mk (bb1 (g := gb189) (o := .cells #[.int .i64 a0_0, .int .u8 a0_1, .slice A0_2 l0_2.length c0_2, .string a0_3, .int .u8 a0_4, .string a0_5] 30 (0, 0)) (by (with_reducible repeat (first | refine bn1 ?_ _ | refine bd1 ?_ | refine ba1 ?_ _)); exact BK189.out) hb); have n1_ := Aside0.mk (below_step (by repeat (first | (with_reducible first | exact HB.out | apply la1 | apply ln1 | apply ld1 | refine ls1 ?_ GE189.out) | exact HB.out)) hb); clear BK189; clear HB; have BK189 := n0_; have HB := n1_; clear n0_ n1_; (try clear hb); (try clear hb2); (try clear hk); (try clear hi)))
                      go_ret
                      exact ⟨by first | rfl | (simp [errW_none, errW_some] <;> rfl) | (simp [*, errW_none, errW_some] <;> rfl), by repeat (first | (with_reducible first | exact HB.out | apply la1 | apply ln1 | apply ld1 | refine ls1 ?_ GE189.out) | exact HB.out)⟩
                    · replace c56 := Bool.eq_false_iff.mpr c56
                      subst c56
                      have H1 : (some 1) = some r := by rw [if_neg (show ¬ (false = true) by decide)] at H; exact H
                      clear H
                      have H := H1
                      clear H1
                      obtain rfl := Option.some.inj H
                      go_enter Tryd.func26, Tryd.ntmps26
                      go_wp2_with (first | ((with_reducible refine gate_dst (N := 1) rfl ?_); (try (refine gate_guard (by rfl) ?_; dsimp only)); refine box_event ?hg (N := 1) ?hd (cs := #[.int .i64 a0_0, .int .u8 a0_1, .slice A0_2 l0_2.length c0_2, .string a0_3, .int .u8 a0_4, .string a0_5]) (t := 30) ?hr ?_; (case hd => rfl); (case hg => rfl); (case hr => first | (go_simp; done) | (go_simp; rfl)); intro gb189 hg w62 hbox hb; have n0_ := Aside0.mk (below_step (by repeat (first | (with_reducible first | exact HB.out | apply la1 | apply ln1 | apply ld1) | exact HB.out)) hb); have n1_ := Aside0.mk (hbox); have n2_ := Aside0.mk ((by rw [hg]; exact (below_size (by repeat (first | (with_reducible first | exact HB.out | apply la1 | apply ln1 | apply ld1) | exact HB.out))) : w.heap.size ≤ gb189)); have n3_ := Aside0.mk ((by rw [hg]; exact (below_size (by repeat (first | (with_reducible first | exact HB.out | apply la1 | apply ln1 | apply ld1) | exact HB.out))) : w.heap.size ≤ gb189)); clear HB; have HB := n0_; have BK189 := n1_; have GW189 := n2_; have GE189 := n3_; clear n0_ n1_ n2_ n3_; clear hb hbox hg; have hcz63_0 : w62.cell? ⟨gb189, 0, none⟩ = some (.int .i64 a0_0) := (bc1 BK189.out 0).trans rfl; have hcz63_1 : w62.cell? ⟨gb189, 1, none⟩ = some (.int .u8 a0_1) := (bc1 BK189.out 1).trans rfl; have hcz63_2 : w62.cell? ⟨gb189, 2, none⟩ = some (.slice A0_2 l0_2.length c0_2) := (bc1 BK189.out 2).trans rfl; have hcz63_3 : w62.cell? ⟨gb189, 3, none⟩ = some (.string a0_3) := (bc1 BK189.out 3).trans rfl; have hcz63_4 : w62.cell? ⟨gb189, 4, none⟩ = some (.int .u8 a0_4) := (bc1 BK189.out 4).trans rfl; have hcz63_5 : w62.cell? ⟨gb189, 5, none⟩ = some (.string a0_5) := (bc1 BK189.out 5).trans rfl; have hfz63_0 := bz1 BK189.out 0; have hfz63_1 := bz1 BK189.out 1; have hfz63_2 := bz1 BK189.out 2; have hfz63_3 := bz1 BK189.out 3; have hfz63_4 := bz1 BK189.out 4; have hfz63_5 := bz1 BK189.out 5) | (go_at_call 49; (with_reducible refine (clavierref03_params.calls k _ _ l0_2 true _ ?side1 ?side2 A44.out).mono ?_); (case side1 => repeat (first | exact (Kd.C_below HR0_2.out HB.out) | (with_reducible refine Kd.C_alloc ?_ _) | (with_reducible refine Kd.C_drewN ?_ _) | (with_reducible refine Kd.C_drew ?_))); (case side2 => exact HC0_2.out); rintro e w' ⟨rfl, ⟨nd, rfl⟩⟩) | (go_at_call 50; (with_reducible refine (clavierref03_within.calls k a0_3 32 47 true _ A49.out).mono ?_); rintro e w' ⟨rfl, ⟨nd, rfl⟩⟩) | (go_at_call 50; (with_reducible refine (clavierref03_within.calls k a0_5 32 126 true _ A51.out).mono ?_); rintro e w' ⟨rfl, ⟨nd, rfl⟩⟩) | (go_at_call 51; (with_reducible refine (clavierref03_last.calls k a0_0 a0_1 _ _ l0_2 a0_3 a0_4 a0_5 true _ ?side1 ?side2 A53.out).mono ?_); (case side1 => repeat (first | exact (Kd.C_below HR0_2.out (by repeat (first | (with_reducible first | exact HB.out | apply la1 | apply ln1 | apply ld1 | refine ls1 ?_ GE189.out) | exact HB.out))) | (with_reducible refine Kd.C_alloc ?_ _) | (with_reducible refine Kd.C_drewN ?_ _) | (with_reducible refine Kd.C_drew ?_))); (case side2 => exact HC0_2.out); rintro e w64 ⟨rfl, hb⟩; have n0_ := Aside0.mk (bb1 (g := gb189) (o := .cells #[.int .i64 a0_0, .int .u8 a0_1, .slice A0_2 l0_2.length c0_2, .string a0_3, .int .u8 a0_4, .string a0_5] 30 (0, 0)) (by (with_reducible repeat (first | refine bn1 ?_ _ | refine bd1 ?_ | refine ba1 ?_ _)); exact BK189.out) hb); have n1_ := Aside0.mk (below_step (by repeat (first | (with_reducible first | exact HB.out | apply la1 | apply ln1 | apply ld1 | refine ls1 ?_ GE189.out) | exact HB.out)) hb); clear BK189; clear HB; have BK189 := n0_; have HB := n1_; clear n0_ n1_; (try clear hb); (try clear hb2); (try clear hk); (try clear hi); have hcz65_0 : w64.cell? ⟨gb189, 0, none⟩ = some (.int .i64 a0_0) := (bc1 BK189.out 0).trans rfl; have hcz65_1 : w64.cell? ⟨gb189, 1, none⟩ = some (.int .u8 a0_1) := (bc1 BK189.out 1).trans rfl; have hcz65_2 : w64.cell? ⟨gb189, 2, none⟩ = some (.slice A0_2 l0_2.length c0_2) := (bc1 BK189.out 2).trans rfl; have hcz65_3 : w64.cell? ⟨gb189, 3, none⟩ = some (.string a0_3) := (bc1 BK189.out 3).trans rfl; have hcz65_4 : w64.cell? ⟨gb189, 4, none⟩ = some (.int .u8 a0_4) := (bc1 BK189.out 4).trans rfl; have hcz65_5 : w64.cell? ⟨gb189, 5, none⟩ = some (.string a0_5) := (bc1 BK189.out 5).trans rfl; have hfz65_0 := bz1 BK189.out 0; have hfz65_1 := bz1 BK189.out 1; have hfz65_2 := bz1 BK189.out 2; have hfz65_3 := bz1 BK189.out 3; have hfz65_4 := bz1 BK189.out 4; have hfz65_5 := bz1 BK189.out 5) | (go_at_call 52; (with_reducible refine (clavierref03_bare.calls k a0_0 a0_1 _ _ l0_2 a0_3 a0_4 a0_5 false _ ?side1 ?side2 A55.out).mono ?_); (case side1 => repeat (first | exact (Kd.C_below HR0_2.out HB.out) | (with_reducible refine Kd.C_alloc ?_ _) | (with_reducible refine Kd.C_drewN ?_ _) | (with_reducible refine Kd.C_drew ?_))); (case side2 => exact HC0_2.out); rintro e w66 ⟨rfl, hb⟩; have n0_ := Aside0.mk (bb1 (g := gb189) (o := .cells #[.int .i64 a0_0, .int .u8 a0_1, .slice A0_2 l0_2.length c0_2, .string a0_3, .int .u8 a0_4, .string a0_5] 30 (0, 0)) (by (with_reducible repeat (first | refine bn1 ?_ _ | refine bd1 ?_ | refine ba1 ?_ _)); exact BK189.out) hb); have n1_ := Aside0.mk (below_step (by repeat (first | (with_reducible first | exact HB.out | apply la1 | apply ln1 | apply ld1 | refine ls1 ?_ GE189.out) | exact HB.out)) hb); clear BK189; clear HB; have BK189 := n0_; have HB := n1_; clear n0_ n1_; (try clear hb); (try clear hb2); (try clear hk); (try clear hi)))
                      go_ret
                      exact ⟨by first | rfl | (simp [errW_none, errW_some] <;> rfl) | (simp [*, errW_none, errW_some] <;> rfl), by repeat (first | (with_reducible first | exact HB.out | apply la1 | apply ln1 | apply ld1 | refine ls1 ?_ GE189.out) | exact HB.out)⟩
                  · replace c54 := Bool.eq_false_iff.mpr c54
                    subst c54
                    have H1 : (some 1) = some r := by rw [if_neg (show ¬ (false = true) by decide)] at H; exact H
                    clear H
                    have H := H1
                    clear H1
                    obtain rfl := Option.some.inj H
                    go_enter Tryd.func26, Tryd.ntmps26
                    go_wp2_with (first | ((with_reducible refine gate_dst (N := 1) rfl ?_); (try (refine gate_guard (by rfl) ?_; dsimp only)); refine box_event ?hg (N := 1) ?hd (cs := #[.int .i64 a0_0, .int .u8 a0_1, .slice A0_2 l0_2.length c0_2, .string a0_3, .int .u8 a0_4, .string a0_5]) (t := 30) ?hr ?_; (case hd => rfl); (case hg => rfl); (case hr => first | (go_simp; done) | (go_simp; rfl)); intro gb189 hg w67 hbox hb; have n0_ := Aside0.mk (below_step (by repeat (first | (with_reducible first | exact HB.out | apply la1 | apply ln1 | apply ld1) | exact HB.out)) hb); have n1_ := Aside0.mk (hbox); have n2_ := Aside0.mk ((by rw [hg]; exact (below_size (by repeat (first | (with_reducible first | exact HB.out | apply la1 | apply ln1 | apply ld1) | exact HB.out))) : w.heap.size ≤ gb189)); have n3_ := Aside0.mk ((by rw [hg]; exact (below_size (by repeat (first | (with_reducible first | exact HB.out | apply la1 | apply ln1 | apply ld1) | exact HB.out))) : w.heap.size ≤ gb189)); clear HB; have HB := n0_; have BK189 := n1_; have GW189 := n2_; have GE189 := n3_; clear n0_ n1_ n2_ n3_; clear hb hbox hg; have hcz68_0 : w67.cell? ⟨gb189, 0, none⟩ = some (.int .i64 a0_0) := (bc1 BK189.out 0).trans rfl; have hcz68_1 : w67.cell? ⟨gb189, 1, none⟩ = some (.int .u8 a0_1) := (bc1 BK189.out 1).trans rfl; have hcz68_2 : w67.cell? ⟨gb189, 2, none⟩ = some (.slice A0_2 l0_2.length c0_2) := (bc1 BK189.out 2).trans rfl; have hcz68_3 : w67.cell? ⟨gb189, 3, none⟩ = some (.string a0_3) := (bc1 BK189.out 3).trans rfl; have hcz68_4 : w67.cell? ⟨gb189, 4, none⟩ = some (.int .u8 a0_4) := (bc1 BK189.out 4).trans rfl; have hcz68_5 : w67.cell? ⟨gb189, 5, none⟩ = some (.string a0_5) := (bc1 BK189.out 5).trans rfl; have hfz68_0 := bz1 BK189.out 0; have hfz68_1 := bz1 BK189.out 1; have hfz68_2 := bz1 BK189.out 2; have hfz68_3 := bz1 BK189.out 3; have hfz68_4 := bz1 BK189.out 4; have hfz68_5 := bz1 BK189.out 5) | (go_at_call 49; (with_reducible refine (clavierref03_params.calls k _ _ l0_2 true _ ?side1 ?side2 A44.out).mono ?_); (case side1 => repeat (first | exact (Kd.C_below HR0_2.out HB.out) | (with_reducible refine Kd.C_alloc ?_ _) | (with_reducible refine Kd.C_drewN ?_ _) | (with_reducible refine Kd.C_drew ?_))); (case side2 => exact HC0_2.out); rintro e w' ⟨rfl, ⟨nd, rfl⟩⟩) | (go_at_call 50; (with_reducible refine (clavierref03_within.calls k a0_3 32 47 true _ A49.out).mono ?_); rintro e w' ⟨rfl, ⟨nd, rfl⟩⟩) | (go_at_call 50; (with_reducible refine (clavierref03_within.calls k a0_5 32 126 true _ A51.out).mono ?_); rintro e w' ⟨rfl, ⟨nd, rfl⟩⟩) | (go_at_call 51; (with_reducible refine (clavierref03_last.calls k a0_0 a0_1 _ _ l0_2 a0_3 a0_4 a0_5 false _ ?side1 ?side2 A53.out).mono ?_); (case side1 => repeat (first | exact (Kd.C_below HR0_2.out (by repeat (first | (with_reducible first | exact HB.out | apply la1 | apply ln1 | apply ld1 | refine ls1 ?_ GE189.out) | exact HB.out))) | (with_reducible refine Kd.C_alloc ?_ _) | (with_reducible refine Kd.C_drewN ?_ _) | (with_reducible refine Kd.C_drew ?_))); (case side2 => exact HC0_2.out); rintro e w69 ⟨rfl, hb⟩; have n0_ := Aside0.mk (bb1 (g := gb189) (o := .cells #[.int .i64 a0_0, .int .u8 a0_1, .slice A0_2 l0_2.length c0_2, .string a0_3, .int .u8 a0_4, .string a0_5] 30 (0, 0)) (by (with_reducible repeat (first | refine bn1 ?_ _ | refine bd1 ?_ | refine ba1 ?_ _)); exact BK189.out) hb); have n1_ := Aside0.mk (below_step (by repeat (first | (with_reducible first | exact HB.out | apply la1 | apply ln1 | apply ld1 | refine ls1 ?_ GE189.out) | exact HB.out)) hb); clear BK189; clear HB; have BK189 := n0_; have HB := n1_; clear n0_ n1_; (try clear hb); (try clear hb2); (try clear hk); (try clear hi)))
                    go_ret
                    exact ⟨by first | rfl | (simp [errW_none, errW_some] <;> rfl) | (simp [*, errW_none, errW_some] <;> rfl), by repeat (first | (with_reducible first | exact HB.out | apply la1 | apply ln1 | apply ld1 | refine ls1 ?_ GE189.out) | exact HB.out)⟩
                · replace c52 := Bool.eq_false_iff.mpr c52
                  subst c52
                  have H1 : (some 1) = some r := by rw [if_neg (show ¬ (false = true) by decide)] at H; exact H
                  clear H
                  have H := H1
                  clear H1
                  obtain rfl := Option.some.inj H
                  go_enter Tryd.func26, Tryd.ntmps26
                  go_wp2_with (first | ((with_reducible refine gate_dst (N := 1) rfl ?_); (try (refine gate_guard (by rfl) ?_; dsimp only)); refine box_event ?hg (N := 1) ?hd (cs := #[.int .i64 a0_0, .int .u8 a0_1, .slice A0_2 l0_2.length c0_2, .string a0_3, .int .u8 a0_4, .string a0_5]) (t := 30) ?hr ?_; (case hd => rfl); (case hg => rfl); (case hr => first | (go_simp; done) | (go_simp; rfl)); intro gb189 hg w70 hbox hb; have n0_ := Aside0.mk (below_step (by repeat (first | (with_reducible first | exact HB.out | apply la1 | apply ln1 | apply ld1) | exact HB.out)) hb); have n1_ := Aside0.mk (hbox); have n2_ := Aside0.mk ((by rw [hg]; exact (below_size (by repeat (first | (with_reducible first | exact HB.out | apply la1 | apply ln1 | apply ld1) | exact HB.out))) : w.heap.size ≤ gb189)); have n3_ := Aside0.mk ((by rw [hg]; exact (below_size (by repeat (first | (with_reducible first | exact HB.out | apply la1 | apply ln1 | apply ld1) | exact HB.out))) : w.heap.size ≤ gb189)); clear HB; have HB := n0_; have BK189 := n1_; have GW189 := n2_; have GE189 := n3_; clear n0_ n1_ n2_ n3_; clear hb hbox hg; have hcz71_0 : w70.cell? ⟨gb189, 0, none⟩ = some (.int .i64 a0_0) := (bc1 BK189.out 0).trans rfl; have hcz71_1 : w70.cell? ⟨gb189, 1, none⟩ = some (.int .u8 a0_1) := (bc1 BK189.out 1).trans rfl; have hcz71_2 : w70.cell? ⟨gb189, 2, none⟩ = some (.slice A0_2 l0_2.length c0_2) := (bc1 BK189.out 2).trans rfl; have hcz71_3 : w70.cell? ⟨gb189, 3, none⟩ = some (.string a0_3) := (bc1 BK189.out 3).trans rfl; have hcz71_4 : w70.cell? ⟨gb189, 4, none⟩ = some (.int .u8 a0_4) := (bc1 BK189.out 4).trans rfl; have hcz71_5 : w70.cell? ⟨gb189, 5, none⟩ = some (.string a0_5) := (bc1 BK189.out 5).trans rfl; have hfz71_0 := bz1 BK189.out 0; have hfz71_1 := bz1 BK189.out 1; have hfz71_2 := bz1 BK189.out 2; have hfz71_3 := bz1 BK189.out 3; have hfz71_4 := bz1 BK189.out 4; have hfz71_5 := bz1 BK189.out 5) | (go_at_call 49; (with_reducible refine (clavierref03_params.calls k _ _ l0_2 true _ ?side1 ?side2 A44.out).mono ?_); (case side1 => repeat (first | exact (Kd.C_below HR0_2.out HB.out) | (with_reducible refine Kd.C_alloc ?_ _) | (with_reducible refine Kd.C_drewN ?_ _) | (with_reducible refine Kd.C_drew ?_))); (case side2 => exact HC0_2.out); rintro e w' ⟨rfl, ⟨nd, rfl⟩⟩) | (go_at_call 50; (with_reducible refine (clavierref03_within.calls k a0_3 32 47 true _ A49.out).mono ?_); rintro e w' ⟨rfl, ⟨nd, rfl⟩⟩) | (go_at_call 50; (with_reducible refine (clavierref03_within.calls k a0_5 32 126 false _ A51.out).mono ?_); rintro e w' ⟨rfl, ⟨nd, rfl⟩⟩))
                  go_ret
                  exact ⟨by first | rfl | (simp [errW_none, errW_some] <;> rfl) | (simp [*, errW_none, errW_some] <;> rfl), by repeat (first | (with_reducible first | exact HB.out | apply la1 | apply ln1 | apply ld1 | refine ls1 ?_ GE189.out) | exact HB.out)⟩
              · replace c50 := Bool.eq_false_iff.mpr c50
                subst c50
                have H1 : (some 1) = some r := by rw [if_neg (show ¬ (false = true) by decide)] at H; exact H
                clear H
                have H := H1
                clear H1
                obtain rfl := Option.some.inj H
                go_enter Tryd.func26, Tryd.ntmps26
                go_wp2_with (first | ((with_reducible refine gate_dst (N := 1) rfl ?_); (try (refine gate_guard (by rfl) ?_; dsimp only)); refine box_event ?hg (N := 1) ?hd (cs := #[.int .i64 a0_0, .int .u8 a0_1, .slice A0_2 l0_2.length c0_2, .string a0_3, .int .u8 a0_4, .string a0_5]) (t := 30) ?hr ?_; (case hd => rfl); (case hg => rfl); (case hr => first | (go_simp; done) | (go_simp; rfl)); intro gb189 hg w72 hbox hb; have n0_ := Aside0.mk (below_step (by repeat (first | (with_reducible first | exact HB.out | apply la1 | apply ln1 | apply ld1) | exact HB.out)) hb); have n1_ := Aside0.mk (hbox); have n2_ := Aside0.mk ((by rw [hg]; exact (below_size (by repeat (first | (with_reducible first | exact HB.out | apply la1 | apply ln1 | apply ld1) | exact HB.out))) : w.heap.size ≤ gb189)); have n3_ := Aside0.mk ((by rw [hg]; exact (below_size (by repeat (first | (with_reducible first | exact HB.out | apply la1 | apply ln1 | apply ld1) | exact HB.out))) : w.heap.size ≤ gb189)); clear HB; have HB := n0_; have BK189 := n1_; have GW189 := n2_; have GE189 := n3_; clear n0_ n1_ n2_ n3_; clear hb hbox hg; have hcz73_0 : w72.cell? ⟨gb189, 0, none⟩ = some (.int .i64 a0_0) := (bc1 BK189.out 0).trans rfl; have hcz73_1 : w72.cell? ⟨gb189, 1, none⟩ = some (.int .u8 a0_1) := (bc1 BK189.out 1).trans rfl; have hcz73_2 : w72.cell? ⟨gb189, 2, none⟩ = some (.slice A0_2 l0_2.length c0_2) := (bc1 BK189.out 2).trans rfl; have hcz73_3 : w72.cell? ⟨gb189, 3, none⟩ = some (.string a0_3) := (bc1 BK189.out 3).trans rfl; have hcz73_4 : w72.cell? ⟨gb189, 4, none⟩ = some (.int .u8 a0_4) := (bc1 BK189.out 4).trans rfl; have hcz73_5 : w72.cell? ⟨gb189, 5, none⟩ = some (.string a0_5) := (bc1 BK189.out 5).trans rfl; have hfz73_0 := bz1 BK189.out 0; have hfz73_1 := bz1 BK189.out 1; have hfz73_2 := bz1 BK189.out 2; have hfz73_3 := bz1 BK189.out 3; have hfz73_4 := bz1 BK189.out 4; have hfz73_5 := bz1 BK189.out 5) | (go_at_call 49; (with_reducible refine (clavierref03_params.calls k _ _ l0_2 true _ ?side1 ?side2 A44.out).mono ?_); (case side1 => repeat (first | exact (Kd.C_below HR0_2.out HB.out) | (with_reducible refine Kd.C_alloc ?_ _) | (with_reducible refine Kd.C_drewN ?_ _) | (with_reducible refine Kd.C_drew ?_))); (case side2 => exact HC0_2.out); rintro e w' ⟨rfl, ⟨nd, rfl⟩⟩) | (go_at_call 50; (with_reducible refine (clavierref03_within.calls k a0_3 32 47 false _ A49.out).mono ?_); rintro e w' ⟨rfl, ⟨nd, rfl⟩⟩))
                go_ret
                exact ⟨by first | rfl | (simp [errW_none, errW_some] <;> rfl) | (simp [*, errW_none, errW_some] <;> rfl), by repeat (first | (with_reducible first | exact HB.out | apply la1 | apply ln1 | apply ld1 | refine ls1 ?_ GE189.out) | exact HB.out)⟩
          · replace c45 := Bool.eq_false_iff.mpr c45
            subst c45
            have H1 : (some 1) = some r := by rw [if_neg (show ¬ (false = true) by decide)] at H; exact H
            clear H
            have H := H1
            clear H1
            obtain rfl := Option.some.inj H
            go_enter Tryd.func26, Tryd.ntmps26
            go_wp2_with (first | ((with_reducible refine gate_dst (N := 1) rfl ?_); (try (refine gate_guard (by rfl) ?_; dsimp only)); refine box_event ?hg (N := 1) ?hd (cs := #[.int .i64 a0_0, .int .u8 a0_1, .slice A0_2 l0_2.length c0_2, .string a0_3, .int .u8 a0_4, .string a0_5]) (t := 30) ?hr ?_; (case hd => rfl); (case hg => rfl); (case hr => first | (go_simp; done) | (go_simp; rfl)); intro gb189 hg w74 hbox hb; have n0_ := Aside0.mk (below_step (by repeat (first | (with_reducible first | exact HB.out | apply la1 | apply ln1 | apply ld1) | exact HB.out)) hb); have n1_ := Aside0.mk (hbox); have n2_ := Aside0.mk ((by rw [hg]; exact (below_size (by repeat (first | (with_reducible first | exact HB.out | apply la1 | apply ln1 | apply ld1) | exact HB.out))) : w.heap.size ≤ gb189)); have n3_ := Aside0.mk ((by rw [hg]; exact (below_size (by repeat (first | (with_reducible first | exact HB.out | apply la1 | apply ln1 | apply ld1) | exact HB.out))) : w.heap.size ≤ gb189)); clear HB; have HB := n0_; have BK189 := n1_; have GW189 := n2_; have GE189 := n3_; clear n0_ n1_ n2_ n3_; clear hb hbox hg; have hcz75_0 : w74.cell? ⟨gb189, 0, none⟩ = some (.int .i64 a0_0) := (bc1 BK189.out 0).trans rfl; have hcz75_1 : w74.cell? ⟨gb189, 1, none⟩ = some (.int .u8 a0_1) := (bc1 BK189.out 1).trans rfl; have hcz75_2 : w74.cell? ⟨gb189, 2, none⟩ = some (.slice A0_2 l0_2.length c0_2) := (bc1 BK189.out 2).trans rfl; have hcz75_3 : w74.cell? ⟨gb189, 3, none⟩ = some (.string a0_3) := (bc1 BK189.out 3).trans rfl; have hcz75_4 : w74.cell? ⟨gb189, 4, none⟩ = some (.int .u8 a0_4) := (bc1 BK189.out 4).trans rfl; have hcz75_5 : w74.cell? ⟨gb189, 5, none⟩ = some (.string a0_5) := (bc1 BK189.out 5).trans rfl; have hfz75_0 := bz1 BK189.out 0; have hfz75_1 := bz1 BK189.out 1; have hfz75_2 := bz1 BK189.out 2; have hfz75_3 := bz1 BK189.out 3; have hfz75_4 := bz1 BK189.out 4; have hfz75_5 := bz1 BK189.out 5) | (go_at_call 49; (with_reducible refine (clavierref03_params.calls k _ _ l0_2 false _ ?side1 ?side2 A44.out).mono ?_); (case side1 => repeat (first | exact (Kd.C_below HR0_2.out HB.out) | (with_reducible refine Kd.C_alloc ?_ _) | (with_reducible refine Kd.C_drewN ?_ _) | (with_reducible refine Kd.C_drew ?_))); (case side2 => exact HC0_2.out); rintro e w' ⟨rfl, ⟨nd, rfl⟩⟩))
            go_ret
            exact ⟨by first | rfl | (simp [errW_none, errW_some] <;> rfl) | (simp [*, errW_none, errW_some] <;> rfl), by repeat (first | (with_reducible first | exact HB.out | apply la1 | apply ln1 | apply ld1 | refine ls1 ?_ GE189.out) | exact HB.out)⟩
end Go.Proofs.YtopcleljecdkkaaDoor.G
end
