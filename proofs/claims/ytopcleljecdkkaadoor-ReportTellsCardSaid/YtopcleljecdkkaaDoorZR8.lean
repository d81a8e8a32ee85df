/- R: texts run together by shake.py: Gclavierref19a. -/
import Derived.ArgAppend
import Derived.Below
import Derived.BigQuiet
import Derived.Deep.AppendLies
import Derived.Deep.CutBlock
import Derived.Deep.DeepCutAuto
import Derived.Deep.Draws
import Derived.Deep.LoopGhost
import Derived.Deep.OwnRows
import Derived.Deep.Quiet
import Derived.Deep.QuietTactic
import Derived.Deep.RegionHeld3
import Derived.Ground.Names2Prog
import Derived.Ground.SlgnProg
import Derived.KernelRfl
import Derived.Laws.AppendOwn
import Derived.Laws.AppendOwnNone
import Derived.Laws.BitsLemmas
import Derived.Laws.BytesArg
import Derived.Laws.Concat
import Derived.Laws.CopyRow
import Derived.Laws.IdiomCopy
import Derived.Laws.IdiomStrings
import Derived.Laws.MakeOwn
import Derived.Laws.OwnMore
import Derived.Laws.Rows
import Derived.Laws.Slices
import Derived.Laws.StructEq
import Derived.Laws.Tables
import Derived.Lib.AppendIntMem
import Derived.Lib.AppendStr
import Derived.Lib.ConvBytes
import Derived.Lib.Hide
import Derived.Lib.ItoaLen
import Derived.Lib.ItoaNum
import Derived.Lib.LaidTab
import Derived.MapKept
import Derived.Maps.AppendAt
import Derived.Orders
import Derived.OrdersHeld
import Derived.Outline
import Derived.OwnWalk
import Derived.RowKit
import Derived.RowKit3
import Derived.Shelf.LaysM
import Derived.Shelf.Slices.Clone
import Derived.Shelf.SlicesE.Clone
import Derived.Shelf.Strconv.Itoa0
import Derived.Shelf.Strconv.Itoa1
import Derived.Shelf.Strconv.Itoa2
import Derived.Shelf.Strconv.Itoa3
import Derived.Shelf.Strings.Builder1
import Derived.Shelf.Strings.Builder2
import Derived.Shelf.Strings.Builder2Cap
import Derived.Shelf.Strings.BuilderCap
import Derived.Shelf.Strings.BuilderF
import Derived.Shelf.Strings.BuilderK
import Derived.Shelf.Strings.OnBuilder
import Derived.Still
import Derived.Tactics
import Derived.Test.YtopcleljecdkkaaDoorProg
import Derived.WalkKit
import Derived.WalkLawsBesides
import Derived.WalkSpells
import Derived.WideLaws
import Derived.Test.YtopcleljecdkkaaDoorZR1
import Derived.Test.YtopcleljecdkkaaDoorZR2
import Derived.Test.YtopcleljecdkkaaDoorZR3
import Derived.Test.YtopcleljecdkkaaDoorZR4
section
namespace Go.Proofs.YtopcleljecdkkaaDoor.G
open Go.RowKit Go.Proofs.YtopcleljecdkkaaDoorW.PrintWords Go.Proofs.YtopcleljecdkkaaDoorW.PrintLast Go.Proofs.YtopcleljecdkkaaDoorW.PrintMore
attribute [local go_sem] max2_int min2_int max_two min_two max_three min_three max_four min_four
set_option linter.unusedVariables false
set_option linter.unusedSimpArgs false
def clavierref19_nums.l0 : Nat → List Int → Int → Int → Int → List (List Int) → ByteArray → Int → ByteArray → Option (Int × Int × (List (List Int)) × ByteArray × Int × ByteArray)
  | 0, _, _, _, _, _, _, _, _ => none
  | k + 1, x2, x8, x220000, x220001, x220002, x220003, x220004, x220005 => if x8 < (x2.length : Int) then (if 0 ≤ x8 then (if x220002.length < 5864062014805 then (clavierref19_nums.l0 k x2 (wrap64 (x8 + 1)) x220000 x220001 (x220002 ++ [(([rd x2 x8] : List Int))]) x220003 x220004 x220005) else (none)) else (none)) else (some (x220000, x220001, x220002, x220003, x220004, x220005))
def clavierref19_nums.f (k : Nat) (a0 : Int) (a1 : Int) (l2 : List Int) : Option (Int × Int × (List (List Int)) × ByteArray × Int × ByteArray) := clavierref19_nums.l0 k l2 0 1 a0 ([] : List (List Int)) (⟨#[]⟩ : ByteArray) a1 (⟨#[]⟩ : ByteArray)
theorem clavierref19_nums.mono_l : ∀ k, (∀ y0 y1 y2 y3 y4 y5 y6 y7, LeO (clavierref19_nums.l0 k y0 y1 y2 y3 y4 y5 y6 y7) (clavierref19_nums.l0 (k + 1) y0 y1 y2 y3 y4 y5 y6 y7))
  | 0 => fun _ _ _ _ _ _ _ _ r h => by simp [clavierref19_nums.l0] at h
  | k + 1 => by
    have ih0 := clavierref19_nums.mono_l k
    · intro y0 y1 y2 y3 y4 y5 y6 y7
      unfold clavierref19_nums.l0
      repeat' first
      | (with_reducible exact ih0 _ _ _ _ _ _ _ _)
      | (with_reducible exact LeO.refl _)
      | (with_reducible exact LeO.none _)
      | (with_reducible refine LeO.ite ?_ ?_)
      | (with_reducible refine LeO.bind ?_ (fun _ => ?_))
      | exact ih0 _ _ _ _ _ _ _ _
      | exact LeO.none _
      | refine LeO.ite ?_ ?_
      | refine LeO.bind ?_ (fun _ => ?_)
theorem clavierref19_nums.mono : ∀ a0 a1 a2 k, LeO (clavierref19_nums.f k a0 a1 a2) (clavierref19_nums.f (k + 1) a0 a1 a2) := by
  intro a0 a1 a2 k
  have ih0 := clavierref19_nums.mono_l k
  unfold clavierref19_nums.f
  repeat' first
      | (with_reducible exact ih0 _ _ _ _ _ _ _ _)
      | (with_reducible exact LeO.refl _)
      | (with_reducible exact LeO.none _)
      | (with_reducible refine LeO.ite ?_ ?_)
      | (with_reducible refine LeO.bind ?_ (fun _ => ?_))
      | exact ih0 _ _ _ _ _ _ _ _
      | exact LeO.none _
      | refine LeO.ite ?_ ?_
      | refine LeO.bind ?_ (fun _ => ?_)
def clavierref19_nums.T5 : Bool × List (List Nat × List Nat) := (true, [([], []), ([0], [0]), ([], []), ([], []), ([2, 3], [2, 3]), ([4], [4]), ([5], [5]), ([6], [6]), ([1, 7], [1, 7]), ([0, 1, 2, 3, 4, 5, 6, 7, 8], []), ([9, 8, 8, 0, 1, 2, 3, 4, 5, 6, 7, 8], [8, 9])])
def clavierref19_nums.B5 : List Nat := [0, 1, 0, 0, 12, 28, 60, 124, 255, 511, 1023]
theorem clavierref19_nums.tab5 : rtab .any (opsOf Tryd.f31 5) = clavierref19_nums.T5 := by kernel_rfl
theorem clavierref19_nums.bits5 : waitsOk clavierref19_nums.T5.2 clavierref19_nums.B5 = true := by kernel_rfl
set_option maxHeartbeats 8000000 in
set_option maxRecDepth 100000 in
theorem clavierref19_nums.calls (k : Nat) (a0 : Int) (a1 : Int) (A2 : Option Addr) (c2 : Nat) (l2 : List Int) (r1 : Int) (r2 : Int) (r3 : List (List Int)) (r4 : ByteArray) (r5 : Int) (r6 : ByteArray) (w : World) (hr2 : Kd.C (Kd.int .i64) w A2 l2.length l2) (hc2 : l2.length ≤ c2) (h : clavierref19_nums.f k a0 a1 l2 = some (r1, r2, r3, r4, r5, r6)) :
    Calls Tryd.prog 31 #[.int .u8 a0, .int .u8 a1, .slice A2 l2.length c2] w fun e w' => ∃ v2_ : Value, e = .returned (.agg #[.int .i64 r1, .int .u8 r2, v2_, .string r4, .int .u8 r5, .string r6]) ∧ Kd.S (Kd.slice 3 (Kd.int .i64)) 52 w' w.heap.size (fun _ => True) v2_ r3 ∧ Below w.heap.size w w' := by
  have hu30 := Tryd.underlying30
  have HR2 := Aside0.mk hr2
  have HC2 := Aside0.mk hc2
  clear hr2 hc2
  have HB := Aside0.mk (Below.refl w.heap.size w)
  have H : (clavierref19_nums.l0 k l2 0 1 a0 ([] : List (List Int)) (⟨#[]⟩ : ByteArray) a1 (⟨#[]⟩ : ByteArray)) = some (r1, r2, r3, r4, r5, r6) := h
  clear h
  have H' := Aside0.mk H
  clear H
  go_enter Tryd.func31, Tryd.ntmps31
  go_wp2_with (first | ((with_reducible refine gate_dst (N := 6) rfl ?_); refine box_event ?hg (N := 6) ?hd (cs := #[.int .i64 0, .int .u8 0, .slice none 0 0, .string (⟨#[]⟩ : ByteArray), .int .u8 0, .string (⟨#[]⟩ : ByteArray)]) (t := 30) ?hr ?_; (case hd => rfl); (case hg => rfl); (case hr => first | (go_simp; done) | (go_simp; rfl)); intro gb218 hg w4 hbox hb; have n0_ := Aside0.mk (below_step (by repeat (first | (with_reducible first | exact HB.out | apply la1 | apply ln1 | apply ld1) | exact HB.out)) hb); have n1_ := Aside0.mk (hbox); have n2_ := Aside0.mk ((by rw [hg]; exact (below_size (by repeat (first | (with_reducible first | exact HB.out | apply la1 | apply ln1 | apply ld1) | exact HB.out))) : w.heap.size ≤ gb218)); have n3_ := Aside0.mk ((by rw [hg]; exact (below_size (by repeat (first | (with_reducible first | exact HB.out | apply la1 | apply ln1 | apply ld1) | exact HB.out))) : w.heap.size ≤ gb218)); clear HB; have HB := n0_; have BK218 := n1_; have GW218 := n2_; have GE218 := n3_; clear n0_ n1_ n2_ n3_; clear hb hbox hg) | ((with_reducible refine gate_dst (N := 7) rfl ?_); refine box_event ?hg (N := 7) ?hd (cs := #[.int .i64 0, .int .u8 0, .slice none 0 0, .string (⟨#[]⟩ : ByteArray), .int .u8 0, .string (⟨#[]⟩ : ByteArray)]) (t := 30) ?hr ?_; (case hd => rfl); (case hg => rfl); (case hr => first | (go_simp; done) | (go_simp; rfl)); intro gb219 hg w5 hbox hb; have n0_ := Aside0.mk (bb1 (g := gb218) (o := .cells #[.int .i64 0, .int .u8 0, .slice none 0 0, .string (⟨#[]⟩ : ByteArray), .int .u8 0, .string (⟨#[]⟩ : ByteArray)] 30 (0, 0)) (by (with_reducible repeat (first | refine bn1 ?_ _ | refine bd1 ?_ | refine ba1 ?_ _)); exact BK218.out) hb); have n1_ := Aside0.mk (below_step (by repeat (first | (with_reducible first | exact HB.out | apply la1 | apply ln1 | apply ld1 | refine ls1 ?_ GE218.out) | exact HB.out)) hb); have n2_ := Aside0.mk (hbox); have n3_ := Aside0.mk ((by rw [hg]; exact (below_size (by repeat (first | (with_reducible first | exact HB.out | apply la1 | apply ln1 | apply ld1 | refine ls1 ?_ GE218.out) | exact HB.out))) : w.heap.size ≤ gb219)); have n4_ := Aside0.mk ((by rw [hg]; exact (below_size (by repeat (first | (with_reducible first | exact HB.out | apply la1 | apply ln1 | apply ld1 | refine ls1 ?_ GE218.out) | exact HB.out))) : w.heap.size ≤ gb219)); have n5_ := Aside0.mk ((by rw [hg]; exact Nat.ne_of_lt (blk_lt (g := gb218) (o := .cells #[.int .i64 0, .int .u8 0, .slice none 0 0, .string (⟨#[]⟩ : ByteArray), .int .u8 0, .string (⟨#[]⟩ : ByteArray)] 30 (0, 0)) (by (with_reducible repeat (first | refine bn1 ?_ _ | refine bd1 ?_ | refine ba1 ?_ _)); exact BK218.out)) : gb218 ≠ gb219)); have n6_ := Aside0.mk ((by rw [hg]; exact Nat.ne_of_gt (blk_lt (g := gb218) (o := .cells #[.int .i64 0, .int .u8 0, .slice none 0 0, .string (⟨#[]⟩ : ByteArray), .int .u8 0, .string (⟨#[]⟩ : ByteArray)] 30 (0, 0)) (by (with_reducible repeat (first | refine bn1 ?_ _ | refine bd1 ?_ | refine ba1 ?_ _)); exact BK218.out)) : gb219 ≠ gb218)); clear BK218; clear HB; have BK218 := n0_; have HB := n1_; have BK219 := n2_; have GW219 := n3_; have GE219 := n4_; have NB218_219 := n5_; have NB219_218 := n6_; clear n0_ n1_ n2_ n3_ n4_ n5_ n6_; clear hb hbox hg; have hnb6 := NB219_218.out; have hnc6 := NB218_219.out; have hcz7_0 : w5.cell? ⟨gb219, 0, none⟩ = some (.int .i64 0) := (bc1 BK219.out 0).trans rfl; have hcz7_1 : w5.cell? ⟨gb219, 1, none⟩ = some (.int .u8 0) := (bc1 BK219.out 1).trans rfl; have hcz7_2 : w5.cell? ⟨gb219, 2, none⟩ = some (.slice none 0 0) := (bc1 BK219.out 2).trans rfl; have hcz7_3 : w5.cell? ⟨gb219, 3, none⟩ = some (.string (⟨#[]⟩ : ByteArray)) := (bc1 BK219.out 3).trans rfl; have hcz7_4 : w5.cell? ⟨gb219, 4, none⟩ = some (.int .u8 0) := (bc1 BK219.out 4).trans rfl; have hcz7_5 : w5.cell? ⟨gb219, 5, none⟩ = some (.string (⟨#[]⟩ : ByteArray)) := (bc1 BK219.out 5).trans rfl; have hfz7_0 := bz1 BK219.out 0; have hfz7_1 := bz1 BK219.out 1; have hfz7_2 := bz1 BK219.out 2; have hfz7_3 := bz1 BK219.out 3; have hfz7_4 := bz1 BK219.out 4; have hfz7_5 := bz1 BK219.out 5))
  go_loopg [8] k (fun kq v8 w' => ∃ (x8_1 : Int) (x220002_1 : List (List Int)) (u220002 : Value), v8 = .int .i64 x8_1 ∧ Aside0 (clavierref19_nums.l0 kq l2 x8_1 1 a0 x220002_1 (⟨#[]⟩ : ByteArray) a1 (⟨#[]⟩ : ByteArray) = some (r1, r2, r3, r4, r5, r6)) ∧ Aside0 (kq ≤ k) ∧ Aside0 (Kd.S (Kd.slice 3 (Kd.int .i64)) 52 w' w.heap.size (fun _ => True) u220002 x220002_1) ∧ Aside0 (w'.heap[gb218]? = some (.cells #[.int .i64 0, .int .u8 0, (.slice none 0 0), .string (⟨#[]⟩ : ByteArray), .int .u8 0, .string (⟨#[]⟩ : ByteArray)] 30 (0, 0))) ∧ Aside0 (w'.heap[gb219]? = some (.cells #[.int .i64 1, .int .u8 a0, u220002, .string (⟨#[]⟩ : ByteArray), .int .u8 a1, .string (⟨#[]⟩ : ByteArray)] 30 (0, 0))) ∧ Aside0 (Below w.heap.size w w'))
  case atStart => exact ⟨(0), (([] : List (List Int))), (.slice none 0 0), (by first | rfl | (simp; done) | (simp [*]; done)), H', ⟨Nat.le_refl _⟩, ⟨by first | exact Kd.S_nil _ _ _ _ _ | exact Kd.N_nil _ _ _ _ _ | exact Kd.V_nil _ _ _ _ _ | exact Kd.Q_nil _ _ _ _ _ | exact Kd.R_nil _ _ _ _ _⟩, ⟨by (with_reducible repeat (first | refine bn1 ?_ _ | refine bd1 ?_ | refine ba1 ?_ _)); refine bf1 ?_ NB218_219.out _; (with_reducible repeat (first | refine bn1 ?_ _ | refine bd1 ?_ | refine ba1 ?_ _)); refine bf1 ?_ NB218_219.out _; (with_reducible repeat (first | refine bn1 ?_ _ | refine bd1 ?_ | refine ba1 ?_ _)); refine bf1 ?_ NB218_219.out _; (with_reducible repeat (first | refine bn1 ?_ _ | refine bd1 ?_ | refine ba1 ?_ _)); refine bf1 ?_ NB218_219.out _; (with_reducible repeat (first | refine bn1 ?_ _ | refine bd1 ?_ | refine ba1 ?_ _)); refine bf1 ?_ NB218_219.out _; (with_reducible repeat (first | refine bn1 ?_ _ | refine bd1 ?_ | refine ba1 ?_ _)); refine bf1 ?_ NB218_219.out _; (with_reducible repeat (first | refine bn1 ?_ _ | refine bd1 ?_ | refine ba1 ?_ _)); exact BK218.out⟩, ⟨by (with_reducible repeat (first | refine bn1 ?_ _ | refine bd1 ?_ | refine ba1 ?_ _)); refine bp1 (cs := #[.int .i64 1, .int .u8 a0, .slice none 0 0, .string (⟨#[]⟩ : ByteArray), .int .u8 a1, .string (⟨#[]⟩ : ByteArray)]) ?_ 5 _ rfl; (with_reducible repeat (first | refine bn1 ?_ _ | refine bd1 ?_ | refine ba1 ?_ _)); refine bp1 (cs := #[.int .i64 1, .int .u8 a0, .slice none 0 0, .string (⟨#[]⟩ : ByteArray), .int .u8 0, .string (⟨#[]⟩ : ByteArray)]) ?_ 4 _ rfl; (with_reducible repeat (first | refine bn1 ?_ _ | refine bd1 ?_ | refine ba1 ?_ _)); refine bp1 (cs := #[.int .i64 1, .int .u8 a0, .slice none 0 0, .string (⟨#[]⟩ : ByteArray), .int .u8 0, .string (⟨#[]⟩ : ByteArray)]) ?_ 3 _ rfl; (with_reducible repeat (first | refine bn1 ?_ _ | refine bd1 ?_ | refine ba1 ?_ _)); refine bp1 (cs := #[.int .i64 1, .int .u8 a0, .slice none 0 0, .string (⟨#[]⟩ : ByteArray), .int .u8 0, .string (⟨#[]⟩ : ByteArray)]) ?_ 2 _ rfl; (with_reducible repeat (first | refine bn1 ?_ _ | refine bd1 ?_ | refine ba1 ?_ _)); refine bp1 (cs := #[.int .i64 1, .int .u8 0, .slice none 0 0, .string (⟨#[]⟩ : ByteArray), .int .u8 0, .string (⟨#[]⟩ : ByteArray)]) ?_ 1 _ rfl; (with_reducible repeat (first | refine bn1 ?_ _ | refine bd1 ?_ | refine ba1 ?_ _)); refine bp1 (cs := #[.int .i64 0, .int .u8 0, .slice none 0 0, .string (⟨#[]⟩ : ByteArray), .int .u8 0, .string (⟨#[]⟩ : ByteArray)]) ?_ 0 _ rfl; (with_reducible repeat (first | refine bn1 ?_ _ | refine bd1 ?_ | refine ba1 ?_ _)); exact BK219.out⟩, ⟨by repeat (first | (with_reducible first | exact HB.out | apply la1 | apply ln1 | apply ld1 | refine ls1 ?_ GE218.out | refine ls1 ?_ GE219.out) | exact HB.out)⟩⟩
  case round =>
    clear H'
    try clear c2
    try clear p2
    try clear c3
    try clear c6
    try clear hcz7_0
    try clear hcz7_1
    try clear hcz7_2
    try clear hcz7_3
    try clear hcz7_4
    try clear hcz7_5
    try clear hfz7_0
    try clear hfz7_1
    try clear hfz7_2
    try clear hfz7_3
    try clear hfz7_4
    try clear hfz7_5
    obtain ⟨x8_1, x220002_1, u220002, rfl, HA, HK1, HO_220002, BK218, BK219, HB⟩ := hrel
    cases gk with
    | zero => exact absurd HA.out (by simp [clavierref19_nums.l0])
    | succ k1 =>
      have H := HA.out
      clear HA
      simp only [clavierref19_nums.l0] at H
      by_cases c8 : x8_1 < (l2.length : Int)
      · rw [if_pos c8] at H
        have c8b0 : decide (x8_1 < (l2.length : Int)) = true := decide_eq_true c8
        clear c8
        by_cases c9 : 0 ≤ x8_1
        · rw [if_pos c9] at H
          have c9b0 : decide (0 ≤ x8_1) = true := decide_eq_true c9
          clear c9
          obtain ⟨y221, hy221⟩ : ∃ y_ : List Int, y_ = (([rd l2 x8_1] : List Int)) := ⟨_, rfl⟩
          replace H : (if x220002_1.length < 5864062014805 then (clavierref19_nums.l0 k1 l2 (wrap64 (x8_1 + 1)) 1 a0 (x220002_1 ++ [y221]) (⟨#[]⟩ : ByteArray) a1 (⟨#[]⟩ : ByteArray)) else (none)) = some (r1, r2, r3, r4, r5, r6) := by first | (rw [hy221]; with_reducible exact H) | (have H2_ := (Option.bind_some _ _).symm.trans H; rw [hy221]; with_reducible exact H2_) | (have H2_ := (Option.bind_some _ _).symm.trans H; with_reducible exact H2_) | with_reducible exact H | (rw [hy221]; exact H) | exact H
          have Ny221 := Aside0.mk hy221
          clear hy221
          by_cases c10 : x220002_1.length < 5864062014805
          · rw [if_pos c10] at H
            have LMc10 := Aside0.mk c10
            clear c10
            obtain ⟨y224, hy224⟩ : ∃ y_ : List (List Int), y_ = (x220002_1 ++ [y221]) := ⟨_, rfl⟩
            replace H : (clavierref19_nums.l0 k1 l2 (wrap64 (x8_1 + 1)) 1 a0 y224 (⟨#[]⟩ : ByteArray) a1 (⟨#[]⟩ : ByteArray)) = some (r1, r2, r3, r4, r5, r6) := by first | (rw [hy224]; with_reducible exact H) | (have H2_ := (Option.bind_some _ _).symm.trans H; rw [hy224]; with_reducible exact H2_) | (have H2_ := (Option.bind_some _ _).symm.trans H; with_reducible exact H2_) | with_reducible exact H | (rw [hy224]; exact H) | exact H
            have Ny224 := Aside0.mk hy224
            clear hy224
            have H' := Aside0.mk H
            clear H
            try go_wp2
            have n0_ := Aside0.mk (Kd.S_drew HO_220002.out)
            have n1_ := Aside0.mk (bd1 BK218.out)
            have n2_ := Aside0.mk (bd1 BK219.out)
            have n3_ := Aside0.mk (ld1 HB.out)
            clear HO_220002
            clear BK218
            clear BK219
            clear HB
            have HO_220002 := n0_
            have BK218 := n1_
            have BK219 := n2_
            have HB := n3_
            clear n0_ n1_ n2_ n3_
            have p220 : 0 ≤ (x8_1 : Int) := of_decide_eq_true (by first | (with_reducible assumption) | assumption)
            have q220 : x8_1 < (l2.length : Int) := of_decide_eq_true (by first | (with_reducible assumption) | assumption)
            obtain ⟨ad220, e220, hx220_0⟩ := Kd.at_int HR2.out x8_1 p220 q220
            have hw220_0 := hx220_0
            cases e220
            replace hx220_0 := (HB.out.cell (World.block_lt_of_cell? w _ hx220_0)).trans hx220_0
            replace p220 := eq_true p220
            replace q220 := eq_true q220
            refine start_ (n := 11) (S := fun w' => w'.cell? ⟨gb219, 0, none⟩ = some (.int .i64 1) ∧ w'.cell? ⟨gb219, 1, none⟩ = some (.int .u8 a0) ∧ w'.cell? ⟨gb219, 2, none⟩ = some (u220002) ∧ w'.cell? ⟨gb219, 3, none⟩ = some (.string (⟨#[]⟩ : ByteArray)) ∧ w'.cell? ⟨gb219, 4, none⟩ = some (.int .u8 a1) ∧ w'.cell? ⟨gb219, 5, none⟩ = some (.string (⟨#[]⟩ : ByteArray)) ∧ w'.cell? (ad220.add (x8_1).toNat) = some (.int .i64 (rd l2 x8_1))) (ds := [10]) #[false, false, false, false, false, false, false, false, false, false, false] (by kernel_rfl) rfl rfl ⟨(bc1 BK219.out 0).trans rfl, (bc1 BK219.out 1).trans rfl, (bc1 BK219.out 2).trans rfl, (bc1 BK219.out 3).trans rfl, (bc1 BK219.out 4).trans rfl, (bc1 BK219.out 5).trans rfl, ((HB.out.cell (World.block_lt_of_cell? w _ hw220_0)).trans hw220_0)⟩ (fun hHeld => ?_); refine with_tabW clavierref19_nums.tab5 clavierref19_nums.bits5 (fun HT_ HW_ => ?_)
            generalize wr.drew = w11 at HO_220002 BK218 BK219 HB hx220_0 hHeld ⊢
            refine pure_ (i := 0) (N := some 18) (v := ?_) (a' := ?_) #[true, false, false, false, false, false, false, false, false, false, false] rfl rfl (any_of HT_.out (by kernel_rfl)) (fun _ _ _ h => h) (Or.inl ⟨by rfl, ?_⟩) ?_ ?_
            rotate_left
            · intro w'
              go_simp
              with_reducible rfl
            rotate_left
            · simp only [Act.put, List.setIfInBounds_toArray, List.set_cons_zero, List.set_cons_succ, i64_w, i32_w]
              rfl
            refine pure_ (i := 2) (N := some 20) (v := ?_) (a' := ?_) #[true, false, true, false, false, false, false, false, false, false, false] rfl rfl (any_of HT_.out (by kernel_rfl)) (fun _ _ _ h => h) (Or.inl ⟨by rfl, ?_⟩) ?_ ?_
            rotate_left
            · intro w'
              go_simp
              with_reducible rfl
            rotate_left
            · simp only [Act.put, List.setIfInBounds_toArray, List.set_cons_zero, List.set_cons_succ, i64_w, i32_w]
              rfl
            refine pure_ (i := 3) (N := some 21) (v := ?_) (a' := ?_) #[true, false, true, true, false, false, false, false, false, false, false] rfl rfl (any_of HT_.out (by kernel_rfl)) (fun _ _ _ h => h) (Or.inl ⟨by rfl, ?_⟩) ?_ ?_
            rotate_left
            · intro w'
              go_simp
              with_reducible rfl
            rotate_left
            · simp only [Act.put, List.setIfInBounds_toArray, List.set_cons_zero, List.set_cons_succ, i64_w, i32_w]
              rfl
            refine pure_ (i := 4) (N := some 22) (v := ?_) (a' := ?_) #[true, false, true, true, true, false, false, false, false, false, false] rfl rfl (any_of HT_.out (by kernel_rfl)) (fun _ _ _ h => h) (Or.inl ⟨by rfl, ?_⟩) ?_ ?_
            rotate_left
            · intro w'
              go_simp
              with_reducible rfl
            rotate_left
            · simp only [Act.put, List.setIfInBounds_toArray, List.set_cons_zero, List.set_cons_succ, i64_w, i32_w]
              rfl
            refine take_ (i := 1) (N := some 19) (v := ?_) (a' := ?_) #[true, true, true, true, true, false, false, false, false, false, false] rfl rfl (take_ofW HT_.out HW_.out (by kernel_rfl)) (fun _ _ _ h => h) (Or.inl ⟨by rfl, ?_⟩) hHeld ?_ ?_
            rotate_left
            · rintro w' ⟨s0, s1, s2, s3, s4, s5, s6⟩
              go_simp
              with_reducible rfl
            rotate_left
            · simp only [Act.put, List.setIfInBounds_toArray, List.set_cons_zero, List.set_cons_succ, i64_w, i32_w]
              rfl
            refine take_ (i := 5) (N := some 23) (v := ?_) (a' := ?_) #[true, true, true, true, true, true, false, false, false, false, false] rfl rfl (take_ofW HT_.out HW_.out (by kernel_rfl)) (fun _ _ _ h => h) (Or.inl ⟨by rfl, ?_⟩) hHeld ?_ ?_
            rotate_left
            · rintro w' ⟨s0, s1, s2, s3, s4, s5, s6⟩
              go_simp
              with_reducible rfl
            rotate_left
            · simp only [Act.put, List.setIfInBounds_toArray, List.set_cons_zero, List.set_cons_succ, i64_w, i32_w]
              rfl
            refine one_ (i := 6) (N := some 24) #[true, true, true, true, true, true, true, false, false, false, false] rfl rfl (one_of HT_.out (by kernel_rfl)) (by decide) (fun K hK => ?_)
            refine Kd.R_lit_step (Kd.int .i64) _ 3 ?hg (N := 24) ?hd (xs := ([rd l2 x8_1] : List Int)) (inner := [.int .i64 (rd l2 x8_1)]) (ok := fun _ => True) (okp := fun _ => True) ?hr ?hp (fun _ hk => hk) trivial (Below.refl _ _) (Nat.le_refl _) (by simp) ?_; (case hd => rfl); (case hg => rfl); (case hr => first | (go_simp; done) | (go_simp; rfl)); (case hp => exact (Reps.one (show Kd.M (Kd.int .i64) _ _ _ (rd l2 x8_1) [.int .i64 (rd l2 x8_1)] from rfl) (Reps.none _ _)))
            intro v222 w12 ho13 hb hg_ hnew_
            clear hg_ hnew_
            (first | rw [← Ny221.out] at ho13 | (simp only [Int.reduceToNat] at ho13; rw [← Ny221.out] at ho13))
            have n0_ := Aside0.mk (Kd.S_elder' (by (with_reducible repeat (first | apply Kd.S_alloc | apply Kd.S_drewN | apply Kd.S_drew)); exact HO_220002.out) (Kd.R_base ho13) hb)
            have n1_ := Aside0.mk (Kd.R_lower ho13 (below_size (by repeat (first | (with_reducible first | exact HB.out | apply la1 | apply ln1 | apply ld1 | refine ls1 ?_ GE218.out | refine ls1 ?_ GE219.out) | exact HB.out))))
            have n2_ := Aside0.mk (bb1 (g := gb218) (o := .cells #[.int .i64 0, .int .u8 0, .slice none 0 0, .string (⟨#[]⟩ : ByteArray), .int .u8 0, .string (⟨#[]⟩ : ByteArray)] 30 (0, 0)) (by (with_reducible repeat (first | refine bn1 ?_ _ | refine bd1 ?_ | refine ba1 ?_ _)); exact BK218.out) hb)
            have n3_ := Aside0.mk (bb1 (g := gb219) (o := .cells #[.int .i64 1, .int .u8 a0, u220002, .string (⟨#[]⟩ : ByteArray), .int .u8 a1, .string (⟨#[]⟩ : ByteArray)] 30 (0, 0)) (by (with_reducible repeat (first | refine bn1 ?_ _ | refine bd1 ?_ | refine ba1 ?_ _)); exact BK219.out) hb)
            have n4_ := Aside0.mk (below_step (by repeat (first | (with_reducible first | exact HB.out | apply la1 | apply ln1 | apply ld1 | refine ls1 ?_ GE218.out | refine ls1 ?_ GE219.out) | exact HB.out)) hb)
            clear HO_220002
            clear BK218
            clear BK219
            clear HB
            have HO_220002 := n0_
            have HO223 := n1_
            have BK218 := n2_
            have BK219 := n3_
            have HB := n4_
            clear n0_ n1_ n2_ n3_ n4_
            clear hb ho13
            obtain ⟨Ao15, co15, eo15⟩ := Kd.R_slice HO223.out
            (first | subst eo15 | (injection eo15 with f1_ f2_ f3_; have f4_ := f1_.symm; have f5_ := f3_.symm; clear f1_ f2_ f3_; subst f4_; subst f5_))
            refine hK.out _ _ ⟨(bc1 BK219.out 0).trans rfl, (bc1 BK219.out 1).trans rfl, (bc1 BK219.out 2).trans rfl, (bc1 BK219.out 3).trans rfl, (bc1 BK219.out 4).trans rfl, (bc1 BK219.out 5).trans rfl, ((HB.out.cell (World.block_lt_of_cell? w _ hw220_0)).trans hw220_0)⟩ (fun hHeld => ?_)
            clear hK K
            refine norm_ (a' := ?_) ?_ ?_
            rotate_left
            · show Act.put _ (some 24) _ = _
              simp only [Act.put, List.setIfInBounds_toArray, List.set_cons_zero, List.set_cons_succ, i64_w, i32_w]
              rfl
            refine one_ (i := 7) (N := some 25) #[true, true, true, true, true, true, true, true, false, false, false] rfl rfl (one_of HT_.out (by kernel_rfl)) (by decide) (fun K hK => ?_)
            refine value_ (w1 := ?_) (v := ?_) (by rfl) rfl ?_ ?_
            rotate_left 2
            · go_simp
              constructor
              · rfl
              · rfl
            refine hK.out _ _ ⟨(bc1 (ba1 BK219.out _) 0).trans rfl, (bc1 (ba1 BK219.out _) 1).trans rfl, (bc1 (ba1 BK219.out _) 2).trans rfl, (bc1 (ba1 BK219.out _) 3).trans rfl, (bc1 (ba1 BK219.out _) 4).trans rfl, (bc1 (ba1 BK219.out _) 5).trans rfl, (World.cell?_alloc_lt _ _ _ (World.block_lt_of_cell? _ _ (((HB.out.cell (World.block_lt_of_cell? w _ hw220_0)).trans hw220_0)))).trans (((HB.out.cell (World.block_lt_of_cell? w _ hw220_0)).trans hw220_0))⟩ (fun hHeld => ?_)
            clear hK K
            refine norm_ (a' := ?_) ?_ ?_
            rotate_left
            · show Act.put _ (some 25) _ = _
              simp only [Act.put, List.setIfInBounds_toArray, List.set_cons_zero, List.set_cons_succ, i64_w, i32_w]
              rfl
            refine one_ (i := 8) (N := some 26) #[true, true, true, true, true, true, true, true, true, false, false] rfl rfl (one_of HT_.out (by kernel_rfl)) (by decide) (fun K hK => ?_)
            refine Kd.S_append_step (Kd.slice 3 (Kd.int .i64)) (w0 := w) w.heap.size (by rfl) (.tmp 19) (.tmp 25) 28 52 (.slice none 0 0) 24 rfl Tryd.underlying28 info52 rfl (by decide) (by omega) u220002 x220002_1 y221 [.slice Ao15 y221.length co15] (fun _ => True) (fun k_ => some k_ = (.slice Ao15 y221.length co15 : Value).ownBlock) rfl rfl ?aP (fun k_ hk_ => ((Kd.R_mono (ok' := fun k_ => ((fun _ => True)) k_ ∧ some k_ ≠ (u220002 : Value).ownBlock) (Kd.R_apart' (HO223.out) (Kd.S_typed HO_220002.out) (by decide)) (fun k_ hk => ⟨trivial, hk.2⟩))).1 k_ hk_.symm) ?aF ?aO ?aB ?aS ?aL ?_
            (case aP => exact Kd.M_row (Kd.R_mono (Kd.R_tight rfl (Kd.R_mono (ok' := fun k_ => ((fun _ => True)) k_ ∧ some k_ ≠ (u220002 : Value).ownBlock) (Kd.R_apart' (HO223.out) (Kd.S_typed HO_220002.out) (by decide)) (fun k_ hk => ⟨trivial, hk.2⟩))) (fun _ h_ => h_)))
            (case aB => exact (by repeat (first | (with_reducible first | exact HB.out | apply la1 | apply ln1 | apply ld1 | refine ls1 ?_ GE218.out | refine ls1 ?_ GE219.out) | exact HB.out)))
            (case aF => exact (fun _ _ => trivial))
            (case aO => exact (by (with_reducible repeat (first | apply Kd.S_alloc | apply Kd.S_drewN | apply Kd.S_drew)); exact Kd.S_mono HO_220002.out (fun k_ hk => ⟨trivial, fun e_ => hk.2 e_⟩)))
            (case aS => exact (below_size (by repeat (first | (with_reducible first | exact HB.out | apply la1 | apply ln1 | apply ld1 | refine ls1 ?_ GE218.out | refine ls1 ?_ GE219.out) | exact HB.out))))
            (case aL => have := LMc10.out; omega)
            intro v225 w14 ho hb hg hat
            rw [← Ny224.out] at ho
            have n0_ := Aside0.mk (blk_grown (g := gb218) (o := .cells #[.int .i64 0, .int .u8 0, .slice none 0 0, .string (⟨#[]⟩ : ByteArray), .int .u8 0, .string (⟨#[]⟩ : ByteArray)] 30 (0, 0)) (by (with_reducible repeat (first | refine bn1 ?_ _ | refine bd1 ?_ | refine ba1 ?_ _)); exact BK218.out) hg (Kd.S_ne HO_220002.out BK218.out (by decide)))
            have n1_ := Aside0.mk (blk_grown (g := gb219) (o := .cells #[.int .i64 1, .int .u8 a0, u220002, .string (⟨#[]⟩ : ByteArray), .int .u8 a1, .string (⟨#[]⟩ : ByteArray)] 30 (0, 0)) (by (with_reducible repeat (first | refine bn1 ?_ _ | refine bd1 ?_ | refine ba1 ?_ _)); exact BK219.out) hg (Kd.S_ne HO_220002.out BK219.out (by decide)))
            have n2_ := Aside0.mk (hb)
            have n3_ := Aside0.mk (ho)
            clear BK218
            clear BK219
            clear HB
            clear HO_220002
            clear HO223
            have BK218 := n0_
            have BK219 := n1_
            have HB := n2_
            have HO226 := n3_
            clear n0_ n1_ n2_ n3_
            clear ho hb hg hat
            obtain ⟨Ao16, co16, eo16⟩ := Kd.S_slice HO226.out
            (first | subst eo16 | (injection eo16 with f1_ f2_ f3_; have f4_ := f1_.symm; have f5_ := f3_.symm; clear f1_ f2_ f3_; subst f4_; subst f5_))
            refine hK.out _ _ ⟨(bc1 BK219.out 0).trans rfl, (bc1 BK219.out 1).trans rfl, (bc1 BK219.out 2).trans rfl, (bc1 BK219.out 3).trans rfl, (bc1 BK219.out 4).trans rfl, (bc1 BK219.out 5).trans rfl, ((HB.out.cell (World.block_lt_of_cell? w _ hw220_0)).trans hw220_0)⟩ (fun hHeld => ?_)
            clear hK K
            refine norm_ (a' := ?_) ?_ ?_
            rotate_left
            · show Act.put _ (some 26) _ = _
              simp only [Act.put, List.setIfInBounds_toArray, List.set_cons_zero, List.set_cons_succ, i64_w, i32_w]
              rfl
            refine pure_ (i := 9) (N := some 27) (v := ?_) (a' := ?_) #[true, true, true, true, true, true, true, true, true, true, false] rfl rfl (any_of HT_.out (by kernel_rfl)) (fun _ _ _ h => h) (Or.inl ⟨by rfl, ?_⟩) ?_ ?_
            rotate_left
            · intro w'
              go_simp
              with_reducible rfl
            rotate_left
            · simp only [Act.put, List.setIfInBounds_toArray, List.set_cons_zero, List.set_cons_succ, i64_w, i32_w]
              rfl
            refine last_ (i := 10) (N := none) #[true, true, true, true, true, true, true, true, true, true, true] rfl rfl (one_of HT_.out (by kernel_rfl)) (by decide) (fun K hK => ?_)
            have hs17 : w14.cell? ⟨gb219, 2, none⟩ = some (u220002) := (bc1 BK219.out 2).trans rfl
            have hfs17 := bz1 BK219.out 2
            have hns17_0 := NB218_219.out
            have hms17_0 := NB219_218.out
            refine skip_ (w1 := ?_) (by rfl) rfl ?_ ?_
            rotate_left
            · go_simp
              rfl
            refine hK.out _ _ ?_
            clear hK K
            refine done_ (done_of HT_.out (by kernel_rfl)) ?_
            try go_wp2
            go_roundg k1
            case measure => have := HK1.out; omega
            case rel => exact ⟨(wrap64 (x8_1 + 1)), (y224), (.slice Ao16 y224.length co16), (by first | rfl | (simp; done) | (simp [*]; done)), H', ⟨by have := HK1.out; omega⟩, ⟨by (with_reducible repeat (first | apply Kd.S_alloc | apply Kd.S_drewN | apply Kd.S_drew)); exact Kd.S_mono (Kd.S_far (p := ⟨gb219, 2, none⟩) (Kd.S_types HO226.out BK219.out (by decide)) (fun _ hk => hk.2) (.slice Ao16 y224.length co16)) (fun _ hk => trivial)⟩, ⟨by (with_reducible repeat (first | refine bn1 ?_ _ | refine bd1 ?_ | refine ba1 ?_ _)); refine bf1 ?_ NB218_219.out _; (with_reducible repeat (first | refine bn1 ?_ _ | refine bd1 ?_ | refine ba1 ?_ _)); exact BK218.out⟩, ⟨by (with_reducible repeat (first | refine bn1 ?_ _ | refine bd1 ?_ | refine ba1 ?_ _)); refine bp1 (cs := #[.int .i64 1, .int .u8 a0, u220002, .string (⟨#[]⟩ : ByteArray), .int .u8 a1, .string (⟨#[]⟩ : ByteArray)]) ?_ 2 _ rfl; (with_reducible repeat (first | refine bn1 ?_ _ | refine bd1 ?_ | refine ba1 ?_ _)); exact BK219.out⟩, ⟨by repeat (first | (with_reducible first | exact HB.out | apply la1 | apply ln1 | apply ld1 | refine ls1 ?_ GE218.out | refine ls1 ?_ GE219.out) | exact HB.out)⟩⟩
          · rw [if_neg c10] at H
            exact absurd H (by simp)
        · rw [if_neg c9] at H
          exact absurd H (by simp)
      · rw [if_neg c8] at H
        have c8b0 : decide (x8_1 < (l2.length : Int)) = false := decide_eq_false c8
        clear c8
        simp only [Option.some.injEq, Prod.mk.injEq] at H
        obtain ⟨rfl, rfl, rfl, rfl, rfl, rfl⟩ := H
        have hnb18 := NB219_218.out
        have hnc18 := NB218_219.out
        have hcz19_0 : wr.cell? ⟨gb219, 0, none⟩ = some (.int .i64 1) := (bc1 BK219.out 0).trans rfl
        have hcz19_1 : wr.cell? ⟨gb219, 1, none⟩ = some (.int .u8 a0) := (bc1 BK219.out 1).trans rfl
        have hcz19_2 : wr.cell? ⟨gb219, 2, none⟩ = some (u220002) := (bc1 BK219.out 2).trans rfl
        have hcz19_3 : wr.cell? ⟨gb219, 3, none⟩ = some (.string (⟨#[]⟩ : ByteArray)) := (bc1 BK219.out 3).trans rfl
        have hcz19_4 : wr.cell? ⟨gb219, 4, none⟩ = some (.int .u8 a1) := (bc1 BK219.out 4).trans rfl
        have hcz19_5 : wr.cell? ⟨gb219, 5, none⟩ = some (.string (⟨#[]⟩ : ByteArray)) := (bc1 BK219.out 5).trans rfl
        have hfz19_0 := bz1 BK219.out 0
        have hfz19_1 := bz1 BK219.out 1
        have hfz19_2 := bz1 BK219.out 2
        have hfz19_3 := bz1 BK219.out 3
        have hfz19_4 := bz1 BK219.out 4
        have hfz19_5 := bz1 BK219.out 5
        have hcz20_0 : wr.cell? ⟨gb218, 0, none⟩ = some (.int .i64 0) := (bc1 BK218.out 0).trans rfl
        have hcz20_1 : wr.cell? ⟨gb218, 1, none⟩ = some (.int .u8 0) := (bc1 BK218.out 1).trans rfl
        have hcz20_2 : wr.cell? ⟨gb218, 2, none⟩ = some (.slice none 0 0) := (bc1 BK218.out 2).trans rfl
        have hcz20_3 : wr.cell? ⟨gb218, 3, none⟩ = some (.string (⟨#[]⟩ : ByteArray)) := (bc1 BK218.out 3).trans rfl
        have hcz20_4 : wr.cell? ⟨gb218, 4, none⟩ = some (.int .u8 0) := (bc1 BK218.out 4).trans rfl
        have hcz20_5 : wr.cell? ⟨gb218, 5, none⟩ = some (.string (⟨#[]⟩ : ByteArray)) := (bc1 BK218.out 5).trans rfl
        have hfz20_0 := bz1 BK218.out 0
        have hfz20_1 := bz1 BK218.out 1
        have hfz20_2 := bz1 BK218.out 2
        have hfz20_3 := bz1 BK218.out 3
        have hfz20_4 := bz1 BK218.out 4
        have hfz20_5 := bz1 BK218.out 5
        obtain ⟨Ao21, co21, eo21⟩ := Kd.S_slice HO_220002.out
        subst eo21
        go_wp2
        refine bodyPost_ret (results_cell_row rfl _ _ gb218 30 #[.int .i64 1, .int .u8 a0, .slice Ao21 x220002_1.length co21, .string (⟨#[]⟩ : ByteArray), .int .u8 a1, .string (⟨#[]⟩ : ByteArray)] (0, 0) _ rfl (by (with_reducible repeat (first | refine bn1 ?_ _ | refine bd1 ?_ | refine ba1 ?_ _)); refine bp1 (cs := #[.int .i64 1, .int .u8 a0, .slice Ao21 x220002_1.length co21, .string (⟨#[]⟩ : ByteArray), .int .u8 a1, .string (⟨#[]⟩ : ByteArray)]) ?_ 5 _ rfl; (with_reducible repeat (first | refine bn1 ?_ _ | refine bd1 ?_ | refine ba1 ?_ _)); refine bp1 (cs := #[.int .i64 1, .int .u8 a0, .slice Ao21 x220002_1.length co21, .string (⟨#[]⟩ : ByteArray), .int .u8 0, .string (⟨#[]⟩ : ByteArray)]) ?_ 4 _ rfl; (with_reducible repeat (first | refine bn1 ?_ _ | refine bd1 ?_ | refine ba1 ?_ _)); refine bp1 (cs := #[.int .i64 1, .int .u8 a0, .slice Ao21 x220002_1.length co21, .string (⟨#[]⟩ : ByteArray), .int .u8 0, .string (⟨#[]⟩ : ByteArray)]) ?_ 3 _ rfl; (with_reducible repeat (first | refine bn1 ?_ _ | refine bd1 ?_ | refine ba1 ?_ _)); refine bp1 (cs := #[.int .i64 1, .int .u8 a0, .slice none 0 0, .string (⟨#[]⟩ : ByteArray), .int .u8 0, .string (⟨#[]⟩ : ByteArray)]) ?_ 2 _ rfl; (with_reducible repeat (first | refine bn1 ?_ _ | refine bd1 ?_ | refine ba1 ?_ _)); refine bp1 (cs := #[.int .i64 1, .int .u8 0, .slice none 0 0, .string (⟨#[]⟩ : ByteArray), .int .u8 0, .string (⟨#[]⟩ : ByteArray)]) ?_ 1 _ rfl; (with_reducible repeat (first | refine bn1 ?_ _ | refine bd1 ?_ | refine ba1 ?_ _)); refine bp1 (cs := #[.int .i64 0, .int .u8 0, .slice none 0 0, .string (⟨#[]⟩ : ByteArray), .int .u8 0, .string (⟨#[]⟩ : ByteArray)]) ?_ 0 _ rfl; (with_reducible repeat (first | refine bn1 ?_ _ | refine bd1 ?_ | refine ba1 ?_ _)); exact BK218.out) Tryd.underlying30 rfl (by kernel_rfl)) rfl ?_
        exact ⟨_, by first | rfl | (simp [errW_none, errW_some] <;> rfl) | (simp [*, errW_none, errW_some] <;> rfl), by (with_reducible repeat (first | apply Kd.S_alloc | apply Kd.S_drewN | apply Kd.S_drew)); exact Kd.S_mono (Kd.S_far (p := ⟨gb218, 5, none⟩) (Kd.S_far (p := ⟨gb218, 4, none⟩) (Kd.S_far (p := ⟨gb218, 3, none⟩) (Kd.S_far (p := ⟨gb218, 2, none⟩) (Kd.S_far (p := ⟨gb218, 1, none⟩) (Kd.S_far (p := ⟨gb218, 0, none⟩) (Kd.S_types HO_220002.out BK218.out (by decide)) (fun _ hk => hk.2) (.int .i64 1)) (fun _ hk => hk.2) (.int .u8 a0)) (fun _ hk => hk.2) (.slice Ao21 x220002_1.length co21)) (fun _ hk => hk.2) (.string (⟨#[]⟩ : ByteArray))) (fun _ hk => hk.2) (.int .u8 a1)) (fun _ hk => hk.2) (.string (⟨#[]⟩ : ByteArray))) (fun _ hk => trivial), by repeat (first | (with_reducible first | exact HB.out | apply la1 | apply ln1 | apply ld1 | refine ls1 ?_ GE218.out | refine ls1 ?_ GE219.out) | exact HB.out)⟩
def clavierref19_fact.f (a0 : Int) : Option (Int) := some (mn (mx a0 0) 65535)
set_option maxHeartbeats 8000000 in
set_option maxRecDepth 100000 in
theorem clavierref19_fact.calls (a0 : Int) (r : Int) (w : World) (h : clavierref19_fact.f a0 = some r) :
    Calls Tryd.prog 32 #[.int .i64 a0] w fun e w' => e = .returned (.int .i64 r) ∧ Below w.heap.size w w' := by
  have HB := Aside0.mk (Below.refl w.heap.size w)
  have H : (some (mn (mx a0 0) 65535)) = some r := h
  clear h
  obtain ⟨ji2, hji2⟩ : ∃ j_ : Int, (mx a0 0) = j_ := ⟨_, rfl⟩
  replace H : (some (mn (ji2) 65535)) = some r := by first | (rw [hji2] at H; exact H) | (simp only [hji2] at H ⊢; exact H)
  (try (have hji2l : 0 ≤ ji2 := by (rw [← hji2]; unfold mx; (repeat' split) <;> omega)))
  (try (have hji2m : 0 ≤ ji2 := by omega))
  have hji2_ : (if a0 < 0 then 0 else a0) = ji2 := hji2
  obtain ⟨ji3, hji3⟩ : ∃ j_ : Int, (mn (ji2) 65535) = j_ := ⟨_, rfl⟩
  replace H : (some ji3) = some r := by first | (rw [hji3] at H; exact H) | (simp only [hji3] at H ⊢; exact H)
  have hji3_ : (if 65535 < (ji2) then 65535 else (ji2)) = ji3 := hji3
  obtain rfl := Option.some.inj H
  go_enter Tryd.func32, Tryd.ntmps32
  go_wp2
  go_ret
  exact ⟨by first | rfl | (simp [errW_none, errW_some] <;> rfl) | (simp only [← hji2, ← hji3]; first | rfl | (simp [errW_none, errW_some] <;> rfl)) | (simp [*, errW_none, errW_some] <;> rfl), by repeat (first | (with_reducible first | exact HB.out | apply la1 | apply ln1 | apply ld1) | exact HB.out)⟩
def clavierref19_Place.f (k : Nat) (a0_0 : Int) (a0_1 : Int) (a0_2 : Int) (a0_3 : Int) (a0_4 : Int) (a0_5 : Int) (a0_6 : Int) (a0_7 : Int) (a0_8 : Int) (a0_9 : Bool) (a0_10 : Bool) (a0_11 : Bool) (a0_12 : Bool) (a0_13 : Bool) (a0_14 : Bool) (a0_15 : Bool) (a0_16 : Int) (a0_17 : Int) (a0_18 : Int) (a1 : Bool) : Option (Int × Int × (List (List Int)) × ByteArray × Int × ByteArray) := if a1 = true then ((clavierref19_fact.f a0_2).bind fun t229 => ((clavierref19_fact.f a0_3).bind fun t230 => ((clavierref19_nums.f k 63 82 (([t229, t230, 1] : List Int))).bind fun bt234 => (some (bt234.1, bt234.2.1, bt234.2.2.1, bt234.2.2.2.1, bt234.2.2.2.2.1, bt234.2.2.2.2.2))))) else ((clavierref19_fact.f a0_2).bind fun t242 => ((clavierref19_fact.f a0_3).bind fun t243 => ((clavierref19_nums.f k 0 82 (([t242, t243] : List Int))).bind fun bt247 => (some (bt247.1, bt247.2.1, bt247.2.2.1, bt247.2.2.2.1, bt247.2.2.2.2.1, bt247.2.2.2.2.2)))))
theorem clavierref19_Place.mono : ∀ a0 a1 a2 a3 a4 a5 a6 a7 a8 a9 a10 a11 a12 a13 a14 a15 a16 a17 a18 a19 k, LeO (clavierref19_Place.f k a0 a1 a2 a3 a4 a5 a6 a7 a8 a9 a10 a11 a12 a13 a14 a15 a16 a17 a18 a19) (clavierref19_Place.f (k + 1) a0 a1 a2 a3 a4 a5 a6 a7 a8 a9 a10 a11 a12 a13 a14 a15 a16 a17 a18 a19) := by
  intro a0 a1 a2 a3 a4 a5 a6 a7 a8 a9 a10 a11 a12 a13 a14 a15 a16 a17 a18 a19 k
  unfold clavierref19_Place.f
  repeat' first
      | (with_reducible exact clavierref19_nums.mono _ _ _ _)
      | (with_reducible exact LeO.refl _)
      | (with_reducible exact LeO.none _)
      | (with_reducible refine LeO.ite ?_ ?_)
      | (with_reducible refine LeO.bind ?_ (fun _ => ?_))
      | exact clavierref19_nums.mono _ _ _ _
      | exact LeO.none _
      | refine LeO.ite ?_ ?_
      | refine LeO.bind ?_ (fun _ => ?_)
def clavierref19_Place.T2 : Bool × List (List Nat × List Nat) := (true, [([], []), ([0], [0]), ([1], [1]), ([], []), ([3], [3]), ([4, 2], [4]), ([2, 5], [2, 5]), ([6, 5], [6]), ([7, 7, 0, 1, 2, 3, 4, 5, 6, 7], [7])])
def clavierref19_Place.B2 : List Nat := [0, 1, 3, 0, 8, 31, 63, 127, 255]
theorem clavierref19_Place.tab2 : rtab .any (opsOf Tryd.f12 2) = clavierref19_Place.T2 := by kernel_rfl
theorem clavierref19_Place.bits2 : waitsOk clavierref19_Place.T2.2 clavierref19_Place.B2 = true := by kernel_rfl
def clavierref19_Place.T3 : Bool × List (List Nat × List Nat) := (true, [([], []), ([0], [0]), ([1], [1]), ([], []), ([3], [3]), ([4, 2], [4]), ([2, 5], [2, 5]), ([6, 5], [6]), ([7, 7, 0, 1, 2, 3, 4, 5, 6, 7], [7])])
def clavierref19_Place.B3 : List Nat := [0, 1, 3, 0, 8, 31, 63, 127, 255]
theorem clavierref19_Place.tab3 : rtab .any (opsOf Tryd.f12 3) = clavierref19_Place.T3 := by kernel_rfl
theorem clavierref19_Place.bits3 : waitsOk clavierref19_Place.T3.2 clavierref19_Place.B3 = true := by kernel_rfl
set_option maxHeartbeats 8000000 in
set_option maxRecDepth 100000 in
theorem clavierref19_Place.calls (k : Nat) (a0_0 : Int) (a0_1 : Int) (a0_2 : Int) (a0_3 : Int) (a0_4 : Int) (a0_5 : Int) (a0_6 : Int) (a0_7 : Int) (a0_8 : Int) (a0_9 : Bool) (a0_10 : Bool) (a0_11 : Bool) (a0_12 : Bool) (a0_13 : Bool) (a0_14 : Bool) (a0_15 : Bool) (a0_16 : Int) (a0_17 : Int) (a0_18 : Int) (a1 : Bool) (r1 : Int) (r2 : Int) (r3 : List (List Int)) (r4 : ByteArray) (r5 : Int) (r6 : ByteArray) (w : World) (h : clavierref19_Place.f k a0_0 a0_1 a0_2 a0_3 a0_4 a0_5 a0_6 a0_7 a0_8 a0_9 a0_10 a0_11 a0_12 a0_13 a0_14 a0_15 a0_16 a0_17 a0_18 a1 = some (r1, r2, r3, r4, r5, r6)) :
    Calls Tryd.prog 12 #[.agg #[.int .i64 a0_0, .int .i64 a0_1, .int .i64 a0_2, .int .i64 a0_3, .int .i64 a0_4, .int .i64 a0_5, .int .i64 a0_6, .int .i64 a0_7, .int .i64 a0_8, .bool a0_9, .bool a0_10, .bool a0_11, .bool a0_12, .bool a0_13, .bool a0_14, .bool a0_15, .int .i64 a0_16, .int .i64 a0_17, .int .i64 a0_18], .bool a1] w fun e w' => ∃ v2_ : Value, e = .returned (.agg #[.int .i64 r1, .int .u8 r2, v2_, .string r4, .int .u8 r5, .string r6]) ∧ Kd.S (Kd.slice 3 (Kd.int .i64)) 52 w' w.heap.size (fun _ => True) v2_ r3 ∧ Below w.heap.size w w' := by
  have hu25 := Tryd.underlying25
  have hu30 := Tryd.underlying30
  have HB := Aside0.mk (Below.refl w.heap.size w)
  have H : (if a1 = true then ((clavierref19_fact.f a0_2).bind fun t229 => ((clavierref19_fact.f a0_3).bind fun t230 => ((clavierref19_nums.f k 63 82 (([t229, t230, 1] : List Int))).bind fun bt234 => (some (bt234.1, bt234.2.1, bt234.2.2.1, bt234.2.2.2.1, bt234.2.2.2.2.1, bt234.2.2.2.2.2))))) else ((clavierref19_fact.f a0_2).bind fun t242 => ((clavierref19_fact.f a0_3).bind fun t243 => ((clavierref19_nums.f k 0 82 (([t242, t243] : List Int))).bind fun bt247 => (some (bt247.1, bt247.2.1, bt247.2.2.1, bt247.2.2.2.1, bt247.2.2.2.2.1, bt247.2.2.2.2.2)))))) = some (r1, r2, r3, r4, r5, r6) := h
  clear h
  by_cases c3 : a1 = true
  · subst c3
    have H1 : ((clavierref19_fact.f a0_2).bind fun t229 => ((clavierref19_fact.f a0_3).bind fun t230 => ((clavierref19_nums.f k 63 82 (([t229, t230, 1] : List Int))).bind fun bt234 => (some (bt234.1, bt234.2.1, bt234.2.2.1, bt234.2.2.2.1, bt234.2.2.2.2.1, bt234.2.2.2.2.2))))) = some (r1, r2, r3, r4, r5, r6) := by rw [if_pos rfl] at H; exact H
    clear H
    have H := H1
    clear H1
    replace H := Option.bind_eq_some_iff.mp H
    obtain ⟨t229, A40, H⟩ := H
    replace H : ((clavierref19_fact.f a0_3).bind fun t230 => ((clavierref19_nums.f k 63 82 (([t229, t230, 1] : List Int))).bind fun bt234 => (some (bt234.1, bt234.2.1, bt234.2.2.1, bt234.2.2.2.1, bt234.2.2.2.2.1, bt234.2.2.2.2.2)))) = some (r1, r2, r3, r4, r5, r6) := H
    have A4 := Aside0.mk A40
    clear A40
    replace H := Option.bind_eq_some_iff.mp H
    obtain ⟨t230, A50, H⟩ := H
    replace H : ((clavierref19_nums.f k 63 82 (([t229, t230, 1] : List Int))).bind fun bt234 => (some (bt234.1, bt234.2.1, bt234.2.2.1, bt234.2.2.2.1, bt234.2.2.2.2.1, bt234.2.2.2.2.2))) = some (r1, r2, r3, r4, r5, r6) := H
    have A5 := Aside0.mk A50
    clear A50
    obtain ⟨y231, hy231⟩ : ∃ y_ : List Int, y_ = (([t229, t230, 1] : List Int)) := ⟨_, rfl⟩
    replace H : ((clavierref19_nums.f k 63 82 y231).bind fun bt234 => (some (bt234.1, bt234.2.1, bt234.2.2.1, bt234.2.2.2.1, bt234.2.2.2.2.1, bt234.2.2.2.2.2))) = some (r1, r2, r3, r4, r5, r6) := by first | (rw [hy231]; with_reducible exact H) | (have H2_ := (Option.bind_some _ _).symm.trans H; rw [hy231]; with_reducible exact H2_) | (have H2_ := (Option.bind_some _ _).symm.trans H; with_reducible exact H2_) | with_reducible exact H | (rw [hy231]; exact H) | exact H
    have Ny231 := Aside0.mk hy231
    clear hy231
    replace H := Option.bind_eq_some_iff.mp H
    obtain ⟨⟨t234, t235, t236, t239, t240, t241⟩, A60, H⟩ := H
    replace H : (some (t234, t235, t236, t239, t240, t241)) = some (r1, r2, r3, r4, r5, r6) := H
    have A6 := Aside0.mk A60
    clear A60
    simp only [Option.some.injEq, Prod.mk.injEq] at H
    obtain ⟨rfl, rfl, rfl, rfl, rfl, rfl⟩ := H
    go_enter Tryd.func12, Tryd.ntmps12
    try go_wp2_with (first | ((with_reducible refine gate_dst (N := 2) rfl ?_); refine box_event ?hg (N := 2) ?hd (cs := #[.int .i64 a0_0, .int .i64 a0_1, .int .i64 a0_2, .int .i64 a0_3, .int .i64 a0_4, .int .i64 a0_5, .int .i64 a0_6, .int .i64 a0_7, .int .i64 a0_8, .bool a0_9, .bool a0_10, .bool a0_11, .bool a0_12, .bool a0_13, .bool a0_14, .bool a0_15, .int .i64 a0_16, .int .i64 a0_17, .int .i64 a0_18]) (t := 25) ?hr ?_; (case hd => rfl); (case hg => rfl); (case hr => first | (go_simp; done) | (go_simp; rfl)); intro gb227 hg w7 hbox hb; have n0_ := Aside0.mk (below_step (by repeat (first | (with_reducible first | exact HB.out | apply la1 | apply ln1 | apply ld1) | exact HB.out)) hb); have n1_ := Aside0.mk (hbox); have n2_ := Aside0.mk ((by rw [hg]; exact (below_size (by repeat (first | (with_reducible first | exact HB.out | apply la1 | apply ln1 | apply ld1) | exact HB.out))) : w.heap.size ≤ gb227)); have n3_ := Aside0.mk ((by rw [hg]; exact (below_size (by repeat (first | (with_reducible first | exact HB.out | apply la1 | apply ln1 | apply ld1) | exact HB.out))) : w.heap.size ≤ gb227)); clear HB; have HB := n0_; have BK227 := n1_; have GW227 := n2_; have GE227 := n3_; clear n0_ n1_ n2_ n3_; clear hb hbox hg) | ((with_reducible refine gate_dst (N := 4) rfl ?_); refine box_event ?hg (N := 4) ?hd (cs := #[.int .i64 0, .int .u8 0, .slice none 0 0, .string (⟨#[]⟩ : ByteArray), .int .u8 0, .string (⟨#[]⟩ : ByteArray)]) (t := 30) ?hr ?_; (case hd => rfl); (case hg => rfl); (case hr => first | (go_simp; done) | (go_simp; rfl)); intro gb228 hg w8 hbox hb; have n0_ := Aside0.mk (bb1 (g := gb227) (o := .cells #[.int .i64 a0_0, .int .i64 a0_1, .int .i64 a0_2, .int .i64 a0_3, .int .i64 a0_4, .int .i64 a0_5, .int .i64 a0_6, .int .i64 a0_7, .int .i64 a0_8, .bool a0_9, .bool a0_10, .bool a0_11, .bool a0_12, .bool a0_13, .bool a0_14, .bool a0_15, .int .i64 a0_16, .int .i64 a0_17, .int .i64 a0_18] 25 (0, 0)) (by (with_reducible repeat (first | refine bn1 ?_ _ | refine bd1 ?_ | refine ba1 ?_ _)); exact BK227.out) hb); have n1_ := Aside0.mk (below_step (by repeat (first | (with_reducible first | exact HB.out | apply la1 | apply ln1 | apply ld1 | refine ls1 ?_ GE227.out) | exact HB.out)) hb); have n2_ := Aside0.mk (hbox); have n3_ := Aside0.mk ((by rw [hg]; exact (below_size (by repeat (first | (with_reducible first | exact HB.out | apply la1 | apply ln1 | apply ld1 | refine ls1 ?_ GE227.out) | exact HB.out))) : w.heap.size ≤ gb228)); have n4_ := Aside0.mk ((by rw [hg]; exact (below_size (by repeat (first | (with_reducible first | exact HB.out | apply la1 | apply ln1 | apply ld1 | refine ls1 ?_ GE227.out) | exact HB.out))) : w.heap.size ≤ gb228)); have n5_ := Aside0.mk ((by rw [hg]; exact Nat.ne_of_lt (blk_lt (g := gb227) (o := .cells #[.int .i64 a0_0, .int .i64 a0_1, .int .i64 a0_2, .int .i64 a0_3, .int .i64 a0_4, .int .i64 a0_5, .int .i64 a0_6, .int .i64 a0_7, .int .i64 a0_8, .bool a0_9, .bool a0_10, .bool a0_11, .bool a0_12, .bool a0_13, .bool a0_14, .bool a0_15, .int .i64 a0_16, .int .i64 a0_17, .int .i64 a0_18] 25 (0, 0)) (by (with_reducible repeat (first | refine bn1 ?_ _ | refine bd1 ?_ | refine ba1 ?_ _)); exact BK227.out)) : gb227 ≠ gb228)); have n6_ := Aside0.mk ((by rw [hg]; exact Nat.ne_of_gt (blk_lt (g := gb227) (o := .cells #[.int .i64 a0_0, .int .i64 a0_1, .int .i64 a0_2, .int .i64 a0_3, .int .i64 a0_4, .int .i64 a0_5, .int .i64 a0_6, .int .i64 a0_7, .int .i64 a0_8, .bool a0_9, .bool a0_10, .bool a0_11, .bool a0_12, .bool a0_13, .bool a0_14, .bool a0_15, .int .i64 a0_16, .int .i64 a0_17, .int .i64 a0_18] 25 (0, 0)) (by (with_reducible repeat (first | refine bn1 ?_ _ | refine bd1 ?_ | refine ba1 ?_ _)); exact BK227.out)) : gb228 ≠ gb227)); clear BK227; clear HB; have BK227 := n0_; have HB := n1_; have BK228 := n2_; have GW228 := n3_; have GE228 := n4_; have NB227_228 := n5_; have NB228_227 := n6_; clear n0_ n1_ n2_ n3_ n4_ n5_ n6_; clear hb hbox hg))
    have n0_ := Aside0.mk (bd1 BK227.out)
    have n1_ := Aside0.mk (bd1 BK228.out)
    have n2_ := Aside0.mk (ld1 HB.out)
    clear BK227
    clear BK228
    clear HB
    have BK227 := n0_
    have BK228 := n1_
    have HB := n2_
    clear n0_ n1_ n2_
    refine start_ (n := 9) (S := fun w' => w'.cell? ⟨gb227, 0, none⟩ = some (.int .i64 a0_0) ∧ w'.cell? ⟨gb227, 1, none⟩ = some (.int .i64 a0_1) ∧ w'.cell? ⟨gb227, 2, none⟩ = some (.int .i64 a0_2) ∧ w'.cell? ⟨gb227, 3, none⟩ = some (.int .i64 a0_3) ∧ w'.cell? ⟨gb227, 4, none⟩ = some (.int .i64 a0_4) ∧ w'.cell? ⟨gb227, 5, none⟩ = some (.int .i64 a0_5) ∧ w'.cell? ⟨gb227, 6, none⟩ = some (.int .i64 a0_6) ∧ w'.cell? ⟨gb227, 7, none⟩ = some (.int .i64 a0_7) ∧ w'.cell? ⟨gb227, 8, none⟩ = some (.int .i64 a0_8) ∧ w'.cell? ⟨gb227, 9, none⟩ = some (.bool a0_9) ∧ w'.cell? ⟨gb227, 10, none⟩ = some (.bool a0_10) ∧ w'.cell? ⟨gb227, 11, none⟩ = some (.bool a0_11) ∧ w'.cell? ⟨gb227, 12, none⟩ = some (.bool a0_12) ∧ w'.cell? ⟨gb227, 13, none⟩ = some (.bool a0_13) ∧ w'.cell? ⟨gb227, 14, none⟩ = some (.bool a0_14) ∧ w'.cell? ⟨gb227, 15, none⟩ = some (.bool a0_15) ∧ w'.cell? ⟨gb227, 16, none⟩ = some (.int .i64 a0_16) ∧ w'.cell? ⟨gb227, 17, none⟩ = some (.int .i64 a0_17) ∧ w'.cell? ⟨gb227, 18, none⟩ = some (.int .i64 a0_18)) (ds := []) #[false, false, false, false, false, false, false, false, false] (by kernel_rfl) rfl rfl ⟨(bc1 BK227.out 0).trans rfl, (bc1 BK227.out 1).trans rfl, (bc1 BK227.out 2).trans rfl, (bc1 BK227.out 3).trans rfl, (bc1 BK227.out 4).trans rfl, (bc1 BK227.out 5).trans rfl, (bc1 BK227.out 6).trans rfl, (bc1 BK227.out 7).trans rfl, (bc1 BK227.out 8).trans rfl, (bc1 BK227.out 9).trans rfl, (bc1 BK227.out 10).trans rfl, (bc1 BK227.out 11).trans rfl, (bc1 BK227.out 12).trans rfl, (bc1 BK227.out 13).trans rfl, (bc1 BK227.out 14).trans rfl, (bc1 BK227.out 15).trans rfl, (bc1 BK227.out 16).trans rfl, (bc1 BK227.out 17).trans rfl, (bc1 BK227.out 18).trans rfl⟩ (fun hHeld => ?_); refine with_tabW clavierref19_Place.tab2 clavierref19_Place.bits2 (fun HT_ HW_ => ?_)
    generalize w8.drew = w9 at BK227 BK228 HB hHeld ⊢
    refine pure_ (i := 0) (N := some 6) (v := ?_) (a' := ?_) #[true, false, false, false, false, false, false, false, false] rfl rfl (any_of HT_.out (by kernel_rfl)) (fun _ _ _ h => h) (Or.inl ⟨by rfl, ?_⟩) ?_ ?_
    rotate_left
    · intro w'
      go_simp
      with_reducible rfl
    rotate_left
    · simp only [Act.put, List.setIfInBounds_toArray, List.set_cons_zero, List.set_cons_succ, i64_w, i32_w]
      rfl
    refine pure_ (i := 3) (N := some 9) (v := ?_) (a' := ?_) #[true, false, false, true, false, false, false, false, false] rfl rfl (any_of HT_.out (by kernel_rfl)) (fun _ _ _ h => h) (Or.inl ⟨by rfl, ?_⟩) ?_ ?_
    rotate_left
    · intro w'
      go_simp
      with_reducible rfl
    rotate_left
    · simp only [Act.put, List.setIfInBounds_toArray, List.set_cons_zero, List.set_cons_succ, i64_w, i32_w]
      rfl
    refine take_ (i := 1) (N := some 7) (v := ?_) (a' := ?_) #[true, true, false, true, false, false, false, false, false] rfl rfl (take_ofW HT_.out HW_.out (by kernel_rfl)) (fun _ _ _ h => h) (Or.inl ⟨by rfl, ?_⟩) hHeld ?_ ?_
    rotate_left
    · rintro w' ⟨s0, s1, s2, s3, s4, s5, s6, s7, s8, s9, s10, s11, s12, s13, s14, s15, s16, s17, s18⟩
      go_simp
      with_reducible rfl
    rotate_left
    · simp only [Act.put, List.setIfInBounds_toArray, List.set_cons_zero, List.set_cons_succ, i64_w, i32_w]
      rfl
    refine take_ (i := 4) (N := some 10) (v := ?_) (a' := ?_) #[true, true, false, true, true, false, false, false, false] rfl rfl (take_ofW HT_.out HW_.out (by kernel_rfl)) (fun _ _ _ h => h) (Or.inl ⟨by rfl, ?_⟩) hHeld ?_ ?_
    rotate_left
    · rintro w' ⟨s0, s1, s2, s3, s4, s5, s6, s7, s8, s9, s10, s11, s12, s13, s14, s15, s16, s17, s18⟩
      go_simp
      with_reducible rfl
    rotate_left
    · simp only [Act.put, List.setIfInBounds_toArray, List.set_cons_zero, List.set_cons_succ, i64_w, i32_w]
      rfl
    refine one_ (i := 2) (N := some 8) #[true, true, true, true, true, false, false, false, false] rfl rfl (one_of HT_.out (by kernel_rfl)) (by decide) (fun K hK => ?_)
    refine goes_ Tryd.func32 (by kernel_rfl) rfl #[.int .i64 a0_2] (by rfl) rfl rfl (by (try simp only [List.map_toArray, List.map_cons, List.map_nil]); first | done | rfl | (simp only [List.length_drop, List.length_take]; rfl)) ?_
    with_reducible refine (clavierref19_fact.calls a0_2 t229 _ A4.out).mono ?_
    rintro e w10 ⟨rfl, hb⟩
    refine ⟨_, rfl, ?_⟩
    have n0_ := Aside0.mk (bb1 (g := gb227) (o := .cells #[.int .i64 a0_0, .int .i64 a0_1, .int .i64 a0_2, .int .i64 a0_3, .int .i64 a0_4, .int .i64 a0_5, .int .i64 a0_6, .int .i64 a0_7, .int .i64 a0_8, .bool a0_9, .bool a0_10, .bool a0_11, .bool a0_12, .bool a0_13, .bool a0_14, .bool a0_15, .int .i64 a0_16, .int .i64 a0_17, .int .i64 a0_18] 25 (0, 0)) (by (with_reducible repeat (first | refine bn1 ?_ _ | refine bd1 ?_ | refine ba1 ?_ _)); exact BK227.out) hb)
    have n1_ := Aside0.mk (bb1 (g := gb228) (o := .cells #[.int .i64 0, .int .u8 0, .slice none 0 0, .string (⟨#[]⟩ : ByteArray), .int .u8 0, .string (⟨#[]⟩ : ByteArray)] 30 (0, 0)) (by (with_reducible repeat (first | refine bn1 ?_ _ | refine bd1 ?_ | refine ba1 ?_ _)); exact BK228.out) hb)
    have n2_ := Aside0.mk (below_step (by repeat (first | (with_reducible first | exact HB.out | apply la1 | apply ln1 | apply ld1 | refine ls1 ?_ GE227.out | refine ls1 ?_ GE228.out) | exact HB.out)) hb)
    clear BK227
    clear BK228
    clear HB
    have BK227 := n0_
    have BK228 := n1_
    have HB := n2_
    clear n0_ n1_ n2_
    (try clear hb)
    (try clear hb2)
    (try clear hk)
    (try clear hi)
    refine hK.out _ _ ⟨(bc1 BK227.out 0).trans rfl, (bc1 BK227.out 1).trans rfl, (bc1 BK227.out 2).trans rfl, (bc1 BK227.out 3).trans rfl, (bc1 BK227.out 4).trans rfl, (bc1 BK227.out 5).trans rfl, (bc1 BK227.out 6).trans rfl, (bc1 BK227.out 7).trans rfl, (bc1 BK227.out 8).trans rfl, (bc1 BK227.out 9).trans rfl, (bc1 BK227.out 10).trans rfl, (bc1 BK227.out 11).trans rfl, (bc1 BK227.out 12).trans rfl, (bc1 BK227.out 13).trans rfl, (bc1 BK227.out 14).trans rfl, (bc1 BK227.out 15).trans rfl, (bc1 BK227.out 16).trans rfl, (bc1 BK227.out 17).trans rfl, (bc1 BK227.out 18).trans rfl⟩ (fun hHeld => ?_)
    clear hK K
    refine norm_ (a' := ?_) ?_ ?_
    rotate_left
    · show Act.put _ (some 8) _ = _
      simp only [Act.put, List.setIfInBounds_toArray, List.set_cons_zero, List.set_cons_succ, i64_w, i32_w]
      rfl
    refine one_ (i := 5) (N := some 11) #[true, true, true, true, true, true, false, false, false] rfl rfl (one_of HT_.out (by kernel_rfl)) (by decide) (fun K hK => ?_)
    refine goes_ Tryd.func32 (by kernel_rfl) rfl #[.int .i64 a0_3] (by rfl) rfl rfl (by (try simp only [List.map_toArray, List.map_cons, List.map_nil]); first | done | rfl | (simp only [List.length_drop, List.length_take]; rfl)) ?_
    with_reducible refine (clavierref19_fact.calls a0_3 t230 _ A5.out).mono ?_
    rintro e w11 ⟨rfl, hb⟩
    refine ⟨_, rfl, ?_⟩
    have n0_ := Aside0.mk (bb1 (g := gb227) (o := .cells #[.int .i64 a0_0, .int .i64 a0_1, .int .i64 a0_2, .int .i64 a0_3, .int .i64 a0_4, .int .i64 a0_5, .int .i64 a0_6, .int .i64 a0_7, .int .i64 a0_8, .bool a0_9, .bool a0_10, .bool a0_11, .bool a0_12, .bool a0_13, .bool a0_14, .bool a0_15, .int .i64 a0_16, .int .i64 a0_17, .int .i64 a0_18] 25 (0, 0)) (by (with_reducible repeat (first | refine bn1 ?_ _ | refine bd1 ?_ | refine ba1 ?_ _)); exact BK227.out) hb)
    have n1_ := Aside0.mk (bb1 (g := gb228) (o := .cells #[.int .i64 0, .int .u8 0, .slice none 0 0, .string (⟨#[]⟩ : ByteArray), .int .u8 0, .string (⟨#[]⟩ : ByteArray)] 30 (0, 0)) (by (with_reducible repeat (first | refine bn1 ?_ _ | refine bd1 ?_ | refine ba1 ?_ _)); exact BK228.out) hb)
    have n2_ := Aside0.mk (below_step (by repeat (first | (with_reducible first | exact HB.out | apply la1 | apply ln1 | apply ld1 | refine ls1 ?_ GE227.out | refine ls1 ?_ GE228.out) | exact HB.out)) hb)
    clear BK227
    clear BK228
    clear HB
    have BK227 := n0_
    have BK228 := n1_
    have HB := n2_
    clear n0_ n1_ n2_
    (try clear hb)
    (try clear hb2)
    (try clear hk)
    (try clear hi)
    refine hK.out _ _ ⟨(bc1 BK227.out 0).trans rfl, (bc1 BK227.out 1).trans rfl, (bc1 BK227.out 2).trans rfl, (bc1 BK227.out 3).trans rfl, (bc1 BK227.out 4).trans rfl, (bc1 BK227.out 5).trans rfl, (bc1 BK227.out 6).trans rfl, (bc1 BK227.out 7).trans rfl, (bc1 BK227.out 8).trans rfl, (bc1 BK227.out 9).trans rfl, (bc1 BK227.out 10).trans rfl, (bc1 BK227.out 11).trans rfl, (bc1 BK227.out 12).trans rfl, (bc1 BK227.out 13).trans rfl, (bc1 BK227.out 14).trans rfl, (bc1 BK227.out 15).trans rfl, (bc1 BK227.out 16).trans rfl, (bc1 BK227.out 17).trans rfl, (bc1 BK227.out 18).trans rfl⟩ (fun hHeld => ?_)
    clear hK K
    refine norm_ (a' := ?_) ?_ ?_
    rotate_left
    · show Act.put _ (some 11) _ = _
      simp only [Act.put, List.setIfInBounds_toArray, List.set_cons_zero, List.set_cons_succ, i64_w, i32_w]
      rfl
    refine one_ (i := 6) (N := some 12) #[true, true, true, true, true, true, true, false, false] rfl rfl (one_of HT_.out (by kernel_rfl)) (by decide) (fun K hK => ?_)
    refine Kd.R_lit_step (Kd.int .i64) _ 3 ?hg (N := 12) ?hd (xs := ([t229, t230, 1] : List Int)) (inner := [.int .i64 t229, .int .i64 t230, .int .i64 1]) (ok := fun _ => True) (okp := fun _ => True) ?hr ?hp (fun _ hk => hk) trivial (Below.refl _ _) (Nat.le_refl _) (by simp) ?_; (case hd => rfl); (case hg => rfl); (case hr => first | (go_simp; done) | (go_simp; rfl)); (case hp => exact (Reps.one (show Kd.M (Kd.int .i64) _ _ _ t229 [.int .i64 t229] from rfl) (Reps.one (show Kd.M (Kd.int .i64) _ _ _ t230 [.int .i64 t230] from rfl) (Reps.one (show Kd.M (Kd.int .i64) _ _ _ 1 [.int .i64 1] from rfl) (Reps.none _ _)))))
    intro v232 w12 ho13 hb hg_ hnew_
    clear hg_ hnew_
    (first | rw [← Ny231.out] at ho13 | (simp only [Int.reduceToNat] at ho13; rw [← Ny231.out] at ho13))
    have n0_ := Aside0.mk (Kd.R_lower ho13 (below_size (by repeat (first | (with_reducible first | exact HB.out | apply la1 | apply ln1 | apply ld1 | refine ls1 ?_ GE227.out | refine ls1 ?_ GE228.out) | exact HB.out))))
    have n1_ := Aside0.mk (bb1 (g := gb227) (o := .cells #[.int .i64 a0_0, .int .i64 a0_1, .int .i64 a0_2, .int .i64 a0_3, .int .i64 a0_4, .int .i64 a0_5, .int .i64 a0_6, .int .i64 a0_7, .int .i64 a0_8, .bool a0_9, .bool a0_10, .bool a0_11, .bool a0_12, .bool a0_13, .bool a0_14, .bool a0_15, .int .i64 a0_16, .int .i64 a0_17, .int .i64 a0_18] 25 (0, 0)) (by (with_reducible repeat (first | refine bn1 ?_ _ | refine bd1 ?_ | refine ba1 ?_ _)); exact BK227.out) hb)
    have n2_ := Aside0.mk (bb1 (g := gb228) (o := .cells #[.int .i64 0, .int .u8 0, .slice none 0 0, .string (⟨#[]⟩ : ByteArray), .int .u8 0, .string (⟨#[]⟩ : ByteArray)] 30 (0, 0)) (by (with_reducible repeat (first | refine bn1 ?_ _ | refine bd1 ?_ | refine ba1 ?_ _)); exact BK228.out) hb)
    have n3_ := Aside0.mk (below_step (by repeat (first | (with_reducible first | exact HB.out | apply la1 | apply ln1 | apply ld1 | refine ls1 ?_ GE227.out | refine ls1 ?_ GE228.out) | exact HB.out)) hb)
    clear BK227
    clear BK228
    clear HB
    have HO233 := n0_
    have BK227 := n1_
    have BK228 := n2_
    have HB := n3_
    clear n0_ n1_ n2_ n3_
    clear hb ho13
    obtain ⟨Ao14, co14, eo14⟩ := Kd.R_slice HO233.out
    (first | subst eo14 | (injection eo14 with f1_ f2_ f3_; have f4_ := f1_.symm; have f5_ := f3_.symm; clear f1_ f2_ f3_; subst f4_; subst f5_))
    refine hK.out _ _ ⟨(bc1 BK227.out 0).trans rfl, (bc1 BK227.out 1).trans rfl, (bc1 BK227.out 2).trans rfl, (bc1 BK227.out 3).trans rfl, (bc1 BK227.out 4).trans rfl, (bc1 BK227.out 5).trans rfl, (bc1 BK227.out 6).trans rfl, (bc1 BK227.out 7).trans rfl, (bc1 BK227.out 8).trans rfl, (bc1 BK227.out 9).trans rfl, (bc1 BK227.out 10).trans rfl, (bc1 BK227.out 11).trans rfl, (bc1 BK227.out 12).trans rfl, (bc1 BK227.out 13).trans rfl, (bc1 BK227.out 14).trans rfl, (bc1 BK227.out 15).trans rfl, (bc1 BK227.out 16).trans rfl, (bc1 BK227.out 17).trans rfl, (bc1 BK227.out 18).trans rfl⟩ (fun hHeld => ?_)
    clear hK K
    refine norm_ (a' := ?_) ?_ ?_
    rotate_left
    · show Act.put _ (some 12) _ = _
      simp only [Act.put, List.setIfInBounds_toArray, List.set_cons_zero, List.set_cons_succ, i64_w, i32_w]
      rfl
    refine one_ (i := 7) (N := some 13) #[true, true, true, true, true, true, true, true, false] rfl rfl (one_of HT_.out (by kernel_rfl)) (by decide) (fun K hK => ?_)
    refine goes_ Tryd.func31 (by kernel_rfl) rfl #[.int .u8 63, .int .u8 82, .slice Ao14 y231.length co14] (by rfl) rfl rfl (by (try simp only [List.map_toArray, List.map_cons, List.map_nil]); first | done | rfl | (simp only [List.length_drop, List.length_take]; rfl)) ?_
    with_reducible refine (clavierref19_nums.calls k 63 82 _ _ y231 t234 t235 t236 t239 t240 t241 _ ?side1 ?side2 A6.out).mono ?_
    (case side1 => repeat (first | exact (Kd.R_reads' HO233.out).2.2 | (with_reducible refine Kd.C_alloc ?_ _) | (with_reducible refine Kd.C_drewN ?_ _) | (with_reducible refine Kd.C_drew ?_)))
    (case side2 => exact (Kd.R_reads' HO233.out).2.1)
    rintro e w15 ⟨v237, rfl, ho0, hb⟩
    refine ⟨_, rfl, ?_⟩
    have n0_ := Aside0.mk (Kd.R_below (by (with_reducible repeat (first | apply Kd.R_alloc | apply Kd.R_drewN | apply Kd.R_drew)); exact HO233.out) hb)
    have n1_ := Aside0.mk (Kd.S_lower (Kd.S_new' ho0 (Kd.R_lt (by (with_reducible repeat (first | apply Kd.R_alloc | apply Kd.R_drewN | apply Kd.R_drew)); exact HO233.out))) (below_size (by repeat (first | (with_reducible first | exact HB.out | apply la1 | apply ln1 | apply ld1 | refine ls1 ?_ GE227.out | refine ls1 ?_ GE228.out) | exact HB.out))))
    have n2_ := Aside0.mk (bb1 (g := gb227) (o := .cells #[.int .i64 a0_0, .int .i64 a0_1, .int .i64 a0_2, .int .i64 a0_3, .int .i64 a0_4, .int .i64 a0_5, .int .i64 a0_6, .int .i64 a0_7, .int .i64 a0_8, .bool a0_9, .bool a0_10, .bool a0_11, .bool a0_12, .bool a0_13, .bool a0_14, .bool a0_15, .int .i64 a0_16, .int .i64 a0_17, .int .i64 a0_18] 25 (0, 0)) (by (with_reducible repeat (first | refine bn1 ?_ _ | refine bd1 ?_ | refine ba1 ?_ _)); exact BK227.out) hb)
    have n3_ := Aside0.mk (bb1 (g := gb228) (o := .cells #[.int .i64 0, .int .u8 0, .slice none 0 0, .string (⟨#[]⟩ : ByteArray), .int .u8 0, .string (⟨#[]⟩ : ByteArray)] 30 (0, 0)) (by (with_reducible repeat (first | refine bn1 ?_ _ | refine bd1 ?_ | refine ba1 ?_ _)); exact BK228.out) hb)
    have n4_ := Aside0.mk (below_step (by repeat (first | (with_reducible first | exact HB.out | apply la1 | apply ln1 | apply ld1 | refine ls1 ?_ GE227.out | refine ls1 ?_ GE228.out) | exact HB.out)) hb)
    clear HO233
    clear BK227
    clear BK228
    clear HB
    have HO233 := n0_
    have HO238 := n1_
    have BK227 := n2_
    have BK228 := n3_
    have HB := n4_
    clear n0_ n1_ n2_ n3_ n4_
    (try clear hb)
    (try clear hb2)
    (try clear hk)
    (try clear hi)
    (try clear ho0)
    obtain ⟨Ao18, co18, eo18⟩ := Kd.S_slice HO238.out
    (first | subst eo18 | (injection eo18 with f1_ f2_ f3_; have f4_ := f1_.symm; have f5_ := f3_.symm; clear f1_ f2_ f3_; subst f4_; subst f5_))
    refine hK.out _ _ ⟨(bc1 BK227.out 0).trans rfl, (bc1 BK227.out 1).trans rfl, (bc1 BK227.out 2).trans rfl, (bc1 BK227.out 3).trans rfl, (bc1 BK227.out 4).trans rfl, (bc1 BK227.out 5).trans rfl, (bc1 BK227.out 6).trans rfl, (bc1 BK227.out 7).trans rfl, (bc1 BK227.out 8).trans rfl, (bc1 BK227.out 9).trans rfl, (bc1 BK227.out 10).trans rfl, (bc1 BK227.out 11).trans rfl, (bc1 BK227.out 12).trans rfl, (bc1 BK227.out 13).trans rfl, (bc1 BK227.out 14).trans rfl, (bc1 BK227.out 15).trans rfl, (bc1 BK227.out 16).trans rfl, (bc1 BK227.out 17).trans rfl, (bc1 BK227.out 18).trans rfl⟩ (fun hHeld => ?_)
    clear hK K
    refine norm_ (a' := ?_) ?_ ?_
    rotate_left
    · show Act.put _ (some 13) _ = _
      simp only [Act.put, List.setIfInBounds_toArray, List.set_cons_zero, List.set_cons_succ, i64_w, i32_w]
      rfl
    refine one_ (i := 8) (N := none) #[true, true, true, true, true, true, true, true, true] rfl rfl (one_of HT_.out (by kernel_rfl)) (by decide) (fun K hK => ?_)
    have hs16 : w15.cell? ⟨gb228, 0, none⟩ = some (.int .i64 0) := (bc1 BK228.out 0).trans rfl
    have hfs16 := bz1 BK228.out 0
    have hns16_0 := NB227_228.out
    have hms16_0 := NB228_227.out
    have hs17 : w15.cell? ⟨gb228, 1, none⟩ = some (.int .u8 0) := (bc1 BK228.out 1).trans rfl
    have hfs17 := bz1 BK228.out 1
    have hns17_0 := NB227_228.out
    have hms17_0 := NB228_227.out
    have hs19 : w15.cell? ⟨gb228, 2, none⟩ = some (.slice none 0 0) := (bc1 BK228.out 2).trans rfl
    have hfs19 := bz1 BK228.out 2
    have hns19_0 := NB227_228.out
    have hms19_0 := NB228_227.out
    have hs20 : w15.cell? ⟨gb228, 3, none⟩ = some (.string (⟨#[]⟩ : ByteArray)) := (bc1 BK228.out 3).trans rfl
    have hfs20 := bz1 BK228.out 3
    have hns20_0 := NB227_228.out
    have hms20_0 := NB228_227.out
    have hs21 : w15.cell? ⟨gb228, 4, none⟩ = some (.int .u8 0) := (bc1 BK228.out 4).trans rfl
    have hfs21 := bz1 BK228.out 4
    have hns21_0 := NB227_228.out
    have hms21_0 := NB228_227.out
    have hs22 : w15.cell? ⟨gb228, 5, none⟩ = some (.string (⟨#[]⟩ : ByteArray)) := (bc1 BK228.out 5).trans rfl
    have hfs22 := bz1 BK228.out 5
    have hns22_0 := NB227_228.out
    have hms22_0 := NB228_227.out
    refine skip_ (w1 := ?_) (by rfl) rfl ?_ ?_
    rotate_left
    · go_simp
      rfl
    refine hK.out _ _ ⟨((cell_far (p := ⟨gb228, _, none⟩) NB227_228.out _).trans (((cell_far (p := ⟨gb228, _, none⟩) NB227_228.out _).trans (((cell_far (p := ⟨gb228, _, none⟩) NB227_228.out _).trans (((cell_far (p := ⟨gb228, _, none⟩) NB227_228.out _).trans (((cell_far (p := ⟨gb228, _, none⟩) NB227_228.out _).trans (((cell_far (p := ⟨gb228, _, none⟩) NB227_228.out _).trans (hHeld.1)))))))))))), ((cell_far (p := ⟨gb228, _, none⟩) NB227_228.out _).trans (((cell_far (p := ⟨gb228, _, none⟩) NB227_228.out _).trans (((cell_far (p := ⟨gb228, _, none⟩) NB227_228.out _).trans (((cell_far (p := ⟨gb228, _, none⟩) NB227_228.out _).trans (((cell_far (p := ⟨gb228, _, none⟩) NB227_228.out _).trans (((cell_far (p := ⟨gb228, _, none⟩) NB227_228.out _).trans (hHeld.2.1)))))))))))), ((cell_far (p := ⟨gb228, _, none⟩) NB227_228.out _).trans (((cell_far (p := ⟨gb228, _, none⟩) NB227_228.out _).trans (((cell_far (p := ⟨gb228, _, none⟩) NB227_228.out _).trans (((cell_far (p := ⟨gb228, _, none⟩) NB227_228.out _).trans (((cell_far (p := ⟨gb228, _, none⟩) NB227_228.out _).trans (((cell_far (p := ⟨gb228, _, none⟩) NB227_228.out _).trans (hHeld.2.2.1)))))))))))), ((cell_far (p := ⟨gb228, _, none⟩) NB227_228.out _).trans (((cell_far (p := ⟨gb228, _, none⟩) NB227_228.out _).trans (((cell_far (p := ⟨gb228, _, none⟩) NB227_228.out _).trans (((cell_far (p := ⟨gb228, _, none⟩) NB227_228.out _).trans (((cell_far (p := ⟨gb228, _, none⟩) NB227_228.out _).trans (((cell_far (p := ⟨gb228, _, none⟩) NB227_228.out _).trans (hHeld.2.2.2.1)))))))))))), ((cell_far (p := ⟨gb228, _, none⟩) NB227_228.out _).trans (((cell_far (p := ⟨gb228, _, none⟩) NB227_228.out _).trans (((cell_far (p := ⟨gb228, _, none⟩) NB227_228.out _).trans (((cell_far (p := ⟨gb228, _, none⟩) NB227_228.out _).trans (((cell_far (p := ⟨gb228, _, none⟩) NB227_228.out _).trans (((cell_far (p := ⟨gb228, _, none⟩) NB227_228.out _).trans (hHeld.2.2.2.2.1)))))))))))), ((cell_far (p := ⟨gb228, _, none⟩) NB227_228.out _).trans (((cell_far (p := ⟨gb228, _, none⟩) NB227_228.out _).trans (((cell_far (p := ⟨gb228, _, none⟩) NB227_228.out _).trans (((cell_far (p := ⟨gb228, _, none⟩) NB227_228.out _).trans (((cell_far (p := ⟨gb228, _, none⟩) NB227_228.out _).trans (((cell_far (p := ⟨gb228, _, none⟩) NB227_228.out _).trans (hHeld.2.2.2.2.2.1)))))))))))), ((cell_far (p := ⟨gb228, _, none⟩) NB227_228.out _).trans (((cell_far (p := ⟨gb228, _, none⟩) NB227_228.out _).trans (((cell_far (p := ⟨gb228, _, none⟩) NB227_228.out _).trans (((cell_far (p := ⟨gb228, _, none⟩) NB227_228.out _).trans (((cell_far (p := ⟨gb228, _, none⟩) NB227_228.out _).trans (((cell_far (p := ⟨gb228, _, none⟩) NB227_228.out _).trans (hHeld.2.2.2.2.2.2.1)))))))))))), ((cell_far (p := ⟨gb228, _, none⟩) NB227_228.out _).trans (((cell_far (p := ⟨gb228, _, none⟩) NB227_228.out _).trans (((cell_far (p := ⟨gb228, _, none⟩) NB227_228.out _).trans (((cell_far (p := ⟨gb228, _, none⟩) NB227_228.out _).trans (((cell_far (p := ⟨gb228, _, none⟩) NB227_228.out _).trans (((cell_far (p := ⟨gb228, _, none⟩) NB227_228.out _).trans (hHeld.2.2.2.2.2.2.2.1)))))))))))), ((cell_far (p := ⟨gb228, _, none⟩) NB227_228.out _).trans (((cell_far (p := ⟨gb228, _, none⟩) NB227_228.out _).trans (((cell_far (p := ⟨gb228, _, none⟩) NB227_228.out _).trans (((cell_far (p := ⟨gb228, _, none⟩) NB227_228.out _).trans (((cell_far (p := ⟨gb228, _, none⟩) NB227_228.out _).trans (((cell_far (p := ⟨gb228, _, none⟩) NB227_228.out _).trans (hHeld.2.2.2.2.2.2.2.2.1)))))))))))), ((cell_far (p := ⟨gb228, _, none⟩) NB227_228.out _).trans (((cell_far (p := ⟨gb228, _, none⟩) NB227_228.out _).trans (((cell_far (p := ⟨gb228, _, none⟩) NB227_228.out _).trans (((cell_far (p := ⟨gb228, _, none⟩) NB227_228.out _).trans (((cell_far (p := ⟨gb228, _, none⟩) NB227_228.out _).trans (((cell_far (p := ⟨gb228, _, none⟩) NB227_228.out _).trans (hHeld.2.2.2.2.2.2.2.2.2.1)))))))))))), ((cell_far (p := ⟨gb228, _, none⟩) NB227_228.out _).trans (((cell_far (p := ⟨gb228, _, none⟩) NB227_228.out _).trans (((cell_far (p := ⟨gb228, _, none⟩) NB227_228.out _).trans (((cell_far (p := ⟨gb228, _, none⟩) NB227_228.out _).trans (((cell_far (p := ⟨gb228, _, none⟩) NB227_228.out _).trans (((cell_far (p := ⟨gb228, _, none⟩) NB227_228.out _).trans (hHeld.2.2.2.2.2.2.2.2.2.2.1)))))))))))), ((cell_far (p := ⟨gb228, _, none⟩) NB227_228.out _).trans (((cell_far (p := ⟨gb228, _, none⟩) NB227_228.out _).trans (((cell_far (p := ⟨gb228, _, none⟩) NB227_228.out _).trans (((cell_far (p := ⟨gb228, _, none⟩) NB227_228.out _).trans (((cell_far (p := ⟨gb228, _, none⟩) NB227_228.out _).trans (((cell_far (p := ⟨gb228, _, none⟩) NB227_228.out _).trans (hHeld.2.2.2.2.2.2.2.2.2.2.2.1)))))))))))), ((cell_far (p := ⟨gb228, _, none⟩) NB227_228.out _).trans (((cell_far (p := ⟨gb228, _, none⟩) NB227_228.out _).trans (((cell_far (p := ⟨gb228, _, none⟩) NB227_228.out _).trans (((cell_far (p := ⟨gb228, _, none⟩) NB227_228.out _).trans (((cell_far (p := ⟨gb228, _, none⟩) NB227_228.out _).trans (((cell_far (p := ⟨gb228, _, none⟩) NB227_228.out _).trans (hHeld.2.2.2.2.2.2.2.2.2.2.2.2.1)))))))))))), ((cell_far (p := ⟨gb228, _, none⟩) NB227_228.out _).trans (((cell_far (p := ⟨gb228, _, none⟩) NB227_228.out _).trans (((cell_far (p := ⟨gb228, _, none⟩) NB227_228.out _).trans (((cell_far (p := ⟨gb228, _, none⟩) NB227_228.out _).trans (((cell_far (p := ⟨gb228, _, none⟩) NB227_228.out _).trans (((cell_far (p := ⟨gb228, _, none⟩) NB227_228.out _).trans (hHeld.2.2.2.2.2.2.2.2.2.2.2.2.2.1)))))))))))), ((cell_far (p := ⟨gb228, _, none⟩) NB227_228.out _).trans (((cell_far (p := ⟨gb228, _, none⟩) NB227_228.out _).trans (((cell_far (p := ⟨gb228, _, none⟩) NB227_228.out _).trans (((cell_far (p := ⟨gb228, _, none⟩) NB227_228.out _).trans (((cell_far (p := ⟨gb228, _, none⟩) NB227_228.out _).trans (((cell_far (p := ⟨gb228, _, none⟩) NB227_228.out _).trans (hHeld.2.2.2.2.2.2.2.2.2.2.2.2.2.2.1)))))))))))), ((cell_far (p := ⟨gb228, _, none⟩) NB227_228.out _).trans (((cell_far (p := ⟨gb228, _, none⟩) NB227_228.out _).trans (((cell_far (p := ⟨gb228, _, none⟩) NB227_228.out _).trans (((cell_far (p := ⟨gb228, _, none⟩) NB227_228.out _).trans (((cell_far (p := ⟨gb228, _, none⟩) NB227_228.out _).trans (((cell_far (p := ⟨gb228, _, none⟩) NB227_228.out _).trans (hHeld.2.2.2.2.2.2.2.2.2.2.2.2.2.2.2.1)))))))))))), ((cell_far (p := ⟨gb228, _, none⟩) NB227_228.out _).trans (((cell_far (p := ⟨gb228, _, none⟩) NB227_228.out _).trans (((cell_far (p := ⟨gb228, _, none⟩) NB227_228.out _).trans (((cell_far (p := ⟨gb228, _, none⟩) NB227_228.out _).trans (((cell_far (p := ⟨gb228, _, none⟩) NB227_228.out _).trans (((cell_far (p := ⟨gb228, _, none⟩) NB227_228.out _).trans (hHeld.2.2.2.2.2.2.2.2.2.2.2.2.2.2.2.2.1)))))))))))), ((cell_far (p := ⟨gb228, _, none⟩) NB227_228.out _).trans (((cell_far (p := ⟨gb228, _, none⟩) NB227_228.out _).trans (((cell_far (p := ⟨gb228, _, none⟩) NB227_228.out _).trans (((cell_far (p := ⟨gb228, _, none⟩) NB227_228.out _).trans (((cell_far (p := ⟨gb228, _, none⟩) NB227_228.out _).trans (((cell_far (p := ⟨gb228, _, none⟩) NB227_228.out _).trans (hHeld.2.2.2.2.2.2.2.2.2.2.2.2.2.2.2.2.2.1)))))))))))), ((cell_far (p := ⟨gb228, _, none⟩) NB227_228.out _).trans (((cell_far (p := ⟨gb228, _, none⟩) NB227_228.out _).trans (((cell_far (p := ⟨gb228, _, none⟩) NB227_228.out _).trans (((cell_far (p := ⟨gb228, _, none⟩) NB227_228.out _).trans (((cell_far (p := ⟨gb228, _, none⟩) NB227_228.out _).trans (((cell_far (p := ⟨gb228, _, none⟩) NB227_228.out _).trans (hHeld.2.2.2.2.2.2.2.2.2.2.2.2.2.2.2.2.2.2))))))))))))⟩ (fun hHeld => ?_)
    clear hK K
    refine done_ (done_of HT_.out (by kernel_rfl)) ?_
    try go_wp2
    refine bodyPost_ret (results_cell_row rfl _ _ gb228 30 #[.int .i64 t234, .int .u8 t235, .slice Ao18 t236.length co18, .string t239, .int .u8 t240, .string t241] (0, 0) _ rfl (by (with_reducible repeat (first | refine bn1 ?_ _ | refine bd1 ?_ | refine ba1 ?_ _)); refine bp1 (cs := #[.int .i64 t234, .int .u8 t235, .slice Ao18 t236.length co18, .string t239, .int .u8 t240, .string (⟨#[]⟩ : ByteArray)]) ?_ 5 _ rfl; (with_reducible repeat (first | refine bn1 ?_ _ | refine bd1 ?_ | refine ba1 ?_ _)); refine bp1 (cs := #[.int .i64 t234, .int .u8 t235, .slice Ao18 t236.length co18, .string t239, .int .u8 0, .string (⟨#[]⟩ : ByteArray)]) ?_ 4 _ rfl; (with_reducible repeat (first | refine bn1 ?_ _ | refine bd1 ?_ | refine ba1 ?_ _)); refine bp1 (cs := #[.int .i64 t234, .int .u8 t235, .slice Ao18 t236.length co18, .string (⟨#[]⟩ : ByteArray), .int .u8 0, .string (⟨#[]⟩ : ByteArray)]) ?_ 3 _ rfl; (with_reducible repeat (first | refine bn1 ?_ _ | refine bd1 ?_ | refine ba1 ?_ _)); refine bp1 (cs := #[.int .i64 t234, .int .u8 t235, .slice none 0 0, .string (⟨#[]⟩ : ByteArray), .int .u8 0, .string (⟨#[]⟩ : ByteArray)]) ?_ 2 _ rfl; (with_reducible repeat (first | refine bn1 ?_ _ | refine bd1 ?_ | refine ba1 ?_ _)); refine bp1 (cs := #[.int .i64 t234, .int .u8 0, .slice none 0 0, .string (⟨#[]⟩ : ByteArray), .int .u8 0, .string (⟨#[]⟩ : ByteArray)]) ?_ 1 _ rfl; (with_reducible repeat (first | refine bn1 ?_ _ | refine bd1 ?_ | refine ba1 ?_ _)); refine bp1 (cs := #[.int .i64 0, .int .u8 0, .slice none 0 0, .string (⟨#[]⟩ : ByteArray), .int .u8 0, .string (⟨#[]⟩ : ByteArray)]) ?_ 0 _ rfl; (with_reducible repeat (first | refine bn1 ?_ _ | refine bd1 ?_ | refine ba1 ?_ _)); exact BK228.out) Tryd.underlying30 rfl (by kernel_rfl)) rfl ?_
    exact ⟨_, by first | rfl | (simp [errW_none, errW_some] <;> rfl) | (simp [*, errW_none, errW_some] <;> rfl), by (with_reducible repeat (first | apply Kd.S_alloc | apply Kd.S_drewN | apply Kd.S_drew)); exact Kd.S_mono (Kd.S_far (p := ⟨gb228, 5, none⟩) (Kd.S_far (p := ⟨gb228, 4, none⟩) (Kd.S_far (p := ⟨gb228, 3, none⟩) (Kd.S_far (p := ⟨gb228, 2, none⟩) (Kd.S_far (p := ⟨gb228, 1, none⟩) (Kd.S_far (p := ⟨gb228, 0, none⟩) (Kd.S_types HO238.out BK228.out (by decide)) (fun _ hk => hk.2) (.int .i64 t234)) (fun _ hk => hk.2) (.int .u8 t235)) (fun _ hk => hk.2) (.slice Ao18 t236.length co18)) (fun _ hk => hk.2) (.string t239)) (fun _ hk => hk.2) (.int .u8 t240)) (fun _ hk => hk.2) (.string t241)) (fun _ hk => trivial), by repeat (first | (with_reducible first | exact HB.out | apply la1 | apply ln1 | apply ld1 | refine ls1 ?_ GE227.out | refine ls1 ?_ GE228.out) | exact HB.out)⟩
  · replace c3 := Bool.eq_false_iff.mpr c3
    subst c3
    have H1 : ((clavierref19_fact.f a0_2).bind fun t242 => ((clavierref19_fact.f a0_3).bind fun t243 => ((clavierref19_nums.f k 0 82 (([t242, t243] : List Int))).bind fun bt247 => (some (bt247.1, bt247.2.1, bt247.2.2.1, bt247.2.2.2.1, bt247.2.2.2.2.1, bt247.2.2.2.2.2))))) = some (r1, r2, r3, r4, r5, r6) := by rw [if_neg (show ¬ (false = true) by decide)] at H; exact H
    clear H
    have H := H1
    clear H1
    replace H := Option.bind_eq_some_iff.mp H
    obtain ⟨t242, A230, H⟩ := H
    replace H : ((clavierref19_fact.f a0_3).bind fun t243 => ((clavierref19_nums.f k 0 82 (([t242, t243] : List Int))).bind fun bt247 => (some (bt247.1, bt247.2.1, bt247.2.2.1, bt247.2.2.2.1, bt247.2.2.2.2.1, bt247.2.2.2.2.2)))) = some (r1, r2, r3, r4, r5, r6) := H
    have A23 := Aside0.mk A230
    clear A230
    replace H := Option.bind_eq_some_iff.mp H
    obtain ⟨t243, A240, H⟩ := H
    replace H : ((clavierref19_nums.f k 0 82 (([t242, t243] : List Int))).bind fun bt247 => (some (bt247.1, bt247.2.1, bt247.2.2.1, bt247.2.2.2.1, bt247.2.2.2.2.1, bt247.2.2.2.2.2))) = some (r1, r2, r3, r4, r5, r6) := H
    have A24 := Aside0.mk A240
    clear A240
    obtain ⟨y244, hy244⟩ : ∃ y_ : List Int, y_ = (([t242, t243] : List Int)) := ⟨_, rfl⟩
    replace H : ((clavierref19_nums.f k 0 82 y244).bind fun bt247 => (some (bt247.1, bt247.2.1, bt247.2.2.1, bt247.2.2.2.1, bt247.2.2.2.2.1, bt247.2.2.2.2.2))) = some (r1, r2, r3, r4, r5, r6) := by first | (rw [hy244]; with_reducible exact H) | (have H2_ := (Option.bind_some _ _).symm.trans H; rw [hy244]; with_reducible exact H2_) | (have H2_ := (Option.bind_some _ _).symm.trans H; with_reducible exact H2_) | with_reducible exact H | (rw [hy244]; exact H) | exact H
    have Ny244 := Aside0.mk hy244
    clear hy244
    replace H := Option.bind_eq_some_iff.mp H
    obtain ⟨⟨t247, t248, t249, t252, t253, t254⟩, A250, H⟩ := H
    replace H : (some (t247, t248, t249, t252, t253, t254)) = some (r1, r2, r3, r4, r5, r6) := H
    have A25 := Aside0.mk A250
    clear A250
    simp only [Option.some.injEq, Prod.mk.injEq] at H
    obtain ⟨rfl, rfl, rfl, rfl, rfl, rfl⟩ := H
    go_enter Tryd.func12, Tryd.ntmps12
    try go_wp2_with (first | ((with_reducible refine gate_dst (N := 2) rfl ?_); refine box_event ?hg (N := 2) ?hd (cs := #[.int .i64 a0_0, .int .i64 a0_1, .int .i64 a0_2, .int .i64 a0_3, .int .i64 a0_4, .int .i64 a0_5, .int .i64 a0_6, .int .i64 a0_7, .int .i64 a0_8, .bool a0_9, .bool a0_10, .bool a0_11, .bool a0_12, .bool a0_13, .bool a0_14, .bool a0_15, .int .i64 a0_16, .int .i64 a0_17, .int .i64 a0_18]) (t := 25) ?hr ?_; (case hd => rfl); (case hg => rfl); (case hr => first | (go_simp; done) | (go_simp; rfl)); intro gb227 hg w26 hbox hb; have n0_ := Aside0.mk (below_step (by repeat (first | (with_reducible first | exact HB.out | apply la1 | apply ln1 | apply ld1) | exact HB.out)) hb); have n1_ := Aside0.mk (hbox); have n2_ := Aside0.mk ((by rw [hg]; exact (below_size (by repeat (first | (with_reducible first | exact HB.out | apply la1 | apply ln1 | apply ld1) | exact HB.out))) : w.heap.size ≤ gb227)); have n3_ := Aside0.mk ((by rw [hg]; exact (below_size (by repeat (first | (with_reducible first | exact HB.out | apply la1 | apply ln1 | apply ld1) | exact HB.out))) : w.heap.size ≤ gb227)); clear HB; have HB := n0_; have BK227 := n1_; have GW227 := n2_; have GE227 := n3_; clear n0_ n1_ n2_ n3_; clear hb hbox hg) | ((with_reducible refine gate_dst (N := 4) rfl ?_); refine box_event ?hg (N := 4) ?hd (cs := #[.int .i64 0, .int .u8 0, .slice none 0 0, .string (⟨#[]⟩ : ByteArray), .int .u8 0, .string (⟨#[]⟩ : ByteArray)]) (t := 30) ?hr ?_; (case hd => rfl); (case hg => rfl); (case hr => first | (go_simp; done) | (go_simp; rfl)); intro gb228 hg w27 hbox hb; have n0_ := Aside0.mk (bb1 (g := gb227) (o := .cells #[.int .i64 a0_0, .int .i64 a0_1, .int .i64 a0_2, .int .i64 a0_3, .int .i64 a0_4, .int .i64 a0_5, .int .i64 a0_6, .int .i64 a0_7, .int .i64 a0_8, .bool a0_9, .bool a0_10, .bool a0_11, .bool a0_12, .bool a0_13, .bool a0_14, .bool a0_15, .int .i64 a0_16, .int .i64 a0_17, .int .i64 a0_18] 25 (0, 0)) (by (with_reducible repeat (first | refine bn1 ?_ _ | refine bd1 ?_ | refine ba1 ?_ _)); exact BK227.out) hb); have n1_ := Aside0.mk (below_step (by repeat (first | (with_reducible first | exact HB.out | apply la1 | apply ln1 | apply ld1 | refine ls1 ?_ GE227.out) | exact HB.out)) hb); have n2_ := Aside0.mk (hbox); have n3_ := Aside0.mk ((by rw [hg]; exact (below_size (by repeat (first | (with_reducible first | exact HB.out | apply la1 | apply ln1 | apply ld1 | refine ls1 ?_ GE227.out) | exact HB.out))) : w.heap.size ≤ gb228)); have n4_ := Aside0.mk ((by rw [hg]; exact (below_size (by repeat (first | (with_reducible first | exact HB.out | apply la1 | apply ln1 | apply ld1 | refine ls1 ?_ GE227.out) | exact HB.out))) : w.heap.size ≤ gb228)); have n5_ := Aside0.mk ((by rw [hg]; exact Nat.ne_of_lt (blk_lt (g := gb227) (o := .cells #[.int .i64 a0_0, .int .i64 a0_1, .int .i64 a0_2, .int .i64 a0_3, .int .i64 a0_4, .int .i64 a0_5, .int .i64 a0_6, .int .i64 a0_7, .int .i64 a0_8, .bool a0_9, .bool a0_10, .bool a0_11, .bool a0_12, .bool a0_13, .bool a0_14, .bool a0_15, .int .i64 a0_16, .int .i64 a0_17, .int .i64 a0_18] 25 (0, 0)) (by (with_reducible repeat (first | refine bn1 ?_ _ | refine bd1 ?_ | refine ba1 ?_ _)); exact BK227.out)) : gb227 ≠ gb228)); have n6_ := Aside0.mk ((by rw [hg]; exact Nat.ne_of_gt (blk_lt (g := gb227) (o := .cells #[.int .i64 a0_0, .int .i64 a0_1, .int .i64 a0_2, .int .i64 a0_3, .int .i64 a0_4, .int .i64 a0_5, .int .i64 a0_6, .int .i64 a0_7, .int .i64 a0_8, .bool a0_9, .bool a0_10, .bool a0_11, .bool a0_12, .bool a0_13, .bool a0_14, .bool a0_15, .int .i64 a0_16, .int .i64 a0_17, .int .i64 a0_18] 25 (0, 0)) (by (with_reducible repeat (first | refine bn1 ?_ _ | refine bd1 ?_ | refine ba1 ?_ _)); exact BK227.out)) : gb228 ≠ gb227)); clear BK227; clear HB; have BK227 := n0_; have HB := n1_; have BK228 := n2_; have GW228 := n3_; have GE228 := n4_; have NB227_228 := n5_; have NB228_227 := n6_; clear n0_ n1_ n2_ n3_ n4_ n5_ n6_; clear hb hbox hg))
    have n0_ := Aside0.mk (bd1 BK227.out)
    have n1_ := Aside0.mk (bd1 BK228.out)
    have n2_ := Aside0.mk (ld1 HB.out)
    clear BK227
    clear BK228
    clear HB
    have BK227 := n0_
    have BK228 := n1_
    have HB := n2_
    clear n0_ n1_ n2_
    refine start_ (n := 9) (S := fun w' => w'.cell? ⟨gb227, 0, none⟩ = some (.int .i64 a0_0) ∧ w'.cell? ⟨gb227, 1, none⟩ = some (.int .i64 a0_1) ∧ w'.cell? ⟨gb227, 2, none⟩ = some (.int .i64 a0_2) ∧ w'.cell? ⟨gb227, 3, none⟩ = some (.int .i64 a0_3) ∧ w'.cell? ⟨gb227, 4, none⟩ = some (.int .i64 a0_4) ∧ w'.cell? ⟨gb227, 5, none⟩ = some (.int .i64 a0_5) ∧ w'.cell? ⟨gb227, 6, none⟩ = some (.int .i64 a0_6) ∧ w'.cell? ⟨gb227, 7, none⟩ = some (.int .i64 a0_7) ∧ w'.cell? ⟨gb227, 8, none⟩ = some (.int .i64 a0_8) ∧ w'.cell? ⟨gb227, 9, none⟩ = some (.bool a0_9) ∧ w'.cell? ⟨gb227, 10, none⟩ = some (.bool a0_10) ∧ w'.cell? ⟨gb227, 11, none⟩ = some (.bool a0_11) ∧ w'.cell? ⟨gb227, 12, none⟩ = some (.bool a0_12) ∧ w'.cell? ⟨gb227, 13, none⟩ = some (.bool a0_13) ∧ w'.cell? ⟨gb227, 14, none⟩ = some (.bool a0_14) ∧ w'.cell? ⟨gb227, 15, none⟩ = some (.bool a0_15) ∧ w'.cell? ⟨gb227, 16, none⟩ = some (.int .i64 a0_16) ∧ w'.cell? ⟨gb227, 17, none⟩ = some (.int .i64 a0_17) ∧ w'.cell? ⟨gb227, 18, none⟩ = some (.int .i64 a0_18)) (ds := []) #[false, false, false, false, false, false, false, false, false] (by kernel_rfl) rfl rfl ⟨(bc1 BK227.out 0).trans rfl, (bc1 BK227.out 1).trans rfl, (bc1 BK227.out 2).trans rfl, (bc1 BK227.out 3).trans rfl, (bc1 BK227.out 4).trans rfl, (bc1 BK227.out 5).trans rfl, (bc1 BK227.out 6).trans rfl, (bc1 BK227.out 7).trans rfl, (bc1 BK227.out 8).trans rfl, (bc1 BK227.out 9).trans rfl, (bc1 BK227.out 10).trans rfl, (bc1 BK227.out 11).trans rfl, (bc1 BK227.out 12).trans rfl, (bc1 BK227.out 13).trans rfl, (bc1 BK227.out 14).trans rfl, (bc1 BK227.out 15).trans rfl, (bc1 BK227.out 16).trans rfl, (bc1 BK227.out 17).trans rfl, (bc1 BK227.out 18).trans rfl⟩ (fun hHeld => ?_); refine with_tabW clavierref19_Place.tab3 clavierref19_Place.bits3 (fun HT_ HW_ => ?_)
    generalize w27.drew = w28 at BK227 BK228 HB hHeld ⊢
    refine pure_ (i := 0) (N := some 14) (v := ?_) (a' := ?_) #[true, false, false, false, false, false, false, false, false] rfl rfl (any_of HT_.out (by kernel_rfl)) (fun _ _ _ h => h) (Or.inl ⟨by rfl, ?_⟩) ?_ ?_
    rotate_left
    · intro w'
      go_simp
      with_reducible rfl
    rotate_left
    · simp only [Act.put, List.setIfInBounds_toArray, List.set_cons_zero, List.set_cons_succ, i64_w, i32_w]
      rfl
    refine pure_ (i := 3) (N := some 17) (v := ?_) (a' := ?_) #[true, false, false, true, false, false, false, false, false] rfl rfl (any_of HT_.out (by kernel_rfl)) (fun _ _ _ h => h) (Or.inl ⟨by rfl, ?_⟩) ?_ ?_
    rotate_left
    · intro w'
      go_simp
      with_reducible rfl
    rotate_left
    · simp only [Act.put, List.setIfInBounds_toArray, List.set_cons_zero, List.set_cons_succ, i64_w, i32_w]
      rfl
    refine take_ (i := 1) (N := some 15) (v := ?_) (a' := ?_) #[true, true, false, true, false, false, false, false, false] rfl rfl (take_ofW HT_.out HW_.out (by kernel_rfl)) (fun _ _ _ h => h) (Or.inl ⟨by rfl, ?_⟩) hHeld ?_ ?_
    rotate_left
    · rintro w' ⟨s0, s1, s2, s3, s4, s5, s6, s7, s8, s9, s10, s11, s12, s13, s14, s15, s16, s17, s18⟩
      go_simp
      with_reducible rfl
    rotate_left
    · simp only [Act.put, List.setIfInBounds_toArray, List.set_cons_zero, List.set_cons_succ, i64_w, i32_w]
      rfl
    refine take_ (i := 4) (N := some 18) (v := ?_) (a' := ?_) #[true, true, false, true, true, false, false, false, false] rfl rfl (take_ofW HT_.out HW_.out (by kernel_rfl)) (fun _ _ _ h => h) (Or.inl ⟨by rfl, ?_⟩) hHeld ?_ ?_
    rotate_left
    · rintro w' ⟨s0, s1, s2, s3, s4, s5, s6, s7, s8, s9, s10, s11, s12, s13, s14, s15, s16, s17, s18⟩
      go_simp
      with_reducible rfl
    rotate_left
    · simp only [Act.put, List.setIfInBounds_toArray, List.set_cons_zero, List.set_cons_succ, i64_w, i32_w]
      rfl
    refine one_ (i := 2) (N := some 16) #[true, true, true, true, true, false, false, false, false] rfl rfl (one_of HT_.out (by kernel_rfl)) (by decide) (fun K hK => ?_)
    refine goes_ Tryd.func32 (by kernel_rfl) rfl #[.int .i64 a0_2] (by rfl) rfl rfl (by (try simp only [List.map_toArray, List.map_cons, List.map_nil]); first | done | rfl | (simp only [List.length_drop, List.length_take]; rfl)) ?_
    with_reducible refine (clavierref19_fact.calls a0_2 t242 _ A23.out).mono ?_
    rintro e w29 ⟨rfl, hb⟩
    refine ⟨_, rfl, ?_⟩
    have n0_ := Aside0.mk (bb1 (g := gb227) (o := .cells #[.int .i64 a0_0, .int .i64 a0_1, .int .i64 a0_2, .int .i64 a0_3, .int .i64 a0_4, .int .i64 a0_5, .int .i64 a0_6, .int .i64 a0_7, .int .i64 a0_8, .bool a0_9, .bool a0_10, .bool a0_11, .bool a0_12, .bool a0_13, .bool a0_14, .bool a0_15, .int .i64 a0_16, .int .i64 a0_17, .int .i64 a0_18] 25 (0, 0)) (by (with_reducible repeat (first | refine bn1 ?_ _ | refine bd1 ?_ | refine ba1 ?_ _)); exact BK227.out) hb)
    have n1_ := Aside0.mk (bb1 (g := gb228) (o := .cells #[.int .i64 0, .int .u8 0, .slice none 0 0, .string (⟨#[]⟩ : ByteArray), .int .u8 0, .string (⟨#[]⟩ : ByteArray)] 30 (0, 0)) (by (with_reducible repeat (first | refine bn1 ?_ _ | refine bd1 ?_ | refine ba1 ?_ _)); exact BK228.out) hb)
    have n2_ := Aside0.mk (below_step (by repeat (first | (with_reducible first | exact HB.out | apply la1 | apply ln1 | apply ld1 | refine ls1 ?_ GE227.out | refine ls1 ?_ GE228.out) | exact HB.out)) hb)
    clear BK227
    clear BK228
    clear HB
    have BK227 := n0_
    have BK228 := n1_
    have HB := n2_
    clear n0_ n1_ n2_
    (try clear hb)
    (try clear hb2)
    (try clear hk)
    (try clear hi)
    refine hK.out _ _ ⟨(bc1 BK227.out 0).trans rfl, (bc1 BK227.out 1).trans rfl, (bc1 BK227.out 2).trans rfl, (bc1 BK227.out 3).trans rfl, (bc1 BK227.out 4).trans rfl, (bc1 BK227.out 5).trans rfl, (bc1 BK227.out 6).trans rfl, (bc1 BK227.out 7).trans rfl, (bc1 BK227.out 8).trans rfl, (bc1 BK227.out 9).trans rfl, (bc1 BK227.out 10).trans rfl, (bc1 BK227.out 11).trans rfl, (bc1 BK227.out 12).trans rfl, (bc1 BK227.out 13).trans rfl, (bc1 BK227.out 14).trans rfl, (bc1 BK227.out 15).trans rfl, (bc1 BK227.out 16).trans rfl, (bc1 BK227.out 17).trans rfl, (bc1 BK227.out 18).trans rfl⟩ (fun hHeld => ?_)
    clear hK K
    refine norm_ (a' := ?_) ?_ ?_
    rotate_left
    · show Act.put _ (some 16) _ = _
      simp only [Act.put, List.setIfInBounds_toArray, List.set_cons_zero, List.set_cons_succ, i64_w, i32_w]
      rfl
    refine one_ (i := 5) (N := some 19) #[true, true, true, true, true, true, false, false, false] rfl rfl (one_of HT_.out (by kernel_rfl)) (by decide) (fun K hK => ?_)
    refine goes_ Tryd.func32 (by kernel_rfl) rfl #[.int .i64 a0_3] (by rfl) rfl rfl (by (try simp only [List.map_toArray, List.map_cons, List.map_nil]); first | done | rfl | (simp only [List.length_drop, List.length_take]; rfl)) ?_
    with_reducible refine (clavierref19_fact.calls a0_3 t243 _ A24.out).mono ?_
    rintro e w30 ⟨rfl, hb⟩
    refine ⟨_, rfl, ?_⟩
    have n0_ := Aside0.mk (bb1 (g := gb227) (o := .cells #[.int .i64 a0_0, .int .i64 a0_1, .int .i64 a0_2, .int .i64 a0_3, .int .i64 a0_4, .int .i64 a0_5, .int .i64 a0_6, .int .i64 a0_7, .int .i64 a0_8, .bool a0_9, .bool a0_10, .bool a0_11, .bool a0_12, .bool a0_13, .bool a0_14, .bool a0_15, .int .i64 a0_16, .int .i64 a0_17, .int .i64 a0_18] 25 (0, 0)) (by (with_reducible repeat (first | refine bn1 ?_ _ | refine bd1 ?_ | refine ba1 ?_ _)); exact BK227.out) hb)
    have n1_ := Aside0.mk (bb1 (g := gb228) (o := .cells #[.int .i64 0, .int .u8 0, .slice none 0 0, .string (⟨#[]⟩ : ByteArray), .int .u8 0, .string (⟨#[]⟩ : ByteArray)] 30 (0, 0)) (by (with_reducible repeat (first | refine bn1 ?_ _ | refine bd1 ?_ | refine ba1 ?_ _)); exact BK228.out) hb)
    have n2_ := Aside0.mk (below_step (by repeat (first | (with_reducible first | exact HB.out | apply la1 | apply ln1 | apply ld1 | refine ls1 ?_ GE227.out | refine ls1 ?_ GE228.out) | exact HB.out)) hb)
    clear BK227
    clear BK228
    clear HB
    have BK227 := n0_
    have BK228 := n1_
    have HB := n2_
    clear n0_ n1_ n2_
    (try clear hb)
    (try clear hb2)
    (try clear hk)
    (try clear hi)
    refine hK.out _ _ ⟨(bc1 BK227.out 0).trans rfl, (bc1 BK227.out 1).trans rfl, (bc1 BK227.out 2).trans rfl, (bc1 BK227.out 3).trans rfl, (bc1 BK227.out 4).trans rfl, (bc1 BK227.out 5).trans rfl, (bc1 BK227.out 6).trans rfl, (bc1 BK227.out 7).trans rfl, (bc1 BK227.out 8).trans rfl, (bc1 BK227.out 9).trans rfl, (bc1 BK227.out 10).trans rfl, (bc1 BK227.out 11).trans rfl, (bc1 BK227.out 12).trans rfl, (bc1 BK227.out 13).trans rfl, (bc1 BK227.out 14).trans rfl, (bc1 BK227.out 15).trans rfl, (bc1 BK227.out 16).trans rfl, (bc1 BK227.out 17).trans rfl, (bc1 BK227.out 18).trans rfl⟩ (fun hHeld => ?_)
    clear hK K
    refine norm_ (a' := ?_) ?_ ?_
    rotate_left
    · show Act.put _ (some 19) _ = _
      simp only [Act.put, List.setIfInBounds_toArray, List.set_cons_zero, List.set_cons_succ, i64_w, i32_w]
      rfl
    refine one_ (i := 6) (N := some 20) #[true, true, true, true, true, true, true, false, false] rfl rfl (one_of HT_.out (by kernel_rfl)) (by decide) (fun K hK => ?_)
    refine Kd.R_lit_step (Kd.int .i64) _ 3 ?hg (N := 20) ?hd (xs := ([t242, t243] : List Int)) (inner := [.int .i64 t242, .int .i64 t243]) (ok := fun _ => True) (okp := fun _ => True) ?hr ?hp (fun _ hk => hk) trivial (Below.refl _ _) (Nat.le_refl _) (by simp) ?_; (case hd => rfl); (case hg => rfl); (case hr => first | (go_simp; done) | (go_simp; rfl)); (case hp => exact (Reps.one (show Kd.M (Kd.int .i64) _ _ _ t242 [.int .i64 t242] from rfl) (Reps.one (show Kd.M (Kd.int .i64) _ _ _ t243 [.int .i64 t243] from rfl) (Reps.none _ _))))
    intro v245 w31 ho32 hb hg_ hnew_
    clear hg_ hnew_
    (first | rw [← Ny244.out] at ho32 | (simp only [Int.reduceToNat] at ho32; rw [← Ny244.out] at ho32))
    have n0_ := Aside0.mk (Kd.R_lower ho32 (below_size (by repeat (first | (with_reducible first | exact HB.out | apply la1 | apply ln1 | apply ld1 | refine ls1 ?_ GE227.out | refine ls1 ?_ GE228.out) | exact HB.out))))
    have n1_ := Aside0.mk (bb1 (g := gb227) (o := .cells #[.int .i64 a0_0, .int .i64 a0_1, .int .i64 a0_2, .int .i64 a0_3, .int .i64 a0_4, .int .i64 a0_5, .int .i64 a0_6, .int .i64 a0_7, .int .i64 a0_8, .bool a0_9, .bool a0_10, .bool a0_11, .bool a0_12, .bool a0_13, .bool a0_14, .bool a0_15, .int .i64 a0_16, .int .i64 a0_17, .int .i64 a0_18] 25 (0, 0)) (by (with_reducible repeat (first | refine bn1 ?_ _ | refine bd1 ?_ | refine ba1 ?_ _)); exact BK227.out) hb)
    have n2_ := Aside0.mk (bb1 (g := gb228) (o := .cells #[.int .i64 0, .int .u8 0, .slice none 0 0, .string (⟨#[]⟩ : ByteArray), .int .u8 0, .string (⟨#[]⟩ : ByteArray)] 30 (0, 0)) (by (with_reducible repeat (first | refine bn1 ?_ _ | refine bd1 ?_ | refine ba1 ?_ _)); exact BK228.out) hb)
    have n3_ := Aside0.mk (below_step (by repeat (first | (with_reducible first | exact HB.out | apply la1 | apply ln1 | apply ld1 | refine ls1 ?_ GE227.out | refine ls1 ?_ GE228.out) | exact HB.out)) hb)
    clear BK227
    clear BK228
    clear HB
    have HO246 := n0_
    have BK227 := n1_
    have BK228 := n2_
    have HB := n3_
    clear n0_ n1_ n2_ n3_
    clear hb ho32
    obtain ⟨Ao33, co33, eo33⟩ := Kd.R_slice HO246.out
    (first | subst eo33 | (injection eo33 with f1_ f2_ f3_; have f4_ := f1_.symm; have f5_ := f3_.symm; clear f1_ f2_ f3_; subst f4_; subst f5_))
    refine hK.out _ _ ⟨(bc1 BK227.out 0).trans rfl, (bc1 BK227.out 1).trans rfl, (bc1 BK227.out 2).trans rfl, (bc1 BK227.out 3).trans rfl, (bc1 BK227.out 4).trans rfl, (bc1 BK227.out 5).trans rfl, (bc1 BK227.out 6).trans rfl, (bc1 BK227.out 7).trans rfl, (bc1 BK227.out 8).trans rfl, (bc1 BK227.out 9).trans rfl, (bc1 BK227.out 10).trans rfl, (bc1 BK227.out 11).trans rfl, (bc1 BK227.out 12).trans rfl, (bc1 BK227.out 13).trans rfl, (bc1 BK227.out 14).trans rfl, (bc1 BK227.out 15).trans rfl, (bc1 BK227.out 16).trans rfl, (bc1 BK227.out 17).trans rfl, (bc1 BK227.out 18).trans rfl⟩ (fun hHeld => ?_)
    clear hK K
    refine norm_ (a' := ?_) ?_ ?_
    rotate_left
    · show Act.put _ (some 20) _ = _
      simp only [Act.put, List.setIfInBounds_toArray, List.set_cons_zero, List.set_cons_succ, i64_w, i32_w]
      rfl
    refine one_ (i := 7) (N := some 21) #[true, true, true, true, true, true, true, true, false] rfl rfl (one_of HT_.out (by kernel_rfl)) (by decide) (fun K hK => ?_)
    refine goes_ Tryd.func31 (by kernel_rfl) rfl #[.int .u8 0, .int .u8 82, .slice Ao33 y244.length co33] (by rfl) rfl rfl (by (try simp only [List.map_toArray, List.map_cons, List.map_nil]); first | done | rfl | (simp only [List.length_drop, List.length_take]; rfl)) ?_
    with_reducible refine (clavierref19_nums.calls k 0 82 _ _ y244 t247 t248 t249 t252 t253 t254 _ ?side1 ?side2 A25.out).mono ?_
    (case side1 => repeat (first | exact (Kd.R_reads' HO246.out).2.2 | (with_reducible refine Kd.C_alloc ?_ _) | (with_reducible refine Kd.C_drewN ?_ _) | (with_reducible refine Kd.C_drew ?_)))
    (case side2 => exact (Kd.R_reads' HO246.out).2.1)
    rintro e w34 ⟨v250, rfl, ho0, hb⟩
    refine ⟨_, rfl, ?_⟩
    have n0_ := Aside0.mk (Kd.R_below (by (with_reducible repeat (first | apply Kd.R_alloc | apply Kd.R_drewN | apply Kd.R_drew)); exact HO246.out) hb)
    have n1_ := Aside0.mk (Kd.S_lower (Kd.S_new' ho0 (Kd.R_lt (by (with_reducible repeat (first | apply Kd.R_alloc | apply Kd.R_drewN | apply Kd.R_drew)); exact HO246.out))) (below_size (by repeat (first | (with_reducible first | exact HB.out | apply la1 | apply ln1 | apply ld1 | refine ls1 ?_ GE227.out | refine ls1 ?_ GE228.out) | exact HB.out))))
    have n2_ := Aside0.mk (bb1 (g := gb227) (o := .cells #[.int .i64 a0_0, .int .i64 a0_1, .int .i64 a0_2, .int .i64 a0_3, .int .i64 a0_4, .int .i64 a0_5, .int .i64 a0_6, .int .i64 a0_7, .int .i64 a0_8, .bool a0_9, .bool a0_10, .bool a0_11, .bool a0_12, .bool a0_13, .bool a0_14, .bool a0_15, .int .i64 a0_16, .int .i64 a0_17, .int .i64 a0_18] 25 (0, 0)) (by (with_reducible repeat (first | refine bn1 ?_ _ | refine bd1 ?_ | refine ba1 ?_ _)); exact BK227.out) hb)
    have n3_ := Aside0.mk (bb1 (g := gb228) (o := .cells #[.int .i64 0, .int .u8 0, .slice none 0 0, .string (⟨#[]⟩ : ByteArray), .int .u8 0, .string (⟨#[]⟩ : ByteArray)] 30 (0, 0)) (by (with_reducible repeat (first | refine bn1 ?_ _ | refine bd1 ?_ | refine ba1 ?_ _)); exact BK228.out) hb)
    have n4_ := Aside0.mk (below_step (by repeat (first | (with_reducible first | exact HB.out | apply la1 | apply ln1 | apply ld1 | refine ls1 ?_ GE227.out | refine ls1 ?_ GE228.out) | exact HB.out)) hb)
    clear HO246
    clear BK227
    clear BK228
    clear HB
    have HO246 := n0_
    have HO251 := n1_
    have BK227 := n2_
    have BK228 := n3_
    have HB := n4_
    clear n0_ n1_ n2_ n3_ n4_
    (try clear hb)
    (try clear hb2)
    (try clear hk)
    (try clear hi)
    (try clear ho0)
    obtain ⟨Ao37, co37, eo37⟩ := Kd.S_slice HO251.out
    (first | subst eo37 | (injection eo37 with f1_ f2_ f3_; have f4_ := f1_.symm; have f5_ := f3_.symm; clear f1_ f2_ f3_; subst f4_; subst f5_))
    refine hK.out _ _ ⟨(bc1 BK227.out 0).trans rfl, (bc1 BK227.out 1).trans rfl, (bc1 BK227.out 2).trans rfl, (bc1 BK227.out 3).trans rfl, (bc1 BK227.out 4).trans rfl, (bc1 BK227.out 5).trans rfl, (bc1 BK227.out 6).trans rfl, (bc1 BK227.out 7).trans rfl, (bc1 BK227.out 8).trans rfl, (bc1 BK227.out 9).trans rfl, (bc1 BK227.out 10).trans rfl, (bc1 BK227.out 11).trans rfl, (bc1 BK227.out 12).trans rfl, (bc1 BK227.out 13).trans rfl, (bc1 BK227.out 14).trans rfl, (bc1 BK227.out 15).trans rfl, (bc1 BK227.out 16).trans rfl, (bc1 BK227.out 17).trans rfl, (bc1 BK227.out 18).trans rfl⟩ (fun hHeld => ?_)
    clear hK K
    refine norm_ (a' := ?_) ?_ ?_
    rotate_left
    · show Act.put _ (some 21) _ = _
      simp only [Act.put, List.setIfInBounds_toArray, List.set_cons_zero, List.set_cons_succ, i64_w, i32_w]
      rfl
    refine one_ (i := 8) (N := none) #[true, true, true, true, true, true, true, true, true] rfl rfl (one_of HT_.out (by kernel_rfl)) (by decide) (fun K hK => ?_)
    have hs35 : w34.cell? ⟨gb228, 0, none⟩ = some (.int .i64 0) := (bc1 BK228.out 0).trans rfl
    have hfs35 := bz1 BK228.out 0
    have hns35_0 := NB227_228.out
    have hms35_0 := NB228_227.out
    have hs36 : w34.cell? ⟨gb228, 1, none⟩ = some (.int .u8 0) := (bc1 BK228.out 1).trans rfl
    have hfs36 := bz1 BK228.out 1
    have hns36_0 := NB227_228.out
    have hms36_0 := NB228_227.out
    have hs38 : w34.cell? ⟨gb228, 2, none⟩ = some (.slice none 0 0) := (bc1 BK228.out 2).trans rfl
    have hfs38 := bz1 BK228.out 2
    have hns38_0 := NB227_228.out
    have hms38_0 := NB228_227.out
    have hs39 : w34.cell? ⟨gb228, 3, none⟩ = some (.string (⟨#[]⟩ : ByteArray)) := (bc1 BK228.out 3).trans rfl
    have hfs39 := bz1 BK228.out 3
    have hns39_0 := NB227_228.out
    have hms39_0 := NB228_227.out
    have hs40 : w34.cell? ⟨gb228, 4, none⟩ = some (.int .u8 0) := (bc1 BK228.out 4).trans rfl
    have hfs40 := bz1 BK228.out 4
    have hns40_0 := NB227_228.out
    have hms40_0 := NB228_227.out
    have hs41 : w34.cell? ⟨gb228, 5, none⟩ = some (.string (⟨#[]⟩ : ByteArray)) := (bc1 BK228.out 5).trans rfl
    have hfs41 := bz1 BK228.out 5
    have hns41_0 := NB227_228.out
    have hms41_0 := NB228_227.out
    refine skip_ (w1 := ?_) (by rfl) rfl ?_ ?_
    rotate_left
    · go_simp
      rfl
    refine hK.out _ _ ⟨((cell_far (p := ⟨gb228, _, none⟩) NB227_228.out _).trans (((cell_far (p := ⟨gb228, _, none⟩) NB227_228.out _).trans (((cell_far (p := ⟨gb228, _, none⟩) NB227_228.out _).trans (((cell_far (p := ⟨gb228, _, none⟩) NB227_228.out _).trans (((cell_far (p := ⟨gb228, _, none⟩) NB227_228.out _).trans (((cell_far (p := ⟨gb228, _, none⟩) NB227_228.out _).trans (hHeld.1)))))))))))), ((cell_far (p := ⟨gb228, _, none⟩) NB227_228.out _).trans (((cell_far (p := ⟨gb228, _, none⟩) NB227_228.out _).trans (((cell_far (p := ⟨gb228, _, none⟩) NB227_228.out _).trans (((cell_far (p := ⟨gb228, _, none⟩) NB227_228.out _).trans (((cell_far (p := ⟨gb228, _, none⟩) NB227_228.out _).trans (((cell_far (p := ⟨gb228, _, none⟩) NB227_228.out _).trans (hHeld.2.1)))))))))))), ((cell_far (p := ⟨gb228, _, none⟩) NB227_228.out _).trans (((cell_far (p := ⟨gb228, _, none⟩) NB227_228.out _).trans (((cell_far (p := ⟨gb228, _, none⟩) NB227_228.out _).trans (((cell_far (p := ⟨gb228, _, none⟩) NB227_228.out _).trans (((cell_far (p := ⟨gb228, _, none⟩) NB227_228.out _).trans (((cell_far (p := ⟨gb228, _, none⟩) NB227_228.out _).trans (hHeld.2.2.1)))))))))))), ((cell_far (p := ⟨gb228, _, none⟩) NB227_228.out _).trans (((cell_far (p := ⟨gb228, _, none⟩) NB227_228.out _).trans (((cell_far (p := ⟨gb228, _, none⟩) NB227_228.out _).trans (((cell_far (p := ⟨gb228, _, none⟩) NB227_228.out _).trans (((cell_far (p := ⟨gb228, _, none⟩) NB227_228.out _).trans (((cell_far (p := ⟨gb228, _, none⟩) NB227_228.out _).trans (hHeld.2.2.2.1)))))))))))), ((cell_far (p := ⟨gb228, _, none⟩) NB227_228.out _).trans (((cell_far (p := ⟨gb228, _, none⟩) NB227_228.out _).trans (((cell_far (p := ⟨gb228, _, none⟩) NB227_228.out _).trans (((cell_far (p := ⟨gb228, _, none⟩) NB227_228.out _).trans (((cell_far (p := ⟨gb228, _, none⟩) NB227_228.out _).trans (((cell_far (p := ⟨gb228, _, none⟩) NB227_228.out _).trans (hHeld.2.2.2.2.1)))))))))))), ((cell_far (p := ⟨gb228, _, none⟩) NB227_228.out _).trans (((cell_far (p := ⟨gb228, _, none⟩) NB227_228.out _).trans (((cell_far (p := ⟨gb228, _, none⟩) NB227_228.out _).trans (((cell_far (p := ⟨gb228, _, none⟩) NB227_228.out _).trans (((cell_far (p := ⟨gb228, _, none⟩) NB227_228.out _).trans (((cell_far (p := ⟨gb228, _, none⟩) NB227_228.out _).trans (hHeld.2.2.2.2.2.1)))))))))))), ((cell_far (p := ⟨gb228, _, none⟩) NB227_228.out _).trans (((cell_far (p := ⟨gb228, _, none⟩) NB227_228.out _).trans (((cell_far (p := ⟨gb228, _, none⟩) NB227_228.out _).trans (((cell_far (p := ⟨gb228, _, none⟩) NB227_228.out _).trans (((cell_far (p := ⟨gb228, _, none⟩) NB227_228.out _).trans (((cell_far (p := ⟨gb228, _, none⟩) NB227_228.out _).trans (hHeld.2.2.2.2.2.2.1)))))))))))), ((cell_far (p := ⟨gb228, _, none⟩) NB227_228.out _).trans (((cell_far (p := ⟨gb228, _, none⟩) NB227_228.out _).trans (((cell_far (p := ⟨gb228, _, none⟩) NB227_228.out _).trans (((cell_far (p := ⟨gb228, _, none⟩) NB227_228.out _).trans (((cell_far (p := ⟨gb228, _, none⟩) NB227_228.out _).trans (((cell_far (p := ⟨gb228, _, none⟩) NB227_228.out _).trans (hHeld.2.2.2.2.2.2.2.1)))))))))))), ((cell_far (p := ⟨gb228, _, none⟩) NB227_228.out _).trans (((cell_far (p := ⟨gb228, _, none⟩) NB227_228.out _).trans (((cell_far (p := ⟨gb228, _, none⟩) NB227_228.out _).trans (((cell_far (p := ⟨gb228, _, none⟩) NB227_228.out _).trans (((cell_far (p := ⟨gb228, _, none⟩) NB227_228.out _).trans (((cell_far (p := ⟨gb228, _, none⟩) NB227_228.out _).trans (hHeld.2.2.2.2.2.2.2.2.1)))))))))))), ((cell_far (p := ⟨gb228, _, none⟩) NB227_228.out _).trans (((cell_far (p := ⟨gb228, _, none⟩) NB227_228.out _).trans (((cell_far (p := ⟨gb228, _, none⟩) NB227_228.out _).trans (((cell_far (p := ⟨gb228, _, none⟩) NB227_228.out _).trans (((cell_far (p := ⟨gb228, _, none⟩) NB227_228.out _).trans (((cell_far (p := ⟨gb228, _, none⟩) NB227_228.out _).trans (hHeld.2.2.2.2.2.2.2.2.2.1)))))))))))), ((cell_far (p := ⟨gb228, _, none⟩) NB227_228.out _).trans (((cell_far (p := ⟨gb228, _, none⟩) NB227_228.out _).trans (((cell_far (p := ⟨gb228, _, none⟩) NB227_228.out _).trans (((cell_far (p := ⟨gb228, _, none⟩) NB227_228.out _).trans (((cell_far (p := ⟨gb228, _, none⟩) NB227_228.out _).trans (((cell_far (p := ⟨gb228, _, none⟩) NB227_228.out _).trans (hHeld.2.2.2.2.2.2.2.2.2.2.1)))))))))))), ((cell_far (p := ⟨gb228, _, none⟩) NB227_228.out _).trans (((cell_far (p := ⟨gb228, _, none⟩) NB227_228.out _).trans (((cell_far (p := ⟨gb228, _, none⟩) NB227_228.out _).trans (((cell_far (p := ⟨gb228, _, none⟩) NB227_228.out _).trans (((cell_far (p := ⟨gb228, _, none⟩) NB227_228.out _).trans (((cell_far (p := ⟨gb228, _, none⟩) NB227_228.out _).trans (hHeld.2.2.2.2.2.2.2.2.2.2.2.1)))))))))))), ((cell_far (p := ⟨gb228, _, none⟩) NB227_228.out _).trans (((cell_far (p := ⟨gb228, _, none⟩) NB227_228.out _).trans (((cell_far (p := ⟨gb228, _, none⟩) NB227_228.out _).trans (((cell_far (p := ⟨gb228, _, none⟩) NB227_228.out _).trans (((cell_far (p := ⟨gb228, _, none⟩) NB227_228.out _).trans (((cell_far (p := ⟨gb228, _, none⟩) NB227_228.out _).trans (hHeld.2.2.2.2.2.2.2.2.2.2.2.2.1)))))))))))), ((cell_far (p := ⟨gb228, _, none⟩) NB227_228.out _).trans (((cell_far (p := ⟨gb228, _, none⟩) NB227_228.out _).trans (((cell_far (p := ⟨gb228, _, none⟩) NB227_228.out _).trans (((cell_far (p := ⟨gb228, _, none⟩) NB227_228.out _).trans (((cell_far (p := ⟨gb228, _, none⟩) NB227_228.out _).trans (((cell_far (p := ⟨gb228, _, none⟩) NB227_228.out _).trans (hHeld.2.2.2.2.2.2.2.2.2.2.2.2.2.1)))))))))))), ((cell_far (p := ⟨gb228, _, none⟩) NB227_228.out _).trans (((cell_far (p := ⟨gb228, _, none⟩) NB227_228.out _).trans (((cell_far (p := ⟨gb228, _, none⟩) NB227_228.out _).trans (((cell_far (p := ⟨gb228, _, none⟩) NB227_228.out _).trans (((cell_far (p := ⟨gb228, _, none⟩) NB227_228.out _).trans (((cell_far (p := ⟨gb228, _, none⟩) NB227_228.out _).trans (hHeld.2.2.2.2.2.2.2.2.2.2.2.2.2.2.1)))))))))))), ((cell_far (p := ⟨gb228, _, none⟩) NB227_228.out _).trans (((cell_far (p := ⟨gb228, _, none⟩) NB227_228.out _).trans (((cell_far (p := ⟨gb228, _, none⟩) NB227_228.out _).trans (((cell_far (p := ⟨gb228, _, none⟩) NB227_228.out _).trans (((cell_far (p := ⟨gb228, _, none⟩) NB227_228.out _).trans (((cell_far (p := ⟨gb228, _, none⟩) NB227_228.out _).trans (hHeld.2.2.2.2.2.2.2.2.2.2.2.2.2.2.2.1)))))))))))), ((cell_far (p := ⟨gb228, _, none⟩) NB227_228.out _).trans (((cell_far (p := ⟨gb228, _, none⟩) NB227_228.out _).trans (((cell_far (p := ⟨gb228, _, none⟩) NB227_228.out _).trans (((cell_far (p := ⟨gb228, _, none⟩) NB227_228.out _).trans (((cell_far (p := ⟨gb228, _, none⟩) NB227_228.out _).trans (((cell_far (p := ⟨gb228, _, none⟩) NB227_228.out _).trans (hHeld.2.2.2.2.2.2.2.2.2.2.2.2.2.2.2.2.1)))))))))))), ((cell_far (p := ⟨gb228, _, none⟩) NB227_228.out _).trans (((cell_far (p := ⟨gb228, _, none⟩) NB227_228.out _).trans (((cell_far (p := ⟨gb228, _, none⟩) NB227_228.out _).trans (((cell_far (p := ⟨gb228, _, none⟩) NB227_228.out _).trans (((cell_far (p := ⟨gb228, _, none⟩) NB227_228.out _).trans (((cell_far (p := ⟨gb228, _, none⟩) NB227_228.out _).trans (hHeld.2.2.2.2.2.2.2.2.2.2.2.2.2.2.2.2.2.1)))))))))))), ((cell_far (p := ⟨gb228, _, none⟩) NB227_228.out _).trans (((cell_far (p := ⟨gb228, _, none⟩) NB227_228.out _).trans (((cell_far (p := ⟨gb228, _, none⟩) NB227_228.out _).trans (((cell_far (p := ⟨gb228, _, none⟩) NB227_228.out _).trans (((cell_far (p := ⟨gb228, _, none⟩) NB227_228.out _).trans (((cell_far (p := ⟨gb228, _, none⟩) NB227_228.out _).trans (hHeld.2.2.2.2.2.2.2.2.2.2.2.2.2.2.2.2.2.2))))))))))))⟩ (fun hHeld => ?_)
    clear hK K
    refine done_ (done_of HT_.out (by kernel_rfl)) ?_
    try go_wp2
    refine bodyPost_ret (results_cell_row rfl _ _ gb228 30 #[.int .i64 t247, .int .u8 t248, .slice Ao37 t249.length co37, .string t252, .int .u8 t253, .string t254] (0, 0) _ rfl (by (with_reducible repeat (first | refine bn1 ?_ _ | refine bd1 ?_ | refine ba1 ?_ _)); refine bp1 (cs := #[.int .i64 t247, .int .u8 t248, .slice Ao37 t249.length co37, .string t252, .int .u8 t253, .string (⟨#[]⟩ : ByteArray)]) ?_ 5 _ rfl; (with_reducible repeat (first | refine bn1 ?_ _ | refine bd1 ?_ | refine ba1 ?_ _)); refine bp1 (cs := #[.int .i64 t247, .int .u8 t248, .slice Ao37 t249.length co37, .string t252, .int .u8 0, .string (⟨#[]⟩ : ByteArray)]) ?_ 4 _ rfl; (with_reducible repeat (first | refine bn1 ?_ _ | refine bd1 ?_ | refine ba1 ?_ _)); refine bp1 (cs := #[.int .i64 t247, .int .u8 t248, .slice Ao37 t249.length co37, .string (⟨#[]⟩ : ByteArray), .int .u8 0, .string (⟨#[]⟩ : ByteArray)]) ?_ 3 _ rfl; (with_reducible repeat (first | refine bn1 ?_ _ | refine bd1 ?_ | refine ba1 ?_ _)); refine bp1 (cs := #[.int .i64 t247, .int .u8 t248, .slice none 0 0, .string (⟨#[]⟩ : ByteArray), .int .u8 0, .string (⟨#[]⟩ : ByteArray)]) ?_ 2 _ rfl; (with_reducible repeat (first | refine bn1 ?_ _ | refine bd1 ?_ | refine ba1 ?_ _)); refine bp1 (cs := #[.int .i64 t247, .int .u8 0, .slice none 0 0, .string (⟨#[]⟩ : ByteArray), .int .u8 0, .string (⟨#[]⟩ : ByteArray)]) ?_ 1 _ rfl; (with_reducible repeat (first | refine bn1 ?_ _ | refine bd1 ?_ | refine ba1 ?_ _)); refine bp1 (cs := #[.int .i64 0, .int .u8 0, .slice none 0 0, .string (⟨#[]⟩ : ByteArray), .int .u8 0, .string (⟨#[]⟩ : ByteArray)]) ?_ 0 _ rfl; (with_reducible repeat (first | refine bn1 ?_ _ | refine bd1 ?_ | refine ba1 ?_ _)); exact BK228.out) Tryd.underlying30 rfl (by kernel_rfl)) rfl ?_
    exact ⟨_, by first | rfl | (simp [errW_none, errW_some] <;> rfl) | (simp [*, errW_none, errW_some] <;> rfl), by (with_reducible repeat (first | apply Kd.S_alloc | apply Kd.S_drewN | apply Kd.S_drew)); exact Kd.S_mono (Kd.S_far (p := ⟨gb228, 5, none⟩) (Kd.S_far (p := ⟨gb228, 4, none⟩) (Kd.S_far (p := ⟨gb228, 3, none⟩) (Kd.S_far (p := ⟨gb228, 2, none⟩) (Kd.S_far (p := ⟨gb228, 1, none⟩) (Kd.S_far (p := ⟨gb228, 0, none⟩) (Kd.S_types HO251.out BK228.out (by decide)) (fun _ hk => hk.2) (.int .i64 t247)) (fun _ hk => hk.2) (.int .u8 t248)) (fun _ hk => hk.2) (.slice Ao37 t249.length co37)) (fun _ hk => hk.2) (.string t252)) (fun _ hk => hk.2) (.int .u8 t253)) (fun _ hk => hk.2) (.string t254)) (fun _ hk => trivial), by repeat (first | (with_reducible first | exact HB.out | apply la1 | apply ln1 | apply ld1 | refine ls1 ?_ GE227.out | refine ls1 ?_ GE228.out) | exact HB.out)⟩
end Go.Proofs.YtopcleljecdkkaaDoor.G
end
