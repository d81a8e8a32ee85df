/- M: texts run together by shake.py: Greporta Greportb GgreportSetting PuRa Gclavierref03a Gclavierref03a1 Gclavierref03a2. -/
import Derived.ArgAppend
import Derived.Below
import Derived.BigQuiet
import Derived.ChangeOld
import Derived.ChangeSlices
import Derived.Deep.AppendLies
import Derived.Deep.CutBlock
import Derived.Deep.DeepCutAuto
import Derived.Deep.Draws
import Derived.Deep.LoopGhost
import Derived.Deep.Matrix
import Derived.Deep.OwnRows
import Derived.Deep.Quiet
import Derived.Deep.QuietTactic
import Derived.Deep.RegionHeld3
import Derived.Ground.Names2Prog
import Derived.Ground.SlgnProg
import Derived.KernelRfl
import Derived.Laws.AppendOwn
import Derived.Laws.AppendOwnNone
import Derived.Laws.BitsLemmas
import Derived.Laws.BytesArg
import Derived.Laws.Concat
import Derived.Laws.CopyRow
import Derived.Laws.IdiomCopy
import Derived.Laws.IdiomStrings
import Derived.Laws.MakeOwn
import Derived.Laws.OwnMore
import Derived.Laws.Rows
import Derived.Laws.Slices
import Derived.Laws.StructEq
import Derived.Laws.Tables
import Derived.Lib.AppendIntMem
import Derived.Lib.AppendStr
import Derived.Lib.ConvBytes
import Derived.Lib.Hide
import Derived.Lib.ItoaLen
import Derived.Lib.ItoaNum
import Derived.Lib.Join
import Derived.Lib.LaidTab
import Derived.Lib.Strings
import Derived.MapKept
import Derived.Maps.AppendAt
import Derived.OpenShut
import Derived.Orders
import Derived.OrdersHeld
import Derived.Outline
import Derived.OwnWalk
import Derived.ProofKit
import Derived.RowKit
import Derived.RowKit3
import Derived.Shelf.LaysM
import Derived.Shelf.Slices.Clone
import Derived.Shelf.SlicesE.Clone
import Derived.Shelf.Strconv.Itoa0
import Derived.Shelf.Strconv.Itoa1
import Derived.Shelf.Strconv.Itoa2
import Derived.Shelf.Strconv.Itoa3
import Derived.Shelf.Strings.Builder1
import Derived.Shelf.Strings.Builder2
import Derived.Shelf.Strings.Builder2Cap
import Derived.Shelf.Strings.BuilderCap
import Derived.Shelf.Strings.BuilderF
import Derived.Shelf.Strings.BuilderK
import Derived.Shelf.Strings.OnBuilder
import Derived.ShutString
import Derived.SizedLaws
import Derived.Still
import Derived.Tactics
import Derived.Test.YtopcleljecdkkaaDoorProg
import Derived.WalkKit
import Derived.WalkLawsBesides
import Derived.WalkSpells
import Derived.WideLaws
import Derived.Test.YtopcleljecdkkaaDoorZM1
import Derived.Test.YtopcleljecdkkaaDoorZM2
import Derived.Test.YtopcleljecdkkaaDoorZM3
section
namespace Go.Proofs.YtopcleljecdkkaaDoor.G
open Go.RowKit Go.Proofs.YtopcleljecdkkaaDoorW.PrintWords Go.Proofs.YtopcleljecdkkaaDoorW.PrintLast Go.Proofs.YtopcleljecdkkaaDoorW.PrintMore
attribute [local go_sem] max2_int min2_int max_two min_two max_three min_three max_four min_four
set_option linter.unusedVariables false
set_option linter.unusedSimpArgs false
def report_fact.f (a0 : Int) : Option (Int) := some (mn (mx a0 0) 65535)
set_option maxHeartbeats 8000000 in
set_option maxRecDepth 100000 in
theorem report_fact.calls (a0 : Int) (r : Int) (w : World) (h : report_fact.f a0 = some r) :
    Calls Tryd.prog 29 #[.int .i64 a0] w fun e w' => e = .returned (.int .i64 r) ∧ Below w.heap.size w w' := by
  have HB := Aside0.mk (Below.refl w.heap.size w)
  have H : (some (mn (mx a0 0) 65535)) = some r := h
  clear h
  obtain ⟨ji2, hji2⟩ : ∃ j_ : Int, (mx a0 0) = j_ := ⟨_, rfl⟩
  replace H : (some (mn (ji2) 65535)) = some r := by first | (rw [hji2] at H; exact H) | (simp only [hji2] at H ⊢; exact H)
  (try (have hji2l : 0 ≤ ji2 := by (rw [← hji2]; unfold mx; (repeat' split) <;> omega)))
  (try (have hji2m : 0 ≤ ji2 := by omega))
  have hji2_ : (if a0 < 0 then 0 else a0) = ji2 := hji2
  obtain ⟨ji3, hji3⟩ : ∃ j_ : Int, (mn (ji2) 65535) = j_ := ⟨_, rfl⟩
  replace H : (some ji3) = some r := by first | (rw [hji3] at H; exact H) | (simp only [hji3] at H ⊢; exact H)
  have hji3_ : (if 65535 < (ji2) then 65535 else (ji2)) = ji3 := hji3
  obtain rfl := Option.some.inj H
  go_enter Tryd.func29, Tryd.ntmps29
  go_wp2
  go_ret
  exact ⟨by first | rfl | (simp [errW_none, errW_some] <;> rfl) | (simp only [← hji2, ← hji3]; first | rfl | (simp [errW_none, errW_some] <;> rfl)) | (simp [*, errW_none, errW_some] <;> rfl), by repeat (first | (with_reducible first | exact HB.out | apply la1 | apply ln1 | apply ld1) | exact HB.out)⟩
def report_Place.f (k : Nat) (a0_0 : Int) (a0_1 : Int) (a0_2 : Int) (a0_3 : Int) (a0_4 : Int) (a0_5 : Int) (a0_6 : Int) (a0_7 : Int) (a0_8 : Int) (a0_9 : Bool) (a0_10 : Bool) (a0_11 : Bool) (a0_12 : Bool) (a0_13 : Bool) (a0_14 : Bool) (a0_15 : Bool) (a0_16 : Int) (a0_17 : Int) (a0_18 : Int) (a1 : Bool) : Option (Int × Int × (List (List Int)) × ByteArray × Int × ByteArray) := (report_fact.f a0_2).bind fun t112 => ((report_fact.f a0_3).bind fun t113 => (if a1 = true then ((wire_Num.f k 63 82 (([t112, t113, 1] : List Int))).bind fun bt117 => (some (bt117.1, bt117.2.1, bt117.2.2.1, bt117.2.2.2.1, bt117.2.2.2.2.1, bt117.2.2.2.2.2))) else ((wire_Num.f k 0 82 (([t112, t113] : List Int))).bind fun bt128 => (some (bt128.1, bt128.2.1, bt128.2.2.1, bt128.2.2.2.1, bt128.2.2.2.2.1, bt128.2.2.2.2.2)))))
theorem report_Place.mono : ∀ a0 a1 a2 a3 a4 a5 a6 a7 a8 a9 a10 a11 a12 a13 a14 a15 a16 a17 a18 a19 k, LeO (report_Place.f k a0 a1 a2 a3 a4 a5 a6 a7 a8 a9 a10 a11 a12 a13 a14 a15 a16 a17 a18 a19) (report_Place.f (k + 1) a0 a1 a2 a3 a4 a5 a6 a7 a8 a9 a10 a11 a12 a13 a14 a15 a16 a17 a18 a19) := by
  intro a0 a1 a2 a3 a4 a5 a6 a7 a8 a9 a10 a11 a12 a13 a14 a15 a16 a17 a18 a19 k
  unfold report_Place.f
  repeat' first
      | (with_reducible exact wire_Num.mono _ _ _ _)
      | (with_reducible exact LeO.refl _)
      | (with_reducible exact LeO.none _)
      | (with_reducible refine LeO.ite ?_ ?_)
      | (with_reducible refine LeO.bind ?_ (fun _ => ?_))
      | exact wire_Num.mono _ _ _ _
      | exact LeO.none _
      | refine LeO.ite ?_ ?_
      | refine LeO.bind ?_ (fun _ => ?_)
def report_Place.T1 : Bool × List (List Nat × List Nat) := (true, [([], []), ([0], [0]), ([1], [1]), ([], []), ([3], [3]), ([4, 2], [4]), ([2, 5, 0, 1, 2], [2]), ([5, 6, 0, 1, 2, 3, 4, 5, 6], [5])])
def report_Place.B1 : List Nat := [0, 1, 3, 0, 8, 31, 63, 127]
theorem report_Place.tab1 : rtab .any (opsOf Tryd.f11 1) = report_Place.T1 := by kernel_rfl
theorem report_Place.bits1 : waitsOk report_Place.T1.2 report_Place.B1 = true := by kernel_rfl
set_option maxHeartbeats 8000000 in
set_option maxRecDepth 100000 in
theorem report_Place.calls (k : Nat) (a0_0 : Int) (a0_1 : Int) (a0_2 : Int) (a0_3 : Int) (a0_4 : Int) (a0_5 : Int) (a0_6 : Int) (a0_7 : Int) (a0_8 : Int) (a0_9 : Bool) (a0_10 : Bool) (a0_11 : Bool) (a0_12 : Bool) (a0_13 : Bool) (a0_14 : Bool) (a0_15 : Bool) (a0_16 : Int) (a0_17 : Int) (a0_18 : Int) (a1 : Bool) (r1 : Int) (r2 : Int) (r3 : List (List Int)) (r4 : ByteArray) (r5 : Int) (r6 : ByteArray) (w : World) (h : report_Place.f k a0_0 a0_1 a0_2 a0_3 a0_4 a0_5 a0_6 a0_7 a0_8 a0_9 a0_10 a0_11 a0_12 a0_13 a0_14 a0_15 a0_16 a0_17 a0_18 a1 = some (r1, r2, r3, r4, r5, r6)) :
    Calls Tryd.prog 11 #[.agg #[.int .i64 a0_0, .int .i64 a0_1, .int .i64 a0_2, .int .i64 a0_3, .int .i64 a0_4, .int .i64 a0_5, .int .i64 a0_6, .int .i64 a0_7, .int .i64 a0_8, .bool a0_9, .bool a0_10, .bool a0_11, .bool a0_12, .bool a0_13, .bool a0_14, .bool a0_15, .int .i64 a0_16, .int .i64 a0_17, .int .i64 a0_18], .bool a1] w fun e w' => ∃ v2_ : Value, e = .returned (.agg #[.int .i64 r1, .int .u8 r2, v2_, .string r4, .int .u8 r5, .string r6]) ∧ Kd.S (Kd.slice 3 (Kd.int .i64)) 52 w' w.heap.size (fun _ => True) v2_ r3 ∧ Below w.heap.size w w' := by
  have hu25 := Tryd.underlying25
  have hu30 := Tryd.underlying30
  have HB := Aside0.mk (Below.refl w.heap.size w)
  have H : ((report_fact.f a0_2).bind fun t112 => ((report_fact.f a0_3).bind fun t113 => (if a1 = true then ((wire_Num.f k 63 82 (([t112, t113, 1] : List Int))).bind fun bt117 => (some (bt117.1, bt117.2.1, bt117.2.2.1, bt117.2.2.2.1, bt117.2.2.2.2.1, bt117.2.2.2.2.2))) else ((wire_Num.f k 0 82 (([t112, t113] : List Int))).bind fun bt128 => (some (bt128.1, bt128.2.1, bt128.2.2.1, bt128.2.2.2.1, bt128.2.2.2.2.1, bt128.2.2.2.2.2)))))) = some (r1, r2, r3, r4, r5, r6) := h
  clear h
  replace H := Option.bind_eq_some_iff.mp H
  obtain ⟨t112, A30, H⟩ := H
  replace H : ((report_fact.f a0_3).bind fun t113 => (if a1 = true then ((wire_Num.f k 63 82 (([t112, t113, 1] : List Int))).bind fun bt117 => (some (bt117.1, bt117.2.1, bt117.2.2.1, bt117.2.2.2.1, bt117.2.2.2.2.1, bt117.2.2.2.2.2))) else ((wire_Num.f k 0 82 (([t112, t113] : List Int))).bind fun bt128 => (some (bt128.1, bt128.2.1, bt128.2.2.1, bt128.2.2.2.1, bt128.2.2.2.2.1, bt128.2.2.2.2.2))))) = some (r1, r2, r3, r4, r5, r6) := H
  have A3 := Aside0.mk A30
  clear A30
  replace H := Option.bind_eq_some_iff.mp H
  obtain ⟨t113, A40, H⟩ := H
  replace H : (if a1 = true then ((wire_Num.f k 63 82 (([t112, t113, 1] : List Int))).bind fun bt117 => (some (bt117.1, bt117.2.1, bt117.2.2.1, bt117.2.2.2.1, bt117.2.2.2.2.1, bt117.2.2.2.2.2))) else ((wire_Num.f k 0 82 (([t112, t113] : List Int))).bind fun bt128 => (some (bt128.1, bt128.2.1, bt128.2.2.1, bt128.2.2.2.1, bt128.2.2.2.2.1, bt128.2.2.2.2.2)))) = some (r1, r2, r3, r4, r5, r6) := H
  have A4 := Aside0.mk A40
  clear A40
  by_cases c5 : a1 = true
  · subst c5
    have H1 : ((wire_Num.f k 63 82 (([t112, t113, 1] : List Int))).bind fun bt117 => (some (bt117.1, bt117.2.1, bt117.2.2.1, bt117.2.2.2.1, bt117.2.2.2.2.1, bt117.2.2.2.2.2))) = some (r1, r2, r3, r4, r5, r6) := by rw [if_pos rfl] at H; exact H
    clear H
    have H := H1
    clear H1
    obtain ⟨y114, hy114⟩ : ∃ y_ : List Int, y_ = (([t112, t113, 1] : List Int)) := ⟨_, rfl⟩
    replace H : ((wire_Num.f k 63 82 y114).bind fun bt117 => (some (bt117.1, bt117.2.1, bt117.2.2.1, bt117.2.2.2.1, bt117.2.2.2.2.1, bt117.2.2.2.2.2))) = some (r1, r2, r3, r4, r5, r6) := by first | (rw [hy114]; with_reducible exact H) | (have H2_ := (Option.bind_some _ _).symm.trans H; rw [hy114]; with_reducible exact H2_) | (have H2_ := (Option.bind_some _ _).symm.trans H; with_reducible exact H2_) | with_reducible exact H | (rw [hy114]; exact H) | exact H
    have Ny114 := Aside0.mk hy114
    clear hy114
    replace H := Option.bind_eq_some_iff.mp H
    obtain ⟨⟨t117, t118, t119, t122, t123, t124⟩, A60, H⟩ := H
    replace H : (some (t117, t118, t119, t122, t123, t124)) = some (r1, r2, r3, r4, r5, r6) := H
    have A6 := Aside0.mk A60
    clear A60
    simp only [Option.some.injEq, Prod.mk.injEq] at H
    obtain ⟨rfl, rfl, rfl, rfl, rfl, rfl⟩ := H
    go_enter Tryd.func11, Tryd.ntmps11
    try go_wp2_with (first | ((with_reducible refine gate_dst (N := 2) rfl ?_); refine box_event ?hg (N := 2) ?hd (cs := #[.int .i64 a0_0, .int .i64 a0_1, .int .i64 a0_2, .int .i64 a0_3, .int .i64 a0_4, .int .i64 a0_5, .int .i64 a0_6, .int .i64 a0_7, .int .i64 a0_8, .bool a0_9, .bool a0_10, .bool a0_11, .bool a0_12, .bool a0_13, .bool a0_14, .bool a0_15, .int .i64 a0_16, .int .i64 a0_17, .int .i64 a0_18]) (t := 25) ?hr ?_; (case hd => rfl); (case hg => rfl); (case hr => first | (go_simp; done) | (go_simp; rfl)); intro gb110 hg w7 hbox hb; have n0_ := Aside0.mk (below_step (by repeat (first | (with_reducible first | exact HB.out | apply la1 | apply ln1 | apply ld1) | exact HB.out)) hb); have n1_ := Aside0.mk (hbox); have n2_ := Aside0.mk ((by rw [hg]; exact (below_size (by repeat (first | (with_reducible first | exact HB.out | apply la1 | apply ln1 | apply ld1) | exact HB.out))) : w.heap.size ≤ gb110)); have n3_ := Aside0.mk ((by rw [hg]; exact (below_size (by repeat (first | (with_reducible first | exact HB.out | apply la1 | apply ln1 | apply ld1) | exact HB.out))) : w.heap.size ≤ gb110)); clear HB; have HB := n0_; have BK110 := n1_; have GW110 := n2_; have GE110 := n3_; clear n0_ n1_ n2_ n3_; clear hb hbox hg) | ((with_reducible refine gate_dst (N := 4) rfl ?_); refine box_event ?hg (N := 4) ?hd (cs := #[.int .i64 0, .int .u8 0, .slice none 0 0, .string (⟨#[]⟩ : ByteArray), .int .u8 0, .string (⟨#[]⟩ : ByteArray)]) (t := 30) ?hr ?_; (case hd => rfl); (case hg => rfl); (case hr => first | (go_simp; done) | (go_simp; rfl)); intro gb111 hg w8 hbox hb; have n0_ := Aside0.mk (bb1 (g := gb110) (o := .cells #[.int .i64 a0_0, .int .i64 a0_1, .int .i64 a0_2, .int .i64 a0_3, .int .i64 a0_4, .int .i64 a0_5, .int .i64 a0_6, .int .i64 a0_7, .int .i64 a0_8, .bool a0_9, .bool a0_10, .bool a0_11, .bool a0_12, .bool a0_13, .bool a0_14, .bool a0_15, .int .i64 a0_16, .int .i64 a0_17, .int .i64 a0_18] 25 (0, 0)) (by (with_reducible repeat (first | refine bn1 ?_ _ | refine bd1 ?_ | refine ba1 ?_ _)); exact BK110.out) hb); have n1_ := Aside0.mk (below_step (by repeat (first | (with_reducible first | exact HB.out | apply la1 | apply ln1 | apply ld1 | refine ls1 ?_ GE110.out) | exact HB.out)) hb); have n2_ := Aside0.mk (hbox); have n3_ := Aside0.mk ((by rw [hg]; exact (below_size (by repeat (first | (with_reducible first | exact HB.out | apply la1 | apply ln1 | apply ld1 | refine ls1 ?_ GE110.out) | exact HB.out))) : w.heap.size ≤ gb111)); have n4_ := Aside0.mk ((by rw [hg]; exact (below_size (by repeat (first | (with_reducible first | exact HB.out | apply la1 | apply ln1 | apply ld1 | refine ls1 ?_ GE110.out) | exact HB.out))) : w.heap.size ≤ gb111)); have n5_ := Aside0.mk ((by rw [hg]; exact Nat.ne_of_lt (blk_lt (g := gb110) (o := .cells #[.int .i64 a0_0, .int .i64 a0_1, .int .i64 a0_2, .int .i64 a0_3, .int .i64 a0_4, .int .i64 a0_5, .int .i64 a0_6, .int .i64 a0_7, .int .i64 a0_8, .bool a0_9, .bool a0_10, .bool a0_11, .bool a0_12, .bool a0_13, .bool a0_14, .bool a0_15, .int .i64 a0_16, .int .i64 a0_17, .int .i64 a0_18] 25 (0, 0)) (by (with_reducible repeat (first | refine bn1 ?_ _ | refine bd1 ?_ | refine ba1 ?_ _)); exact BK110.out)) : gb110 ≠ gb111)); have n6_ := Aside0.mk ((by rw [hg]; exact Nat.ne_of_gt (blk_lt (g := gb110) (o := .cells #[.int .i64 a0_0, .int .i64 a0_1, .int .i64 a0_2, .int .i64 a0_3, .int .i64 a0_4, .int .i64 a0_5, .int .i64 a0_6, .int .i64 a0_7, .int .i64 a0_8, .bool a0_9, .bool a0_10, .bool a0_11, .bool a0_12, .bool a0_13, .bool a0_14, .bool a0_15, .int .i64 a0_16, .int .i64 a0_17, .int .i64 a0_18] 25 (0, 0)) (by (with_reducible repeat (first | refine bn1 ?_ _ | refine bd1 ?_ | refine ba1 ?_ _)); exact BK110.out)) : gb111 ≠ gb110)); clear BK110; clear HB; have BK110 := n0_; have HB := n1_; have BK111 := n2_; have GW111 := n3_; have GE111 := n4_; have NB110_111 := n5_; have NB111_110 := n6_; clear n0_ n1_ n2_ n3_ n4_ n5_ n6_; clear hb hbox hg))
    have n0_ := Aside0.mk (bd1 BK110.out)
    have n1_ := Aside0.mk (bd1 BK111.out)
    have n2_ := Aside0.mk (ld1 HB.out)
    clear BK110
    clear BK111
    clear HB
    have BK110 := n0_
    have BK111 := n1_
    have HB := n2_
    clear n0_ n1_ n2_
    refine start_ (n := 8) (S := fun w' => w'.cell? ⟨gb110, 0, none⟩ = some (.int .i64 a0_0) ∧ w'.cell? ⟨gb110, 1, none⟩ = some (.int .i64 a0_1) ∧ w'.cell? ⟨gb110, 2, none⟩ = some (.int .i64 a0_2) ∧ w'.cell? ⟨gb110, 3, none⟩ = some (.int .i64 a0_3) ∧ w'.cell? ⟨gb110, 4, none⟩ = some (.int .i64 a0_4) ∧ w'.cell? ⟨gb110, 5, none⟩ = some (.int .i64 a0_5) ∧ w'.cell? ⟨gb110, 6, none⟩ = some (.int .i64 a0_6) ∧ w'.cell? ⟨gb110, 7, none⟩ = some (.int .i64 a0_7) ∧ w'.cell? ⟨gb110, 8, none⟩ = some (.int .i64 a0_8) ∧ w'.cell? ⟨gb110, 9, none⟩ = some (.bool a0_9) ∧ w'.cell? ⟨gb110, 10, none⟩ = some (.bool a0_10) ∧ w'.cell? ⟨gb110, 11, none⟩ = some (.bool a0_11) ∧ w'.cell? ⟨gb110, 12, none⟩ = some (.bool a0_12) ∧ w'.cell? ⟨gb110, 13, none⟩ = some (.bool a0_13) ∧ w'.cell? ⟨gb110, 14, none⟩ = some (.bool a0_14) ∧ w'.cell? ⟨gb110, 15, none⟩ = some (.bool a0_15) ∧ w'.cell? ⟨gb110, 16, none⟩ = some (.int .i64 a0_16) ∧ w'.cell? ⟨gb110, 17, none⟩ = some (.int .i64 a0_17) ∧ w'.cell? ⟨gb110, 18, none⟩ = some (.int .i64 a0_18)) (ds := []) #[false, false, false, false, false, false, false, false] (by kernel_rfl) rfl rfl ⟨(bc1 BK110.out 0).trans rfl, (bc1 BK110.out 1).trans rfl, (bc1 BK110.out 2).trans rfl, (bc1 BK110.out 3).trans rfl, (bc1 BK110.out 4).trans rfl, (bc1 BK110.out 5).trans rfl, (bc1 BK110.out 6).trans rfl, (bc1 BK110.out 7).trans rfl, (bc1 BK110.out 8).trans rfl, (bc1 BK110.out 9).trans rfl, (bc1 BK110.out 10).trans rfl, (bc1 BK110.out 11).trans rfl, (bc1 BK110.out 12).trans rfl, (bc1 BK110.out 13).trans rfl, (bc1 BK110.out 14).trans rfl, (bc1 BK110.out 15).trans rfl, (bc1 BK110.out 16).trans rfl, (bc1 BK110.out 17).trans rfl, (bc1 BK110.out 18).trans rfl⟩ (fun hHeld => ?_); refine with_tabW report_Place.tab1 report_Place.bits1 (fun HT_ HW_ => ?_)
    generalize w8.drew = w9 at BK110 BK111 HB hHeld ⊢
    refine pure_ (i := 0) (N := some 7) (v := ?_) (a' := ?_) #[true, false, false, false, false, false, false, false] rfl rfl (any_of HT_.out (by kernel_rfl)) (fun _ _ _ h => h) (Or.inl ⟨by rfl, ?_⟩) ?_ ?_
    rotate_left
    · intro w'
      go_simp
      with_reducible rfl
    rotate_left
    · simp only [Act.put, List.setIfInBounds_toArray, List.set_cons_zero, List.set_cons_succ, i64_w, i32_w]
      rfl
    refine pure_ (i := 3) (N := some 10) (v := ?_) (a' := ?_) #[true, false, false, true, false, false, false, false] rfl rfl (any_of HT_.out (by kernel_rfl)) (fun _ _ _ h => h) (Or.inl ⟨by rfl, ?_⟩) ?_ ?_
    rotate_left
    · intro w'
      go_simp
      with_reducible rfl
    rotate_left
    · simp only [Act.put, List.setIfInBounds_toArray, List.set_cons_zero, List.set_cons_succ, i64_w, i32_w]
      rfl
    refine take_ (i := 1) (N := some 8) (v := ?_) (a' := ?_) #[true, true, false, true, false, false, false, false] rfl rfl (take_ofW HT_.out HW_.out (by kernel_rfl)) (fun _ _ _ h => h) (Or.inl ⟨by rfl, ?_⟩) hHeld ?_ ?_
    rotate_left
    · rintro w' ⟨s0, s1, s2, s3, s4, s5, s6, s7, s8, s9, s10, s11, s12, s13, s14, s15, s16, s17, s18⟩
      go_simp
      with_reducible rfl
    rotate_left
    · simp only [Act.put, List.setIfInBounds_toArray, List.set_cons_zero, List.set_cons_succ, i64_w, i32_w]
      rfl
    refine take_ (i := 4) (N := some 11) (v := ?_) (a' := ?_) #[true, true, false, true, true, false, false, false] rfl rfl (take_ofW HT_.out HW_.out (by kernel_rfl)) (fun _ _ _ h => h) (Or.inl ⟨by rfl, ?_⟩) hHeld ?_ ?_
    rotate_left
    · rintro w' ⟨s0, s1, s2, s3, s4, s5, s6, s7, s8, s9, s10, s11, s12, s13, s14, s15, s16, s17, s18⟩
      go_simp
      with_reducible rfl
    rotate_left
    · simp only [Act.put, List.setIfInBounds_toArray, List.set_cons_zero, List.set_cons_succ, i64_w, i32_w]
      rfl
    refine one_ (i := 2) (N := some 9) #[true, true, true, true, true, false, false, false] rfl rfl (one_of HT_.out (by kernel_rfl)) (by decide) (fun K hK => ?_)
    refine goes_ Tryd.func29 (by kernel_rfl) rfl #[.int .i64 a0_2] (by rfl) rfl rfl (by (try simp only [List.map_toArray, List.map_cons, List.map_nil]); first | done | rfl | (simp only [List.length_drop, List.length_take]; rfl)) ?_
    with_reducible refine (report_fact.calls a0_2 t112 _ A3.out).mono ?_
    rintro e w10 ⟨rfl, hb⟩
    refine ⟨_, rfl, ?_⟩
    have n0_ := Aside0.mk (bb1 (g := gb110) (o := .cells #[.int .i64 a0_0, .int .i64 a0_1, .int .i64 a0_2, .int .i64 a0_3, .int .i64 a0_4, .int .i64 a0_5, .int .i64 a0_6, .int .i64 a0_7, .int .i64 a0_8, .bool a0_9, .bool a0_10, .bool a0_11, .bool a0_12, .bool a0_13, .bool a0_14, .bool a0_15, .int .i64 a0_16, .int .i64 a0_17, .int .i64 a0_18] 25 (0, 0)) (by (with_reducible repeat (first | refine bn1 ?_ _ | refine bd1 ?_ | refine ba1 ?_ _)); exact BK110.out) hb)
    have n1_ := Aside0.mk (bb1 (g := gb111) (o := .cells #[.int .i64 0, .int .u8 0, .slice none 0 0, .string (⟨#[]⟩ : ByteArray), .int .u8 0, .string (⟨#[]⟩ : ByteArray)] 30 (0, 0)) (by (with_reducible repeat (first | refine bn1 ?_ _ | refine bd1 ?_ | refine ba1 ?_ _)); exact BK111.out) hb)
    have n2_ := Aside0.mk (below_step (by repeat (first | (with_reducible first | exact HB.out | apply la1 | apply ln1 | apply ld1 | refine ls1 ?_ GE110.out | refine ls1 ?_ GE111.out) | exact HB.out)) hb)
    clear BK110
    clear BK111
    clear HB
    have BK110 := n0_
    have BK111 := n1_
    have HB := n2_
    clear n0_ n1_ n2_
    (try clear hb)
    (try clear hb2)
    (try clear hk)
    (try clear hi)
    refine hK.out _ _ ⟨(bc1 BK110.out 0).trans rfl, (bc1 BK110.out 1).trans rfl, (bc1 BK110.out 2).trans rfl, (bc1 BK110.out 3).trans rfl, (bc1 BK110.out 4).trans rfl, (bc1 BK110.out 5).trans rfl, (bc1 BK110.out 6).trans rfl, (bc1 BK110.out 7).trans rfl, (bc1 BK110.out 8).trans rfl, (bc1 BK110.out 9).trans rfl, (bc1 BK110.out 10).trans rfl, (bc1 BK110.out 11).trans rfl, (bc1 BK110.out 12).trans rfl, (bc1 BK110.out 13).trans rfl, (bc1 BK110.out 14).trans rfl, (bc1 BK110.out 15).trans rfl, (bc1 BK110.out 16).trans rfl, (bc1 BK110.out 17).trans rfl, (bc1 BK110.out 18).trans rfl⟩ (fun hHeld => ?_)
    clear hK K
    refine norm_ (a' := ?_) ?_ ?_
    rotate_left
    · show Act.put _ (some 9) _ = _
      simp only [Act.put, List.setIfInBounds_toArray, List.set_cons_zero, List.set_cons_succ, i64_w, i32_w]
      rfl
    refine one_ (i := 5) (N := some 12) #[true, true, true, true, true, true, false, false] rfl rfl (one_of HT_.out (by kernel_rfl)) (by decide) (fun K hK => ?_)
    refine goes_ Tryd.func29 (by kernel_rfl) rfl #[.int .i64 a0_3] (by rfl) rfl rfl (by (try simp only [List.map_toArray, List.map_cons, List.map_nil]); first | done | rfl | (simp only [List.length_drop, List.length_take]; rfl)) ?_
    with_reducible refine (report_fact.calls a0_3 t113 _ A4.out).mono ?_
    rintro e w11 ⟨rfl, hb⟩
    refine ⟨_, rfl, ?_⟩
    have n0_ := Aside0.mk (bb1 (g := gb110) (o := .cells #[.int .i64 a0_0, .int .i64 a0_1, .int .i64 a0_2, .int .i64 a0_3, .int .i64 a0_4, .int .i64 a0_5, .int .i64 a0_6, .int .i64 a0_7, .int .i64 a0_8, .bool a0_9, .bool a0_10, .bool a0_11, .bool a0_12, .bool a0_13, .bool a0_14, .bool a0_15, .int .i64 a0_16, .int .i64 a0_17, .int .i64 a0_18] 25 (0, 0)) (by (with_reducible repeat (first | refine bn1 ?_ _ | refine bd1 ?_ | refine ba1 ?_ _)); exact BK110.out) hb)
    have n1_ := Aside0.mk (bb1 (g := gb111) (o := .cells #[.int .i64 0, .int .u8 0, .slice none 0 0, .string (⟨#[]⟩ : ByteArray), .int .u8 0, .string (⟨#[]⟩ : ByteArray)] 30 (0, 0)) (by (with_reducible repeat (first | refine bn1 ?_ _ | refine bd1 ?_ | refine ba1 ?_ _)); exact BK111.out) hb)
    have n2_ := Aside0.mk (below_step (by repeat (first | (with_reducible first | exact HB.out | apply la1 | apply ln1 | apply ld1 | refine ls1 ?_ GE110.out | refine ls1 ?_ GE111.out) | exact HB.out)) hb)
    clear BK110
    clear BK111
    clear HB
    have BK110 := n0_
    have BK111 := n1_
    have HB := n2_
    clear n0_ n1_ n2_
    (try clear hb)
    (try clear hb2)
    (try clear hk)
    (try clear hi)
    refine hK.out _ _ ⟨(bc1 BK110.out 0).trans rfl, (bc1 BK110.out 1).trans rfl, (bc1 BK110.out 2).trans rfl, (bc1 BK110.out 3).trans rfl, (bc1 BK110.out 4).trans rfl, (bc1 BK110.out 5).trans rfl, (bc1 BK110.out 6).trans rfl, (bc1 BK110.out 7).trans rfl, (bc1 BK110.out 8).trans rfl, (bc1 BK110.out 9).trans rfl, (bc1 BK110.out 10).trans rfl, (bc1 BK110.out 11).trans rfl, (bc1 BK110.out 12).trans rfl, (bc1 BK110.out 13).trans rfl, (bc1 BK110.out 14).trans rfl, (bc1 BK110.out 15).trans rfl, (bc1 BK110.out 16).trans rfl, (bc1 BK110.out 17).trans rfl, (bc1 BK110.out 18).trans rfl⟩ (fun hHeld => ?_)
    clear hK K
    refine norm_ (a' := ?_) ?_ ?_
    rotate_left
    · show Act.put _ (some 12) _ = _
      simp only [Act.put, List.setIfInBounds_toArray, List.set_cons_zero, List.set_cons_succ, i64_w, i32_w]
      rfl
    refine pure_ (i := 6) (N := some 5) (v := ?_) (a' := ?_) #[true, true, true, true, true, true, true, false] rfl rfl (any_of HT_.out (by kernel_rfl)) (fun _ _ _ h => h) (Or.inl ⟨by rfl, ?_⟩) ?_ ?_
    rotate_left
    · intro w'
      go_simp
      with_reducible rfl
    rotate_left
    · simp only [Act.put, List.setIfInBounds_toArray, List.set_cons_zero, List.set_cons_succ, i64_w, i32_w]
      rfl
    refine pure_ (i := 7) (N := some 6) (v := ?_) (a' := ?_) #[true, true, true, true, true, true, true, true] rfl rfl (any_of HT_.out (by kernel_rfl)) (fun _ _ _ h => h) (Or.inl ⟨by rfl, ?_⟩) ?_ ?_
    rotate_left
    · intro w'
      go_simp
      with_reducible rfl
    rotate_left
    · simp only [Act.put, List.setIfInBounds_toArray, List.set_cons_zero, List.set_cons_succ, i64_w, i32_w]
      rfl
    refine done_ (done_of HT_.out (by kernel_rfl)) ?_
    try go_wp2_with (first | ((with_reducible refine gate_dst (N := 16) rfl ?_); refine Kd.R_lit (Kd.int .i64) _ 3 ?hg (N := 16) ?hd (xs := ([t112, t113, 1] : List Int)) (inner := [.int .i64 t112, .int .i64 t113, .int .i64 1]) (ok := fun _ => True) (okp := fun _ => True) ?hr ?hp (fun _ hk => hk) trivial (Below.refl _ _) (Nat.le_refl _) (by simp) ?_; (case hd => rfl); (case hg => rfl); (case hr => first | (go_simp; done) | (go_simp; rfl)); (case hp => exact (Reps.one (show Kd.M (Kd.int .i64) _ _ _ t112 [.int .i64 t112] from rfl) (Reps.one (show Kd.M (Kd.int .i64) _ _ _ t113 [.int .i64 t113] from rfl) (Reps.one (show Kd.M (Kd.int .i64) _ _ _ 1 [.int .i64 1] from rfl) (Reps.none _ _))))); intro v115 w12 ho13 hb hg_ hnew_; clear hg_ hnew_; (first | rw [← Ny114.out] at ho13 | (simp only [Int.reduceToNat] at ho13; rw [← Ny114.out] at ho13)); have n0_ := Aside0.mk (Kd.R_lower ho13 (below_size (by repeat (first | (with_reducible first | exact HB.out | apply la1 | apply ln1 | apply ld1 | refine ls1 ?_ GE110.out | refine ls1 ?_ GE111.out) | exact HB.out)))); have n1_ := Aside0.mk (bb1 (g := gb110) (o := .cells #[.int .i64 a0_0, .int .i64 a0_1, .int .i64 a0_2, .int .i64 a0_3, .int .i64 a0_4, .int .i64 a0_5, .int .i64 a0_6, .int .i64 a0_7, .int .i64 a0_8, .bool a0_9, .bool a0_10, .bool a0_11, .bool a0_12, .bool a0_13, .bool a0_14, .bool a0_15, .int .i64 a0_16, .int .i64 a0_17, .int .i64 a0_18] 25 (0, 0)) (by (with_reducible repeat (first | refine bn1 ?_ _ | refine bd1 ?_ | refine ba1 ?_ _)); exact BK110.out) hb); have n2_ := Aside0.mk (bb1 (g := gb111) (o := .cells #[.int .i64 0, .int .u8 0, .slice none 0 0, .string (⟨#[]⟩ : ByteArray), .int .u8 0, .string (⟨#[]⟩ : ByteArray)] 30 (0, 0)) (by (with_reducible repeat (first | refine bn1 ?_ _ | refine bd1 ?_ | refine ba1 ?_ _)); exact BK111.out) hb); have n3_ := Aside0.mk (below_step (by repeat (first | (with_reducible first | exact HB.out | apply la1 | apply ln1 | apply ld1 | refine ls1 ?_ GE110.out | refine ls1 ?_ GE111.out) | exact HB.out)) hb); clear BK110; clear BK111; clear HB; have HO116 := n0_; have BK110 := n1_; have BK111 := n2_; have HB := n3_; clear n0_ n1_ n2_ n3_; clear hb ho13; obtain ⟨Ao14, co14, eo14⟩ := Kd.R_slice HO116.out; subst eo14) | ((with_reducible refine gate_callee (f := 30) rfl ?_); refine goesL_ (some 17) rfl rfl Tryd.func30 (by kernel_rfl) rfl #[.int .u8 63, .int .u8 82, .slice Ao14 y114.length co14] rfl (by (try simp only [List.map_toArray, List.map_cons, List.map_nil]); first | done | rfl | (simp only [List.length_drop, List.length_take]; rfl)) ?_; (with_reducible refine (wire_Num.calls k 63 82 _ _ y114 t117 t118 t119 t122 t123 t124 _ ?side1 ?side2 A6.out).mono ?_); (case side1 => repeat (first | exact (Kd.R_reads' HO116.out).2.2 | (with_reducible refine Kd.C_alloc ?_ _) | (with_reducible refine Kd.C_drewN ?_ _) | (with_reducible refine Kd.C_drew ?_))); (case side2 => exact (Kd.R_reads' HO116.out).2.1); rintro e w15 ⟨v120, rfl, ho0, hb⟩; refine ⟨_, rfl, ?_⟩; have n0_ := Aside0.mk (Kd.R_below (by (with_reducible repeat (first | apply Kd.R_alloc | apply Kd.R_drewN | apply Kd.R_drew)); exact HO116.out) hb); have n1_ := Aside0.mk (Kd.S_lower (Kd.S_new' ho0 (Kd.R_lt (by (with_reducible repeat (first | apply Kd.R_alloc | apply Kd.R_drewN | apply Kd.R_drew)); exact HO116.out))) (below_size (by repeat (first | (with_reducible first | exact HB.out | apply la1 | apply ln1 | apply ld1 | refine ls1 ?_ GE110.out | refine ls1 ?_ GE111.out) | exact HB.out)))); have n2_ := Aside0.mk (bb1 (g := gb110) (o := .cells #[.int .i64 a0_0, .int .i64 a0_1, .int .i64 a0_2, .int .i64 a0_3, .int .i64 a0_4, .int .i64 a0_5, .int .i64 a0_6, .int .i64 a0_7, .int .i64 a0_8, .bool a0_9, .bool a0_10, .bool a0_11, .bool a0_12, .bool a0_13, .bool a0_14, .bool a0_15, .int .i64 a0_16, .int .i64 a0_17, .int .i64 a0_18] 25 (0, 0)) (by (with_reducible repeat (first | refine bn1 ?_ _ | refine bd1 ?_ | refine ba1 ?_ _)); exact BK110.out) hb); have n3_ := Aside0.mk (bb1 (g := gb111) (o := .cells #[.int .i64 0, .int .u8 0, .slice none 0 0, .string (⟨#[]⟩ : ByteArray), .int .u8 0, .string (⟨#[]⟩ : ByteArray)] 30 (0, 0)) (by (with_reducible repeat (first | refine bn1 ?_ _ | refine bd1 ?_ | refine ba1 ?_ _)); exact BK111.out) hb); have n4_ := Aside0.mk (below_step (by repeat (first | (with_reducible first | exact HB.out | apply la1 | apply ln1 | apply ld1 | refine ls1 ?_ GE110.out | refine ls1 ?_ GE111.out) | exact HB.out)) hb); clear HO116; clear BK110; clear BK111; clear HB; have HO116 := n0_; have HO121 := n1_; have BK110 := n2_; have BK111 := n3_; have HB := n4_; clear n0_ n1_ n2_ n3_ n4_; (try clear hb); (try clear hb2); (try clear hk); (try clear hi); (try clear ho0); have hnb16 := NB111_110.out; have hnc16 := NB110_111.out; have hcz17_0 : w15.cell? ⟨gb111, 0, none⟩ = some (.int .i64 0) := (bc1 BK111.out 0).trans rfl; have hcz17_1 : w15.cell? ⟨gb111, 1, none⟩ = some (.int .u8 0) := (bc1 BK111.out 1).trans rfl; have hcz17_2 : w15.cell? ⟨gb111, 2, none⟩ = some (.slice none 0 0) := (bc1 BK111.out 2).trans rfl; have hcz17_3 : w15.cell? ⟨gb111, 3, none⟩ = some (.string (⟨#[]⟩ : ByteArray)) := (bc1 BK111.out 3).trans rfl; have hcz17_4 : w15.cell? ⟨gb111, 4, none⟩ = some (.int .u8 0) := (bc1 BK111.out 4).trans rfl; have hcz17_5 : w15.cell? ⟨gb111, 5, none⟩ = some (.string (⟨#[]⟩ : ByteArray)) := (bc1 BK111.out 5).trans rfl; have hfz17_0 := bz1 BK111.out 0; have hfz17_1 := bz1 BK111.out 1; have hfz17_2 := bz1 BK111.out 2; have hfz17_3 := bz1 BK111.out 3; have hfz17_4 := bz1 BK111.out 4; have hfz17_5 := bz1 BK111.out 5; obtain ⟨Ao18, co18, eo18⟩ := Kd.S_slice HO121.out; subst eo18))
    refine bodyPost_ret (results_cell_row rfl _ _ gb111 30 #[.int .i64 t117, .int .u8 t118, .slice Ao18 t119.length co18, .string t122, .int .u8 t123, .string t124] (0, 0) _ rfl (by (with_reducible repeat (first | refine bn1 ?_ _ | refine bd1 ?_ | refine ba1 ?_ _)); refine bp1 (cs := #[.int .i64 t117, .int .u8 t118, .slice Ao18 t119.length co18, .string t122, .int .u8 t123, .string (⟨#[]⟩ : ByteArray)]) ?_ 5 _ rfl; (with_reducible repeat (first | refine bn1 ?_ _ | refine bd1 ?_ | refine ba1 ?_ _)); refine bp1 (cs := #[.int .i64 t117, .int .u8 t118, .slice Ao18 t119.length co18, .string t122, .int .u8 0, .string (⟨#[]⟩ : ByteArray)]) ?_ 4 _ rfl; (with_reducible repeat (first | refine bn1 ?_ _ | refine bd1 ?_ | refine ba1 ?_ _)); refine bp1 (cs := #[.int .i64 t117, .int .u8 t118, .slice Ao18 t119.length co18, .string (⟨#[]⟩ : ByteArray), .int .u8 0, .string (⟨#[]⟩ : ByteArray)]) ?_ 3 _ rfl; (with_reducible repeat (first | refine bn1 ?_ _ | refine bd1 ?_ | refine ba1 ?_ _)); refine bp1 (cs := #[.int .i64 t117, .int .u8 t118, .slice none 0 0, .string (⟨#[]⟩ : ByteArray), .int .u8 0, .string (⟨#[]⟩ : ByteArray)]) ?_ 2 _ rfl; (with_reducible repeat (first | refine bn1 ?_ _ | refine bd1 ?_ | refine ba1 ?_ _)); refine bp1 (cs := #[.int .i64 t117, .int .u8 0, .slice none 0 0, .string (⟨#[]⟩ : ByteArray), .int .u8 0, .string (⟨#[]⟩ : ByteArray)]) ?_ 1 _ rfl; (with_reducible repeat (first | refine bn1 ?_ _ | refine bd1 ?_ | refine ba1 ?_ _)); refine bp1 (cs := #[.int .i64 0, .int .u8 0, .slice none 0 0, .string (⟨#[]⟩ : ByteArray), .int .u8 0, .string (⟨#[]⟩ : ByteArray)]) ?_ 0 _ rfl; (with_reducible repeat (first | refine bn1 ?_ _ | refine bd1 ?_ | refine ba1 ?_ _)); exact BK111.out) Tryd.underlying30 rfl (by kernel_rfl)) rfl ?_
    exact ⟨_, by first | rfl | (simp [errW_none, errW_some] <;> rfl) | (simp [*, errW_none, errW_some] <;> rfl), by (with_reducible repeat (first | apply Kd.S_alloc | apply Kd.S_drewN | apply Kd.S_drew)); exact Kd.S_mono (Kd.S_far (p := ⟨gb111, 5, none⟩) (Kd.S_far (p := ⟨gb111, 4, none⟩) (Kd.S_far (p := ⟨gb111, 3, none⟩) (Kd.S_far (p := ⟨gb111, 2, none⟩) (Kd.S_far (p := ⟨gb111, 1, none⟩) (Kd.S_far (p := ⟨gb111, 0, none⟩) (Kd.S_types HO121.out BK111.out (by decide)) (fun _ hk => hk.2) (.int .i64 t117)) (fun _ hk => hk.2) (.int .u8 t118)) (fun _ hk => hk.2) (.slice Ao18 t119.length co18)) (fun _ hk => hk.2) (.string t122)) (fun _ hk => hk.2) (.int .u8 t123)) (fun _ hk => hk.2) (.string t124)) (fun _ hk => trivial), by repeat (first | (with_reducible first | exact HB.out | apply la1 | apply ln1 | apply ld1 | refine ls1 ?_ GE110.out | refine ls1 ?_ GE111.out) | exact HB.out)⟩
  · replace c5 := Bool.eq_false_iff.mpr c5
    subst c5
    have H1 : ((wire_Num.f k 0 82 (([t112, t113] : List Int))).bind fun bt128 => (some (bt128.1, bt128.2.1, bt128.2.2.1, bt128.2.2.2.1, bt128.2.2.2.2.1, bt128.2.2.2.2.2))) = some (r1, r2, r3, r4, r5, r6) := by rw [if_neg (show ¬ (false = true) by decide)] at H; exact H
    clear H
    have H := H1
    clear H1
    obtain ⟨y125, hy125⟩ : ∃ y_ : List Int, y_ = (([t112, t113] : List Int)) := ⟨_, rfl⟩
    replace H : ((wire_Num.f k 0 82 y125).bind fun bt128 => (some (bt128.1, bt128.2.1, bt128.2.2.1, bt128.2.2.2.1, bt128.2.2.2.2.1, bt128.2.2.2.2.2))) = some (r1, r2, r3, r4, r5, r6) := by first | (rw [hy125]; with_reducible exact H) | (have H2_ := (Option.bind_some _ _).symm.trans H; rw [hy125]; with_reducible exact H2_) | (have H2_ := (Option.bind_some _ _).symm.trans H; with_reducible exact H2_) | with_reducible exact H | (rw [hy125]; exact H) | exact H
    have Ny125 := Aside0.mk hy125
    clear hy125
    replace H := Option.bind_eq_some_iff.mp H
    obtain ⟨⟨t128, t129, t130, t133, t134, t135⟩, A190, H⟩ := H
    replace H : (some (t128, t129, t130, t133, t134, t135)) = some (r1, r2, r3, r4, r5, r6) := H
    have A19 := Aside0.mk A190
    clear A190
    simp only [Option.some.injEq, Prod.mk.injEq] at H
    obtain ⟨rfl, rfl, rfl, rfl, rfl, rfl⟩ := H
    go_enter Tryd.func11, Tryd.ntmps11
    try go_wp2_with (first | ((with_reducible refine gate_dst (N := 2) rfl ?_); refine box_event ?hg (N := 2) ?hd (cs := #[.int .i64 a0_0, .int .i64 a0_1, .int .i64 a0_2, .int .i64 a0_3, .int .i64 a0_4, .int .i64 a0_5, .int .i64 a0_6, .int .i64 a0_7, .int .i64 a0_8, .bool a0_9, .bool a0_10, .bool a0_11, .bool a0_12, .bool a0_13, .bool a0_14, .bool a0_15, .int .i64 a0_16, .int .i64 a0_17, .int .i64 a0_18]) (t := 25) ?hr ?_; (case hd => rfl); (case hg => rfl); (case hr => first | (go_simp; done) | (go_simp; rfl)); intro gb110 hg w20 hbox hb; have n0_ := Aside0.mk (below_step (by repeat (first | (with_reducible first | exact HB.out | apply la1 | apply ln1 | apply ld1) | exact HB.out)) hb); have n1_ := Aside0.mk (hbox); have n2_ := Aside0.mk ((by rw [hg]; exact (below_size (by repeat (first | (with_reducible first | exact HB.out | apply la1 | apply ln1 | apply ld1) | exact HB.out))) : w.heap.size ≤ gb110)); have n3_ := Aside0.mk ((by rw [hg]; exact (below_size (by repeat (first | (with_reducible first | exact HB.out | apply la1 | apply ln1 | apply ld1) | exact HB.out))) : w.heap.size ≤ gb110)); clear HB; have HB := n0_; have BK110 := n1_; have GW110 := n2_; have GE110 := n3_; clear n0_ n1_ n2_ n3_; clear hb hbox hg) | ((with_reducible refine gate_dst (N := 4) rfl ?_); refine box_event ?hg (N := 4) ?hd (cs := #[.int .i64 0, .int .u8 0, .slice none 0 0, .string (⟨#[]⟩ : ByteArray), .int .u8 0, .string (⟨#[]⟩ : ByteArray)]) (t := 30) ?hr ?_; (case hd => rfl); (case hg => rfl); (case hr => first | (go_simp; done) | (go_simp; rfl)); intro gb111 hg w21 hbox hb; have n0_ := Aside0.mk (bb1 (g := gb110) (o := .cells #[.int .i64 a0_0, .int .i64 a0_1, .int .i64 a0_2, .int .i64 a0_3, .int .i64 a0_4, .int .i64 a0_5, .int .i64 a0_6, .int .i64 a0_7, .int .i64 a0_8, .bool a0_9, .bool a0_10, .bool a0_11, .bool a0_12, .bool a0_13, .bool a0_14, .bool a0_15, .int .i64 a0_16, .int .i64 a0_17, .int .i64 a0_18] 25 (0, 0)) (by (with_reducible repeat (first | refine bn1 ?_ _ | refine bd1 ?_ | refine ba1 ?_ _)); exact BK110.out) hb); have n1_ := Aside0.mk (below_step (by repeat (first | (with_reducible first | exact HB.out | apply la1 | apply ln1 | apply ld1 | refine ls1 ?_ GE110.out) | exact HB.out)) hb); have n2_ := Aside0.mk (hbox); have n3_ := Aside0.mk ((by rw [hg]; exact (below_size (by repeat (first | (with_reducible first | exact HB.out | apply la1 | apply ln1 | apply ld1 | refine ls1 ?_ GE110.out) | exact HB.out))) : w.heap.size ≤ gb111)); have n4_ := Aside0.mk ((by rw [hg]; exact (below_size (by repeat (first | (with_reducible first | exact HB.out | apply la1 | apply ln1 | apply ld1 | refine ls1 ?_ GE110.out) | exact HB.out))) : w.heap.size ≤ gb111)); have n5_ := Aside0.mk ((by rw [hg]; exact Nat.ne_of_lt (blk_lt (g := gb110) (o := .cells #[.int .i64 a0_0, .int .i64 a0_1, .int .i64 a0_2, .int .i64 a0_3, .int .i64 a0_4, .int .i64 a0_5, .int .i64 a0_6, .int .i64 a0_7, .int .i64 a0_8, .bool a0_9, .bool a0_10, .bool a0_11, .bool a0_12, .bool a0_13, .bool a0_14, .bool a0_15, .int .i64 a0_16, .int .i64 a0_17, .int .i64 a0_18] 25 (0, 0)) (by (with_reducible repeat (first | refine bn1 ?_ _ | refine bd1 ?_ | refine ba1 ?_ _)); exact BK110.out)) : gb110 ≠ gb111)); have n6_ := Aside0.mk ((by rw [hg]; exact Nat.ne_of_gt (blk_lt (g := gb110) (o := .cells #[.int .i64 a0_0, .int .i64 a0_1, .int .i64 a0_2, .int .i64 a0_3, .int .i64 a0_4, .int .i64 a0_5, .int .i64 a0_6, .int .i64 a0_7, .int .i64 a0_8, .bool a0_9, .bool a0_10, .bool a0_11, .bool a0_12, .bool a0_13, .bool a0_14, .bool a0_15, .int .i64 a0_16, .int .i64 a0_17, .int .i64 a0_18] 25 (0, 0)) (by (with_reducible repeat (first | refine bn1 ?_ _ | refine bd1 ?_ | refine ba1 ?_ _)); exact BK110.out)) : gb111 ≠ gb110)); clear BK110; clear HB; have BK110 := n0_; have HB := n1_; have BK111 := n2_; have GW111 := n3_; have GE111 := n4_; have NB110_111 := n5_; have NB111_110 := n6_; clear n0_ n1_ n2_ n3_ n4_ n5_ n6_; clear hb hbox hg))
    have n0_ := Aside0.mk (bd1 BK110.out)
    have n1_ := Aside0.mk (bd1 BK111.out)
    have n2_ := Aside0.mk (ld1 HB.out)
    clear BK110
    clear BK111
    clear HB
    have BK110 := n0_
    have BK111 := n1_
    have HB := n2_
    clear n0_ n1_ n2_
    refine start_ (n := 8) (S := fun w' => w'.cell? ⟨gb110, 0, none⟩ = some (.int .i64 a0_0) ∧ w'.cell? ⟨gb110, 1, none⟩ = some (.int .i64 a0_1) ∧ w'.cell? ⟨gb110, 2, none⟩ = some (.int .i64 a0_2) ∧ w'.cell? ⟨gb110, 3, none⟩ = some (.int .i64 a0_3) ∧ w'.cell? ⟨gb110, 4, none⟩ = some (.int .i64 a0_4) ∧ w'.cell? ⟨gb110, 5, none⟩ = some (.int .i64 a0_5) ∧ w'.cell? ⟨gb110, 6, none⟩ = some (.int .i64 a0_6) ∧ w'.cell? ⟨gb110, 7, none⟩ = some (.int .i64 a0_7) ∧ w'.cell? ⟨gb110, 8, none⟩ = some (.int .i64 a0_8) ∧ w'.cell? ⟨gb110, 9, none⟩ = some (.bool a0_9) ∧ w'.cell? ⟨gb110, 10, none⟩ = some (.bool a0_10) ∧ w'.cell? ⟨gb110, 11, none⟩ = some (.bool a0_11) ∧ w'.cell? ⟨gb110, 12, none⟩ = some (.bool a0_12) ∧ w'.cell? ⟨gb110, 13, none⟩ = some (.bool a0_13) ∧ w'.cell? ⟨gb110, 14, none⟩ = some (.bool a0_14) ∧ w'.cell? ⟨gb110, 15, none⟩ = some (.bool a0_15) ∧ w'.cell? ⟨gb110, 16, none⟩ = some (.int .i64 a0_16) ∧ w'.cell? ⟨gb110, 17, none⟩ = some (.int .i64 a0_17) ∧ w'.cell? ⟨gb110, 18, none⟩ = some (.int .i64 a0_18)) (ds := []) #[false, false, false, false, false, false, false, false] (by kernel_rfl) rfl rfl ⟨(bc1 BK110.out 0).trans rfl, (bc1 BK110.out 1).trans rfl, (bc1 BK110.out 2).trans rfl, (bc1 BK110.out 3).trans rfl, (bc1 BK110.out 4).trans rfl, (bc1 BK110.out 5).trans rfl, (bc1 BK110.out 6).trans rfl, (bc1 BK110.out 7).trans rfl, (bc1 BK110.out 8).trans rfl, (bc1 BK110.out 9).trans rfl, (bc1 BK110.out 10).trans rfl, (bc1 BK110.out 11).trans rfl, (bc1 BK110.out 12).trans rfl, (bc1 BK110.out 13).trans rfl, (bc1 BK110.out 14).trans rfl, (bc1 BK110.out 15).trans rfl, (bc1 BK110.out 16).trans rfl, (bc1 BK110.out 17).trans rfl, (bc1 BK110.out 18).trans rfl⟩ (fun hHeld => ?_); refine with_tabW report_Place.tab1 report_Place.bits1 (fun HT_ HW_ => ?_)
    generalize w21.drew = w22 at BK110 BK111 HB hHeld ⊢
    refine pure_ (i := 0) (N := some 7) (v := ?_) (a' := ?_) #[true, false, false, false, false, false, false, false] rfl rfl (any_of HT_.out (by kernel_rfl)) (fun _ _ _ h => h) (Or.inl ⟨by rfl, ?_⟩) ?_ ?_
    rotate_left
    · intro w'
      go_simp
      with_reducible rfl
    rotate_left
    · simp only [Act.put, List.setIfInBounds_toArray, List.set_cons_zero, List.set_cons_succ, i64_w, i32_w]
      rfl
    refine pure_ (i := 3) (N := some 10) (v := ?_) (a' := ?_) #[true, false, false, true, false, false, false, false] rfl rfl (any_of HT_.out (by kernel_rfl)) (fun _ _ _ h => h) (Or.inl ⟨by rfl, ?_⟩) ?_ ?_
    rotate_left
    · intro w'
      go_simp
      with_reducible rfl
    rotate_left
    · simp only [Act.put, List.setIfInBounds_toArray, List.set_cons_zero, List.set_cons_succ, i64_w, i32_w]
      rfl
    refine take_ (i := 1) (N := some 8) (v := ?_) (a' := ?_) #[true, true, false, true, false, false, false, false] rfl rfl (take_ofW HT_.out HW_.out (by kernel_rfl)) (fun _ _ _ h => h) (Or.inl ⟨by rfl, ?_⟩) hHeld ?_ ?_
    rotate_left
    · rintro w' ⟨s0, s1, s2, s3, s4, s5, s6, s7, s8, s9, s10, s11, s12, s13, s14, s15, s16, s17, s18⟩
      go_simp
      with_reducible rfl
    rotate_left
    · simp only [Act.put, List.setIfInBounds_toArray, List.set_cons_zero, List.set_cons_succ, i64_w, i32_w]
      rfl
    refine take_ (i := 4) (N := some 11) (v := ?_) (a' := ?_) #[true, true, false, true, true, false, false, false] rfl rfl (take_ofW HT_.out HW_.out (by kernel_rfl)) (fun _ _ _ h => h) (Or.inl ⟨by rfl, ?_⟩) hHeld ?_ ?_
    rotate_left
    · rintro w' ⟨s0, s1, s2, s3, s4, s5, s6, s7, s8, s9, s10, s11, s12, s13, s14, s15, s16, s17, s18⟩
      go_simp
      with_reducible rfl
    rotate_left
    · simp only [Act.put, List.setIfInBounds_toArray, List.set_cons_zero, List.set_cons_succ, i64_w, i32_w]
      rfl
    refine one_ (i := 2) (N := some 9) #[true, true, true, true, true, false, false, false] rfl rfl (one_of HT_.out (by kernel_rfl)) (by decide) (fun K hK => ?_)
    refine goes_ Tryd.func29 (by kernel_rfl) rfl #[.int .i64 a0_2] (by rfl) rfl rfl (by (try simp only [List.map_toArray, List.map_cons, List.map_nil]); first | done | rfl | (simp only [List.length_drop, List.length_take]; rfl)) ?_
    with_reducible refine (report_fact.calls a0_2 t112 _ A3.out).mono ?_
    rintro e w23 ⟨rfl, hb⟩
    refine ⟨_, rfl, ?_⟩
    have n0_ := Aside0.mk (bb1 (g := gb110) (o := .cells #[.int .i64 a0_0, .int .i64 a0_1, .int .i64 a0_2, .int .i64 a0_3, .int .i64 a0_4, .int .i64 a0_5, .int .i64 a0_6, .int .i64 a0_7, .int .i64 a0_8, .bool a0_9, .bool a0_10, .bool a0_11, .bool a0_12, .bool a0_13, .bool a0_14, .bool a0_15, .int .i64 a0_16, .int .i64 a0_17, .int .i64 a0_18] 25 (0, 0)) (by (with_reducible repeat (first | refine bn1 ?_ _ | refine bd1 ?_ | refine ba1 ?_ _)); exact BK110.out) hb)
    have n1_ := Aside0.mk (bb1 (g := gb111) (o := .cells #[.int .i64 0, .int .u8 0, .slice none 0 0, .string (⟨#[]⟩ : ByteArray), .int .u8 0, .string (⟨#[]⟩ : ByteArray)] 30 (0, 0)) (by (with_reducible repeat (first | refine bn1 ?_ _ | refine bd1 ?_ | refine ba1 ?_ _)); exact BK111.out) hb)
    have n2_ := Aside0.mk (below_step (by repeat (first | (with_reducible first | exact HB.out | apply la1 | apply ln1 | apply ld1 | refine ls1 ?_ GE110.out | refine ls1 ?_ GE111.out) | exact HB.out)) hb)
    clear BK110
    clear BK111
    clear HB
    have BK110 := n0_
    have BK111 := n1_
    have HB := n2_
    clear n0_ n1_ n2_
    (try clear hb)
    (try clear hb2)
    (try clear hk)
    (try clear hi)
    refine hK.out _ _ ⟨(bc1 BK110.out 0).trans rfl, (bc1 BK110.out 1).trans rfl, (bc1 BK110.out 2).trans rfl, (bc1 BK110.out 3).trans rfl, (bc1 BK110.out 4).trans rfl, (bc1 BK110.out 5).trans rfl, (bc1 BK110.out 6).trans rfl, (bc1 BK110.out 7).trans rfl, (bc1 BK110.out 8).trans rfl, (bc1 BK110.out 9).trans rfl, (bc1 BK110.out 10).trans rfl, (bc1 BK110.out 11).trans rfl, (bc1 BK110.out 12).trans rfl, (bc1 BK110.out 13).trans rfl, (bc1 BK110.out 14).trans rfl, (bc1 BK110.out 15).trans rfl, (bc1 BK110.out 16).trans rfl, (bc1 BK110.out 17).trans rfl, (bc1 BK110.out 18).trans rfl⟩ (fun hHeld => ?_)
    clear hK K
    refine norm_ (a' := ?_) ?_ ?_
    rotate_left
    · show Act.put _ (some 9) _ = _
      simp only [Act.put, List.setIfInBounds_toArray, List.set_cons_zero, List.set_cons_succ, i64_w, i32_w]
      rfl
    refine one_ (i := 5) (N := some 12) #[true, true, true, true, true, true, false, false] rfl rfl (one_of HT_.out (by kernel_rfl)) (by decide) (fun K hK => ?_)
    refine goes_ Tryd.func29 (by kernel_rfl) rfl #[.int .i64 a0_3] (by rfl) rfl rfl (by (try simp only [List.map_toArray, List.map_cons, List.map_nil]); first | done | rfl | (simp only [List.length_drop, List.length_take]; rfl)) ?_
    with_reducible refine (report_fact.calls a0_3 t113 _ A4.out).mono ?_
    rintro e w24 ⟨rfl, hb⟩
    refine ⟨_, rfl, ?_⟩
    have n0_ := Aside0.mk (bb1 (g := gb110) (o := .cells #[.int .i64 a0_0, .int .i64 a0_1, .int .i64 a0_2, .int .i64 a0_3, .int .i64 a0_4, .int .i64 a0_5, .int .i64 a0_6, .int .i64 a0_7, .int .i64 a0_8, .bool a0_9, .bool a0_10, .bool a0_11, .bool a0_12, .bool a0_13, .bool a0_14, .bool a0_15, .int .i64 a0_16, .int .i64 a0_17, .int .i64 a0_18] 25 (0, 0)) (by (with_reducible repeat (first | refine bn1 ?_ _ | refine bd1 ?_ | refine ba1 ?_ _)); exact BK110.out) hb)
    have n1_ := Aside0.mk (bb1 (g := gb111) (o := .cells #[.int .i64 0, .int .u8 0, .slice none 0 0, .string (⟨#[]⟩ : ByteArray), .int .u8 0, .string (⟨#[]⟩ : ByteArray)] 30 (0, 0)) (by (with_reducible repeat (first | refine bn1 ?_ _ | refine bd1 ?_ | refine ba1 ?_ _)); exact BK111.out) hb)
    have n2_ := Aside0.mk (below_step (by repeat (first | (with_reducible first | exact HB.out | apply la1 | apply ln1 | apply ld1 | refine ls1 ?_ GE110.out | refine ls1 ?_ GE111.out) | exact HB.out)) hb)
    clear BK110
    clear BK111
    clear HB
    have BK110 := n0_
    have BK111 := n1_
    have HB := n2_
    clear n0_ n1_ n2_
    (try clear hb)
    (try clear hb2)
    (try clear hk)
    (try clear hi)
    refine hK.out _ _ ⟨(bc1 BK110.out 0).trans rfl, (bc1 BK110.out 1).trans rfl, (bc1 BK110.out 2).trans rfl, (bc1 BK110.out 3).trans rfl, (bc1 BK110.out 4).trans rfl, (bc1 BK110.out 5).trans rfl, (bc1 BK110.out 6).trans rfl, (bc1 BK110.out 7).trans rfl, (bc1 BK110.out 8).trans rfl, (bc1 BK110.out 9).trans rfl, (bc1 BK110.out 10).trans rfl, (bc1 BK110.out 11).trans rfl, (bc1 BK110.out 12).trans rfl, (bc1 BK110.out 13).trans rfl, (bc1 BK110.out 14).trans rfl, (bc1 BK110.out 15).trans rfl, (bc1 BK110.out 16).trans rfl, (bc1 BK110.out 17).trans rfl, (bc1 BK110.out 18).trans rfl⟩ (fun hHeld => ?_)
    clear hK K
    refine norm_ (a' := ?_) ?_ ?_
    rotate_left
    · show Act.put _ (some 12) _ = _
      simp only [Act.put, List.setIfInBounds_toArray, List.set_cons_zero, List.set_cons_succ, i64_w, i32_w]
      rfl
    refine pure_ (i := 6) (N := some 5) (v := ?_) (a' := ?_) #[true, true, true, true, true, true, true, false] rfl rfl (any_of HT_.out (by kernel_rfl)) (fun _ _ _ h => h) (Or.inl ⟨by rfl, ?_⟩) ?_ ?_
    rotate_left
    · intro w'
      go_simp
      with_reducible rfl
    rotate_left
    · simp only [Act.put, List.setIfInBounds_toArray, List.set_cons_zero, List.set_cons_succ, i64_w, i32_w]
      rfl
    refine pure_ (i := 7) (N := some 6) (v := ?_) (a' := ?_) #[true, true, true, true, true, true, true, true] rfl rfl (any_of HT_.out (by kernel_rfl)) (fun _ _ _ h => h) (Or.inl ⟨by rfl, ?_⟩) ?_ ?_
    rotate_left
    · intro w'
      go_simp
      with_reducible rfl
    rotate_left
    · simp only [Act.put, List.setIfInBounds_toArray, List.set_cons_zero, List.set_cons_succ, i64_w, i32_w]
      rfl
    refine done_ (done_of HT_.out (by kernel_rfl)) ?_
    try go_wp2_with (first | ((with_reducible refine gate_dst (N := 20) rfl ?_); refine Kd.R_lit (Kd.int .i64) _ 3 ?hg (N := 20) ?hd (xs := ([t112, t113] : List Int)) (inner := [.int .i64 t112, .int .i64 t113]) (ok := fun _ => True) (okp := fun _ => True) ?hr ?hp (fun _ hk => hk) trivial (Below.refl _ _) (Nat.le_refl _) (by simp) ?_; (case hd => rfl); (case hg => rfl); (case hr => first | (go_simp; done) | (go_simp; rfl)); (case hp => exact (Reps.one (show Kd.M (Kd.int .i64) _ _ _ t112 [.int .i64 t112] from rfl) (Reps.one (show Kd.M (Kd.int .i64) _ _ _ t113 [.int .i64 t113] from rfl) (Reps.none _ _)))); intro v126 w25 ho26 hb hg_ hnew_; clear hg_ hnew_; (first | rw [← Ny125.out] at ho26 | (simp only [Int.reduceToNat] at ho26; rw [← Ny125.out] at ho26)); have n0_ := Aside0.mk (Kd.R_lower ho26 (below_size (by repeat (first | (with_reducible first | exact HB.out | apply la1 | apply ln1 | apply ld1 | refine ls1 ?_ GE110.out | refine ls1 ?_ GE111.out) | exact HB.out)))); have n1_ := Aside0.mk (bb1 (g := gb110) (o := .cells #[.int .i64 a0_0, .int .i64 a0_1, .int .i64 a0_2, .int .i64 a0_3, .int .i64 a0_4, .int .i64 a0_5, .int .i64 a0_6, .int .i64 a0_7, .int .i64 a0_8, .bool a0_9, .bool a0_10, .bool a0_11, .bool a0_12, .bool a0_13, .bool a0_14, .bool a0_15, .int .i64 a0_16, .int .i64 a0_17, .int .i64 a0_18] 25 (0, 0)) (by (with_reducible repeat (first | refine bn1 ?_ _ | refine bd1 ?_ | refine ba1 ?_ _)); exact BK110.out) hb); have n2_ := Aside0.mk (bb1 (g := gb111) (o := .cells #[.int .i64 0, .int .u8 0, .slice none 0 0, .string (⟨#[]⟩ : ByteArray), .int .u8 0, .string (⟨#[]⟩ : ByteArray)] 30 (0, 0)) (by (with_reducible repeat (first | refine bn1 ?_ _ | refine bd1 ?_ | refine ba1 ?_ _)); exact BK111.out) hb); have n3_ := Aside0.mk (below_step (by repeat (first | (with_reducible first | exact HB.out | apply la1 | apply ln1 | apply ld1 | refine ls1 ?_ GE110.out | refine ls1 ?_ GE111.out) | exact HB.out)) hb); clear BK110; clear BK111; clear HB; have HO127 := n0_; have BK110 := n1_; have BK111 := n2_; have HB := n3_; clear n0_ n1_ n2_ n3_; clear hb ho26; obtain ⟨Ao27, co27, eo27⟩ := Kd.R_slice HO127.out; subst eo27) | ((with_reducible refine gate_callee (f := 30) rfl ?_); refine goesL_ (some 21) rfl rfl Tryd.func30 (by kernel_rfl) rfl #[.int .u8 0, .int .u8 82, .slice Ao27 y125.length co27] rfl (by (try simp only [List.map_toArray, List.map_cons, List.map_nil]); first | done | rfl | (simp only [List.length_drop, List.length_take]; rfl)) ?_; (with_reducible refine (wire_Num.calls k 0 82 _ _ y125 t128 t129 t130 t133 t134 t135 _ ?side1 ?side2 A19.out).mono ?_); (case side1 => repeat (first | exact (Kd.R_reads' HO127.out).2.2 | (with_reducible refine Kd.C_alloc ?_ _) | (with_reducible refine Kd.C_drewN ?_ _) | (with_reducible refine Kd.C_drew ?_))); (case side2 => exact (Kd.R_reads' HO127.out).2.1); rintro e w28 ⟨v131, rfl, ho0, hb⟩; refine ⟨_, rfl, ?_⟩; have n0_ := Aside0.mk (Kd.R_below (by (with_reducible repeat (first | apply Kd.R_alloc | apply Kd.R_drewN | apply Kd.R_drew)); exact HO127.out) hb); have n1_ := Aside0.mk (Kd.S_lower (Kd.S_new' ho0 (Kd.R_lt (by (with_reducible repeat (first | apply Kd.R_alloc | apply Kd.R_drewN | apply Kd.R_drew)); exact HO127.out))) (below_size (by repeat (first | (with_reducible first | exact HB.out | apply la1 | apply ln1 | apply ld1 | refine ls1 ?_ GE110.out | refine ls1 ?_ GE111.out) | exact HB.out)))); have n2_ := Aside0.mk (bb1 (g := gb110) (o := .cells #[.int .i64 a0_0, .int .i64 a0_1, .int .i64 a0_2, .int .i64 a0_3, .int .i64 a0_4, .int .i64 a0_5, .int .i64 a0_6, .int .i64 a0_7, .int .i64 a0_8, .bool a0_9, .bool a0_10, .bool a0_11, .bool a0_12, .bool a0_13, .bool a0_14, .bool a0_15, .int .i64 a0_16, .int .i64 a0_17, .int .i64 a0_18] 25 (0, 0)) (by (with_reducible repeat (first | refine bn1 ?_ _ | refine bd1 ?_ | refine ba1 ?_ _)); exact BK110.out) hb); have n3_ := Aside0.mk (bb1 (g := gb111) (o := .cells #[.int .i64 0, .int .u8 0, .slice none 0 0, .string (⟨#[]⟩ : ByteArray), .int .u8 0, .string (⟨#[]⟩ : ByteArray)] 30 (0, 0)) (by (with_reducible repeat (first | refine bn1 ?_ _ | refine bd1 ?_ | refine ba1 ?_ _)); exact BK111.out) hb); have n4_ := Aside0.mk (below_step (by repeat (first | (with_reducible first | exact HB.out | apply la1 | apply ln1 | apply ld1 | refine ls1 ?_ GE110.out | refine ls1 ?_ GE111.out) | exact HB.out)) hb); clear HO127; clear BK110; clear BK111; clear HB; have HO127 := n0_; have HO132 := n1_; have BK110 := n2_; have BK111 := n3_; have HB := n4_; clear n0_ n1_ n2_ n3_ n4_; (try clear hb); (try clear hb2); (try clear hk); (try clear hi); (try clear ho0); have hnb29 := NB111_110.out; have hnc29 := NB110_111.out; have hcz30_0 : w28.cell? ⟨gb111, 0, none⟩ = some (.int .i64 0) := (bc1 BK111.out 0).trans rfl; have hcz30_1 : w28.cell? ⟨gb111, 1, none⟩ = some (.int .u8 0) := (bc1 BK111.out 1).trans rfl; have hcz30_2 : w28.cell? ⟨gb111, 2, none⟩ = some (.slice none 0 0) := (bc1 BK111.out 2).trans rfl; have hcz30_3 : w28.cell? ⟨gb111, 3, none⟩ = some (.string (⟨#[]⟩ : ByteArray)) := (bc1 BK111.out 3).trans rfl; have hcz30_4 : w28.cell? ⟨gb111, 4, none⟩ = some (.int .u8 0) := (bc1 BK111.out 4).trans rfl; have hcz30_5 : w28.cell? ⟨gb111, 5, none⟩ = some (.string (⟨#[]⟩ : ByteArray)) := (bc1 BK111.out 5).trans rfl; have hfz30_0 := bz1 BK111.out 0; have hfz30_1 := bz1 BK111.out 1; have hfz30_2 := bz1 BK111.out 2; have hfz30_3 := bz1 BK111.out 3; have hfz30_4 := bz1 BK111.out 4; have hfz30_5 := bz1 BK111.out 5; obtain ⟨Ao31, co31, eo31⟩ := Kd.S_slice HO132.out; subst eo31))
    refine bodyPost_ret (results_cell_row rfl _ _ gb111 30 #[.int .i64 t128, .int .u8 t129, .slice Ao31 t130.length co31, .string t133, .int .u8 t134, .string t135] (0, 0) _ rfl (by (with_reducible repeat (first | refine bn1 ?_ _ | refine bd1 ?_ | refine ba1 ?_ _)); refine bp1 (cs := #[.int .i64 t128, .int .u8 t129, .slice Ao31 t130.length co31, .string t133, .int .u8 t134, .string (⟨#[]⟩ : ByteArray)]) ?_ 5 _ rfl; (with_reducible repeat (first | refine bn1 ?_ _ | refine bd1 ?_ | refine ba1 ?_ _)); refine bp1 (cs := #[.int .i64 t128, .int .u8 t129, .slice Ao31 t130.length co31, .string t133, .int .u8 0, .string (⟨#[]⟩ : ByteArray)]) ?_ 4 _ rfl; (with_reducible repeat (first | refine bn1 ?_ _ | refine bd1 ?_ | refine ba1 ?_ _)); refine bp1 (cs := #[.int .i64 t128, .int .u8 t129, .slice Ao31 t130.length co31, .string (⟨#[]⟩ : ByteArray), .int .u8 0, .string (⟨#[]⟩ : ByteArray)]) ?_ 3 _ rfl; (with_reducible repeat (first | refine bn1 ?_ _ | refine bd1 ?_ | refine ba1 ?_ _)); refine bp1 (cs := #[.int .i64 t128, .int .u8 t129, .slice none 0 0, .string (⟨#[]⟩ : ByteArray), .int .u8 0, .string (⟨#[]⟩ : ByteArray)]) ?_ 2 _ rfl; (with_reducible repeat (first | refine bn1 ?_ _ | refine bd1 ?_ | refine ba1 ?_ _)); refine bp1 (cs := #[.int .i64 t128, .int .u8 0, .slice none 0 0, .string (⟨#[]⟩ : ByteArray), .int .u8 0, .string (⟨#[]⟩ : ByteArray)]) ?_ 1 _ rfl; (with_reducible repeat (first | refine bn1 ?_ _ | refine bd1 ?_ | refine ba1 ?_ _)); refine bp1 (cs := #[.int .i64 0, .int .u8 0, .slice none 0 0, .string (⟨#[]⟩ : ByteArray), .int .u8 0, .string (⟨#[]⟩ : ByteArray)]) ?_ 0 _ rfl; (with_reducible repeat (first | refine bn1 ?_ _ | refine bd1 ?_ | refine ba1 ?_ _)); exact BK111.out) Tryd.underlying30 rfl (by kernel_rfl)) rfl ?_
    exact ⟨_, by first | rfl | (simp [errW_none, errW_some] <;> rfl) | (simp [*, errW_none, errW_some] <;> rfl), by (with_reducible repeat (first | apply Kd.S_alloc | apply Kd.S_drewN | apply Kd.S_drew)); exact Kd.S_mono (Kd.S_far (p := ⟨gb111, 5, none⟩) (Kd.S_far (p := ⟨gb111, 4, none⟩) (Kd.S_far (p := ⟨gb111, 3, none⟩) (Kd.S_far (p := ⟨gb111, 2, none⟩) (Kd.S_far (p := ⟨gb111, 1, none⟩) (Kd.S_far (p := ⟨gb111, 0, none⟩) (Kd.S_types HO132.out BK111.out (by decide)) (fun _ hk => hk.2) (.int .i64 t128)) (fun _ hk => hk.2) (.int .u8 t129)) (fun _ hk => hk.2) (.slice Ao31 t130.length co31)) (fun _ hk => hk.2) (.string t133)) (fun _ hk => hk.2) (.int .u8 t134)) (fun _ hk => hk.2) (.string t135)) (fun _ hk => trivial), by repeat (first | (with_reducible first | exact HB.out | apply la1 | apply ln1 | apply ld1 | refine ls1 ?_ GE110.out | refine ls1 ?_ GE111.out) | exact HB.out)⟩
def report_Version.f  : Option (Int × Int × (List (List Int)) × ByteArray × Int × ByteArray) := some (3, 62, ([] : List (List Int)), (⟨#[]⟩ : ByteArray), 124, (⟨#[99, 108, 97, 118, 105, 101, 114, 40, 49, 41]⟩ : ByteArray))
set_option maxHeartbeats 8000000 in
set_option maxRecDepth 100000 in
theorem report_Version.calls  (r1 : Int) (r2 : Int) (r3 : List (List Int)) (r4 : ByteArray) (r5 : Int) (r6 : ByteArray) (w : World) (h : report_Version.f  = some (r1, r2, r3, r4, r5, r6)) :
    Calls Tryd.prog 24 #[] w fun e w' => ∃ v2_ : Value, e = .returned (.agg #[.int .i64 r1, .int .u8 r2, v2_, .string r4, .int .u8 r5, .string r6]) ∧ Kd.S (Kd.slice 3 (Kd.int .i64)) 52 w' w.heap.size (fun _ => True) v2_ r3 ∧ Below w.heap.size w w' := by
  have hu30 := Tryd.underlying30
  have HB := Aside0.mk (Below.refl w.heap.size w)
  have H : (some (3, 62, ([] : List (List Int)), (⟨#[]⟩ : ByteArray), 124, (⟨#[99, 108, 97, 118, 105, 101, 114, 40, 49, 41]⟩ : ByteArray))) = some (r1, r2, r3, r4, r5, r6) := h
  clear h
  simp only [Option.some.injEq, Prod.mk.injEq] at H
  obtain ⟨rfl, rfl, rfl, rfl, rfl, rfl⟩ := H
  go_enter Tryd.func24, Tryd.ntmps24
  go_wp2_with (first | ((with_reducible refine gate_dst (N := 0) rfl ?_); refine box_event ?hg (N := 0) ?hd (cs := #[.int .i64 0, .int .u8 0, .slice none 0 0, .string (⟨#[]⟩ : ByteArray), .int .u8 0, .string (⟨#[]⟩ : ByteArray)]) (t := 30) ?hr ?_; (case hd => rfl); (case hg => rfl); (case hr => first | (go_simp; done) | (go_simp; rfl)); intro gb176 hg w1 hbox hb; have n0_ := Aside0.mk (below_step (by repeat (first | (with_reducible first | exact HB.out | apply la1 | apply ln1 | apply ld1) | exact HB.out)) hb); have n1_ := Aside0.mk (hbox); have n2_ := Aside0.mk ((by rw [hg]; exact (below_size (by repeat (first | (with_reducible first | exact HB.out | apply la1 | apply ln1 | apply ld1) | exact HB.out))) : w.heap.size ≤ gb176)); have n3_ := Aside0.mk ((by rw [hg]; exact (below_size (by repeat (first | (with_reducible first | exact HB.out | apply la1 | apply ln1 | apply ld1) | exact HB.out))) : w.heap.size ≤ gb176)); clear HB; have HB := n0_; have BK176 := n1_; have GW176 := n2_; have GE176 := n3_; clear n0_ n1_ n2_ n3_; clear hb hbox hg; have hcz2_0 : w1.cell? ⟨gb176, 0, none⟩ = some (.int .i64 0) := (bc1 BK176.out 0).trans rfl; have hcz2_1 : w1.cell? ⟨gb176, 1, none⟩ = some (.int .u8 0) := (bc1 BK176.out 1).trans rfl; have hcz2_2 : w1.cell? ⟨gb176, 2, none⟩ = some (.slice none 0 0) := (bc1 BK176.out 2).trans rfl; have hcz2_3 : w1.cell? ⟨gb176, 3, none⟩ = some (.string (⟨#[]⟩ : ByteArray)) := (bc1 BK176.out 3).trans rfl; have hcz2_4 : w1.cell? ⟨gb176, 4, none⟩ = some (.int .u8 0) := (bc1 BK176.out 4).trans rfl; have hcz2_5 : w1.cell? ⟨gb176, 5, none⟩ = some (.string (⟨#[]⟩ : ByteArray)) := (bc1 BK176.out 5).trans rfl; have hfz2_0 := bz1 BK176.out 0; have hfz2_1 := bz1 BK176.out 1; have hfz2_2 := bz1 BK176.out 2; have hfz2_3 := bz1 BK176.out 3; have hfz2_4 := bz1 BK176.out 4; have hfz2_5 := bz1 BK176.out 5))
  refine bodyPost_ret (results_cell_row rfl _ _ gb176 30 #[.int .i64 3, .int .u8 62, .slice none 0 0, .string (⟨#[]⟩ : ByteArray), .int .u8 124, .string (⟨#[99, 108, 97, 118, 105, 101, 114, 40, 49, 41]⟩ : ByteArray)] (0, 0) _ rfl (by (with_reducible repeat (first | refine bn1 ?_ _ | refine bd1 ?_ | refine ba1 ?_ _)); refine bp1 (cs := #[.int .i64 3, .int .u8 62, .slice none 0 0, .string (⟨#[]⟩ : ByteArray), .int .u8 124, .string (⟨#[]⟩ : ByteArray)]) ?_ 5 _ rfl; (with_reducible repeat (first | refine bn1 ?_ _ | refine bd1 ?_ | refine ba1 ?_ _)); refine bp1 (cs := #[.int .i64 3, .int .u8 62, .slice none 0 0, .string (⟨#[]⟩ : ByteArray), .int .u8 0, .string (⟨#[]⟩ : ByteArray)]) ?_ 4 _ rfl; (with_reducible repeat (first | refine bn1 ?_ _ | refine bd1 ?_ | refine ba1 ?_ _)); refine bp1 (cs := #[.int .i64 3, .int .u8 62, .slice none 0 0, .string (⟨#[]⟩ : ByteArray), .int .u8 0, .string (⟨#[]⟩ : ByteArray)]) ?_ 3 _ rfl; (with_reducible repeat (first | refine bn1 ?_ _ | refine bd1 ?_ | refine ba1 ?_ _)); refine bp1 (cs := #[.int .i64 3, .int .u8 62, .slice none 0 0, .string (⟨#[]⟩ : ByteArray), .int .u8 0, .string (⟨#[]⟩ : ByteArray)]) ?_ 2 _ rfl; (with_reducible repeat (first | refine bn1 ?_ _ | refine bd1 ?_ | refine ba1 ?_ _)); refine bp1 (cs := #[.int .i64 3, .int .u8 0, .slice none 0 0, .string (⟨#[]⟩ : ByteArray), .int .u8 0, .string (⟨#[]⟩ : ByteArray)]) ?_ 1 _ rfl; (with_reducible repeat (first | refine bn1 ?_ _ | refine bd1 ?_ | refine ba1 ?_ _)); refine bp1 (cs := #[.int .i64 0, .int .u8 0, .slice none 0 0, .string (⟨#[]⟩ : ByteArray), .int .u8 0, .string (⟨#[]⟩ : ByteArray)]) ?_ 0 _ rfl; (with_reducible repeat (first | refine bn1 ?_ _ | refine bd1 ?_ | refine ba1 ?_ _)); exact BK176.out) Tryd.underlying30 rfl (by kernel_rfl)) rfl ?_
  exact ⟨_, by first | rfl | (simp [errW_none, errW_some] <;> rfl) | (simp [*, errW_none, errW_some] <;> rfl), by first | exact Kd.S_nil _ _ _ _ _ | exact Kd.N_nil _ _ _ _ _ | exact Kd.V_nil _ _ _ _ _ | exact Kd.Q_nil _ _ _ _ _ | exact Kd.R_nil _ _ _ _ _, by repeat (first | (with_reducible first | exact HB.out | apply la1 | apply ln1 | apply ld1 | refine ls1 ?_ GE176.out) | exact HB.out)⟩
end Go.Proofs.YtopcleljecdkkaaDoor.G
end
section
namespace Go.Proofs.YtopcleljecdkkaaDoor.G
open Go.RowKit Go.Proofs.YtopcleljecdkkaaDoorW.PrintWords Go.Proofs.YtopcleljecdkkaaDoorW.PrintLast Go.Proofs.YtopcleljecdkkaaDoorW.PrintMore
attribute [local go_sem] max2_int min2_int max_two min_two max_three min_three max_four min_four
set_option linter.unusedVariables false
set_option linter.unusedSimpArgs false
def report_Setting_1.f (a0 : Int) : Option (ByteArray) := (report_fact.f a0).bind fun t136 => ((num_Text.f t136).bind fun t137 => (some t137))
set_option maxHeartbeats 8000000 in
set_option maxRecDepth 100000 in
theorem report_Setting_1.calls (a0 : Int) (r : ByteArray) (w : World) (hT : Tab w) (h : report_Setting_1.f a0 = some r) :
    Calls Tryd.prog 33 #[.int .i64 a0] w fun e w' => e = .returned (.string r) ∧ Below w.heap.size w w' := by
  have HT := Aside0.mk hT
  clear hT
  have HB := Aside0.mk (Below.refl w.heap.size w)
  have H : ((report_fact.f a0).bind fun t136 => ((num_Text.f t136).bind fun t137 => (some t137))) = some r := h
  clear h
  replace H := Option.bind_eq_some_iff.mp H
  obtain ⟨t136, A20, H⟩ := H
  replace H : ((num_Text.f t136).bind fun t137 => (some t137)) = some r := H
  have A2 := Aside0.mk A20
  clear A20
  replace H := Option.bind_eq_some_iff.mp H
  obtain ⟨t137, A30, H⟩ := H
  replace H : (some t137) = some r := H
  have A3 := Aside0.mk A30
  clear A30
  obtain rfl := Option.some.inj H
  go_enter Tryd.func33, Tryd.ntmps33
  go_wp2_with (first | ((with_reducible refine gate_callee (f := 29) rfl ?_); refine goesL_ (some 4) rfl rfl Tryd.func29 (by kernel_rfl) rfl #[.int .i64 a0] rfl (by (try simp only [List.map_toArray, List.map_cons, List.map_nil]); first | done | rfl | (simp only [List.length_drop, List.length_take]; rfl)) ?_; (with_reducible refine (report_fact.calls a0 t136 _ A2.out).mono ?_); rintro e w4 ⟨rfl, hb⟩; refine ⟨_, rfl, ?_⟩; have n0_ := Aside0.mk (below_step (by repeat (first | (with_reducible first | exact HB.out | apply la1 | apply ln1 | apply ld1) | exact HB.out)) hb); clear HB; have HB := n0_; clear n0_; (try clear hb); (try clear hb2); (try clear hk); (try clear hi)) | ((with_reducible refine gate_callee (f := 34) rfl ?_); refine goesL_ (some 5) rfl rfl Tryd.func34 (by kernel_rfl) rfl #[.int .i64 t136] rfl (by (try simp only [List.map_toArray, List.map_cons, List.map_nil]); first | done | rfl | (simp only [List.length_drop, List.length_take]; rfl)) ?_; (with_reducible refine (num_Text.calls t136 t137 _ ?side1 A3.out).mono ?_); (case side1 => exact Tab.below HT.out (by repeat (first | (with_reducible first | exact HB.out | apply la1 | apply ln1 | apply ld1) | exact HB.out))); rintro e w5 ⟨rfl, hb⟩; refine ⟨_, rfl, ?_⟩; have n0_ := Aside0.mk (below_step (by repeat (first | (with_reducible first | exact HB.out | apply la1 | apply ln1 | apply ld1) | exact HB.out)) hb); clear HB; have HB := n0_; clear n0_; (try clear hb); (try clear hb2); (try clear hk); (try clear hi)))
  go_ret
  exact ⟨by first | rfl | (simp [errW_none, errW_some] <;> rfl) | (simp [*, errW_none, errW_some] <;> rfl), by repeat (first | (with_reducible first | exact HB.out | apply la1 | apply ln1 | apply ld1) | exact HB.out)⟩
end Go.Proofs.YtopcleljecdkkaaDoor.G
end
section
namespace Go.Proofs.YtopcleljecdkkaaDoor.G
open Go.RowKit Go.Proofs.YtopcleljecdkkaaDoorW.PrintWords Go.Proofs.YtopcleljecdkkaaDoorW.PrintLast Go.Proofs.YtopcleljecdkkaaDoorW.PrintMore
attribute [local go_sem] max2_int min2_int max_two min_two max_three min_three max_four min_four
set_option linter.unusedVariables false
set_option linter.unusedSimpArgs false
def report_Setting.f (k : Nat) (a0_0 : Int) (a0_1 : Int) (a0_2 : Int) (a0_3 : Int) (a0_4 : Int) (a0_5 : Int) (a0_6 : Int) (a0_7 : Int) (a0_8 : Int) (a0_9 : Bool) (a0_10 : Bool) (a0_11 : Bool) (a0_12 : Bool) (a0_13 : Bool) (a0_14 : Bool) (a0_15 : Bool) (a0_16 : Int) (a0_17 : Int) (a0_18 : Int) (a1 : ByteArray) : Option (Int × Int × (List (List Int)) × ByteArray × Int × ByteArray) :=
  if a1 = ⟨#[109]⟩ then (style_May.f a0_9 a0_10 a0_11 a0_12 a0_13 a0_14 a0_15 a0_16 a0_17 a0_18).bind fun b => if b = true then (style_Params.f a0_9 a0_10 a0_11 a0_12 a0_13 a0_14 a0_15 a0_16 a0_17 a0_18).bind fun l => (style_Text.f k l).bind fun s => if s.size ≤ 1000000 then some (3, 0, [[1]], ⟨#[36]⟩, 114, s ++ ⟨#[109]⟩) else none else some (3, 0, [[0]], ⟨#[36]⟩, 114, ⟨#[]⟩)
  else if a1 = ⟨#[114]⟩ then (report_Setting_1.f a0_4).bind fun s => (report_Setting_1.f a0_5).bind fun t => if s.size ≤ 1000 ∧ t.size ≤ 1000 then some (3, 0, [[1]], ⟨#[36]⟩, 114, s ++ ⟨#[59]⟩ ++ t ++ ⟨#[114]⟩) else none
  else if a1 = ⟨#[115]⟩ then (report_Setting_1.f a0_6).bind fun s => (report_Setting_1.f a0_7).bind fun t => if s.size ≤ 1000 ∧ t.size ≤ 1000 then some (3, 0, [[1]], ⟨#[36]⟩, 114, s ++ ⟨#[59]⟩ ++ t ++ ⟨#[115]⟩) else none
  else if a1 = ⟨#[32, 113]⟩ then (report_Setting_1.f a0_8).bind fun s => if s.size ≤ 1000 then some (3, 0, [[1]], ⟨#[36]⟩, 114, s ++ ⟨#[32, 113]⟩) else none
  else if a1 = ⟨#[34, 112]⟩ then some (3, 0, [[1]], ⟨#[36]⟩, 114, ⟨#[54, 50, 59, 49]⟩ ++ ⟨#[34, 112]⟩)
  else some (3, 0, [[0]], ⟨#[36]⟩, 114, ⟨#[]⟩)
theorem report_Setting.mono : ∀ a0 a1 a2 a3 a4 a5 a6 a7 a8 a9 a10 a11 a12 a13 a14 a15 a16 a17 a18 a19 k, LeO (report_Setting.f k a0 a1 a2 a3 a4 a5 a6 a7 a8 a9 a10 a11 a12 a13 a14 a15 a16 a17 a18 a19) (report_Setting.f (k + 1) a0 a1 a2 a3 a4 a5 a6 a7 a8 a9 a10 a11 a12 a13 a14 a15 a16 a17 a18 a19) := by
  intro a0 a1 a2 a3 a4 a5 a6 a7 a8 a9 a10 a11 a12 a13 a14 a15 a16 a17 a18 a19 k
  unfold report_Setting.f
  repeat' first
      | exact LeO.refl _
      | exact style_Text.mono _ _
      | refine LeO.ite ?_ ?_
      | refine LeO.bind ?_ (fun _ => ?_)
theorem set_ans {n kd pv fi : Int} {rows : List (List Int)} {inter data d : ByteArray} {w : World} {e : Ending} {w' : World} (hh : SetAns n d w e w') (h : some ((3 : Int), (0 : Int), [[n]], (⟨#[36]⟩ : ByteArray), (114 : Int), d) = some (kd, pv, rows, inter, fi, data)) :
    ∃ v : Value, e = .returned (.agg #[.int .i64 kd, .int .u8 pv, v, .string inter, .int .u8 fi, .string data]) ∧ Kd.S (Kd.slice 3 (Kd.int .i64)) 52 w' w.heap.size (fun _ => True) v rows ∧ Below w.heap.size w w' := by
  simp only [Option.some.injEq, Prod.mk.injEq] at h
  obtain ⟨rfl, rfl, rfl, rfl, rfl, rfl⟩ := h
  exact hh
set_option maxHeartbeats 1000000 in
theorem report_Setting.calls (k : Nat) (a0_0 : Int) (a0_1 : Int) (a0_2 : Int) (a0_3 : Int) (a0_4 : Int) (a0_5 : Int) (a0_6 : Int) (a0_7 : Int) (a0_8 : Int) (a0_9 : Bool) (a0_10 : Bool) (a0_11 : Bool) (a0_12 : Bool) (a0_13 : Bool) (a0_14 : Bool) (a0_15 : Bool) (a0_16 : Int) (a0_17 : Int) (a0_18 : Int) (a1 : ByteArray) (r1 : Int) (r2 : Int) (r3 : List (List Int)) (r4 : ByteArray) (r5 : Int) (r6 : ByteArray) (w : World) (hT : Tab w) (h : report_Setting.f k a0_0 a0_1 a0_2 a0_3 a0_4 a0_5 a0_6 a0_7 a0_8 a0_9 a0_10 a0_11 a0_12 a0_13 a0_14 a0_15 a0_16 a0_17 a0_18 a1 = some (r1, r2, r3, r4, r5, r6)) :
    Calls Tryd.prog 13 #[.agg #[.int .i64 a0_0, .int .i64 a0_1, .int .i64 a0_2, .int .i64 a0_3, .int .i64 a0_4, .int .i64 a0_5, .int .i64 a0_6, .int .i64 a0_7, .int .i64 a0_8, .bool a0_9, .bool a0_10, .bool a0_11, .bool a0_12, .bool a0_13, .bool a0_14, .bool a0_15, .int .i64 a0_16, .int .i64 a0_17, .int .i64 a0_18], .string a1] w fun e w' => ∃ v2_ : Value, e = .returned (.agg #[.int .i64 r1, .int .u8 r2, v2_, .string r4, .int .u8 r5, .string r6]) ∧ Kd.S (Kd.slice 3 (Kd.int .i64)) 52 w' w.heap.size (fun _ => True) v2_ r3 ∧ Below w.heap.size w w' := by
  unfold report_Setting.f at h
  by_cases c1 : a1 = ⟨#[109]⟩
  · rw [if_pos c1] at h
    subst c1
    obtain ⟨b, hb, h⟩ := Option.bind_eq_some_iff.1 h
    have HM : Gives 42 #[styV a0_9 a0_10 a0_11 a0_12 a0_13 a0_14 a0_15 a0_16 a0_17 a0_18] (.bool b) w := fun W _ => (style_May.calls a0_9 a0_10 a0_11 a0_12 a0_13 a0_14 a0_15 a0_16 a0_17 a0_18 b W hb).mono fun e w' h => ⟨h.1, by first | exact h.2 | exact h.2.below⟩
    cases b with
    | false =>
      rw [if_neg (by decide)] at h
      exact (setting_m_no a0_0 a0_1 a0_2 a0_3 a0_4 a0_5 a0_6 a0_7 a0_8 a0_9 a0_10 a0_11 a0_12 a0_13 a0_14 a0_15 a0_16 a0_17 a0_18 w HM).mono fun e w' hh => set_ans hh h
    | true =>
      rw [if_pos rfl] at h
      obtain ⟨l, hl, h⟩ := Option.bind_eq_some_iff.1 h
      obtain ⟨s, hs, h⟩ := Option.bind_eq_some_iff.1 h
      by_cases hz : s.size ≤ 1000000
      · rw [if_pos hz] at h
        exact (setting_m a0_0 a0_1 a0_2 a0_3 a0_4 a0_5 a0_6 a0_7 a0_8 a0_9 a0_10 a0_11 a0_12 a0_13 a0_14 a0_15 a0_16 a0_17 a0_18 w HM l s (fun W _ => style_Params.calls a0_9 a0_10 a0_11 a0_12 a0_13 a0_14 a0_15 a0_16 a0_17 a0_18 l W hl) (fun W A c hb hC hc => style_Text.calls k A c l s W hC hc (Tab.below hT hb) hs) hz).mono fun e w' hh => set_ans hh h
      · rw [if_neg hz] at h; cases h
  rw [if_neg c1] at h
  have G1 : ∀ z s, report_Setting_1.f z = some s → Gives 33 #[.int .i64 z] (.string s) w := fun z s hs W hb => (report_Setting_1.calls z s W (Tab.below hT hb) hs).mono fun e w' h => ⟨h.1, by first | exact h.2 | exact h.2.below⟩
  by_cases c2 : a1 = ⟨#[114]⟩
  · rw [if_pos c2] at h
    subst c2
    obtain ⟨s, hs, h⟩ := Option.bind_eq_some_iff.1 h
    obtain ⟨t, ht, h⟩ := Option.bind_eq_some_iff.1 h
    by_cases hz : s.size ≤ 1000 ∧ t.size ≤ 1000
    · rw [if_pos hz] at h
      exact (setting_r a0_0 a0_1 a0_2 a0_3 a0_4 a0_5 a0_6 a0_7 a0_8 a0_9 a0_10 a0_11 a0_12 a0_13 a0_14 a0_15 a0_16 a0_17 a0_18 w s t (G1 _ _ hs) (G1 _ _ ht) hz.1 hz.2).mono fun e w' hh => set_ans hh h
    · rw [if_neg hz] at h; cases h
  rw [if_neg c2] at h
  by_cases c3 : a1 = ⟨#[115]⟩
  · rw [if_pos c3] at h
    subst c3
    obtain ⟨s, hs, h⟩ := Option.bind_eq_some_iff.1 h
    obtain ⟨t, ht, h⟩ := Option.bind_eq_some_iff.1 h
    by_cases hz : s.size ≤ 1000 ∧ t.size ≤ 1000
    · rw [if_pos hz] at h
      exact (setting_s a0_0 a0_1 a0_2 a0_3 a0_4 a0_5 a0_6 a0_7 a0_8 a0_9 a0_10 a0_11 a0_12 a0_13 a0_14 a0_15 a0_16 a0_17 a0_18 w s t (G1 _ _ hs) (G1 _ _ ht) hz.1 hz.2).mono fun e w' hh => set_ans hh h
    · rw [if_neg hz] at h; cases h
  rw [if_neg c3] at h
  by_cases c4 : a1 = ⟨#[32, 113]⟩
  · rw [if_pos c4] at h
    subst c4
    obtain ⟨s, hs, h⟩ := Option.bind_eq_some_iff.1 h
    by_cases hz : s.size ≤ 1000
    · rw [if_pos hz] at h
      exact (setting_q a0_0 a0_1 a0_2 a0_3 a0_4 a0_5 a0_6 a0_7 a0_8 a0_9 a0_10 a0_11 a0_12 a0_13 a0_14 a0_15 a0_16 a0_17 a0_18 w s (G1 _ _ hs) hz).mono fun e w' hh => set_ans hh h
    · rw [if_neg hz] at h; cases h
  rw [if_neg c4] at h
  by_cases c5 : a1 = ⟨#[34, 112]⟩
  · rw [if_pos c5] at h
    subst c5
    exact (setting_p a0_0 a0_1 a0_2 a0_3 a0_4 a0_5 a0_6 a0_7 a0_8 a0_9 a0_10 a0_11 a0_12 a0_13 a0_14 a0_15 a0_16 a0_17 a0_18 w).mono fun e w' hh => set_ans hh h
  rw [if_neg c5] at h
  exact (setting_none a0_0 a0_1 a0_2 a0_3 a0_4 a0_5 a0_6 a0_7 a0_8 a0_9 a0_10 a0_11 a0_12 a0_13 a0_14 a0_15 a0_16 a0_17 a0_18 a1 w ⟨c1, c2, c3, c4, c5⟩).mono fun e w' hh => set_ans hh h
end Go.Proofs.YtopcleljecdkkaaDoor.G
end
section
namespace Go.Proofs.YtopcleljecdkkaaDoor.G
set_option linter.unusedVariables false
set_option linter.unusedSimpArgs false
open Go.RowKit Kit Go.Proofs.YtopcleljecdkkaaDoorW.PrintWords Go.Proofs.YtopcleljecdkkaaDoorW.PrintMore
def clamp (n : Int) : Int := mn (mx n 0) 65535
end Go.Proofs.YtopcleljecdkkaaDoor.G
end
section
namespace Go.Proofs.YtopcleljecdkkaaDoor.G
open Go.RowKit Go.Proofs.YtopcleljecdkkaaDoorW.PrintWords Go.Proofs.YtopcleljecdkkaaDoorW.PrintLast Go.Proofs.YtopcleljecdkkaaDoorW.PrintMore
attribute [local go_sem] max2_int min2_int max_two min_two max_three min_three max_four min_four
set_option linter.unusedVariables false
set_option linter.unusedSimpArgs false
mutual
def clavierref03_params.j0 : Nat → List (List Int) → Bool → Option (Bool)
  | 0, _, _ => none
  | k + 1, x0, x27 => if x27 = true then (some false) else (clavierref03_params.l0 k x0 0)
def clavierref03_params.l0 : Nat → List (List Int) → Int → Option (Bool)
  | 0, _, _ => none
  | k + 1, x0, x3 => if x3 < (x0.length : Int) then (if 0 ≤ x3 then (if ((rd_L1 x0 x3).length : Int) < 1 then (clavierref03_params.j2 k x0 x3 true) else (clavierref03_params.j2 k x0 x3 (decide (((rd_L1 x0 x3).length : Int) > 8)))) else (none)) else (some true)
def clavierref03_params.j2 : Nat → List (List Int) → Int → Bool → Option (Bool)
  | 0, _, _, _ => none
  | k + 1, x0, x3, x47 => if x47 = true then (some false) else (clavierref03_params.l1 k x0 x3 0)
def clavierref03_params.l1 : Nat → List (List Int) → Int → Int → Option (Bool)
  | 0, _, _, _ => none
  | k + 1, x0, x3, x4 => if 0 ≤ x3 then (if x3 < (x0.length : Int) then (if x4 < ((rd_L1 x0 x3).length : Int) then (if 0 ≤ x4 then (if (rd (rd_L1 x0 x3) x4) < (-1) then (some false) else (if (rd (rd_L1 x0 x3) x4) > 1114111 then (some false) else (clavierref03_params.l1 k x0 x3 (wrap64 (x4 + 1))))) else (none)) else (clavierref03_params.l0 k x0 (wrap64 (x3 + 1)))) else (none)) else (none)
end
def clavierref03_params.f (k : Nat) (l0 : List (List Int)) : Option (Bool) := if (l0.length : Int) > 16 then (clavierref03_params.j0 k l0 true) else (if (l0.length : Int) = 1 then (if 0 < (l0.length : Int) then (if ((rd_L1 l0 0).length : Int) = 1 then (if 0 < ((rd_L1 l0 0).length : Int) then (clavierref03_params.j0 k l0 ((rd (rd_L1 l0 0) 0) == (-1))) else (none)) else (clavierref03_params.j0 k l0 false)) else (none)) else (clavierref03_params.j0 k l0 false))
theorem clavierref03_params.mono_l : ∀ k, (∀ y0 y1, LeO (clavierref03_params.j0 k y0 y1) (clavierref03_params.j0 (k + 1) y0 y1)) ∧ (∀ y0 y1, LeO (clavierref03_params.l0 k y0 y1) (clavierref03_params.l0 (k + 1) y0 y1)) ∧ (∀ y0 y1 y2, LeO (clavierref03_params.j2 k y0 y1 y2) (clavierref03_params.j2 (k + 1) y0 y1 y2)) ∧ (∀ y0 y1 y2, LeO (clavierref03_params.l1 k y0 y1 y2) (clavierref03_params.l1 (k + 1) y0 y1 y2))
  | 0 => ⟨fun _ _ r h => by simp [clavierref03_params.j0] at h, fun _ _ r h => by simp [clavierref03_params.l0] at h, fun _ _ _ r h => by simp [clavierref03_params.j2] at h, fun _ _ _ r h => by simp [clavierref03_params.l1] at h⟩
  | k + 1 => by
    obtain ⟨ih0, ih1, ih2, ih3⟩ := clavierref03_params.mono_l k
    refine ⟨?_, ?_, ?_, ?_⟩
    · intro y0 y1
      unfold clavierref03_params.j0
      repeat' first
      | (with_reducible exact ih0 _ _)
      | (with_reducible exact ih1 _ _)
      | (with_reducible exact ih2 _ _ _)
      | (with_reducible exact ih3 _ _ _)
      | (with_reducible exact LeO.refl _)
      | (with_reducible exact LeO.none _)
      | (with_reducible refine LeO.ite ?_ ?_)
      | (with_reducible refine LeO.bind ?_ (fun _ => ?_))
      | exact ih0 _ _
      | exact ih1 _ _
      | exact ih2 _ _ _
      | exact ih3 _ _ _
      | exact LeO.none _
      | refine LeO.ite ?_ ?_
      | refine LeO.bind ?_ (fun _ => ?_)
    · intro y0 y1
      unfold clavierref03_params.l0
      repeat' first
      | (with_reducible exact ih0 _ _)
      | (with_reducible exact ih1 _ _)
      | (with_reducible exact ih2 _ _ _)
      | (with_reducible exact ih3 _ _ _)
      | (with_reducible exact LeO.refl _)
      | (with_reducible exact LeO.none _)
      | (with_reducible refine LeO.ite ?_ ?_)
      | (with_reducible refine LeO.bind ?_ (fun _ => ?_))
      | exact ih0 _ _
      | exact ih1 _ _
      | exact ih2 _ _ _
      | exact ih3 _ _ _
      | exact LeO.none _
      | refine LeO.ite ?_ ?_
      | refine LeO.bind ?_ (fun _ => ?_)
    · intro y0 y1 y2
      unfold clavierref03_params.j2
      repeat' first
      | (with_reducible exact ih0 _ _)
      | (with_reducible exact ih1 _ _)
      | (with_reducible exact ih2 _ _ _)
      | (with_reducible exact ih3 _ _ _)
      | (with_reducible exact LeO.refl _)
      | (with_reducible exact LeO.none _)
      | (with_reducible refine LeO.ite ?_ ?_)
      | (with_reducible refine LeO.bind ?_ (fun _ => ?_))
      | exact ih0 _ _
      | exact ih1 _ _
      | exact ih2 _ _ _
      | exact ih3 _ _ _
      | exact LeO.none _
      | refine LeO.ite ?_ ?_
      | refine LeO.bind ?_ (fun _ => ?_)
    · intro y0 y1 y2
      unfold clavierref03_params.l1
      repeat' first
      | (with_reducible exact ih0 _ _)
      | (with_reducible exact ih1 _ _)
      | (with_reducible exact ih2 _ _ _)
      | (with_reducible exact ih3 _ _ _)
      | (with_reducible exact LeO.refl _)
      | (with_reducible exact LeO.none _)
      | (with_reducible refine LeO.ite ?_ ?_)
      | (with_reducible refine LeO.bind ?_ (fun _ => ?_))
      | exact ih0 _ _
      | exact ih1 _ _
      | exact ih2 _ _ _
      | exact ih3 _ _ _
      | exact LeO.none _
      | refine LeO.ite ?_ ?_
      | refine LeO.bind ?_ (fun _ => ?_)
theorem clavierref03_params.mono : ∀ a0 k, LeO (clavierref03_params.f k a0) (clavierref03_params.f (k + 1) a0) := by
  intro a0 k
  obtain ⟨ih0, ih1, ih2, ih3⟩ := clavierref03_params.mono_l k
  unfold clavierref03_params.f
  repeat' first
      | (with_reducible exact ih0 _ _)
      | (with_reducible exact ih1 _ _)
      | (with_reducible exact ih2 _ _ _)
      | (with_reducible exact ih3 _ _ _)
      | (with_reducible exact LeO.refl _)
      | (with_reducible exact LeO.none _)
      | (with_reducible refine LeO.ite ?_ ?_)
      | (with_reducible refine LeO.bind ?_ (fun _ => ?_))
      | exact ih0 _ _
      | exact ih1 _ _
      | exact ih2 _ _ _
      | exact ih3 _ _ _
      | exact LeO.none _
      | refine LeO.ite ?_ ?_
      | refine LeO.bind ?_ (fun _ => ?_)
set_option maxHeartbeats 8000000 in
set_option maxRecDepth 100000 in
theorem clavierref03_params.calls (k : Nat) (A0 : Option Addr) (c0 : Nat) (l0 : List (List Int)) (r : Bool) (w : World) (hr0 : Kd.C (Kd.slice 3 (Kd.int .i64)) w A0 l0.length l0) (hc0 : l0.length ≤ c0) (h : clavierref03_params.f k l0 = some r) :
    Calls Tryd.prog 49 #[.slice A0 l0.length c0] w fun e w' => e = .returned (.bool r) ∧ Drawn0 w w' := by
  have HR0 := Aside0.mk hr0
  have HC0 := Aside0.mk hc0
  clear hr0 hc0
  have H : (if (l0.length : Int) > 16 then (clavierref03_params.j0 k l0 true) else (if (l0.length : Int) = 1 then (if 0 < (l0.length : Int) then (if ((rd_L1 l0 0).length : Int) = 1 then (if 0 < ((rd_L1 l0 0).length : Int) then (clavierref03_params.j0 k l0 ((rd (rd_L1 l0 0) 0) == (-1))) else (none)) else (clavierref03_params.j0 k l0 false)) else (none)) else (clavierref03_params.j0 k l0 false))) = some r := h
  clear h
  have HC2 := Aside0.mk H
  clear H
  go_enter Tryd.func49, Tryd.ntmps49
  go_upto_region 1 with (fail)
  go_cut [27] (fun v27 wc => ∃ (kq : Nat) (x27_1 : Bool), v27 = .bool x27_1 ∧ Aside0 (clavierref03_params.j0 kq l0 x27_1 = some r) ∧ Aside0 (kq ≤ k) ∧ Drawn0 w wc)
  case first =>
    have H := HC2.out
    clear HC2
    by_cases c3 : (l0.length : Int) > 16
    · rw [if_pos c3] at H
      have c3b0 : decide (16 < (l0.length : Int)) = true := decide_eq_true c3
      have c3b1 : decide (16 < l0.length) = true := decide_eq_true (by omega)
      clear c3
      (first | rw [c3b0] | (simp only [i64_w, i32_w]; rw [c3b0]) | skip)
      have H' := Aside0.mk H
      clear H
      go_wp2
      go_meet
      case rel => exact ⟨_, (true), (by first | rfl | (simp; done) | (simp [*]; done)), H', ⟨by first | omega | exact Nat.le_refl _⟩, by repeat (first | exact Drawn0.refl _ | apply Drawn0.step)⟩
    · rw [if_neg c3] at H
      have c3b0 : decide (16 < (l0.length : Int)) = false := decide_eq_false c3
      have c3b1 : decide (16 < l0.length) = false := decide_eq_false (by omega)
      clear c3
      (first | rw [c3b0] | (simp only [i64_w, i32_w]; rw [c3b0]) | skip)
      by_cases c4 : (l0.length : Int) = 1
      · rw [if_pos c4] at H
        have c4b0 : ((l0.length : Int) == 1) = true := beq_iff_eq.mpr c4
        have c4b1 : ((l0.length : Int) != 1) = false := bne_eq_false_iff_eq.mpr c4
        clear c4
        by_cases c5 : 0 < (l0.length : Int)
        · rw [if_pos c5] at H
          have c5b0 : decide (0 < (l0.length : Int)) = true := decide_eq_true c5
          have c5b1 : decide (0 < l0.length) = true := decide_eq_true (by omega)
          clear c5
          by_cases c6 : ((rd_L1 l0 0).length : Int) = 1
          · rw [if_pos c6] at H
            have c6b0 : (((rd_L1 l0 0).length : Int) == 1) = true := beq_iff_eq.mpr c6
            have c6b1 : (((rd_L1 l0 0).length : Int) != 1) = false := bne_eq_false_iff_eq.mpr c6
            clear c6
            by_cases c7 : 0 < ((rd_L1 l0 0).length : Int)
            · rw [if_pos c7] at H
              have c7b0 : decide (0 < ((rd_L1 l0 0).length : Int)) = true := decide_eq_true c7
              have c7b1 : decide (0 < (rd_L1 l0 0).length) = true := decide_eq_true (by omega)
              clear c7
              have H' := Aside0.mk H
              clear H
              have p177 : 0 ≤ (0 : Int) := (by omega)
              have q177 : 0 < (l0.length : Int) := of_decide_eq_true (by first | (with_reducible assumption) | assumption)
              obtain ⟨ad177, A177_0, c177_0, e177, hx177_0, hl177_0, hi177_0⟩ := at_L1 HR0.out 0 p177 q177
              cases e177
              have qi177 : (0 < l0.length) = True := eq_true (by omega)
              (try rw [show ((0 : Int)).toNat = 0 from rfl] at hx177_0)
              (try rw [Addr.add_zero'] at hx177_0)
              have HR177_0 := Aside0.mk hi177_0
              have HC177_0 := Aside0.mk hl177_0
              clear hi177_0 hl177_0
              replace p177 := eq_true p177
              replace q177 := eq_true q177
              have p178 : 0 ≤ (0 : Int) := (by omega)
              have q178 : 0 < (l0.length : Int) := of_decide_eq_true (by first | (with_reducible assumption) | assumption)
              obtain ⟨ad178, A178_0, c178_0, e178, hx178_0, hl178_0, hi178_0⟩ := at_L1 HR0.out 0 p178 q178
              obtain rfl : ad177 = ad178 := (by injection e178)
              have qi178 : (0 < l0.length) = True := eq_true (by omega)
              (try rw [show ((0 : Int)).toNat = 0 from rfl] at hx178_0)
              (try rw [Addr.add_zero'] at hx178_0)
              have HR178_0 := Aside0.mk hi178_0
              have HC178_0 := Aside0.mk hl178_0
              clear hi178_0 hl178_0
              replace p178 := eq_true p178
              replace q178 := eq_true q178
              have ea_ := Option.some.inj (hx177_0.symm.trans hx178_0)
              injection ea_ with ea_ en_ ec_
              subst ea_
              subst ec_
              clear en_
              have p179 : 0 ≤ (0 : Int) := (by omega)
              have q179 : 0 < ((rd_L1 l0 0).length : Int) := of_decide_eq_true (by first | (with_reducible assumption) | assumption)
              obtain ⟨ad179, e179, hx179_0⟩ := Kd.at_int HR178_0.out 0 p179 q179
              cases e179
              have qi179 : (0 < (rd_L1 l0 0).length) = True := eq_true (by omega)
              (try rw [show ((0 : Int)).toNat = 0 from rfl] at hx179_0)
              (try rw [Addr.add_zero'] at hx179_0)
              replace p179 := eq_true p179
              replace q179 := eq_true q179
              go_wp2
              go_meet
              case rel => exact ⟨_, (((rd (rd_L1 l0 0) 0) == (-1))), (by first | rfl | (simp; done) | (simp [*]; done)), H', ⟨by first | omega | exact Nat.le_refl _⟩, by repeat (first | exact Drawn0.refl _ | apply Drawn0.step)⟩
            · rw [if_neg c7] at H
              exact absurd H (by simp)
          · rw [if_neg c6] at H
            have c6b0 : (((rd_L1 l0 0).length : Int) == 1) = false := beq_eq_false_iff_ne.mpr c6
            have c6b1 : (((rd_L1 l0 0).length : Int) != 1) = true := bne_iff_ne.mpr c6
            have H' := Aside0.mk H
            clear H
            have p177 : 0 ≤ (0 : Int) := (by omega)
            have q177 : 0 < (l0.length : Int) := of_decide_eq_true (by first | (with_reducible assumption) | assumption)
            obtain ⟨ad177, A177_0, c177_0, e177, hx177_0, hl177_0, hi177_0⟩ := at_L1 HR0.out 0 p177 q177
            cases e177
            have qi177 : (0 < l0.length) = True := eq_true (by omega)
            (try rw [show ((0 : Int)).toNat = 0 from rfl] at hx177_0)
            (try rw [Addr.add_zero'] at hx177_0)
            have HR177_0 := Aside0.mk hi177_0
            have HC177_0 := Aside0.mk hl177_0
            clear hi177_0 hl177_0
            replace p177 := eq_true p177
            replace q177 := eq_true q177
            go_wp2
            go_meet
            case rel => exact ⟨_, (false), (by first | rfl | (simp; done) | (simp [*]; done)), H', ⟨by first | omega | exact Nat.le_refl _⟩, by repeat (first | exact Drawn0.refl _ | apply Drawn0.step)⟩
        · rw [if_neg c5] at H
          exact absurd H (by simp)
      · rw [if_neg c4] at H
        have c4b0 : ((l0.length : Int) == 1) = false := beq_eq_false_iff_ne.mpr c4
        have c4b1 : ((l0.length : Int) != 1) = true := bne_iff_ne.mpr c4
        have H' := Aside0.mk H
        clear H
        go_wp2
        go_meet
        case rel => exact ⟨_, (false), (by first | rfl | (simp; done) | (simp [*]; done)), H', ⟨by first | omega | exact Nat.le_refl _⟩, by repeat (first | exact Drawn0.refl _ | apply Drawn0.step)⟩
  case rest =>
    clear HC2
    try clear c1
    try clear p1
    try clear q1
    try clear hx1
    try clear qi1
    try clear p2
    try clear c3
    try clear c3b0
    try clear c3b1
    try clear c4
    try clear c4b0
    try clear c4b1
    try clear c5
    try clear c5b0
    try clear c5b1
    try clear c6
    try clear c6b0
    try clear c6b1
    try clear c7
    try clear c7b0
    try clear c7b1
    try clear hx177_0
    try clear hx178_0
    try clear hx179_0
    try clear p177
    try clear p178
    try clear p179
    try clear q177
    try clear q178
    try clear q179
    obtain ⟨kq, x27_1, rfl, HA, HJ1, ⟨mc1, rfl⟩⟩ := hcut
    cases kq with
    | zero => exact absurd HA.out (by simp [clavierref03_params.j0])
    | succ kj1 =>
      have H := HA.out
      clear HA
      simp only [clavierref03_params.j0] at H
      by_cases c8 : x27_1 = true
      · subst c8
        have H1 : (some false) = some r := by rw [if_pos rfl] at H; exact H
        clear H
        have H := H1
        clear H1
        obtain rfl := Option.some.inj H
        go_wp2
        go_ret
        exact ⟨by first | rfl | (simp; done) | (simp [*]; done), by repeat (first | exact Drawn0.refl _ | apply Drawn0.step)⟩
      · replace c8 := Bool.eq_false_iff.mpr c8
        subst c8
        have H1 : (clavierref03_params.l0 kj1 l0 0) = some r := by rw [if_neg (show ¬ (false = true) by decide)] at H; exact H
        clear H
        have H := H1
        clear H1
        have H' := Aside0.mk H
        clear H
        go_wp2
        go_loopg [3] kj1 (fun kq v3 w' => ∃ (x3_2 : Int), v3 = .int .i64 x3_2 ∧ Aside0 (clavierref03_params.l0 kq l0 x3_2 = some r) ∧ Aside0 (kq ≤ kj1) ∧ Drawn0 w w')
        case atStart => exact ⟨(0), (by first | rfl | (simp; done) | (simp [*]; done)), H', ⟨Nat.le_refl _⟩, by repeat (first | exact Drawn0.refl _ | apply Drawn0.step)⟩
        case round =>
          clear H'
          try clear c1
          try clear p1
          try clear q1
          try clear hx1
          try clear qi1
          try clear p2
          try clear c3
          try clear c3b0
          try clear c3b1
          try clear c4
          try clear c4b0
          try clear c4b1
          try clear c5
          try clear c5b0
          try clear c5b1
          try clear c6
          try clear c6b0
          try clear c6b1
          try clear c7
          try clear c7b0
          try clear c7b1
          try clear c8
          try clear hx177_0
          try clear hx178_0
          try clear hx179_0
          try clear p1
          try clear p177
          try clear p178
          try clear p179
          try clear p2
          try clear q1
          try clear q177
          try clear q178
          try clear q179
          obtain ⟨x3_2, rfl, HA, HK2, ⟨m2, rfl⟩⟩ := hrel
          cases gk with
          | zero => exact absurd HA.out (by simp [clavierref03_params.l0])
          | succ k2 =>
            have H := HA.out
            clear HA
            simp only [clavierref03_params.l0] at H
            by_cases c9 : x3_2 < (l0.length : Int)
            · rw [if_pos c9] at H
              have c9b0 : decide (x3_2 < (l0.length : Int)) = true := decide_eq_true c9
              clear c9
              have HC10 := Aside0.mk H
              clear H
              go_upto_region 6 with (fail)
              go_cut [47] (fun v47 wc => ∃ (kq : Nat) (x47_9 : Bool), v47 = .bool x47_9 ∧ Aside0 (clavierref03_params.j2 kq l0 x3_2 x47_9 = some r) ∧ Aside0 (kq ≤ k2) ∧ Drawn0 w wc)
              case first =>
                have H := HC10.out
                clear HC10
                by_cases c11 : 0 ≤ x3_2
                · rw [if_pos c11] at H
                  have c11b0 : decide (0 ≤ x3_2) = true := decide_eq_true c11
                  clear c11
                  (first | rw [c11b0] | (simp only [i64_w, i32_w]; rw [c11b0]) | skip)
                  by_cases c12 : ((rd_L1 l0 x3_2).length : Int) < 1
                  · rw [if_pos c12] at H
                    have c12b0 : decide (((rd_L1 l0 x3_2).length : Int) < 1) = true := decide_eq_true c12
                    have c12b1 : decide ((rd_L1 l0 x3_2).length < 1) = true := decide_eq_true (by omega)
                    clear c12
                    have H' := Aside0.mk H
                    clear H
                    have p180 : 0 ≤ (x3_2 : Int) := of_decide_eq_true (by first | (with_reducible assumption) | assumption)
                    have q180 : x3_2 < (l0.length : Int) := of_decide_eq_true (by first | (with_reducible assumption) | assumption)
                    obtain ⟨ad180, A180_0, c180_0, e180, hx180_0, hl180_0, hi180_0⟩ := at_L1 HR0.out x3_2 p180 q180
                    cases e180
                    have HR180_0 := Aside0.mk hi180_0
                    have HC180_0 := Aside0.mk hl180_0
                    clear hi180_0 hl180_0
                    replace p180 := eq_true p180
                    replace q180 := eq_true q180
                    go_wp2
                    go_meet
                    case rel => exact ⟨_, (true), (by first | rfl | (simp; done) | (simp [*]; done)), H', ⟨by have := HJ1.out; have := HK2.out; first | omega | exact Nat.le_refl _⟩, by repeat (first | exact Drawn0.refl _ | apply Drawn0.step)⟩
                  · rw [if_neg c12] at H
                    have c12b0 : decide (((rd_L1 l0 x3_2).length : Int) < 1) = false := decide_eq_false c12
                    have c12b1 : decide ((rd_L1 l0 x3_2).length < 1) = false := decide_eq_false (by omega)
                    clear c12
                    have H' := Aside0.mk H
                    clear H
                    have p180 : 0 ≤ (x3_2 : Int) := of_decide_eq_true (by first | (with_reducible assumption) | assumption)
                    have q180 : x3_2 < (l0.length : Int) := of_decide_eq_true (by first | (with_reducible assumption) | assumption)
                    obtain ⟨ad180, A180_0, c180_0, e180, hx180_0, hl180_0, hi180_0⟩ := at_L1 HR0.out x3_2 p180 q180
                    cases e180
                    have HR180_0 := Aside0.mk hi180_0
                    have HC180_0 := Aside0.mk hl180_0
                    clear hi180_0 hl180_0
                    replace p180 := eq_true p180
                    replace q180 := eq_true q180
                    have p181 : 0 ≤ (x3_2 : Int) := of_decide_eq_true (by first | (with_reducible assumption) | assumption)
                    have q181 : x3_2 < (l0.length : Int) := of_decide_eq_true (by first | (with_reducible assumption) | assumption)
                    obtain ⟨ad181, A181_0, c181_0, e181, hx181_0, hl181_0, hi181_0⟩ := at_L1 HR0.out x3_2 p181 q181
                    obtain rfl : ad180 = ad181 := (by injection e181)
                    have HR181_0 := Aside0.mk hi181_0
                    have HC181_0 := Aside0.mk hl181_0
                    clear hi181_0 hl181_0
                    replace p181 := eq_true p181
                    replace q181 := eq_true q181
                    have ea_ := Option.some.inj (hx180_0.symm.trans hx181_0)
                    injection ea_ with ea_ en_ ec_
                    subst ea_
                    subst ec_
                    clear en_
                    go_wp2
                    go_meet
                    case rel => exact ⟨_, (decide (((rd_L1 l0 x3_2).length : Int) > 8)), (by first | rfl | (simp; done) | (simp [*]; done)), H', ⟨by have := HJ1.out; have := HK2.out; first | omega | exact Nat.le_refl _⟩, by repeat (first | exact Drawn0.refl _ | apply Drawn0.step)⟩
                · rw [if_neg c11] at H
                  exact absurd H (by simp)
              case rest =>
                clear HC10
                try clear c1
                try clear p1
                try clear q1
                try clear hx1
                try clear qi1
                try clear p2
                try clear c3
                try clear c3b0
                try clear c3b1
                try clear c4
                try clear c4b0
                try clear c4b1
                try clear c5
                try clear c5b0
                try clear c5b1
                try clear c6
                try clear c6b0
                try clear c6b1
                try clear c7
                try clear c7b0
                try clear c7b1
                try clear c8
                try clear c9
                try clear c9b0
                try clear c11
                try clear c11b0
                try clear c12
                try clear c12b0
                try clear c12b1
                try clear hx177_0
                try clear hx178_0
                try clear hx179_0
                try clear hx180_0
                try clear hx181_0
                try clear p1
                try clear p177
                try clear p178
                try clear p179
                try clear p180
                try clear p181
                try clear p2
                try clear q1
                try clear q177
                try clear q178
                try clear q179
                try clear q180
                try clear q181
                obtain ⟨kq, x47_9, rfl, HA, HJ9, ⟨mc9, rfl⟩⟩ := hcut
                cases kq with
                | zero => exact absurd HA.out (by simp [clavierref03_params.j2])
                | succ kj9 =>
                  have H := HA.out
                  clear HA
                  simp only [clavierref03_params.j2] at H
                  by_cases c13 : x47_9 = true
                  · subst c13
                    have H1 : (some false) = some r := by rw [if_pos rfl] at H; exact H
                    clear H
                    have H := H1
                    clear H1
                    obtain rfl := Option.some.inj H
                    go_wp2
                    go_ret
                    exact ⟨by first | rfl | (simp; done) | (simp [*]; done), by repeat (first | exact Drawn0.refl _ | apply Drawn0.step)⟩
                  · replace c13 := Bool.eq_false_iff.mpr c13
                    subst c13
                    have H1 : (clavierref03_params.l1 kj9 l0 x3_2 0) = some r := by rw [if_neg (show ¬ (false = true) by decide)] at H; exact H
                    clear H
                    have H := H1
                    clear H1
                    have H' := Aside0.mk H
                    clear H
                    go_wp2
                    go_loopg [4] kj9 (fun kq v4 w' => ∃ (x4_4 : Int), v4 = .int .i64 x4_4 ∧ Aside0 (clavierref03_params.l1 kq l0 x3_2 x4_4 = some r) ∧ Aside0 (kq ≤ kj9) ∧ Drawn0 w w')
                    case atStart => exact ⟨(0), (by first | rfl | (simp; done) | (simp [*]; done)), H', ⟨Nat.le_refl _⟩, by repeat (first | exact Drawn0.refl _ | apply Drawn0.step)⟩
                    case round =>
                      clear H'
                      try clear c1
                      try clear p1
                      try clear q1
                      try clear hx1
                      try clear qi1
                      try clear p2
                      try clear c3
                      try clear c3b0
                      try clear c3b1
                      try clear c4
                      try clear c4b0
                      try clear c4b1
                      try clear c5
                      try clear c5b0
                      try clear c5b1
                      try clear c6
                      try clear c6b0
                      try clear c6b1
                      try clear c7
                      try clear c7b0
                      try clear c7b1
                      try clear c8
                      try clear c9
                      try clear c9b0
                      try clear c11
                      try clear c11b0
                      try clear c12
                      try clear c12b0
                      try clear c12b1
                      try clear c13
                      try clear hx177_0
                      try clear hx178_0
                      try clear hx179_0
                      try clear hx180_0
                      try clear hx181_0
                      try clear p1
                      try clear p177
                      try clear p178
                      try clear p179
                      try clear p180
                      try clear p181
                      try clear p2
                      try clear q1
                      try clear q177
                      try clear q178
                      try clear q179
                      try clear q180
                      try clear q181
                      obtain ⟨x4_4, rfl, HA, HK4, ⟨m4, rfl⟩⟩ := hrel
                      cases gk with
                      | zero => exact absurd HA.out (by simp [clavierref03_params.l1])
                      | succ k4 =>
                        have H := HA.out
                        clear HA
                        simp only [clavierref03_params.l1] at H
                        by_cases c14 : 0 ≤ x3_2
                        · rw [if_pos c14] at H
                          have c14b0 : decide (0 ≤ x3_2) = true := decide_eq_true c14
                          clear c14
                          by_cases c15 : x3_2 < (l0.length : Int)
                          · rw [if_pos c15] at H
                            have c15b0 : decide (x3_2 < (l0.length : Int)) = true := decide_eq_true c15
                            clear c15
                            by_cases c16 : x4_4 < ((rd_L1 l0 x3_2).length : Int)
                            · rw [if_pos c16] at H
                              have c16b0 : decide (x4_4 < ((rd_L1 l0 x3_2).length : Int)) = true := decide_eq_true c16
                              clear c16
                              by_cases c17 : 0 ≤ x4_4
                              · rw [if_pos c17] at H
                                have c17b0 : decide (0 ≤ x4_4) = true := decide_eq_true c17
                                clear c17
                                by_cases c18 : (rd (rd_L1 l0 x3_2) x4_4) < (-1)
                                · rw [if_pos c18] at H
                                  have c18b0 : decide ((rd (rd_L1 l0 x3_2) x4_4) < (-1)) = true := decide_eq_true c18
                                  clear c18
                                  obtain rfl := Option.some.inj H
                                  have p182 : 0 ≤ (x3_2 : Int) := of_decide_eq_true (by first | (with_reducible assumption) | assumption)
                                  have q182 : x3_2 < (l0.length : Int) := of_decide_eq_true (by first | (with_reducible assumption) | assumption)
                                  obtain ⟨ad182, A182_0, c182_0, e182, hx182_0, hl182_0, hi182_0⟩ := at_L1 HR0.out x3_2 p182 q182
                                  cases e182
                                  have HR182_0 := Aside0.mk hi182_0
                                  have HC182_0 := Aside0.mk hl182_0
                                  clear hi182_0 hl182_0
                                  replace p182 := eq_true p182
                                  replace q182 := eq_true q182
                                  have p183 : 0 ≤ (x3_2 : Int) := of_decide_eq_true (by first | (with_reducible assumption) | assumption)
                                  have q183 : x3_2 < (l0.length : Int) := of_decide_eq_true (by first | (with_reducible assumption) | assumption)
                                  obtain ⟨ad183, A183_0, c183_0, e183, hx183_0, hl183_0, hi183_0⟩ := at_L1 HR0.out x3_2 p183 q183
                                  obtain rfl : ad182 = ad183 := (by injection e183)
                                  have HR183_0 := Aside0.mk hi183_0
                                  have HC183_0 := Aside0.mk hl183_0
                                  clear hi183_0 hl183_0
                                  replace p183 := eq_true p183
                                  replace q183 := eq_true q183
                                  have ea_ := Option.some.inj (hx182_0.symm.trans hx183_0)
                                  injection ea_ with ea_ en_ ec_
                                  subst ea_
                                  subst ec_
                                  clear en_
                                  have p184 : 0 ≤ (x4_4 : Int) := of_decide_eq_true (by first | (with_reducible assumption) | assumption)
                                  have q184 : x4_4 < ((rd_L1 l0 x3_2).length : Int) := of_decide_eq_true (by first | (with_reducible assumption) | assumption)
                                  obtain ⟨ad184, e184, hx184_0⟩ := Kd.at_int HR183_0.out x4_4 p184 q184
                                  cases e184
                                  replace p184 := eq_true p184
                                  replace q184 := eq_true q184
                                  go_wp2
                                  go_ret
                                  exact ⟨by first | rfl | (simp; done) | (simp [*]; done), by repeat (first | exact Drawn0.refl _ | apply Drawn0.step)⟩
                                · rw [if_neg c18] at H
                                  have c18b0 : decide ((rd (rd_L1 l0 x3_2) x4_4) < (-1)) = false := decide_eq_false c18
                                  clear c18
                                  by_cases c19 : (rd (rd_L1 l0 x3_2) x4_4) > 1114111
                                  · rw [if_pos c19] at H
                                    have c19b0 : decide (1114111 < (rd (rd_L1 l0 x3_2) x4_4)) = true := decide_eq_true c19
                                    clear c19
                                    obtain rfl := Option.some.inj H
                                    have p182 : 0 ≤ (x3_2 : Int) := of_decide_eq_true (by first | (with_reducible assumption) | assumption)
                                    have q182 : x3_2 < (l0.length : Int) := of_decide_eq_true (by first | (with_reducible assumption) | assumption)
                                    obtain ⟨ad182, A182_0, c182_0, e182, hx182_0, hl182_0, hi182_0⟩ := at_L1 HR0.out x3_2 p182 q182
                                    cases e182
                                    have HR182_0 := Aside0.mk hi182_0
                                    have HC182_0 := Aside0.mk hl182_0
                                    clear hi182_0 hl182_0
                                    replace p182 := eq_true p182
                                    replace q182 := eq_true q182
                                    have p183 : 0 ≤ (x3_2 : Int) := of_decide_eq_true (by first | (with_reducible assumption) | assumption)
                                    have q183 : x3_2 < (l0.length : Int) := of_decide_eq_true (by first | (with_reducible assumption) | assumption)
                                    obtain ⟨ad183, A183_0, c183_0, e183, hx183_0, hl183_0, hi183_0⟩ := at_L1 HR0.out x3_2 p183 q183
                                    obtain rfl : ad182 = ad183 := (by injection e183)
                                    have HR183_0 := Aside0.mk hi183_0
                                    have HC183_0 := Aside0.mk hl183_0
                                    clear hi183_0 hl183_0
                                    replace p183 := eq_true p183
                                    replace q183 := eq_true q183
                                    have ea_ := Option.some.inj (hx182_0.symm.trans hx183_0)
                                    injection ea_ with ea_ en_ ec_
                                    subst ea_
                                    subst ec_
                                    clear en_
                                    have p184 : 0 ≤ (x4_4 : Int) := of_decide_eq_true (by first | (with_reducible assumption) | assumption)
                                    have q184 : x4_4 < ((rd_L1 l0 x3_2).length : Int) := of_decide_eq_true (by first | (with_reducible assumption) | assumption)
                                    obtain ⟨ad184, e184, hx184_0⟩ := Kd.at_int HR183_0.out x4_4 p184 q184
                                    cases e184
                                    replace p184 := eq_true p184
                                    replace q184 := eq_true q184
                                    have p185 : 0 ≤ (x3_2 : Int) := of_decide_eq_true (by first | (with_reducible assumption) | assumption)
                                    have q185 : x3_2 < (l0.length : Int) := of_decide_eq_true (by first | (with_reducible assumption) | assumption)
                                    obtain ⟨ad185, A185_0, c185_0, e185, hx185_0, hl185_0, hi185_0⟩ := at_L1 HR0.out x3_2 p185 q185
                                    obtain rfl : ad182 = ad185 := (by injection e185)
                                    have HR185_0 := Aside0.mk hi185_0
                                    have HC185_0 := Aside0.mk hl185_0
                                    clear hi185_0 hl185_0
                                    replace p185 := eq_true p185
                                    replace q185 := eq_true q185
                                    have ea_ := Option.some.inj (hx182_0.symm.trans hx185_0)
                                    injection ea_ with ea_ en_ ec_
                                    subst ea_
                                    subst ec_
                                    clear en_
                                    have p186 : 0 ≤ (x4_4 : Int) := of_decide_eq_true (by first | (with_reducible assumption) | assumption)
                                    have q186 : x4_4 < ((rd_L1 l0 x3_2).length : Int) := of_decide_eq_true (by first | (with_reducible assumption) | assumption)
                                    obtain ⟨ad186, e186, hx186_0⟩ := Kd.at_int HR185_0.out x4_4 p186 q186
                                    cases e186
                                    replace p186 := eq_true p186
                                    replace q186 := eq_true q186
                                    go_wp2
                                    go_ret
                                    exact ⟨by first | rfl | (simp; done) | (simp [*]; done), by repeat (first | exact Drawn0.refl _ | apply Drawn0.step)⟩
                                  · rw [if_neg c19] at H
                                    have c19b0 : decide (1114111 < (rd (rd_L1 l0 x3_2) x4_4)) = false := decide_eq_false c19
                                    clear c19
                                    have H' := Aside0.mk H
                                    clear H
                                    have p182 : 0 ≤ (x3_2 : Int) := of_decide_eq_true (by first | (with_reducible assumption) | assumption)
                                    have q182 : x3_2 < (l0.length : Int) := of_decide_eq_true (by first | (with_reducible assumption) | assumption)
                                    obtain ⟨ad182, A182_0, c182_0, e182, hx182_0, hl182_0, hi182_0⟩ := at_L1 HR0.out x3_2 p182 q182
                                    cases e182
                                    have HR182_0 := Aside0.mk hi182_0
                                    have HC182_0 := Aside0.mk hl182_0
                                    clear hi182_0 hl182_0
                                    replace p182 := eq_true p182
                                    replace q182 := eq_true q182
                                    have p183 : 0 ≤ (x3_2 : Int) := of_decide_eq_true (by first | (with_reducible assumption) | assumption)
                                    have q183 : x3_2 < (l0.length : Int) := of_decide_eq_true (by first | (with_reducible assumption) | assumption)
                                    obtain ⟨ad183, A183_0, c183_0, e183, hx183_0, hl183_0, hi183_0⟩ := at_L1 HR0.out x3_2 p183 q183
                                    obtain rfl : ad182 = ad183 := (by injection e183)
                                    have HR183_0 := Aside0.mk hi183_0
                                    have HC183_0 := Aside0.mk hl183_0
                                    clear hi183_0 hl183_0
                                    replace p183 := eq_true p183
                                    replace q183 := eq_true q183
                                    have ea_ := Option.some.inj (hx182_0.symm.trans hx183_0)
                                    injection ea_ with ea_ en_ ec_
                                    subst ea_
                                    subst ec_
                                    clear en_
                                    have p184 : 0 ≤ (x4_4 : Int) := of_decide_eq_true (by first | (with_reducible assumption) | assumption)
                                    have q184 : x4_4 < ((rd_L1 l0 x3_2).length : Int) := of_decide_eq_true (by first | (with_reducible assumption) | assumption)
                                    obtain ⟨ad184, e184, hx184_0⟩ := Kd.at_int HR183_0.out x4_4 p184 q184
                                    cases e184
                                    replace p184 := eq_true p184
                                    replace q184 := eq_true q184
                                    have p185 : 0 ≤ (x3_2 : Int) := of_decide_eq_true (by first | (with_reducible assumption) | assumption)
                                    have q185 : x3_2 < (l0.length : Int) := of_decide_eq_true (by first | (with_reducible assumption) | assumption)
                                    obtain ⟨ad185, A185_0, c185_0, e185, hx185_0, hl185_0, hi185_0⟩ := at_L1 HR0.out x3_2 p185 q185
                                    obtain rfl : ad182 = ad185 := (by injection e185)
                                    have HR185_0 := Aside0.mk hi185_0
                                    have HC185_0 := Aside0.mk hl185_0
                                    clear hi185_0 hl185_0
                                    replace p185 := eq_true p185
                                    replace q185 := eq_true q185
                                    have ea_ := Option.some.inj (hx182_0.symm.trans hx185_0)
                                    injection ea_ with ea_ en_ ec_
                                    subst ea_
                                    subst ec_
                                    clear en_
                                    have p186 : 0 ≤ (x4_4 : Int) := of_decide_eq_true (by first | (with_reducible assumption) | assumption)
                                    have q186 : x4_4 < ((rd_L1 l0 x3_2).length : Int) := of_decide_eq_true (by first | (with_reducible assumption) | assumption)
                                    obtain ⟨ad186, e186, hx186_0⟩ := Kd.at_int HR185_0.out x4_4 p186 q186
                                    cases e186
                                    replace p186 := eq_true p186
                                    replace q186 := eq_true q186
                                    go_wp2
                                    go_roundg k4
                                    case measure => have := HJ1.out; have := HK2.out; have := HJ9.out; have := HK4.out; omega
                                    case rel => exact ⟨(wrap64 (x4_4 + 1)), (by first | rfl | (simp; done) | (simp [*]; done)), H', ⟨by have := HJ1.out; have := HK2.out; have := HJ9.out; have := HK4.out; omega⟩, by repeat (first | exact Drawn0.refl _ | apply Drawn0.step)⟩
                              · rw [if_neg c17] at H
                                exact absurd H (by simp)
                            · rw [if_neg c16] at H
                              have c16b0 : decide (x4_4 < ((rd_L1 l0 x3_2).length : Int)) = false := decide_eq_false c16
                              clear c16
                              have H' := Aside0.mk H
                              clear H
                              have p182 : 0 ≤ (x3_2 : Int) := of_decide_eq_true (by first | (with_reducible assumption) | assumption)
                              have q182 : x3_2 < (l0.length : Int) := of_decide_eq_true (by first | (with_reducible assumption) | assumption)
                              obtain ⟨ad182, A182_0, c182_0, e182, hx182_0, hl182_0, hi182_0⟩ := at_L1 HR0.out x3_2 p182 q182
                              cases e182
                              have HR182_0 := Aside0.mk hi182_0
                              have HC182_0 := Aside0.mk hl182_0
                              clear hi182_0 hl182_0
                              replace p182 := eq_true p182
                              replace q182 := eq_true q182
                              go_wp2
                              go_roundg k4
                              case measure => have := HJ1.out; have := HK2.out; have := HJ9.out; have := HK4.out; omega
                              case rel => exact ⟨(wrap64 (x3_2 + 1)), (by first | rfl | (simp; done) | (simp [*]; done)), H', ⟨by have := HJ1.out; have := HK2.out; have := HJ9.out; have := HK4.out; omega⟩, by repeat (first | exact Drawn0.refl _ | apply Drawn0.step)⟩
                          · rw [if_neg c15] at H
                            exact absurd H (by simp)
                        · rw [if_neg c14] at H
                          exact absurd H (by simp)
            · rw [if_neg c9] at H
              have c9b0 : decide (x3_2 < (l0.length : Int)) = false := decide_eq_false c9
              clear c9
              obtain rfl := Option.some.inj H
              go_wp2
              go_ret
              exact ⟨by first | rfl | (simp; done) | (simp [*]; done), by repeat (first | exact Drawn0.refl _ | apply Drawn0.step)⟩
def clavierref03_within.l0 : Nat → ByteArray → Int → Int → Int → Option (Bool)
  | 0, _, _, _, _ => none
  | k + 1, x0, x1, x2, x7 => if x7 < (x0.size : Int) then (if 0 ≤ x7 then (if (bt x0 x7) < x1 then (some false) else (if (bt x0 x7) > x2 then (some false) else (clavierref03_within.l0 k x0 x1 x2 (wrap64 (x7 + 1))))) else (none)) else (some true)
def clavierref03_within.f (k : Nat) (a0 : ByteArray) (a1 : Int) (a2 : Int) : Option (Bool) := clavierref03_within.l0 k a0 a1 a2 0
theorem clavierref03_within.mono_l : ∀ k, (∀ y0 y1 y2 y3, LeO (clavierref03_within.l0 k y0 y1 y2 y3) (clavierref03_within.l0 (k + 1) y0 y1 y2 y3))
  | 0 => fun _ _ _ _ r h => by simp [clavierref03_within.l0] at h
  | k + 1 => by
    have ih0 := clavierref03_within.mono_l k
    · intro y0 y1 y2 y3
      unfold clavierref03_within.l0
      repeat' first
      | (with_reducible exact ih0 _ _ _ _)
      | (with_reducible exact LeO.refl _)
      | (with_reducible exact LeO.none _)
      | (with_reducible refine LeO.ite ?_ ?_)
      | (with_reducible refine LeO.bind ?_ (fun _ => ?_))
      | exact ih0 _ _ _ _
      | exact LeO.none _
      | refine LeO.ite ?_ ?_
      | refine LeO.bind ?_ (fun _ => ?_)
theorem clavierref03_within.mono : ∀ a0 a1 a2 k, LeO (clavierref03_within.f k a0 a1 a2) (clavierref03_within.f (k + 1) a0 a1 a2) := by
  intro a0 a1 a2 k
  have ih0 := clavierref03_within.mono_l k
  unfold clavierref03_within.f
  repeat' first
      | (with_reducible exact ih0 _ _ _ _)
      | (with_reducible exact LeO.refl _)
      | (with_reducible exact LeO.none _)
      | (with_reducible refine LeO.ite ?_ ?_)
      | (with_reducible refine LeO.bind ?_ (fun _ => ?_))
      | exact ih0 _ _ _ _
      | exact LeO.none _
      | refine LeO.ite ?_ ?_
      | refine LeO.bind ?_ (fun _ => ?_)
set_option maxHeartbeats 8000000 in
set_option maxRecDepth 100000 in
theorem clavierref03_within.calls (k : Nat) (a0 : ByteArray) (a1 : Int) (a2 : Int) (r : Bool) (w : World) (h : clavierref03_within.f k a0 a1 a2 = some r) :
    Calls Tryd.prog 50 #[.string a0, .int .u8 a1, .int .u8 a2] w fun e w' => e = .returned (.bool r) ∧ Drawn0 w w' := by
  have H : (clavierref03_within.l0 k a0 a1 a2 0) = some r := h
  clear h
  have H' := Aside0.mk H
  clear H
  go_enter Tryd.func50, Tryd.ntmps50
  go_wp2
  go_loopg [7] k (fun kq v7 w' => ∃ (x7_1 : Int), v7 = .int .i64 x7_1 ∧ Aside0 (clavierref03_within.l0 kq a0 a1 a2 x7_1 = some r) ∧ Aside0 (kq ≤ k) ∧ Drawn0 w w')
  case atStart => exact ⟨(0), (by first | rfl | (simp; done) | (simp [*]; done)), H', ⟨Nat.le_refl _⟩, by repeat (first | exact Drawn0.refl _ | apply Drawn0.step)⟩
  case round =>
    clear H'
    try clear p2
    obtain ⟨x7_1, rfl, HA, HK1, ⟨m1, rfl⟩⟩ := hrel
    cases gk with
    | zero => exact absurd HA.out (by simp [clavierref03_within.l0])
    | succ k1 =>
      have H := HA.out
      clear HA
      simp only [clavierref03_within.l0] at H
      by_cases c4 : x7_1 < (a0.size : Int)
      · rw [if_pos c4] at H
        have c4b0 : decide (x7_1 < (a0.size : Int)) = true := decide_eq_true c4
        clear c4
        by_cases c5 : 0 ≤ x7_1
        · rw [if_pos c5] at H
          have c5b0 : decide (0 ≤ x7_1) = true := decide_eq_true c5
          clear c5
          by_cases c7 : (bt a0 x7_1) < a1
          · rw [if_pos c7] at H
            have c7b0 : decide ((bt a0 x7_1) < a1) = true := decide_eq_true c7
            clear c7
            obtain rfl := Option.some.inj H
            have p6 : 0 ≤ (x7_1 : Int) := of_decide_eq_true (by first | (with_reducible assumption) | assumption)
            have q6 : x7_1 < (a0.size : Int) := of_decide_eq_true (by first | (with_reducible assumption) | assumption)
            have hx6 := bt_at a0 x7_1
            replace p6 := eq_true p6
            replace q6 := eq_true q6
            go_wp2
            go_ret
            exact ⟨by first | rfl | (simp; done) | (simp [*]; done), by repeat (first | exact Drawn0.refl _ | apply Drawn0.step)⟩
          · rw [if_neg c7] at H
            have c7b0 : decide ((bt a0 x7_1) < a1) = false := decide_eq_false c7
            clear c7
            by_cases c9 : (bt a0 x7_1) > a2
            · rw [if_pos c9] at H
              have c9b0 : decide (a2 < (bt a0 x7_1)) = true := decide_eq_true c9
              clear c9
              obtain rfl := Option.some.inj H
              have p6 : 0 ≤ (x7_1 : Int) := of_decide_eq_true (by first | (with_reducible assumption) | assumption)
              have q6 : x7_1 < (a0.size : Int) := of_decide_eq_true (by first | (with_reducible assumption) | assumption)
              have hx6 := bt_at a0 x7_1
              replace p6 := eq_true p6
              replace q6 := eq_true q6
              have p8 : 0 ≤ (x7_1 : Int) := of_decide_eq_true (by first | (with_reducible assumption) | assumption)
              have q8 : x7_1 < (a0.size : Int) := of_decide_eq_true (by first | (with_reducible assumption) | assumption)
              have hx8 := bt_at a0 x7_1
              replace p8 := eq_true p8
              replace q8 := eq_true q8
              go_wp2
              go_ret
              exact ⟨by first | rfl | (simp; done) | (simp [*]; done), by repeat (first | exact Drawn0.refl _ | apply Drawn0.step)⟩
            · rw [if_neg c9] at H
              have c9b0 : decide (a2 < (bt a0 x7_1)) = false := decide_eq_false c9
              clear c9
              have H' := Aside0.mk H
              clear H
              have p6 : 0 ≤ (x7_1 : Int) := of_decide_eq_true (by first | (with_reducible assumption) | assumption)
              have q6 : x7_1 < (a0.size : Int) := of_decide_eq_true (by first | (with_reducible assumption) | assumption)
              have hx6 := bt_at a0 x7_1
              replace p6 := eq_true p6
              replace q6 := eq_true q6
              have p8 : 0 ≤ (x7_1 : Int) := of_decide_eq_true (by first | (with_reducible assumption) | assumption)
              have q8 : x7_1 < (a0.size : Int) := of_decide_eq_true (by first | (with_reducible assumption) | assumption)
              have hx8 := bt_at a0 x7_1
              replace p8 := eq_true p8
              replace q8 := eq_true q8
              go_wp2
              go_roundg k1
              case measure => have := HK1.out; omega
              case rel => exact ⟨(wrap64 (x7_1 + 1)), (by first | rfl | (simp; done) | (simp [*]; done)), H', ⟨by have := HK1.out; omega⟩, by repeat (first | exact Drawn0.refl _ | apply Drawn0.step)⟩
        · rw [if_neg c5] at H
          exact absurd H (by simp)
      · rw [if_neg c4] at H
        have c4b0 : decide (x7_1 < (a0.size : Int)) = false := decide_eq_false c4
        clear c4
        obtain rfl := Option.some.inj H
        go_wp2
        go_ret
        exact ⟨by first | rfl | (simp; done) | (simp [*]; done), by repeat (first | exact Drawn0.refl _ | apply Drawn0.step)⟩
end Go.Proofs.YtopcleljecdkkaaDoor.G
end
section
namespace Go.Proofs.YtopcleljecdkkaaDoor.G
open Go.RowKit Go.Proofs.YtopcleljecdkkaaDoorW.PrintWords Go.Proofs.YtopcleljecdkkaaDoorW.PrintLast Go.Proofs.YtopcleljecdkkaaDoorW.PrintMore
attribute [local go_sem] max2_int min2_int max_two min_two max_three min_three max_four min_four
set_option linter.unusedVariables false
set_option linter.unusedSimpArgs false
def clavierref03_last.j0 : Nat → Int → Bool → Int → Int → List (List Int) → ByteArray → Int → ByteArray → Option (Bool)
  | 0, _, _, _, _, _, _, _, _ => none
  | k + 1, x5, x6, x188000, x188001, x188002, x188003, x188004, x188005 => if x6 = true then (if x188004 ≥ 64 then (some (decide (x188004 ≤ 126))) else (some false)) else (if x5 = 5 then (if x188004 < 48 then (some false) else (if x188004 > 126 then (some false) else (if (x188003.size : Int) > 0 then (some true) else (if x188004 = 79 then (some false) else (if x188004 = 80 then (some false) else (if x188004 = 88 then (some false) else (if x188004 = 91 then (some false) else (if x188004 = 93 then (some false) else (if x188004 = 92 then (some false) else (if x188004 = 94 then (some false) else (some (x188004 != 95)))))))))))) else (if x188000 = 4 then (some (x188004 == 0)) else (some false)))
def clavierref03_last.f (k : Nat) (a0_0 : Int) (a0_1 : Int) (l0_2 : List (List Int)) (a0_3 : ByteArray) (a0_4 : Int) (a0_5 : ByteArray) : Option (Bool) := if a0_0 = 1 then (clavierref03_last.j0 k a0_0 (a0_0 == 1) a0_0 a0_1 l0_2 a0_3 a0_4 a0_5) else (if a0_0 = 2 then (clavierref03_last.j0 k a0_0 (a0_0 == 2) a0_0 a0_1 l0_2 a0_3 a0_4 a0_5) else (clavierref03_last.j0 k a0_0 (a0_0 == 3) a0_0 a0_1 l0_2 a0_3 a0_4 a0_5))
theorem clavierref03_last.mono_l : ∀ k, (∀ y0 y1 y2 y3 y4 y5 y6 y7, LeO (clavierref03_last.j0 k y0 y1 y2 y3 y4 y5 y6 y7) (clavierref03_last.j0 (k + 1) y0 y1 y2 y3 y4 y5 y6 y7))
  | 0 => fun _ _ _ _ _ _ _ _ r h => by simp [clavierref03_last.j0] at h
  | k + 1 => by
    have ih0 := clavierref03_last.mono_l k
    · intro y0 y1 y2 y3 y4 y5 y6 y7
      unfold clavierref03_last.j0
      repeat' first
      | (with_reducible exact ih0 _ _ _ _ _ _ _ _)
      | (with_reducible exact LeO.refl _)
      | (with_reducible exact LeO.none _)
      | (with_reducible refine LeO.ite ?_ ?_)
      | (with_reducible refine LeO.bind ?_ (fun _ => ?_))
      | exact ih0 _ _ _ _ _ _ _ _
      | exact LeO.none _
      | refine LeO.ite ?_ ?_
      | refine LeO.bind ?_ (fun _ => ?_)
theorem clavierref03_last.mono : ∀ a0 a1 a2 a3 a4 a5 k, LeO (clavierref03_last.f k a0 a1 a2 a3 a4 a5) (clavierref03_last.f (k + 1) a0 a1 a2 a3 a4 a5) := by
  intro a0 a1 a2 a3 a4 a5 k
  have ih0 := clavierref03_last.mono_l k
  unfold clavierref03_last.f
  repeat' first
      | (with_reducible exact ih0 _ _ _ _ _ _ _ _)
      | (with_reducible exact LeO.refl _)
      | (with_reducible exact LeO.none _)
      | (with_reducible refine LeO.ite ?_ ?_)
      | (with_reducible refine LeO.bind ?_ (fun _ => ?_))
      | exact ih0 _ _ _ _ _ _ _ _
      | exact LeO.none _
      | refine LeO.ite ?_ ?_
      | refine LeO.bind ?_ (fun _ => ?_)
set_option maxHeartbeats 8000000 in
set_option maxRecDepth 100000 in
theorem clavierref03_last.calls (k : Nat) (a0_0 : Int) (a0_1 : Int) (A0_2 : Option Addr) (c0_2 : Nat) (l0_2 : List (List Int)) (a0_3 : ByteArray) (a0_4 : Int) (a0_5 : ByteArray) (r : Bool) (w : World) (hr0_2 : Kd.C (Kd.slice 3 (Kd.int .i64)) w A0_2 l0_2.length l0_2) (hc0_2 : l0_2.length ≤ c0_2) (h : clavierref03_last.f k a0_0 a0_1 l0_2 a0_3 a0_4 a0_5 = some r) :
    Calls Tryd.prog 51 #[.agg #[.int .i64 a0_0, .int .u8 a0_1, .slice A0_2 l0_2.length c0_2, .string a0_3, .int .u8 a0_4, .string a0_5]] w fun e w' => e = .returned (.bool r) ∧ Below w.heap.size w w' := by
  have hu30 := Tryd.underlying30
  have HR0_2 := Aside0.mk hr0_2
  have HC0_2 := Aside0.mk hc0_2
  clear hr0_2 hc0_2
  have HB := Aside0.mk (Below.refl w.heap.size w)
  have H : (if a0_0 = 1 then (clavierref03_last.j0 k a0_0 (a0_0 == 1) a0_0 a0_1 l0_2 a0_3 a0_4 a0_5) else (if a0_0 = 2 then (clavierref03_last.j0 k a0_0 (a0_0 == 2) a0_0 a0_1 l0_2 a0_3 a0_4 a0_5) else (clavierref03_last.j0 k a0_0 (a0_0 == 3) a0_0 a0_1 l0_2 a0_3 a0_4 a0_5))) = some r := h
  clear h
  have HC2 := Aside0.mk H
  clear H
  go_enter Tryd.func51, Tryd.ntmps51
  go_upto_if 6 with (first | ((with_reducible refine gate_dst (N := 1) rfl ?_); refine box_event ?hg (N := 1) ?hd (cs := #[.int .i64 a0_0, .int .u8 a0_1, .slice A0_2 l0_2.length c0_2, .string a0_3, .int .u8 a0_4, .string a0_5]) (t := 30) ?hr ?_; (case hd => rfl); (case hg => rfl); (case hr => first | (go_simp; done) | (go_simp; rfl)); intro gb187 hg w3 hbox hb; have n0_ := Aside0.mk (below_step (by repeat (first | (with_reducible first | exact HB.out | apply la1 | apply ln1 | apply ld1) | exact HB.out)) hb); have n1_ := Aside0.mk (hbox); have n2_ := Aside0.mk ((by rw [hg]; exact (below_size (by repeat (first | (with_reducible first | exact HB.out | apply la1 | apply ln1 | apply ld1) | exact HB.out))) : w.heap.size ≤ gb187)); have n3_ := Aside0.mk ((by rw [hg]; exact (below_size (by repeat (first | (with_reducible first | exact HB.out | apply la1 | apply ln1 | apply ld1) | exact HB.out))) : w.heap.size ≤ gb187)); clear HB; have HB := n0_; have BK187 := n1_; have GW187 := n2_; have GE187 := n3_; clear n0_ n1_ n2_ n3_; clear hb hbox hg; have hcz4_0 : w3.cell? ⟨gb187, 0, none⟩ = some (.int .i64 a0_0) := (bc1 BK187.out 0).trans rfl; have hcz4_1 : w3.cell? ⟨gb187, 1, none⟩ = some (.int .u8 a0_1) := (bc1 BK187.out 1).trans rfl; have hcz4_2 : w3.cell? ⟨gb187, 2, none⟩ = some (.slice A0_2 l0_2.length c0_2) := (bc1 BK187.out 2).trans rfl; have hcz4_3 : w3.cell? ⟨gb187, 3, none⟩ = some (.string a0_3) := (bc1 BK187.out 3).trans rfl; have hcz4_4 : w3.cell? ⟨gb187, 4, none⟩ = some (.int .u8 a0_4) := (bc1 BK187.out 4).trans rfl; have hcz4_5 : w3.cell? ⟨gb187, 5, none⟩ = some (.string a0_5) := (bc1 BK187.out 5).trans rfl; have hfz4_0 := bz1 BK187.out 0; have hfz4_1 := bz1 BK187.out 1; have hfz4_2 := bz1 BK187.out 2; have hfz4_3 := bz1 BK187.out 3; have hfz4_4 := bz1 BK187.out 4; have hfz4_5 := bz1 BK187.out 5))
  (try simp only [Act.put, List.setIfInBounds_toArray, List.set_cons_zero, List.set_cons_succ])
  go_cut [6] (fun v6 wc => ∃ (kq : Nat) (x6_1 : Bool), v6 = .bool x6_1 ∧ Aside0 (clavierref03_last.j0 kq a0_0 x6_1 a0_0 a0_1 l0_2 a0_3 a0_4 a0_5 = some r) ∧ Aside0 (kq ≤ k) ∧ Aside0 (wc.heap[gb187]? = some (.cells #[.int .i64 a0_0, .int .u8 a0_1, (.slice A0_2 l0_2.length c0_2), .string a0_3, .int .u8 a0_4, .string a0_5] 30 (0, 0))) ∧ Aside0 (Below w.heap.size w wc))
  case first =>
    have H := HC2.out
    clear HC2
    by_cases c5 : a0_0 = 1
    · rw [if_pos c5] at H
      have c5b0 : (a0_0 == 1) = true := beq_iff_eq.mpr c5
      have c5b1 : (a0_0 != 1) = false := bne_eq_false_iff_eq.mpr c5
      clear c5
      (first | rw [c5b0] | (simp only [i64_w, i32_w]; rw [c5b0]) | skip)
      have H' := Aside0.mk H
      clear H
      go_wp2
      go_meet
      case rel => exact ⟨_, ((a0_0 == 1)), (by first | rfl | (simp; done) | (simp [*]; done)), H', ⟨by first | omega | exact Nat.le_refl _⟩, ⟨by (with_reducible repeat (first | refine bn1 ?_ _ | refine bd1 ?_ | refine ba1 ?_ _)); exact BK187.out⟩, ⟨by repeat (first | (with_reducible first | exact HB.out | apply la1 | apply ln1 | apply ld1 | refine ls1 ?_ GE187.out) | exact HB.out)⟩⟩
    · rw [if_neg c5] at H
      have c5b0 : (a0_0 == 1) = false := beq_eq_false_iff_ne.mpr c5
      have c5b1 : (a0_0 != 1) = true := bne_iff_ne.mpr c5
      (first | rw [c5b0] | (simp only [i64_w, i32_w]; rw [c5b0]) | skip)
      by_cases c6 : a0_0 = 2
      · rw [if_pos c6] at H
        have c6b0 : (a0_0 == 2) = true := beq_iff_eq.mpr c6
        have c6b1 : (a0_0 != 2) = false := bne_eq_false_iff_eq.mpr c6
        clear c6
        have H' := Aside0.mk H
        clear H
        go_wp2
        go_meet
        case rel => exact ⟨_, ((a0_0 == 2)), (by first | rfl | (simp; done) | (simp [*]; done)), H', ⟨by first | omega | exact Nat.le_refl _⟩, ⟨by (with_reducible repeat (first | refine bn1 ?_ _ | refine bd1 ?_ | refine ba1 ?_ _)); exact BK187.out⟩, ⟨by repeat (first | (with_reducible first | exact HB.out | apply la1 | apply ln1 | apply ld1 | refine ls1 ?_ GE187.out) | exact HB.out)⟩⟩
      · rw [if_neg c6] at H
        have c6b0 : (a0_0 == 2) = false := beq_eq_false_iff_ne.mpr c6
        have c6b1 : (a0_0 != 2) = true := bne_iff_ne.mpr c6
        have H' := Aside0.mk H
        clear H
        go_wp2
        go_meet
        case rel => exact ⟨_, ((a0_0 == 3)), (by first | rfl | (simp; done) | (simp [*]; done)), H', ⟨by first | omega | exact Nat.le_refl _⟩, ⟨by (with_reducible repeat (first | refine bn1 ?_ _ | refine bd1 ?_ | refine ba1 ?_ _)); exact BK187.out⟩, ⟨by repeat (first | (with_reducible first | exact HB.out | apply la1 | apply ln1 | apply ld1 | refine ls1 ?_ GE187.out) | exact HB.out)⟩⟩
  case rest =>
    clear HC2
    try clear p2
    try clear c5
    try clear c5b0
    try clear c5b1
    try clear c6
    try clear c6b0
    try clear c6b1
    try clear hcz4_0
    try clear hcz4_1
    try clear hcz4_2
    try clear hcz4_3
    try clear hcz4_4
    try clear hcz4_5
    try clear hfz4_0
    try clear hfz4_1
    try clear hfz4_2
    try clear hfz4_3
    try clear hfz4_4
    try clear hfz4_5
    obtain ⟨kq, x6_1, rfl, HA, HJ1, BK187, HB⟩ := hcut
    cases kq with
    | zero => exact absurd HA.out (by simp [clavierref03_last.j0])
    | succ kj1 =>
      have H := HA.out
      clear HA
      simp only [clavierref03_last.j0] at H
      by_cases c7 : x6_1 = true
      · subst c7
        have H1 : (if a0_4 ≥ 64 then (some (decide (a0_4 ≤ 126))) else (some false)) = some r := by rw [if_pos rfl] at H; exact H
        clear H
        have H := H1
        clear H1
        by_cases c8 : a0_4 ≥ 64
        · rw [if_pos c8] at H
          have c8b0 : decide (64 ≤ a0_4) = true := decide_eq_true c8
          clear c8
          obtain rfl := Option.some.inj H
          have hcz9_0 : wc.cell? ⟨gb187, 0, none⟩ = some (.int .i64 a0_0) := (bc1 BK187.out 0).trans rfl
          have hcz9_1 : wc.cell? ⟨gb187, 1, none⟩ = some (.int .u8 a0_1) := (bc1 BK187.out 1).trans rfl
          have hcz9_2 : wc.cell? ⟨gb187, 2, none⟩ = some (.slice A0_2 l0_2.length c0_2) := (bc1 BK187.out 2).trans rfl
          have hcz9_3 : wc.cell? ⟨gb187, 3, none⟩ = some (.string a0_3) := (bc1 BK187.out 3).trans rfl
          have hcz9_4 : wc.cell? ⟨gb187, 4, none⟩ = some (.int .u8 a0_4) := (bc1 BK187.out 4).trans rfl
          have hcz9_5 : wc.cell? ⟨gb187, 5, none⟩ = some (.string a0_5) := (bc1 BK187.out 5).trans rfl
          have hfz9_0 := bz1 BK187.out 0
          have hfz9_1 := bz1 BK187.out 1
          have hfz9_2 := bz1 BK187.out 2
          have hfz9_3 := bz1 BK187.out 3
          have hfz9_4 := bz1 BK187.out 4
          have hfz9_5 := bz1 BK187.out 5
          go_wp2
          go_ret
          exact ⟨by first | rfl | (simp [errW_none, errW_some] <;> rfl) | (simp [*, errW_none, errW_some] <;> rfl), by repeat (first | (with_reducible first | exact HB.out | apply la1 | apply ln1 | apply ld1 | refine ls1 ?_ GE187.out) | exact HB.out)⟩
        · rw [if_neg c8] at H
          have c8b0 : decide (64 ≤ a0_4) = false := decide_eq_false c8
          clear c8
          obtain rfl := Option.some.inj H
          have hcz10_0 : wc.cell? ⟨gb187, 0, none⟩ = some (.int .i64 a0_0) := (bc1 BK187.out 0).trans rfl
          have hcz10_1 : wc.cell? ⟨gb187, 1, none⟩ = some (.int .u8 a0_1) := (bc1 BK187.out 1).trans rfl
          have hcz10_2 : wc.cell? ⟨gb187, 2, none⟩ = some (.slice A0_2 l0_2.length c0_2) := (bc1 BK187.out 2).trans rfl
          have hcz10_3 : wc.cell? ⟨gb187, 3, none⟩ = some (.string a0_3) := (bc1 BK187.out 3).trans rfl
          have hcz10_4 : wc.cell? ⟨gb187, 4, none⟩ = some (.int .u8 a0_4) := (bc1 BK187.out 4).trans rfl
          have hcz10_5 : wc.cell? ⟨gb187, 5, none⟩ = some (.string a0_5) := (bc1 BK187.out 5).trans rfl
          have hfz10_0 := bz1 BK187.out 0
          have hfz10_1 := bz1 BK187.out 1
          have hfz10_2 := bz1 BK187.out 2
          have hfz10_3 := bz1 BK187.out 3
          have hfz10_4 := bz1 BK187.out 4
          have hfz10_5 := bz1 BK187.out 5
          go_wp2
          go_ret
          exact ⟨by first | rfl | (simp [errW_none, errW_some] <;> rfl) | (simp [*, errW_none, errW_some] <;> rfl), by repeat (first | (with_reducible first | exact HB.out | apply la1 | apply ln1 | apply ld1 | refine ls1 ?_ GE187.out) | exact HB.out)⟩
      · replace c7 := Bool.eq_false_iff.mpr c7
        subst c7
        have H1 : (if a0_0 = 5 then (if a0_4 < 48 then (some false) else (if a0_4 > 126 then (some false) else (if (a0_3.size : Int) > 0 then (some true) else (if a0_4 = 79 then (some false) else (if a0_4 = 80 then (some false) else (if a0_4 = 88 then (some false) else (if a0_4 = 91 then (some false) else (if a0_4 = 93 then (some false) else (if a0_4 = 92 then (some false) else (if a0_4 = 94 then (some false) else (some (a0_4 != 95)))))))))))) else (if a0_0 = 4 then (some (a0_4 == 0)) else (some false))) = some r := by rw [if_neg (show ¬ (false = true) by decide)] at H; exact H
        clear H
        have H := H1
        clear H1
        by_cases c11 : a0_0 = 5
        · rw [if_pos c11] at H
          have c11b0 : (a0_0 == 5) = true := beq_iff_eq.mpr c11
          have c11b1 : (a0_0 != 5) = false := bne_eq_false_iff_eq.mpr c11
          clear c11
          by_cases c12 : a0_4 < 48
          · rw [if_pos c12] at H
            have c12b0 : decide (a0_4 < 48) = true := decide_eq_true c12
            clear c12
            obtain rfl := Option.some.inj H
            have hcz13_0 : wc.cell? ⟨gb187, 0, none⟩ = some (.int .i64 a0_0) := (bc1 BK187.out 0).trans rfl
            have hcz13_1 : wc.cell? ⟨gb187, 1, none⟩ = some (.int .u8 a0_1) := (bc1 BK187.out 1).trans rfl
            have hcz13_2 : wc.cell? ⟨gb187, 2, none⟩ = some (.slice A0_2 l0_2.length c0_2) := (bc1 BK187.out 2).trans rfl
            have hcz13_3 : wc.cell? ⟨gb187, 3, none⟩ = some (.string a0_3) := (bc1 BK187.out 3).trans rfl
            have hcz13_4 : wc.cell? ⟨gb187, 4, none⟩ = some (.int .u8 a0_4) := (bc1 BK187.out 4).trans rfl
            have hcz13_5 : wc.cell? ⟨gb187, 5, none⟩ = some (.string a0_5) := (bc1 BK187.out 5).trans rfl
            have hfz13_0 := bz1 BK187.out 0
            have hfz13_1 := bz1 BK187.out 1
            have hfz13_2 := bz1 BK187.out 2
            have hfz13_3 := bz1 BK187.out 3
            have hfz13_4 := bz1 BK187.out 4
            have hfz13_5 := bz1 BK187.out 5
            go_wp2
            go_ret
            exact ⟨by first | rfl | (simp [errW_none, errW_some] <;> rfl) | (simp [*, errW_none, errW_some] <;> rfl), by repeat (first | (with_reducible first | exact HB.out | apply la1 | apply ln1 | apply ld1 | refine ls1 ?_ GE187.out) | exact HB.out)⟩
          · rw [if_neg c12] at H
            have c12b0 : decide (a0_4 < 48) = false := decide_eq_false c12
            clear c12
            by_cases c14 : a0_4 > 126
            · rw [if_pos c14] at H
              have c14b0 : decide (126 < a0_4) = true := decide_eq_true c14
              clear c14
              obtain rfl := Option.some.inj H
              have hcz15_0 : wc.cell? ⟨gb187, 0, none⟩ = some (.int .i64 a0_0) := (bc1 BK187.out 0).trans rfl
              have hcz15_1 : wc.cell? ⟨gb187, 1, none⟩ = some (.int .u8 a0_1) := (bc1 BK187.out 1).trans rfl
              have hcz15_2 : wc.cell? ⟨gb187, 2, none⟩ = some (.slice A0_2 l0_2.length c0_2) := (bc1 BK187.out 2).trans rfl
              have hcz15_3 : wc.cell? ⟨gb187, 3, none⟩ = some (.string a0_3) := (bc1 BK187.out 3).trans rfl
              have hcz15_4 : wc.cell? ⟨gb187, 4, none⟩ = some (.int .u8 a0_4) := (bc1 BK187.out 4).trans rfl
              have hcz15_5 : wc.cell? ⟨gb187, 5, none⟩ = some (.string a0_5) := (bc1 BK187.out 5).trans rfl
              have hfz15_0 := bz1 BK187.out 0
              have hfz15_1 := bz1 BK187.out 1
              have hfz15_2 := bz1 BK187.out 2
              have hfz15_3 := bz1 BK187.out 3
              have hfz15_4 := bz1 BK187.out 4
              have hfz15_5 := bz1 BK187.out 5
              go_wp2
              go_ret
              exact ⟨by first | rfl | (simp [errW_none, errW_some] <;> rfl) | (simp [*, errW_none, errW_some] <;> rfl), by repeat (first | (with_reducible first | exact HB.out | apply la1 | apply ln1 | apply ld1 | refine ls1 ?_ GE187.out) | exact HB.out)⟩
            · rw [if_neg c14] at H
              have c14b0 : decide (126 < a0_4) = false := decide_eq_false c14
              clear c14
              by_cases c16 : (a0_3.size : Int) > 0
              · rw [if_pos c16] at H
                have c16b0 : decide (0 < (a0_3.size : Int)) = true := decide_eq_true c16
                have c16b1 : decide (0 < a0_3.size) = true := decide_eq_true (by omega)
                clear c16
                obtain rfl := Option.some.inj H
                have hcz17_0 : wc.cell? ⟨gb187, 0, none⟩ = some (.int .i64 a0_0) := (bc1 BK187.out 0).trans rfl
                have hcz17_1 : wc.cell? ⟨gb187, 1, none⟩ = some (.int .u8 a0_1) := (bc1 BK187.out 1).trans rfl
                have hcz17_2 : wc.cell? ⟨gb187, 2, none⟩ = some (.slice A0_2 l0_2.length c0_2) := (bc1 BK187.out 2).trans rfl
                have hcz17_3 : wc.cell? ⟨gb187, 3, none⟩ = some (.string a0_3) := (bc1 BK187.out 3).trans rfl
                have hcz17_4 : wc.cell? ⟨gb187, 4, none⟩ = some (.int .u8 a0_4) := (bc1 BK187.out 4).trans rfl
                have hcz17_5 : wc.cell? ⟨gb187, 5, none⟩ = some (.string a0_5) := (bc1 BK187.out 5).trans rfl
                have hfz17_0 := bz1 BK187.out 0
                have hfz17_1 := bz1 BK187.out 1
                have hfz17_2 := bz1 BK187.out 2
                have hfz17_3 := bz1 BK187.out 3
                have hfz17_4 := bz1 BK187.out 4
                have hfz17_5 := bz1 BK187.out 5
                go_wp2
                go_ret
                exact ⟨by first | rfl | (simp [errW_none, errW_some] <;> rfl) | (simp [*, errW_none, errW_some] <;> rfl), by repeat (first | (with_reducible first | exact HB.out | apply la1 | apply ln1 | apply ld1 | refine ls1 ?_ GE187.out) | exact HB.out)⟩
              · rw [if_neg c16] at H
                have c16b0 : decide (0 < (a0_3.size : Int)) = false := decide_eq_false c16
                have c16b1 : decide (0 < a0_3.size) = false := decide_eq_false (by omega)
                clear c16
                by_cases c18 : a0_4 = 79
                · rw [if_pos c18] at H
                  have c18b0 : (a0_4 == 79) = true := beq_iff_eq.mpr c18
                  have c18b1 : (a0_4 != 79) = false := bne_eq_false_iff_eq.mpr c18
                  clear c18
                  obtain rfl := Option.some.inj H
                  have hcz19_0 : wc.cell? ⟨gb187, 0, none⟩ = some (.int .i64 a0_0) := (bc1 BK187.out 0).trans rfl
                  have hcz19_1 : wc.cell? ⟨gb187, 1, none⟩ = some (.int .u8 a0_1) := (bc1 BK187.out 1).trans rfl
                  have hcz19_2 : wc.cell? ⟨gb187, 2, none⟩ = some (.slice A0_2 l0_2.length c0_2) := (bc1 BK187.out 2).trans rfl
                  have hcz19_3 : wc.cell? ⟨gb187, 3, none⟩ = some (.string a0_3) := (bc1 BK187.out 3).trans rfl
                  have hcz19_4 : wc.cell? ⟨gb187, 4, none⟩ = some (.int .u8 a0_4) := (bc1 BK187.out 4).trans rfl
                  have hcz19_5 : wc.cell? ⟨gb187, 5, none⟩ = some (.string a0_5) := (bc1 BK187.out 5).trans rfl
                  have hfz19_0 := bz1 BK187.out 0
                  have hfz19_1 := bz1 BK187.out 1
                  have hfz19_2 := bz1 BK187.out 2
                  have hfz19_3 := bz1 BK187.out 3
                  have hfz19_4 := bz1 BK187.out 4
                  have hfz19_5 := bz1 BK187.out 5
                  go_wp2
                  go_ret
                  exact ⟨by first | rfl | (simp [errW_none, errW_some] <;> rfl) | (simp [*, errW_none, errW_some] <;> rfl), by repeat (first | (with_reducible first | exact HB.out | apply la1 | apply ln1 | apply ld1 | refine ls1 ?_ GE187.out) | exact HB.out)⟩
                · rw [if_neg c18] at H
                  have c18b0 : (a0_4 == 79) = false := beq_eq_false_iff_ne.mpr c18
                  have c18b1 : (a0_4 != 79) = true := bne_iff_ne.mpr c18
                  by_cases c20 : a0_4 = 80
                  · rw [if_pos c20] at H
                    have c20b0 : (a0_4 == 80) = true := beq_iff_eq.mpr c20
                    have c20b1 : (a0_4 != 80) = false := bne_eq_false_iff_eq.mpr c20
                    clear c20
                    obtain rfl := Option.some.inj H
                    have hcz21_0 : wc.cell? ⟨gb187, 0, none⟩ = some (.int .i64 a0_0) := (bc1 BK187.out 0).trans rfl
                    have hcz21_1 : wc.cell? ⟨gb187, 1, none⟩ = some (.int .u8 a0_1) := (bc1 BK187.out 1).trans rfl
                    have hcz21_2 : wc.cell? ⟨gb187, 2, none⟩ = some (.slice A0_2 l0_2.length c0_2) := (bc1 BK187.out 2).trans rfl
                    have hcz21_3 : wc.cell? ⟨gb187, 3, none⟩ = some (.string a0_3) := (bc1 BK187.out 3).trans rfl
                    have hcz21_4 : wc.cell? ⟨gb187, 4, none⟩ = some (.int .u8 a0_4) := (bc1 BK187.out 4).trans rfl
                    have hcz21_5 : wc.cell? ⟨gb187, 5, none⟩ = some (.string a0_5) := (bc1 BK187.out 5).trans rfl
                    have hfz21_0 := bz1 BK187.out 0
                    have hfz21_1 := bz1 BK187.out 1
                    have hfz21_2 := bz1 BK187.out 2
                    have hfz21_3 := bz1 BK187.out 3
                    have hfz21_4 := bz1 BK187.out 4
                    have hfz21_5 := bz1 BK187.out 5
                    go_wp2
                    go_ret
                    exact ⟨by first | rfl | (simp [errW_none, errW_some] <;> rfl) | (simp [*, errW_none, errW_some] <;> rfl), by repeat (first | (with_reducible first | exact HB.out | apply la1 | apply ln1 | apply ld1 | refine ls1 ?_ GE187.out) | exact HB.out)⟩
                  · rw [if_neg c20] at H
                    have c20b0 : (a0_4 == 80) = false := beq_eq_false_iff_ne.mpr c20
                    have c20b1 : (a0_4 != 80) = true := bne_iff_ne.mpr c20
                    by_cases c22 : a0_4 = 88
                    · rw [if_pos c22] at H
                      have c22b0 : (a0_4 == 88) = true := beq_iff_eq.mpr c22
                      have c22b1 : (a0_4 != 88) = false := bne_eq_false_iff_eq.mpr c22
                      clear c22
                      obtain rfl := Option.some.inj H
                      have hcz23_0 : wc.cell? ⟨gb187, 0, none⟩ = some (.int .i64 a0_0) := (bc1 BK187.out 0).trans rfl
                      have hcz23_1 : wc.cell? ⟨gb187, 1, none⟩ = some (.int .u8 a0_1) := (bc1 BK187.out 1).trans rfl
                      have hcz23_2 : wc.cell? ⟨gb187, 2, none⟩ = some (.slice A0_2 l0_2.length c0_2) := (bc1 BK187.out 2).trans rfl
                      have hcz23_3 : wc.cell? ⟨gb187, 3, none⟩ = some (.string a0_3) := (bc1 BK187.out 3).trans rfl
                      have hcz23_4 : wc.cell? ⟨gb187, 4, none⟩ = some (.int .u8 a0_4) := (bc1 BK187.out 4).trans rfl
                      have hcz23_5 : wc.cell? ⟨gb187, 5, none⟩ = some (.string a0_5) := (bc1 BK187.out 5).trans rfl
                      have hfz23_0 := bz1 BK187.out 0
                      have hfz23_1 := bz1 BK187.out 1
                      have hfz23_2 := bz1 BK187.out 2
                      have hfz23_3 := bz1 BK187.out 3
                      have hfz23_4 := bz1 BK187.out 4
                      have hfz23_5 := bz1 BK187.out 5
                      go_wp2
                      go_ret
                      exact ⟨by first | rfl | (simp [errW_none, errW_some] <;> rfl) | (simp [*, errW_none, errW_some] <;> rfl), by repeat (first | (with_reducible first | exact HB.out | apply la1 | apply ln1 | apply ld1 | refine ls1 ?_ GE187.out) | exact HB.out)⟩
                    · rw [if_neg c22] at H
                      have c22b0 : (a0_4 == 88) = false := beq_eq_false_iff_ne.mpr c22
                      have c22b1 : (a0_4 != 88) = true := bne_iff_ne.mpr c22
                      by_cases c24 : a0_4 = 91
                      · rw [if_pos c24] at H
                        have c24b0 : (a0_4 == 91) = true := beq_iff_eq.mpr c24
                        have c24b1 : (a0_4 != 91) = false := bne_eq_false_iff_eq.mpr c24
                        clear c24
                        obtain rfl := Option.some.inj H
                        have hcz25_0 : wc.cell? ⟨gb187, 0, none⟩ = some (.int .i64 a0_0) := (bc1 BK187.out 0).trans rfl
                        have hcz25_1 : wc.cell? ⟨gb187, 1, none⟩ = some (.int .u8 a0_1) := (bc1 BK187.out 1).trans rfl
                        have hcz25_2 : wc.cell? ⟨gb187, 2, none⟩ = some (.slice A0_2 l0_2.length c0_2) := (bc1 BK187.out 2).trans rfl
                        have hcz25_3 : wc.cell? ⟨gb187, 3, none⟩ = some (.string a0_3) := (bc1 BK187.out 3).trans rfl
                        have hcz25_4 : wc.cell? ⟨gb187, 4, none⟩ = some (.int .u8 a0_4) := (bc1 BK187.out 4).trans rfl
                        have hcz25_5 : wc.cell? ⟨gb187, 5, none⟩ = some (.string a0_5) := (bc1 BK187.out 5).trans rfl
                        have hfz25_0 := bz1 BK187.out 0
                        have hfz25_1 := bz1 BK187.out 1
                        have hfz25_2 := bz1 BK187.out 2
                        have hfz25_3 := bz1 BK187.out 3
                        have hfz25_4 := bz1 BK187.out 4
                        have hfz25_5 := bz1 BK187.out 5
                        go_wp2
                        go_ret
                        exact ⟨by first | rfl | (simp [errW_none, errW_some] <;> rfl) | (simp [*, errW_none, errW_some] <;> rfl), by repeat (first | (with_reducible first | exact HB.out | apply la1 | apply ln1 | apply ld1 | refine ls1 ?_ GE187.out) | exact HB.out)⟩
                      · rw [if_neg c24] at H
                        have c24b0 : (a0_4 == 91) = false := beq_eq_false_iff_ne.mpr c24
                        have c24b1 : (a0_4 != 91) = true := bne_iff_ne.mpr c24
                        by_cases c26 : a0_4 = 93
                        · rw [if_pos c26] at H
                          have c26b0 : (a0_4 == 93) = true := beq_iff_eq.mpr c26
                          have c26b1 : (a0_4 != 93) = false := bne_eq_false_iff_eq.mpr c26
                          clear c26
                          obtain rfl := Option.some.inj H
                          have hcz27_0 : wc.cell? ⟨gb187, 0, none⟩ = some (.int .i64 a0_0) := (bc1 BK187.out 0).trans rfl
                          have hcz27_1 : wc.cell? ⟨gb187, 1, none⟩ = some (.int .u8 a0_1) := (bc1 BK187.out 1).trans rfl
                          have hcz27_2 : wc.cell? ⟨gb187, 2, none⟩ = some (.slice A0_2 l0_2.length c0_2) := (bc1 BK187.out 2).trans rfl
                          have hcz27_3 : wc.cell? ⟨gb187, 3, none⟩ = some (.string a0_3) := (bc1 BK187.out 3).trans rfl
                          have hcz27_4 : wc.cell? ⟨gb187, 4, none⟩ = some (.int .u8 a0_4) := (bc1 BK187.out 4).trans rfl
                          have hcz27_5 : wc.cell? ⟨gb187, 5, none⟩ = some (.string a0_5) := (bc1 BK187.out 5).trans rfl
                          have hfz27_0 := bz1 BK187.out 0
                          have hfz27_1 := bz1 BK187.out 1
                          have hfz27_2 := bz1 BK187.out 2
                          have hfz27_3 := bz1 BK187.out 3
                          have hfz27_4 := bz1 BK187.out 4
                          have hfz27_5 := bz1 BK187.out 5
                          go_wp2
                          go_ret
                          exact ⟨by first | rfl | (simp [errW_none, errW_some] <;> rfl) | (simp [*, errW_none, errW_some] <;> rfl), by repeat (first | (with_reducible first | exact HB.out | apply la1 | apply ln1 | apply ld1 | refine ls1 ?_ GE187.out) | exact HB.out)⟩
                        · rw [if_neg c26] at H
                          have c26b0 : (a0_4 == 93) = false := beq_eq_false_iff_ne.mpr c26
                          have c26b1 : (a0_4 != 93) = true := bne_iff_ne.mpr c26
                          by_cases c28 : a0_4 = 92
                          · rw [if_pos c28] at H
                            have c28b0 : (a0_4 == 92) = true := beq_iff_eq.mpr c28
                            have c28b1 : (a0_4 != 92) = false := bne_eq_false_iff_eq.mpr c28
                            clear c28
                            obtain rfl := Option.some.inj H
                            have hcz29_0 : wc.cell? ⟨gb187, 0, none⟩ = some (.int .i64 a0_0) := (bc1 BK187.out 0).trans rfl
                            have hcz29_1 : wc.cell? ⟨gb187, 1, none⟩ = some (.int .u8 a0_1) := (bc1 BK187.out 1).trans rfl
                            have hcz29_2 : wc.cell? ⟨gb187, 2, none⟩ = some (.slice A0_2 l0_2.length c0_2) := (bc1 BK187.out 2).trans rfl
                            have hcz29_3 : wc.cell? ⟨gb187, 3, none⟩ = some (.string a0_3) := (bc1 BK187.out 3).trans rfl
                            have hcz29_4 : wc.cell? ⟨gb187, 4, none⟩ = some (.int .u8 a0_4) := (bc1 BK187.out 4).trans rfl
                            have hcz29_5 : wc.cell? ⟨gb187, 5, none⟩ = some (.string a0_5) := (bc1 BK187.out 5).trans rfl
                            have hfz29_0 := bz1 BK187.out 0
                            have hfz29_1 := bz1 BK187.out 1
                            have hfz29_2 := bz1 BK187.out 2
                            have hfz29_3 := bz1 BK187.out 3
                            have hfz29_4 := bz1 BK187.out 4
                            have hfz29_5 := bz1 BK187.out 5
                            go_wp2
                            go_ret
                            exact ⟨by first | rfl | (simp [errW_none, errW_some] <;> rfl) | (simp [*, errW_none, errW_some] <;> rfl), by repeat (first | (with_reducible first | exact HB.out | apply la1 | apply ln1 | apply ld1 | refine ls1 ?_ GE187.out) | exact HB.out)⟩
                          · rw [if_neg c28] at H
                            have c28b0 : (a0_4 == 92) = false := beq_eq_false_iff_ne.mpr c28
                            have c28b1 : (a0_4 != 92) = true := bne_iff_ne.mpr c28
                            by_cases c30 : a0_4 = 94
                            · rw [if_pos c30] at H
                              have c30b0 : (a0_4 == 94) = true := beq_iff_eq.mpr c30
                              have c30b1 : (a0_4 != 94) = false := bne_eq_false_iff_eq.mpr c30
                              clear c30
                              obtain rfl := Option.some.inj H
                              have hcz31_0 : wc.cell? ⟨gb187, 0, none⟩ = some (.int .i64 a0_0) := (bc1 BK187.out 0).trans rfl
                              have hcz31_1 : wc.cell? ⟨gb187, 1, none⟩ = some (.int .u8 a0_1) := (bc1 BK187.out 1).trans rfl
                              have hcz31_2 : wc.cell? ⟨gb187, 2, none⟩ = some (.slice A0_2 l0_2.length c0_2) := (bc1 BK187.out 2).trans rfl
                              have hcz31_3 : wc.cell? ⟨gb187, 3, none⟩ = some (.string a0_3) := (bc1 BK187.out 3).trans rfl
                              have hcz31_4 : wc.cell? ⟨gb187, 4, none⟩ = some (.int .u8 a0_4) := (bc1 BK187.out 4).trans rfl
                              have hcz31_5 : wc.cell? ⟨gb187, 5, none⟩ = some (.string a0_5) := (bc1 BK187.out 5).trans rfl
                              have hfz31_0 := bz1 BK187.out 0
                              have hfz31_1 := bz1 BK187.out 1
                              have hfz31_2 := bz1 BK187.out 2
                              have hfz31_3 := bz1 BK187.out 3
                              have hfz31_4 := bz1 BK187.out 4
                              have hfz31_5 := bz1 BK187.out 5
                              go_wp2
                              go_ret
                              exact ⟨by first | rfl | (simp [errW_none, errW_some] <;> rfl) | (simp [*, errW_none, errW_some] <;> rfl), by repeat (first | (with_reducible first | exact HB.out | apply la1 | apply ln1 | apply ld1 | refine ls1 ?_ GE187.out) | exact HB.out)⟩
                            · rw [if_neg c30] at H
                              have c30b0 : (a0_4 == 94) = false := beq_eq_false_iff_ne.mpr c30
                              have c30b1 : (a0_4 != 94) = true := bne_iff_ne.mpr c30
                              obtain rfl := Option.some.inj H
                              have hcz32_0 : wc.cell? ⟨gb187, 0, none⟩ = some (.int .i64 a0_0) := (bc1 BK187.out 0).trans rfl
                              have hcz32_1 : wc.cell? ⟨gb187, 1, none⟩ = some (.int .u8 a0_1) := (bc1 BK187.out 1).trans rfl
                              have hcz32_2 : wc.cell? ⟨gb187, 2, none⟩ = some (.slice A0_2 l0_2.length c0_2) := (bc1 BK187.out 2).trans rfl
                              have hcz32_3 : wc.cell? ⟨gb187, 3, none⟩ = some (.string a0_3) := (bc1 BK187.out 3).trans rfl
                              have hcz32_4 : wc.cell? ⟨gb187, 4, none⟩ = some (.int .u8 a0_4) := (bc1 BK187.out 4).trans rfl
                              have hcz32_5 : wc.cell? ⟨gb187, 5, none⟩ = some (.string a0_5) := (bc1 BK187.out 5).trans rfl
                              have hfz32_0 := bz1 BK187.out 0
                              have hfz32_1 := bz1 BK187.out 1
                              have hfz32_2 := bz1 BK187.out 2
                              have hfz32_3 := bz1 BK187.out 3
                              have hfz32_4 := bz1 BK187.out 4
                              have hfz32_5 := bz1 BK187.out 5
                              go_wp2
                              go_ret
                              exact ⟨by first | rfl | (simp [errW_none, errW_some] <;> rfl) | (simp [*, errW_none, errW_some] <;> rfl), by repeat (first | (with_reducible first | exact HB.out | apply la1 | apply ln1 | apply ld1 | refine ls1 ?_ GE187.out) | exact HB.out)⟩
        · rw [if_neg c11] at H
          have c11b0 : (a0_0 == 5) = false := beq_eq_false_iff_ne.mpr c11
          have c11b1 : (a0_0 != 5) = true := bne_iff_ne.mpr c11
          by_cases c33 : a0_0 = 4
          · rw [if_pos c33] at H
            have c33b0 : (a0_0 == 4) = true := beq_iff_eq.mpr c33
            have c33b1 : (a0_0 != 4) = false := bne_eq_false_iff_eq.mpr c33
            clear c33
            obtain rfl := Option.some.inj H
            have hcz34_0 : wc.cell? ⟨gb187, 0, none⟩ = some (.int .i64 a0_0) := (bc1 BK187.out 0).trans rfl
            have hcz34_1 : wc.cell? ⟨gb187, 1, none⟩ = some (.int .u8 a0_1) := (bc1 BK187.out 1).trans rfl
            have hcz34_2 : wc.cell? ⟨gb187, 2, none⟩ = some (.slice A0_2 l0_2.length c0_2) := (bc1 BK187.out 2).trans rfl
            have hcz34_3 : wc.cell? ⟨gb187, 3, none⟩ = some (.string a0_3) := (bc1 BK187.out 3).trans rfl
            have hcz34_4 : wc.cell? ⟨gb187, 4, none⟩ = some (.int .u8 a0_4) := (bc1 BK187.out 4).trans rfl
            have hcz34_5 : wc.cell? ⟨gb187, 5, none⟩ = some (.string a0_5) := (bc1 BK187.out 5).trans rfl
            have hfz34_0 := bz1 BK187.out 0
            have hfz34_1 := bz1 BK187.out 1
            have hfz34_2 := bz1 BK187.out 2
            have hfz34_3 := bz1 BK187.out 3
            have hfz34_4 := bz1 BK187.out 4
            have hfz34_5 := bz1 BK187.out 5
            go_wp2
            go_ret
            exact ⟨by first | rfl | (simp [errW_none, errW_some] <;> rfl) | (simp [*, errW_none, errW_some] <;> rfl), by repeat (first | (with_reducible first | exact HB.out | apply la1 | apply ln1 | apply ld1 | refine ls1 ?_ GE187.out) | exact HB.out)⟩
          · rw [if_neg c33] at H
            have c33b0 : (a0_0 == 4) = false := beq_eq_false_iff_ne.mpr c33
            have c33b1 : (a0_0 != 4) = true := bne_iff_ne.mpr c33
            obtain rfl := Option.some.inj H
            have hcz35_0 : wc.cell? ⟨gb187, 0, none⟩ = some (.int .i64 a0_0) := (bc1 BK187.out 0).trans rfl
            have hcz35_1 : wc.cell? ⟨gb187, 1, none⟩ = some (.int .u8 a0_1) := (bc1 BK187.out 1).trans rfl
            have hcz35_2 : wc.cell? ⟨gb187, 2, none⟩ = some (.slice A0_2 l0_2.length c0_2) := (bc1 BK187.out 2).trans rfl
            have hcz35_3 : wc.cell? ⟨gb187, 3, none⟩ = some (.string a0_3) := (bc1 BK187.out 3).trans rfl
            have hcz35_4 : wc.cell? ⟨gb187, 4, none⟩ = some (.int .u8 a0_4) := (bc1 BK187.out 4).trans rfl
            have hcz35_5 : wc.cell? ⟨gb187, 5, none⟩ = some (.string a0_5) := (bc1 BK187.out 5).trans rfl
            have hfz35_0 := bz1 BK187.out 0
            have hfz35_1 := bz1 BK187.out 1
            have hfz35_2 := bz1 BK187.out 2
            have hfz35_3 := bz1 BK187.out 3
            have hfz35_4 := bz1 BK187.out 4
            have hfz35_5 := bz1 BK187.out 5
            go_wp2
            go_ret
            exact ⟨by first | rfl | (simp [errW_none, errW_some] <;> rfl) | (simp [*, errW_none, errW_some] <;> rfl), by repeat (first | (with_reducible first | exact HB.out | apply la1 | apply ln1 | apply ld1 | refine ls1 ?_ GE187.out) | exact HB.out)⟩
end Go.Proofs.YtopcleljecdkkaaDoor.G
end
section
namespace Go.Proofs.YtopcleljecdkkaaDoor.G
open Go.RowKit Go.Proofs.YtopcleljecdkkaaDoorW.PrintWords Go.Proofs.YtopcleljecdkkaaDoorW.PrintLast Go.Proofs.YtopcleljecdkkaaDoorW.PrintMore
attribute [local go_sem] max2_int min2_int max_two min_two max_three min_three max_four min_four
set_option linter.unusedVariables false
set_option linter.unusedSimpArgs false
mutual
def clavierref03_bare.j0 : Nat → Bool → Int → Int → List (List Int) → ByteArray → Int → ByteArray → Option (Bool)
  | 0, _, _, _, _, _, _, _ => none
  | k + 1, x3, x189000, x189001, x189002, x189003, x189004, x189005 => if x3 = true then (if x189001 = 0 then (clavierref03_bare.j1 k (decide ((x189002.length : Int) > 0)) x189000 x189001 x189002 x189003 x189004 x189005) else (clavierref03_bare.j1 k true x189000 x189001 x189002 x189003 x189004 x189005)) else (clavierref03_bare.j1 k false x189000 x189001 x189002 x189003 x189004 x189005)
def clavierref03_bare.j1 : Nat → Bool → Int → Int → List (List Int) → ByteArray → Int → ByteArray → Option (Bool)
  | 0, _, _, _, _, _, _, _ => none
  | k + 1, x28, x189000, x189001, x189002, x189003, x189004, x189005 => if x28 = true then (some false) else (if x189000 = 2 then (if x189003.toList = ([] : List UInt8) then (if x189005.toList = ([] : List UInt8) then (some true) else (if x189000 = 3 then (some true) else (some (x189000 == 4)))) else (some false)) else (if x189000 = 4 then (if x189003.toList = ([] : List UInt8) then (if x189005.toList = ([] : List UInt8) then (some true) else (if x189000 = 3 then (some true) else (some (x189000 == 4)))) else (some false)) else (if x189005.toList = ([] : List UInt8) then (some true) else (if x189000 = 3 then (some true) else (some (x189000 == 4))))))
end
def clavierref03_bare.f (k : Nat) (a0_0 : Int) (a0_1 : Int) (l0_2 : List (List Int)) (a0_3 : ByteArray) (a0_4 : Int) (a0_5 : ByteArray) : Option (Bool) := if a0_0 = 2 then (clavierref03_bare.j0 k true a0_0 a0_1 l0_2 a0_3 a0_4 a0_5) else (if a0_0 = 4 then (clavierref03_bare.j0 k true a0_0 a0_1 l0_2 a0_3 a0_4 a0_5) else (clavierref03_bare.j0 k (a0_0 == 5) a0_0 a0_1 l0_2 a0_3 a0_4 a0_5))
theorem clavierref03_bare.mono_l : ∀ k, (∀ y0 y1 y2 y3 y4 y5 y6, LeO (clavierref03_bare.j0 k y0 y1 y2 y3 y4 y5 y6) (clavierref03_bare.j0 (k + 1) y0 y1 y2 y3 y4 y5 y6)) ∧ (∀ y0 y1 y2 y3 y4 y5 y6, LeO (clavierref03_bare.j1 k y0 y1 y2 y3 y4 y5 y6) (clavierref03_bare.j1 (k + 1) y0 y1 y2 y3 y4 y5 y6))
  | 0 => ⟨fun _ _ _ _ _ _ _ r h => by simp [clavierref03_bare.j0] at h, fun _ _ _ _ _ _ _ r h => by simp [clavierref03_bare.j1] at h⟩
  | k + 1 => by
    obtain ⟨ih0, ih1⟩ := clavierref03_bare.mono_l k
    refine ⟨?_, ?_⟩
    · intro y0 y1 y2 y3 y4 y5 y6
      unfold clavierref03_bare.j0
      repeat' first
      | (with_reducible exact ih0 _ _ _ _ _ _ _)
      | (with_reducible exact ih1 _ _ _ _ _ _ _)
      | (with_reducible exact LeO.refl _)
      | (with_reducible exact LeO.none _)
      | (with_reducible refine LeO.ite ?_ ?_)
      | (with_reducible refine LeO.bind ?_ (fun _ => ?_))
      | exact ih0 _ _ _ _ _ _ _
      | exact ih1 _ _ _ _ _ _ _
      | exact LeO.none _
      | refine LeO.ite ?_ ?_
      | refine LeO.bind ?_ (fun _ => ?_)
    · intro y0 y1 y2 y3 y4 y5 y6
      unfold clavierref03_bare.j1
      repeat' first
      | (with_reducible exact ih0 _ _ _ _ _ _ _)
      | (with_reducible exact ih1 _ _ _ _ _ _ _)
      | (with_reducible exact LeO.refl _)
      | (with_reducible exact LeO.none _)
      | (with_reducible refine LeO.ite ?_ ?_)
      | (with_reducible refine LeO.bind ?_ (fun _ => ?_))
      | exact ih0 _ _ _ _ _ _ _
      | exact ih1 _ _ _ _ _ _ _
      | exact LeO.none _
      | refine LeO.ite ?_ ?_
      | refine LeO.bind ?_ (fun _ => ?_)
theorem clavierref03_bare.mono : ∀ a0 a1 a2 a3 a4 a5 k, LeO (clavierref03_bare.f k a0 a1 a2 a3 a4 a5) (clavierref03_bare.f (k + 1) a0 a1 a2 a3 a4 a5) := by
  intro a0 a1 a2 a3 a4 a5 k
  obtain ⟨ih0, ih1⟩ := clavierref03_bare.mono_l k
  unfold clavierref03_bare.f
  repeat' first
      | (with_reducible exact ih0 _ _ _ _ _ _ _)
      | (with_reducible exact ih1 _ _ _ _ _ _ _)
      | (with_reducible exact LeO.refl _)
      | (with_reducible exact LeO.none _)
      | (with_reducible refine LeO.ite ?_ ?_)
      | (with_reducible refine LeO.bind ?_ (fun _ => ?_))
      | exact ih0 _ _ _ _ _ _ _
      | exact ih1 _ _ _ _ _ _ _
      | exact LeO.none _
      | refine LeO.ite ?_ ?_
      | refine LeO.bind ?_ (fun _ => ?_)
set_option maxHeartbeats 8000000 in
set_option maxRecDepth 100000 in
theorem clavierref03_bare.calls (k : Nat) (a0_0 : Int) (a0_1 : Int) (A0_2 : Option Addr) (c0_2 : Nat) (l0_2 : List (List Int)) (a0_3 : ByteArray) (a0_4 : Int) (a0_5 : ByteArray) (r : Bool) (w : World) (hr0_2 : Kd.C (Kd.slice 3 (Kd.int .i64)) w A0_2 l0_2.length l0_2) (hc0_2 : l0_2.length ≤ c0_2) (h : clavierref03_bare.f k a0_0 a0_1 l0_2 a0_3 a0_4 a0_5 = some r) :
    Calls Tryd.prog 52 #[.agg #[.int .i64 a0_0, .int .u8 a0_1, .slice A0_2 l0_2.length c0_2, .string a0_3, .int .u8 a0_4, .string a0_5]] w fun e w' => e = .returned (.bool r) ∧ Below w.heap.size w w' := by
  have hu30 := Tryd.underlying30
  have HR0_2 := Aside0.mk hr0_2
  have HC0_2 := Aside0.mk hc0_2
  clear hr0_2 hc0_2
  have HB := Aside0.mk (Below.refl w.heap.size w)
  have H : (if a0_0 = 2 then (clavierref03_bare.j0 k true a0_0 a0_1 l0_2 a0_3 a0_4 a0_5) else (if a0_0 = 4 then (clavierref03_bare.j0 k true a0_0 a0_1 l0_2 a0_3 a0_4 a0_5) else (clavierref03_bare.j0 k (a0_0 == 5) a0_0 a0_1 l0_2 a0_3 a0_4 a0_5))) = some r := h
  clear h
  have HC2 := Aside0.mk H
  clear H
  go_enter Tryd.func52, Tryd.ntmps52
  go_upto_region 1 with (first | ((with_reducible refine gate_dst (N := 1) rfl ?_); (try (refine gate_guard (by rfl) ?_; dsimp only)); refine box_event ?hg (N := 1) ?hd (cs := #[.int .i64 a0_0, .int .u8 a0_1, .slice A0_2 l0_2.length c0_2, .string a0_3, .int .u8 a0_4, .string a0_5]) (t := 30) ?hr ?_; (case hd => rfl); (case hg => rfl); (case hr => first | (go_simp; done) | (go_simp; rfl)); intro gb188 hg w3 hbox hb; have n0_ := Aside0.mk (below_step (by repeat (first | (with_reducible first | exact HB.out | apply la1 | apply ln1 | apply ld1) | exact HB.out)) hb); have n1_ := Aside0.mk (hbox); have n2_ := Aside0.mk ((by rw [hg]; exact (below_size (by repeat (first | (with_reducible first | exact HB.out | apply la1 | apply ln1 | apply ld1) | exact HB.out))) : w.heap.size ≤ gb188)); have n3_ := Aside0.mk ((by rw [hg]; exact (below_size (by repeat (first | (with_reducible first | exact HB.out | apply la1 | apply ln1 | apply ld1) | exact HB.out))) : w.heap.size ≤ gb188)); clear HB; have HB := n0_; have BK188 := n1_; have GW188 := n2_; have GE188 := n3_; clear n0_ n1_ n2_ n3_; clear hb hbox hg))
  (try simp only [Act.put, List.setIfInBounds_toArray, List.set_cons_zero, List.set_cons_succ])
  go_cut [3] (fun v3 wc => ∃ (kq : Nat) (x3_1 : Bool), v3 = .bool x3_1 ∧ Aside0 (clavierref03_bare.j0 kq x3_1 a0_0 a0_1 l0_2 a0_3 a0_4 a0_5 = some r) ∧ Aside0 (kq ≤ k) ∧ Aside0 (wc.heap[gb188]? = some (.cells #[.int .i64 a0_0, .int .u8 a0_1, (.slice A0_2 l0_2.length c0_2), .string a0_3, .int .u8 a0_4, .string a0_5] 30 (0, 0))) ∧ Aside0 (Below w.heap.size w wc))
  case first =>
    have H := HC2.out
    clear HC2
    by_cases c4 : a0_0 = 2
    · rw [if_pos c4] at H
      have c4b0 : (a0_0 == 2) = true := beq_iff_eq.mpr c4
      have c4b1 : (a0_0 != 2) = false := bne_eq_false_iff_eq.mpr c4
      clear c4
      (first | rw [c4b0] | (simp only [i64_w, i32_w]; rw [c4b0]) | skip)
      have H' := Aside0.mk H
      clear H
      have hcz5_0 : w3.cell? ⟨gb188, 0, none⟩ = some (.int .i64 a0_0) := (bc1 BK188.out 0).trans rfl
      have hcz5_1 : w3.cell? ⟨gb188, 1, none⟩ = some (.int .u8 a0_1) := (bc1 BK188.out 1).trans rfl
      have hcz5_2 : w3.cell? ⟨gb188, 2, none⟩ = some (.slice A0_2 l0_2.length c0_2) := (bc1 BK188.out 2).trans rfl
      have hcz5_3 : w3.cell? ⟨gb188, 3, none⟩ = some (.string a0_3) := (bc1 BK188.out 3).trans rfl
      have hcz5_4 : w3.cell? ⟨gb188, 4, none⟩ = some (.int .u8 a0_4) := (bc1 BK188.out 4).trans rfl
      have hcz5_5 : w3.cell? ⟨gb188, 5, none⟩ = some (.string a0_5) := (bc1 BK188.out 5).trans rfl
      have hfz5_0 := bz1 BK188.out 0
      have hfz5_1 := bz1 BK188.out 1
      have hfz5_2 := bz1 BK188.out 2
      have hfz5_3 := bz1 BK188.out 3
      have hfz5_4 := bz1 BK188.out 4
      have hfz5_5 := bz1 BK188.out 5
      go_wp2
      go_meet
      case rel => exact ⟨_, (true), (by first | rfl | (simp; done) | (simp [*]; done)), H', ⟨by first | omega | exact Nat.le_refl _⟩, ⟨by (with_reducible repeat (first | refine bn1 ?_ _ | refine bd1 ?_ | refine ba1 ?_ _)); exact BK188.out⟩, ⟨by repeat (first | (with_reducible first | exact HB.out | apply la1 | apply ln1 | apply ld1 | refine ls1 ?_ GE188.out) | exact HB.out)⟩⟩
    · rw [if_neg c4] at H
      have c4b0 : (a0_0 == 2) = false := beq_eq_false_iff_ne.mpr c4
      have c4b1 : (a0_0 != 2) = true := bne_iff_ne.mpr c4
      (first | rw [c4b0] | (simp only [i64_w, i32_w]; rw [c4b0]) | skip)
      by_cases c6 : a0_0 = 4
      · rw [if_pos c6] at H
        have c6b0 : (a0_0 == 4) = true := beq_iff_eq.mpr c6
        have c6b1 : (a0_0 != 4) = false := bne_eq_false_iff_eq.mpr c6
        clear c6
        have H' := Aside0.mk H
        clear H
        have hcz7_0 : w3.cell? ⟨gb188, 0, none⟩ = some (.int .i64 a0_0) := (bc1 BK188.out 0).trans rfl
        have hcz7_1 : w3.cell? ⟨gb188, 1, none⟩ = some (.int .u8 a0_1) := (bc1 BK188.out 1).trans rfl
        have hcz7_2 : w3.cell? ⟨gb188, 2, none⟩ = some (.slice A0_2 l0_2.length c0_2) := (bc1 BK188.out 2).trans rfl
        have hcz7_3 : w3.cell? ⟨gb188, 3, none⟩ = some (.string a0_3) := (bc1 BK188.out 3).trans rfl
        have hcz7_4 : w3.cell? ⟨gb188, 4, none⟩ = some (.int .u8 a0_4) := (bc1 BK188.out 4).trans rfl
        have hcz7_5 : w3.cell? ⟨gb188, 5, none⟩ = some (.string a0_5) := (bc1 BK188.out 5).trans rfl
        have hfz7_0 := bz1 BK188.out 0
        have hfz7_1 := bz1 BK188.out 1
        have hfz7_2 := bz1 BK188.out 2
        have hfz7_3 := bz1 BK188.out 3
        have hfz7_4 := bz1 BK188.out 4
        have hfz7_5 := bz1 BK188.out 5
        go_wp2
        go_meet
        case rel => exact ⟨_, (true), (by first | rfl | (simp; done) | (simp [*]; done)), H', ⟨by first | omega | exact Nat.le_refl _⟩, ⟨by (with_reducible repeat (first | refine bn1 ?_ _ | refine bd1 ?_ | refine ba1 ?_ _)); exact BK188.out⟩, ⟨by repeat (first | (with_reducible first | exact HB.out | apply la1 | apply ln1 | apply ld1 | refine ls1 ?_ GE188.out) | exact HB.out)⟩⟩
      · rw [if_neg c6] at H
        have c6b0 : (a0_0 == 4) = false := beq_eq_false_iff_ne.mpr c6
        have c6b1 : (a0_0 != 4) = true := bne_iff_ne.mpr c6
        have H' := Aside0.mk H
        clear H
        have hcz8_0 : w3.cell? ⟨gb188, 0, none⟩ = some (.int .i64 a0_0) := (bc1 BK188.out 0).trans rfl
        have hcz8_1 : w3.cell? ⟨gb188, 1, none⟩ = some (.int .u8 a0_1) := (bc1 BK188.out 1).trans rfl
        have hcz8_2 : w3.cell? ⟨gb188, 2, none⟩ = some (.slice A0_2 l0_2.length c0_2) := (bc1 BK188.out 2).trans rfl
        have hcz8_3 : w3.cell? ⟨gb188, 3, none⟩ = some (.string a0_3) := (bc1 BK188.out 3).trans rfl
        have hcz8_4 : w3.cell? ⟨gb188, 4, none⟩ = some (.int .u8 a0_4) := (bc1 BK188.out 4).trans rfl
        have hcz8_5 : w3.cell? ⟨gb188, 5, none⟩ = some (.string a0_5) := (bc1 BK188.out 5).trans rfl
        have hfz8_0 := bz1 BK188.out 0
        have hfz8_1 := bz1 BK188.out 1
        have hfz8_2 := bz1 BK188.out 2
        have hfz8_3 := bz1 BK188.out 3
        have hfz8_4 := bz1 BK188.out 4
        have hfz8_5 := bz1 BK188.out 5
        go_wp2
        go_meet
        case rel => exact ⟨_, ((a0_0 == 5)), (by first | rfl | (simp; done) | (simp [*]; done)), H', ⟨by first | omega | exact Nat.le_refl _⟩, ⟨by (with_reducible repeat (first | refine bn1 ?_ _ | refine bd1 ?_ | refine ba1 ?_ _)); exact BK188.out⟩, ⟨by repeat (first | (with_reducible first | exact HB.out | apply la1 | apply ln1 | apply ld1 | refine ls1 ?_ GE188.out) | exact HB.out)⟩⟩
  case rest =>
    clear HC2
    try clear p2
    try clear c4
    try clear c4b0
    try clear c4b1
    try clear c5
    try clear c6
    try clear c6b0
    try clear c6b1
    try clear hcz5_0
    try clear hcz5_1
    try clear hcz5_2
    try clear hcz5_3
    try clear hcz5_4
    try clear hcz5_5
    try clear hcz7_0
    try clear hcz7_1
    try clear hcz7_2
    try clear hcz7_3
    try clear hcz7_4
    try clear hcz7_5
    try clear hcz8_0
    try clear hcz8_1
    try clear hcz8_2
    try clear hcz8_3
    try clear hcz8_4
    try clear hcz8_5
    try clear hfz5_0
    try clear hfz5_1
    try clear hfz5_2
    try clear hfz5_3
    try clear hfz5_4
    try clear hfz5_5
    try clear hfz7_0
    try clear hfz7_1
    try clear hfz7_2
    try clear hfz7_3
    try clear hfz7_4
    try clear hfz7_5
    try clear hfz8_0
    try clear hfz8_1
    try clear hfz8_2
    try clear hfz8_3
    try clear hfz8_4
    try clear hfz8_5
    obtain ⟨kq, x3_1, rfl, HA, HJ1, BK188, HB⟩ := hcut
    cases kq with
    | zero => exact absurd HA.out (by simp [clavierref03_bare.j0])
    | succ kj1 =>
      have H := HA.out
      clear HA
      simp only [clavierref03_bare.j0] at H
      have HC9 := Aside0.mk H
      clear H
      go_upto_region 2 with (fail)
      go_cut [28] (fun v28 wc => ∃ (kq : Nat) (x28_8 : Bool), v28 = .bool x28_8 ∧ Aside0 (clavierref03_bare.j1 kq x28_8 a0_0 a0_1 l0_2 a0_3 a0_4 a0_5 = some r) ∧ Aside0 (kq ≤ kj1) ∧ Aside0 (wc.heap[gb188]? = some (.cells #[.int .i64 a0_0, .int .u8 a0_1, (.slice A0_2 l0_2.length c0_2), .string a0_3, .int .u8 a0_4, .string a0_5] 30 (0, 0))) ∧ Aside0 (Below w.heap.size w wc))
      case first =>
        have H := HC9.out
        clear HC9
        by_cases c10 : x3_1 = true
        · subst c10
          have H1 : (if a0_1 = 0 then (clavierref03_bare.j1 kj1 (decide ((l0_2.length : Int) > 0)) a0_0 a0_1 l0_2 a0_3 a0_4 a0_5) else (clavierref03_bare.j1 kj1 true a0_0 a0_1 l0_2 a0_3 a0_4 a0_5)) = some r := by rw [if_pos rfl] at H; exact H
          clear H
          have H := H1
          clear H1
          by_cases c11 : a0_1 = 0
          · rw [if_pos c11] at H
            have c11b0 : (a0_1 == 0) = true := beq_iff_eq.mpr c11
            have c11b1 : (a0_1 != 0) = false := bne_eq_false_iff_eq.mpr c11
            clear c11
            (first | rw [c11b0] | (simp only [i64_w, i32_w]; rw [c11b0]) | skip)
            have H' := Aside0.mk H
            clear H
            have hcz12_0 : wc.cell? ⟨gb188, 0, none⟩ = some (.int .i64 a0_0) := (bc1 BK188.out 0).trans rfl
            have hcz12_1 : wc.cell? ⟨gb188, 1, none⟩ = some (.int .u8 a0_1) := (bc1 BK188.out 1).trans rfl
            have hcz12_2 : wc.cell? ⟨gb188, 2, none⟩ = some (.slice A0_2 l0_2.length c0_2) := (bc1 BK188.out 2).trans rfl
            have hcz12_3 : wc.cell? ⟨gb188, 3, none⟩ = some (.string a0_3) := (bc1 BK188.out 3).trans rfl
            have hcz12_4 : wc.cell? ⟨gb188, 4, none⟩ = some (.int .u8 a0_4) := (bc1 BK188.out 4).trans rfl
            have hcz12_5 : wc.cell? ⟨gb188, 5, none⟩ = some (.string a0_5) := (bc1 BK188.out 5).trans rfl
            have hfz12_0 := bz1 BK188.out 0
            have hfz12_1 := bz1 BK188.out 1
            have hfz12_2 := bz1 BK188.out 2
            have hfz12_3 := bz1 BK188.out 3
            have hfz12_4 := bz1 BK188.out 4
            have hfz12_5 := bz1 BK188.out 5
            go_wp2
            go_meet
            case rel => exact ⟨_, (decide ((l0_2.length : Int) > 0)), (by first | rfl | (simp; done) | (simp [*]; done)), H', ⟨by have := HJ1.out; first | omega | exact Nat.le_refl _⟩, ⟨by (with_reducible repeat (first | refine bn1 ?_ _ | refine bd1 ?_ | refine ba1 ?_ _)); exact BK188.out⟩, ⟨by repeat (first | (with_reducible first | exact HB.out | apply la1 | apply ln1 | apply ld1 | refine ls1 ?_ GE188.out) | exact HB.out)⟩⟩
          · rw [if_neg c11] at H
            have c11b0 : (a0_1 == 0) = false := beq_eq_false_iff_ne.mpr c11
            have c11b1 : (a0_1 != 0) = true := bne_iff_ne.mpr c11
            (first | rw [c11b0] | (simp only [i64_w, i32_w]; rw [c11b0]) | skip)
            have H' := Aside0.mk H
            clear H
            have hcz13_0 : wc.cell? ⟨gb188, 0, none⟩ = some (.int .i64 a0_0) := (bc1 BK188.out 0).trans rfl
            have hcz13_1 : wc.cell? ⟨gb188, 1, none⟩ = some (.int .u8 a0_1) := (bc1 BK188.out 1).trans rfl
            have hcz13_2 : wc.cell? ⟨gb188, 2, none⟩ = some (.slice A0_2 l0_2.length c0_2) := (bc1 BK188.out 2).trans rfl
            have hcz13_3 : wc.cell? ⟨gb188, 3, none⟩ = some (.string a0_3) := (bc1 BK188.out 3).trans rfl
            have hcz13_4 : wc.cell? ⟨gb188, 4, none⟩ = some (.int .u8 a0_4) := (bc1 BK188.out 4).trans rfl
            have hcz13_5 : wc.cell? ⟨gb188, 5, none⟩ = some (.string a0_5) := (bc1 BK188.out 5).trans rfl
            have hfz13_0 := bz1 BK188.out 0
            have hfz13_1 := bz1 BK188.out 1
            have hfz13_2 := bz1 BK188.out 2
            have hfz13_3 := bz1 BK188.out 3
            have hfz13_4 := bz1 BK188.out 4
            have hfz13_5 := bz1 BK188.out 5
            go_wp2
            go_meet
            case rel => exact ⟨_, (true), (by first | rfl | (simp; done) | (simp [*]; done)), H', ⟨by have := HJ1.out; first | omega | exact Nat.le_refl _⟩, ⟨by (with_reducible repeat (first | refine bn1 ?_ _ | refine bd1 ?_ | refine ba1 ?_ _)); exact BK188.out⟩, ⟨by repeat (first | (with_reducible first | exact HB.out | apply la1 | apply ln1 | apply ld1 | refine ls1 ?_ GE188.out) | exact HB.out)⟩⟩
        · replace c10 := Bool.eq_false_iff.mpr c10
          subst c10
          have H1 : (clavierref03_bare.j1 kj1 false a0_0 a0_1 l0_2 a0_3 a0_4 a0_5) = some r := by rw [if_neg (show ¬ (false = true) by decide)] at H; exact H
          clear H
          have H := H1
          clear H1
          have H' := Aside0.mk H
          clear H
          go_wp2
          go_meet
          case rel => exact ⟨_, (false), (by first | rfl | (simp; done) | (simp [*]; done)), H', ⟨by have := HJ1.out; first | omega | exact Nat.le_refl _⟩, ⟨by (with_reducible repeat (first | refine bn1 ?_ _ | refine bd1 ?_ | refine ba1 ?_ _)); exact BK188.out⟩, ⟨by repeat (first | (with_reducible first | exact HB.out | apply la1 | apply ln1 | apply ld1 | refine ls1 ?_ GE188.out) | exact HB.out)⟩⟩
      case rest =>
        clear HC9
        try clear c1
        try clear p2
        try clear c4
        try clear c4b0
        try clear c4b1
        try clear c5
        try clear c6
        try clear c6b0
        try clear c6b1
        try clear c10
        try clear c11
        try clear c11b0
        try clear c11b1
        try clear hcz12_0
        try clear hcz12_1
        try clear hcz12_2
        try clear hcz12_3
        try clear hcz12_4
        try clear hcz12_5
        try clear hcz13_0
        try clear hcz13_1
        try clear hcz13_2
        try clear hcz13_3
        try clear hcz13_4
        try clear hcz13_5
        try clear hcz5_0
        try clear hcz5_1
        try clear hcz5_2
        try clear hcz5_3
        try clear hcz5_4
        try clear hcz5_5
        try clear hcz7_0
        try clear hcz7_1
        try clear hcz7_2
        try clear hcz7_3
        try clear hcz7_4
        try clear hcz7_5
        try clear hcz8_0
        try clear hcz8_1
        try clear hcz8_2
        try clear hcz8_3
        try clear hcz8_4
        try clear hcz8_5
        try clear hfz12_0
        try clear hfz12_1
        try clear hfz12_2
        try clear hfz12_3
        try clear hfz12_4
        try clear hfz12_5
        try clear hfz13_0
        try clear hfz13_1
        try clear hfz13_2
        try clear hfz13_3
        try clear hfz13_4
        try clear hfz13_5
        try clear hfz5_0
        try clear hfz5_1
        try clear hfz5_2
        try clear hfz5_3
        try clear hfz5_4
        try clear hfz5_5
        try clear hfz7_0
        try clear hfz7_1
        try clear hfz7_2
        try clear hfz7_3
        try clear hfz7_4
        try clear hfz7_5
        try clear hfz8_0
        try clear hfz8_1
        try clear hfz8_2
        try clear hfz8_3
        try clear hfz8_4
        try clear hfz8_5
        try clear p2
        obtain ⟨kq, x28_8, rfl, HA, HJ8, BK188, HB⟩ := hcut
        cases kq with
        | zero => exact absurd HA.out (by simp [clavierref03_bare.j1])
        | succ kj8 =>
          have H := HA.out
          clear HA
          simp only [clavierref03_bare.j1] at H
          by_cases c14 : x28_8 = true
          · subst c14
            have H1 : (some false) = some r := by rw [if_pos rfl] at H; exact H
            clear H
            have H := H1
            clear H1
            obtain rfl := Option.some.inj H
            go_wp2
            go_ret
            exact ⟨by first | rfl | (simp [errW_none, errW_some] <;> rfl) | (simp [*, errW_none, errW_some] <;> rfl), by repeat (first | (with_reducible first | exact HB.out | apply la1 | apply ln1 | apply ld1 | refine ls1 ?_ GE188.out) | exact HB.out)⟩
          · replace c14 := Bool.eq_false_iff.mpr c14
            subst c14
            have H1 : (if a0_0 = 2 then (if a0_3.toList = ([] : List UInt8) then (if a0_5.toList = ([] : List UInt8) then (some true) else (if a0_0 = 3 then (some true) else (some (a0_0 == 4)))) else (some false)) else (if a0_0 = 4 then (if a0_3.toList = ([] : List UInt8) then (if a0_5.toList = ([] : List UInt8) then (some true) else (if a0_0 = 3 then (some true) else (some (a0_0 == 4)))) else (some false)) else (if a0_5.toList = ([] : List UInt8) then (some true) else (if a0_0 = 3 then (some true) else (some (a0_0 == 4)))))) = some r := by rw [if_neg (show ¬ (false = true) by decide)] at H; exact H
            clear H
            have H := H1
            clear H1
            by_cases c15 : a0_0 = 2
            · rw [if_pos c15] at H
              have c15b0 : (a0_0 == 2) = true := beq_iff_eq.mpr c15
              have c15b1 : (a0_0 != 2) = false := bne_eq_false_iff_eq.mpr c15
              clear c15
              by_cases c16 : a0_3.toList = ([] : List UInt8)
              · rw [if_pos c16] at H
                have c16b0 : (a0_3.toList == ([] : List UInt8)) = true := beq_iff_eq.mpr c16
                have c16b1 : (a0_3.toList != ([] : List UInt8)) = false := bne_eq_false_iff_eq.mpr c16
                clear c16
                by_cases c17 : a0_5.toList = ([] : List UInt8)
                · rw [if_pos c17] at H
                  have c17b0 : (a0_5.toList == ([] : List UInt8)) = true := beq_iff_eq.mpr c17
                  have c17b1 : (a0_5.toList != ([] : List UInt8)) = false := bne_eq_false_iff_eq.mpr c17
                  clear c17
                  obtain rfl := Option.some.inj H
                  have hcz18_0 : wc.cell? ⟨gb188, 0, none⟩ = some (.int .i64 a0_0) := (bc1 BK188.out 0).trans rfl
                  have hcz18_1 : wc.cell? ⟨gb188, 1, none⟩ = some (.int .u8 a0_1) := (bc1 BK188.out 1).trans rfl
                  have hcz18_2 : wc.cell? ⟨gb188, 2, none⟩ = some (.slice A0_2 l0_2.length c0_2) := (bc1 BK188.out 2).trans rfl
                  have hcz18_3 : wc.cell? ⟨gb188, 3, none⟩ = some (.string a0_3) := (bc1 BK188.out 3).trans rfl
                  have hcz18_4 : wc.cell? ⟨gb188, 4, none⟩ = some (.int .u8 a0_4) := (bc1 BK188.out 4).trans rfl
                  have hcz18_5 : wc.cell? ⟨gb188, 5, none⟩ = some (.string a0_5) := (bc1 BK188.out 5).trans rfl
                  have hfz18_0 := bz1 BK188.out 0
                  have hfz18_1 := bz1 BK188.out 1
                  have hfz18_2 := bz1 BK188.out 2
                  have hfz18_3 := bz1 BK188.out 3
                  have hfz18_4 := bz1 BK188.out 4
                  have hfz18_5 := bz1 BK188.out 5
                  go_wp2
                  go_ret
                  exact ⟨by first | rfl | (simp [errW_none, errW_some] <;> rfl) | (simp [*, errW_none, errW_some] <;> rfl), by repeat (first | (with_reducible first | exact HB.out | apply la1 | apply ln1 | apply ld1 | refine ls1 ?_ GE188.out) | exact HB.out)⟩
                · rw [if_neg c17] at H
                  have c17b0 : (a0_5.toList == ([] : List UInt8)) = false := beq_eq_false_iff_ne.mpr c17
                  have c17b1 : (a0_5.toList != ([] : List UInt8)) = true := bne_iff_ne.mpr c17
                  by_cases c19 : a0_0 = 3
                  · rw [if_pos c19] at H
                    have c19b0 : (a0_0 == 3) = true := beq_iff_eq.mpr c19
                    have c19b1 : (a0_0 != 3) = false := bne_eq_false_iff_eq.mpr c19
                    clear c19
                    obtain rfl := Option.some.inj H
                    have hcz20_0 : wc.cell? ⟨gb188, 0, none⟩ = some (.int .i64 a0_0) := (bc1 BK188.out 0).trans rfl
                    have hcz20_1 : wc.cell? ⟨gb188, 1, none⟩ = some (.int .u8 a0_1) := (bc1 BK188.out 1).trans rfl
                    have hcz20_2 : wc.cell? ⟨gb188, 2, none⟩ = some (.slice A0_2 l0_2.length c0_2) := (bc1 BK188.out 2).trans rfl
                    have hcz20_3 : wc.cell? ⟨gb188, 3, none⟩ = some (.string a0_3) := (bc1 BK188.out 3).trans rfl
                    have hcz20_4 : wc.cell? ⟨gb188, 4, none⟩ = some (.int .u8 a0_4) := (bc1 BK188.out 4).trans rfl
                    have hcz20_5 : wc.cell? ⟨gb188, 5, none⟩ = some (.string a0_5) := (bc1 BK188.out 5).trans rfl
                    have hfz20_0 := bz1 BK188.out 0
                    have hfz20_1 := bz1 BK188.out 1
                    have hfz20_2 := bz1 BK188.out 2
                    have hfz20_3 := bz1 BK188.out 3
                    have hfz20_4 := bz1 BK188.out 4
                    have hfz20_5 := bz1 BK188.out 5
                    go_wp2
                    go_ret
                    exact ⟨by first | rfl | (simp [errW_none, errW_some] <;> rfl) | (simp [*, errW_none, errW_some] <;> rfl), by repeat (first | (with_reducible first | exact HB.out | apply la1 | apply ln1 | apply ld1 | refine ls1 ?_ GE188.out) | exact HB.out)⟩
                  · rw [if_neg c19] at H
                    have c19b0 : (a0_0 == 3) = false := beq_eq_false_iff_ne.mpr c19
                    have c19b1 : (a0_0 != 3) = true := bne_iff_ne.mpr c19
                    obtain rfl := Option.some.inj H
                    have hcz21_0 : wc.cell? ⟨gb188, 0, none⟩ = some (.int .i64 a0_0) := (bc1 BK188.out 0).trans rfl
                    have hcz21_1 : wc.cell? ⟨gb188, 1, none⟩ = some (.int .u8 a0_1) := (bc1 BK188.out 1).trans rfl
                    have hcz21_2 : wc.cell? ⟨gb188, 2, none⟩ = some (.slice A0_2 l0_2.length c0_2) := (bc1 BK188.out 2).trans rfl
                    have hcz21_3 : wc.cell? ⟨gb188, 3, none⟩ = some (.string a0_3) := (bc1 BK188.out 3).trans rfl
                    have hcz21_4 : wc.cell? ⟨gb188, 4, none⟩ = some (.int .u8 a0_4) := (bc1 BK188.out 4).trans rfl
                    have hcz21_5 : wc.cell? ⟨gb188, 5, none⟩ = some (.string a0_5) := (bc1 BK188.out 5).trans rfl
                    have hfz21_0 := bz1 BK188.out 0
                    have hfz21_1 := bz1 BK188.out 1
                    have hfz21_2 := bz1 BK188.out 2
                    have hfz21_3 := bz1 BK188.out 3
                    have hfz21_4 := bz1 BK188.out 4
                    have hfz21_5 := bz1 BK188.out 5
                    go_wp2
                    go_ret
                    exact ⟨by first | rfl | (simp [errW_none, errW_some] <;> rfl) | (simp [*, errW_none, errW_some] <;> rfl), by repeat (first | (with_reducible first | exact HB.out | apply la1 | apply ln1 | apply ld1 | refine ls1 ?_ GE188.out) | exact HB.out)⟩
              · rw [if_neg c16] at H
                have c16b0 : (a0_3.toList == ([] : List UInt8)) = false := beq_eq_false_iff_ne.mpr c16
                have c16b1 : (a0_3.toList != ([] : List UInt8)) = true := bne_iff_ne.mpr c16
                obtain rfl := Option.some.inj H
                have hcz22_0 : wc.cell? ⟨gb188, 0, none⟩ = some (.int .i64 a0_0) := (bc1 BK188.out 0).trans rfl
                have hcz22_1 : wc.cell? ⟨gb188, 1, none⟩ = some (.int .u8 a0_1) := (bc1 BK188.out 1).trans rfl
                have hcz22_2 : wc.cell? ⟨gb188, 2, none⟩ = some (.slice A0_2 l0_2.length c0_2) := (bc1 BK188.out 2).trans rfl
                have hcz22_3 : wc.cell? ⟨gb188, 3, none⟩ = some (.string a0_3) := (bc1 BK188.out 3).trans rfl
                have hcz22_4 : wc.cell? ⟨gb188, 4, none⟩ = some (.int .u8 a0_4) := (bc1 BK188.out 4).trans rfl
                have hcz22_5 : wc.cell? ⟨gb188, 5, none⟩ = some (.string a0_5) := (bc1 BK188.out 5).trans rfl
                have hfz22_0 := bz1 BK188.out 0
                have hfz22_1 := bz1 BK188.out 1
                have hfz22_2 := bz1 BK188.out 2
                have hfz22_3 := bz1 BK188.out 3
                have hfz22_4 := bz1 BK188.out 4
                have hfz22_5 := bz1 BK188.out 5
                go_wp2
                go_ret
                exact ⟨by first | rfl | (simp [errW_none, errW_some] <;> rfl) | (simp [*, errW_none, errW_some] <;> rfl), by repeat (first | (with_reducible first | exact HB.out | apply la1 | apply ln1 | apply ld1 | refine ls1 ?_ GE188.out) | exact HB.out)⟩
            · rw [if_neg c15] at H
              have c15b0 : (a0_0 == 2) = false := beq_eq_false_iff_ne.mpr c15
              have c15b1 : (a0_0 != 2) = true := bne_iff_ne.mpr c15
              by_cases c23 : a0_0 = 4
              · rw [if_pos c23] at H
                have c23b0 : (a0_0 == 4) = true := beq_iff_eq.mpr c23
                have c23b1 : (a0_0 != 4) = false := bne_eq_false_iff_eq.mpr c23
                clear c23
                by_cases c24 : a0_3.toList = ([] : List UInt8)
                · rw [if_pos c24] at H
                  have c24b0 : (a0_3.toList == ([] : List UInt8)) = true := beq_iff_eq.mpr c24
                  have c24b1 : (a0_3.toList != ([] : List UInt8)) = false := bne_eq_false_iff_eq.mpr c24
                  clear c24
                  by_cases c25 : a0_5.toList = ([] : List UInt8)
                  · rw [if_pos c25] at H
                    have c25b0 : (a0_5.toList == ([] : List UInt8)) = true := beq_iff_eq.mpr c25
                    have c25b1 : (a0_5.toList != ([] : List UInt8)) = false := bne_eq_false_iff_eq.mpr c25
                    clear c25
                    obtain rfl := Option.some.inj H
                    have hcz26_0 : wc.cell? ⟨gb188, 0, none⟩ = some (.int .i64 a0_0) := (bc1 BK188.out 0).trans rfl
                    have hcz26_1 : wc.cell? ⟨gb188, 1, none⟩ = some (.int .u8 a0_1) := (bc1 BK188.out 1).trans rfl
                    have hcz26_2 : wc.cell? ⟨gb188, 2, none⟩ = some (.slice A0_2 l0_2.length c0_2) := (bc1 BK188.out 2).trans rfl
                    have hcz26_3 : wc.cell? ⟨gb188, 3, none⟩ = some (.string a0_3) := (bc1 BK188.out 3).trans rfl
                    have hcz26_4 : wc.cell? ⟨gb188, 4, none⟩ = some (.int .u8 a0_4) := (bc1 BK188.out 4).trans rfl
                    have hcz26_5 : wc.cell? ⟨gb188, 5, none⟩ = some (.string a0_5) := (bc1 BK188.out 5).trans rfl
                    have hfz26_0 := bz1 BK188.out 0
                    have hfz26_1 := bz1 BK188.out 1
                    have hfz26_2 := bz1 BK188.out 2
                    have hfz26_3 := bz1 BK188.out 3
                    have hfz26_4 := bz1 BK188.out 4
                    have hfz26_5 := bz1 BK188.out 5
                    go_wp2
                    go_ret
                    exact ⟨by first | rfl | (simp [errW_none, errW_some] <;> rfl) | (simp [*, errW_none, errW_some] <;> rfl), by repeat (first | (with_reducible first | exact HB.out | apply la1 | apply ln1 | apply ld1 | refine ls1 ?_ GE188.out) | exact HB.out)⟩
                  · rw [if_neg c25] at H
                    have c25b0 : (a0_5.toList == ([] : List UInt8)) = false := beq_eq_false_iff_ne.mpr c25
                    have c25b1 : (a0_5.toList != ([] : List UInt8)) = true := bne_iff_ne.mpr c25
                    by_cases c27 : a0_0 = 3
                    · rw [if_pos c27] at H
                      have c27b0 : (a0_0 == 3) = true := beq_iff_eq.mpr c27
                      have c27b1 : (a0_0 != 3) = false := bne_eq_false_iff_eq.mpr c27
                      clear c27
                      obtain rfl := Option.some.inj H
                      have hcz28_0 : wc.cell? ⟨gb188, 0, none⟩ = some (.int .i64 a0_0) := (bc1 BK188.out 0).trans rfl
                      have hcz28_1 : wc.cell? ⟨gb188, 1, none⟩ = some (.int .u8 a0_1) := (bc1 BK188.out 1).trans rfl
                      have hcz28_2 : wc.cell? ⟨gb188, 2, none⟩ = some (.slice A0_2 l0_2.length c0_2) := (bc1 BK188.out 2).trans rfl
                      have hcz28_3 : wc.cell? ⟨gb188, 3, none⟩ = some (.string a0_3) := (bc1 BK188.out 3).trans rfl
                      have hcz28_4 : wc.cell? ⟨gb188, 4, none⟩ = some (.int .u8 a0_4) := (bc1 BK188.out 4).trans rfl
                      have hcz28_5 : wc.cell? ⟨gb188, 5, none⟩ = some (.string a0_5) := (bc1 BK188.out 5).trans rfl
                      have hfz28_0 := bz1 BK188.out 0
                      have hfz28_1 := bz1 BK188.out 1
                      have hfz28_2 := bz1 BK188.out 2
                      have hfz28_3 := bz1 BK188.out 3
                      have hfz28_4 := bz1 BK188.out 4
                      have hfz28_5 := bz1 BK188.out 5
                      go_wp2
                      go_ret
                      exact ⟨by first | rfl | (simp [errW_none, errW_some] <;> rfl) | (simp [*, errW_none, errW_some] <;> rfl), by repeat (first | (with_reducible first | exact HB.out | apply la1 | apply ln1 | apply ld1 | refine ls1 ?_ GE188.out) | exact HB.out)⟩
                    · rw [if_neg c27] at H
                      have c27b0 : (a0_0 == 3) = false := beq_eq_false_iff_ne.mpr c27
                      have c27b1 : (a0_0 != 3) = true := bne_iff_ne.mpr c27
                      obtain rfl := Option.some.inj H
                      have hcz29_0 : wc.cell? ⟨gb188, 0, none⟩ = some (.int .i64 a0_0) := (bc1 BK188.out 0).trans rfl
                      have hcz29_1 : wc.cell? ⟨gb188, 1, none⟩ = some (.int .u8 a0_1) := (bc1 BK188.out 1).trans rfl
                      have hcz29_2 : wc.cell? ⟨gb188, 2, none⟩ = some (.slice A0_2 l0_2.length c0_2) := (bc1 BK188.out 2).trans rfl
                      have hcz29_3 : wc.cell? ⟨gb188, 3, none⟩ = some (.string a0_3) := (bc1 BK188.out 3).trans rfl
                      have hcz29_4 : wc.cell? ⟨gb188, 4, none⟩ = some (.int .u8 a0_4) := (bc1 BK188.out 4).trans rfl
                      have hcz29_5 : wc.cell? ⟨gb188, 5, none⟩ = some (.string a0_5) := (bc1 BK188.out 5).trans rfl
                      have hfz29_0 := bz1 BK188.out 0
                      have hfz29_1 := bz1 BK188.out 1
                      have hfz29_2 := bz1 BK188.out 2
                      have hfz29_3 := bz1 BK188.out 3
                      have hfz29_4 := bz1 BK188.out 4
                      have hfz29_5 := bz1 BK188.out 5
                      go_wp2
                      go_ret
                      exact ⟨by first | rfl | (simp [errW_none, errW_some] <;> rfl) | (simp [*, errW_none, errW_some] <;> rfl), by repeat (first | (with_reducible first | exact HB.out | apply la1 | apply ln1 | apply ld1 | refine ls1 ?_ GE188.out) | exact HB.out)⟩
                · rw [if_neg c24] at H
                  have c24b0 : (a0_3.toList == ([] : List UInt8)) = false := beq_eq_false_iff_ne.mpr c24
                  have c24b1 : (a0_3.toList != ([] : List UInt8)) = true := bne_iff_ne.mpr c24
                  obtain rfl := Option.some.inj H
                  have hcz30_0 : wc.cell? ⟨gb188, 0, none⟩ = some (.int .i64 a0_0) := (bc1 BK188.out 0).trans rfl
                  have hcz30_1 : wc.cell? ⟨gb188, 1, none⟩ = some (.int .u8 a0_1) := (bc1 BK188.out 1).trans rfl
                  have hcz30_2 : wc.cell? ⟨gb188, 2, none⟩ = some (.slice A0_2 l0_2.length c0_2) := (bc1 BK188.out 2).trans rfl
                  have hcz30_3 : wc.cell? ⟨gb188, 3, none⟩ = some (.string a0_3) := (bc1 BK188.out 3).trans rfl
                  have hcz30_4 : wc.cell? ⟨gb188, 4, none⟩ = some (.int .u8 a0_4) := (bc1 BK188.out 4).trans rfl
                  have hcz30_5 : wc.cell? ⟨gb188, 5, none⟩ = some (.string a0_5) := (bc1 BK188.out 5).trans rfl
                  have hfz30_0 := bz1 BK188.out 0
                  have hfz30_1 := bz1 BK188.out 1
                  have hfz30_2 := bz1 BK188.out 2
                  have hfz30_3 := bz1 BK188.out 3
                  have hfz30_4 := bz1 BK188.out 4
                  have hfz30_5 := bz1 BK188.out 5
                  go_wp2
                  go_ret
                  exact ⟨by first | rfl | (simp [errW_none, errW_some] <;> rfl) | (simp [*, errW_none, errW_some] <;> rfl), by repeat (first | (with_reducible first | exact HB.out | apply la1 | apply ln1 | apply ld1 | refine ls1 ?_ GE188.out) | exact HB.out)⟩
              · rw [if_neg c23] at H
                have c23b0 : (a0_0 == 4) = false := beq_eq_false_iff_ne.mpr c23
                have c23b1 : (a0_0 != 4) = true := bne_iff_ne.mpr c23
                by_cases c31 : a0_5.toList = ([] : List UInt8)
                · rw [if_pos c31] at H
                  have c31b0 : (a0_5.toList == ([] : List UInt8)) = true := beq_iff_eq.mpr c31
                  have c31b1 : (a0_5.toList != ([] : List UInt8)) = false := bne_eq_false_iff_eq.mpr c31
                  clear c31
                  obtain rfl := Option.some.inj H
                  have hcz32_0 : wc.cell? ⟨gb188, 0, none⟩ = some (.int .i64 a0_0) := (bc1 BK188.out 0).trans rfl
                  have hcz32_1 : wc.cell? ⟨gb188, 1, none⟩ = some (.int .u8 a0_1) := (bc1 BK188.out 1).trans rfl
                  have hcz32_2 : wc.cell? ⟨gb188, 2, none⟩ = some (.slice A0_2 l0_2.length c0_2) := (bc1 BK188.out 2).trans rfl
                  have hcz32_3 : wc.cell? ⟨gb188, 3, none⟩ = some (.string a0_3) := (bc1 BK188.out 3).trans rfl
                  have hcz32_4 : wc.cell? ⟨gb188, 4, none⟩ = some (.int .u8 a0_4) := (bc1 BK188.out 4).trans rfl
                  have hcz32_5 : wc.cell? ⟨gb188, 5, none⟩ = some (.string a0_5) := (bc1 BK188.out 5).trans rfl
                  have hfz32_0 := bz1 BK188.out 0
                  have hfz32_1 := bz1 BK188.out 1
                  have hfz32_2 := bz1 BK188.out 2
                  have hfz32_3 := bz1 BK188.out 3
                  have hfz32_4 := bz1 BK188.out 4
                  have hfz32_5 := bz1 BK188.out 5
                  go_wp2
                  go_ret
                  exact ⟨by first | rfl | (simp [errW_none, errW_some] <;> rfl) | (simp [*, errW_none, errW_some] <;> rfl), by repeat (first | (with_reducible first | exact HB.out | apply la1 | apply ln1 | apply ld1 | refine ls1 ?_ GE188.out) | exact HB.out)⟩
                · rw [if_neg c31] at H
                  have c31b0 : (a0_5.toList == ([] : List UInt8)) = false := beq_eq_false_iff_ne.mpr c31
                  have c31b1 : (a0_5.toList != ([] : List UInt8)) = true := bne_iff_ne.mpr c31
                  by_cases c33 : a0_0 = 3
                  · rw [if_pos c33] at H
                    have c33b0 : (a0_0 == 3) = true := beq_iff_eq.mpr c33
                    have c33b1 : (a0_0 != 3) = false := bne_eq_false_iff_eq.mpr c33
                    clear c33
                    obtain rfl := Option.some.inj H
                    have hcz34_0 : wc.cell? ⟨gb188, 0, none⟩ = some (.int .i64 a0_0) := (bc1 BK188.out 0).trans rfl
                    have hcz34_1 : wc.cell? ⟨gb188, 1, none⟩ = some (.int .u8 a0_1) := (bc1 BK188.out 1).trans rfl
                    have hcz34_2 : wc.cell? ⟨gb188, 2, none⟩ = some (.slice A0_2 l0_2.length c0_2) := (bc1 BK188.out 2).trans rfl
                    have hcz34_3 : wc.cell? ⟨gb188, 3, none⟩ = some (.string a0_3) := (bc1 BK188.out 3).trans rfl
                    have hcz34_4 : wc.cell? ⟨gb188, 4, none⟩ = some (.int .u8 a0_4) := (bc1 BK188.out 4).trans rfl
                    have hcz34_5 : wc.cell? ⟨gb188, 5, none⟩ = some (.string a0_5) := (bc1 BK188.out 5).trans rfl
                    have hfz34_0 := bz1 BK188.out 0
                    have hfz34_1 := bz1 BK188.out 1
                    have hfz34_2 := bz1 BK188.out 2
                    have hfz34_3 := bz1 BK188.out 3
                    have hfz34_4 := bz1 BK188.out 4
                    have hfz34_5 := bz1 BK188.out 5
                    go_wp2
                    go_ret
                    exact ⟨by first | rfl | (simp [errW_none, errW_some] <;> rfl) | (simp [*, errW_none, errW_some] <;> rfl), by repeat (first | (with_reducible first | exact HB.out | apply la1 | apply ln1 | apply ld1 | refine ls1 ?_ GE188.out) | exact HB.out)⟩
                  · rw [if_neg c33] at H
                    have c33b0 : (a0_0 == 3) = false := beq_eq_false_iff_ne.mpr c33
                    have c33b1 : (a0_0 != 3) = true := bne_iff_ne.mpr c33
                    obtain rfl := Option.some.inj H
                    have hcz35_0 : wc.cell? ⟨gb188, 0, none⟩ = some (.int .i64 a0_0) := (bc1 BK188.out 0).trans rfl
                    have hcz35_1 : wc.cell? ⟨gb188, 1, none⟩ = some (.int .u8 a0_1) := (bc1 BK188.out 1).trans rfl
                    have hcz35_2 : wc.cell? ⟨gb188, 2, none⟩ = some (.slice A0_2 l0_2.length c0_2) := (bc1 BK188.out 2).trans rfl
                    have hcz35_3 : wc.cell? ⟨gb188, 3, none⟩ = some (.string a0_3) := (bc1 BK188.out 3).trans rfl
                    have hcz35_4 : wc.cell? ⟨gb188, 4, none⟩ = some (.int .u8 a0_4) := (bc1 BK188.out 4).trans rfl
                    have hcz35_5 : wc.cell? ⟨gb188, 5, none⟩ = some (.string a0_5) := (bc1 BK188.out 5).trans rfl
                    have hfz35_0 := bz1 BK188.out 0
                    have hfz35_1 := bz1 BK188.out 1
                    have hfz35_2 := bz1 BK188.out 2
                    have hfz35_3 := bz1 BK188.out 3
                    have hfz35_4 := bz1 BK188.out 4
                    have hfz35_5 := bz1 BK188.out 5
                    go_wp2
                    go_ret
                    exact ⟨by first | rfl | (simp [errW_none, errW_some] <;> rfl) | (simp [*, errW_none, errW_some] <;> rfl), by repeat (first | (with_reducible first | exact HB.out | apply la1 | apply ln1 | apply ld1 | refine ls1 ?_ GE188.out) | exact HB.out)⟩
end Go.Proofs.YtopcleljecdkkaaDoor.G
end
