/- M: texts run together by shake.py: Gclavierref03b Ggclavierlaw19awake RpW. -/
import Derived.ArgAppend
import Derived.Below
import Derived.BigQuiet
import Derived.ChangeOld
import Derived.ChangeSlices
import Derived.Deep.AppendLies
import Derived.Deep.CutBlock
import Derived.Deep.DeepCutAuto
import Derived.Deep.Draws
import Derived.Deep.LoopGhost
import Derived.Deep.Matrix
import Derived.Deep.OwnRows
import Derived.Deep.Quiet
import Derived.Deep.QuietTactic
import Derived.Deep.RegionHeld3
import Derived.Ground.Names2Prog
import Derived.Ground.SlgnProg
import Derived.KernelRfl
import Derived.Laws.AppendOwn
import Derived.Laws.AppendOwnNone
import Derived.Laws.BitsLemmas
import Derived.Laws.BytesArg
import Derived.Laws.Concat
import Derived.Laws.CopyRow
import Derived.Laws.IdiomCopy
import Derived.Laws.IdiomStrings
import Derived.Laws.MakeOwn
import Derived.Laws.OwnMore
import Derived.Laws.Rows
import Derived.Laws.Slices
import Derived.Laws.StructEq
import Derived.Laws.Tables
import Derived.Lib.AppendIntMem
import Derived.Lib.AppendStr
import Derived.Lib.ConvBytes
import Derived.Lib.Hide
import Derived.Lib.ItoaLen
import Derived.Lib.ItoaNum
import Derived.Lib.Join
import Derived.Lib.LaidTab
import Derived.Lib.Strings
import Derived.MapKept
import Derived.Maps.AppendAt
import Derived.OpenShut
import Derived.Orders
import Derived.OrdersHeld
import Derived.Outline
import Derived.OwnWalk
import Derived.ProofKit
import Derived.RowKit
import Derived.RowKit3
import Derived.Shelf.LaysM
import Derived.Shelf.Slices.Clone
import Derived.Shelf.SlicesE.Clone
import Derived.Shelf.Strconv.Itoa0
import Derived.Shelf.Strconv.Itoa1
import Derived.Shelf.Strconv.Itoa2
import Derived.Shelf.Strconv.Itoa3
import Derived.Shelf.Strings.Builder1
import Derived.Shelf.Strings.Builder2
import Derived.Shelf.Strings.Builder2Cap
import Derived.Shelf.Strings.BuilderCap
import Derived.Shelf.Strings.BuilderF
import Derived.Shelf.Strings.BuilderK
import Derived.Shelf.Strings.OnBuilder
import Derived.ShutString
import Derived.SizedLaws
import Derived.Still
import Derived.Tactics
import Derived.Test.YtopcleljecdkkaaDoorProg
import Derived.WalkKit
import Derived.WalkLawsBesides
import Derived.WalkSpells
import Derived.WideLaws
import Derived.Test.YtopcleljecdkkaaDoorZM1
import Derived.Test.YtopcleljecdkkaaDoorZM2
import Derived.Test.YtopcleljecdkkaaDoorZM3
import Derived.Test.YtopcleljecdkkaaDoorZM4
import Derived.Test.YtopcleljecdkkaaDoorZM5
section
namespace Go.Proofs.YtopcleljecdkkaaDoor.G
open Go.RowKit Go.Proofs.YtopcleljecdkkaaDoorW.PrintWords Go.Proofs.YtopcleljecdkkaaDoorW.PrintLast Go.Proofs.YtopcleljecdkkaaDoorW.PrintMore
attribute [local go_sem] max2_int min2_int max_two min_two max_three min_three max_four min_four
set_option linter.unusedVariables false
set_option linter.unusedSimpArgs false
mutual
def clavierref03_body.j0 : Nat → ByteArray → Int → Int → List (List Int) → ByteArray → Int → ByteArray → Option (ByteArray)
  | 0, _, _, _, _, _, _, _ => none
  | k + 1, x3, x201000, x201001, x201002, x201003, x201004, x201005 => clavierref03_body.l0 k x3 0 x201000 x201001 x201002 x201003 x201004 x201005
def clavierref03_body.l0 : Nat → ByteArray → Int → Int → Int → List (List Int) → ByteArray → Int → ByteArray → Option (ByteArray)
  | 0, _, _, _, _, _, _, _, _ => none
  | k + 1, x3, x4, x201000, x201001, x201002, x201003, x201004, x201005 => if x4 < (x201002.length : Int) then (if x4 > 0 then (if x3.size + 1 ≤ 9223372036854775807 then (clavierref03_body.j2 k (x3 ++ (⟨#[59]⟩ : ByteArray)) x4 x201000 x201001 x201002 x201003 x201004 x201005) else (none)) else (clavierref03_body.j2 k x3 x4 x201000 x201001 x201002 x201003 x201004 x201005)) else (if x3.size + x201003.size ≤ 9223372036854775807 then (some (x3 ++ x201003)) else (none))
def clavierref03_body.j2 : Nat → ByteArray → Int → Int → Int → List (List Int) → ByteArray → Int → ByteArray → Option (ByteArray)
  | 0, _, _, _, _, _, _, _, _ => none
  | k + 1, x3, x4, x201000, x201001, x201002, x201003, x201004, x201005 => clavierref03_body.l1 k x3 x4 0 x201000 x201001 x201002 x201003 x201004 x201005
def clavierref03_body.l1 : Nat → ByteArray → Int → Int → Int → Int → List (List Int) → ByteArray → Int → ByteArray → Option (ByteArray)
  | 0, _, _, _, _, _, _, _, _, _ => none
  | k + 1, x3, x4, x5, x201000, x201001, x201002, x201003, x201004, x201005 => if 0 ≤ x4 then (if x4 < (x201002.length : Int) then (if x5 < ((rd_L1 x201002 x4).length : Int) then (if x5 > 0 then (if x3.size + 1 ≤ 9223372036854775807 then (if 0 ≤ x5 then ((clavierref01_Text.f (rd (rd_L1 x201002 x4) x5)).bind fun t207 => (if (x3 ++ (⟨#[58]⟩ : ByteArray)).size + t207.size ≤ 9223372036854775807 then (clavierref03_body.l1 k ((x3 ++ (⟨#[58]⟩ : ByteArray)) ++ t207) x4 (wrap64 (x5 + 1)) x201000 x201001 x201002 x201003 x201004 x201005) else (none))) else (none)) else (none)) else (if 0 ≤ x5 then ((clavierref01_Text.f (rd (rd_L1 x201002 x4) x5)).bind fun t210 => (if x3.size + t210.size ≤ 9223372036854775807 then (clavierref03_body.l1 k (x3 ++ t210) x4 (wrap64 (x5 + 1)) x201000 x201001 x201002 x201003 x201004 x201005) else (none))) else (none))) else (clavierref03_body.l0 k x3 (wrap64 (x4 + 1)) x201000 x201001 x201002 x201003 x201004 x201005)) else (none)) else (none)
end
def clavierref03_body.f (k : Nat) (a0_0 : Int) (a0_1 : Int) (l0_2 : List (List Int)) (a0_3 : ByteArray) (a0_4 : Int) (a0_5 : ByteArray) : Option (ByteArray) := if a0_1 = 0 then (clavierref03_body.j0 k (⟨#[]⟩ : ByteArray) a0_0 a0_1 l0_2 a0_3 a0_4 a0_5) else (clavierref03_body.j0 k (strOfNums (([a0_1] : List Int))) a0_0 a0_1 l0_2 a0_3 a0_4 a0_5)
theorem clavierref03_body.mono_l : ∀ k, (∀ y0 y1 y2 y3 y4 y5 y6, LeO (clavierref03_body.j0 k y0 y1 y2 y3 y4 y5 y6) (clavierref03_body.j0 (k + 1) y0 y1 y2 y3 y4 y5 y6)) ∧ (∀ y0 y1 y2 y3 y4 y5 y6 y7, LeO (clavierref03_body.l0 k y0 y1 y2 y3 y4 y5 y6 y7) (clavierref03_body.l0 (k + 1) y0 y1 y2 y3 y4 y5 y6 y7)) ∧ (∀ y0 y1 y2 y3 y4 y5 y6 y7, LeO (clavierref03_body.j2 k y0 y1 y2 y3 y4 y5 y6 y7) (clavierref03_body.j2 (k + 1) y0 y1 y2 y3 y4 y5 y6 y7)) ∧ (∀ y0 y1 y2 y3 y4 y5 y6 y7 y8, LeO (clavierref03_body.l1 k y0 y1 y2 y3 y4 y5 y6 y7 y8) (clavierref03_body.l1 (k + 1) y0 y1 y2 y3 y4 y5 y6 y7 y8))
  | 0 => ⟨fun _ _ _ _ _ _ _ r h => by simp [clavierref03_body.j0] at h, fun _ _ _ _ _ _ _ _ r h => by simp [clavierref03_body.l0] at h, fun _ _ _ _ _ _ _ _ r h => by simp [clavierref03_body.j2] at h, fun _ _ _ _ _ _ _ _ _ r h => by simp [clavierref03_body.l1] at h⟩
  | k + 1 => by
    obtain ⟨ih0, ih1, ih2, ih3⟩ := clavierref03_body.mono_l k
    refine ⟨?_, ?_, ?_, ?_⟩
    · intro y0 y1 y2 y3 y4 y5 y6
      unfold clavierref03_body.j0
      repeat' first
      | (with_reducible exact ih0 _ _ _ _ _ _ _)
      | (with_reducible exact ih1 _ _ _ _ _ _ _ _)
      | (with_reducible exact ih2 _ _ _ _ _ _ _ _)
      | (with_reducible exact ih3 _ _ _ _ _ _ _ _ _)
      | (with_reducible exact LeO.refl _)
      | (with_reducible exact LeO.none _)
      | (with_reducible refine LeO.ite ?_ ?_)
      | (with_reducible refine LeO.bind ?_ (fun _ => ?_))
      | exact ih0 _ _ _ _ _ _ _
      | exact ih1 _ _ _ _ _ _ _ _
      | exact ih2 _ _ _ _ _ _ _ _
      | exact ih3 _ _ _ _ _ _ _ _ _
      | exact LeO.none _
      | refine LeO.ite ?_ ?_
      | refine LeO.bind ?_ (fun _ => ?_)
    · intro y0 y1 y2 y3 y4 y5 y6 y7
      unfold clavierref03_body.l0
      repeat' first
      | (with_reducible exact ih0 _ _ _ _ _ _ _)
      | (with_reducible exact ih1 _ _ _ _ _ _ _ _)
      | (with_reducible exact ih2 _ _ _ _ _ _ _ _)
      | (with_reducible exact ih3 _ _ _ _ _ _ _ _ _)
      | (with_reducible exact LeO.refl _)
      | (with_reducible exact LeO.none _)
      | (with_reducible refine LeO.ite ?_ ?_)
      | (with_reducible refine LeO.bind ?_ (fun _ => ?_))
      | exact ih0 _ _ _ _ _ _ _
      | exact ih1 _ _ _ _ _ _ _ _
      | exact ih2 _ _ _ _ _ _ _ _
      | exact ih3 _ _ _ _ _ _ _ _ _
      | exact LeO.none _
      | refine LeO.ite ?_ ?_
      | refine LeO.bind ?_ (fun _ => ?_)
    · intro y0 y1 y2 y3 y4 y5 y6 y7
      unfold clavierref03_body.j2
      repeat' first
      | (with_reducible exact ih0 _ _ _ _ _ _ _)
      | (with_reducible exact ih1 _ _ _ _ _ _ _ _)
      | (with_reducible exact ih2 _ _ _ _ _ _ _ _)
      | (with_reducible exact ih3 _ _ _ _ _ _ _ _ _)
      | (with_reducible exact LeO.refl _)
      | (with_reducible exact LeO.none _)
      | (with_reducible refine LeO.ite ?_ ?_)
      | (with_reducible refine LeO.bind ?_ (fun _ => ?_))
      | exact ih0 _ _ _ _ _ _ _
      | exact ih1 _ _ _ _ _ _ _ _
      | exact ih2 _ _ _ _ _ _ _ _
      | exact ih3 _ _ _ _ _ _ _ _ _
      | exact LeO.none _
      | refine LeO.ite ?_ ?_
      | refine LeO.bind ?_ (fun _ => ?_)
    · intro y0 y1 y2 y3 y4 y5 y6 y7 y8
      unfold clavierref03_body.l1
      repeat' first
      | (with_reducible exact ih0 _ _ _ _ _ _ _)
      | (with_reducible exact ih1 _ _ _ _ _ _ _ _)
      | (with_reducible exact ih2 _ _ _ _ _ _ _ _)
      | (with_reducible exact ih3 _ _ _ _ _ _ _ _ _)
      | (with_reducible exact LeO.refl _)
      | (with_reducible exact LeO.none _)
      | (with_reducible refine LeO.ite ?_ ?_)
      | (with_reducible refine LeO.bind ?_ (fun _ => ?_))
      | exact ih0 _ _ _ _ _ _ _
      | exact ih1 _ _ _ _ _ _ _ _
      | exact ih2 _ _ _ _ _ _ _ _
      | exact ih3 _ _ _ _ _ _ _ _ _
      | exact LeO.none _
      | refine LeO.ite ?_ ?_
      | refine LeO.bind ?_ (fun _ => ?_)
theorem clavierref03_body.mono : ∀ a0 a1 a2 a3 a4 a5 k, LeO (clavierref03_body.f k a0 a1 a2 a3 a4 a5) (clavierref03_body.f (k + 1) a0 a1 a2 a3 a4 a5) := by
  intro a0 a1 a2 a3 a4 a5 k
  obtain ⟨ih0, ih1, ih2, ih3⟩ := clavierref03_body.mono_l k
  unfold clavierref03_body.f
  repeat' first
      | (with_reducible exact ih0 _ _ _ _ _ _ _)
      | (with_reducible exact ih1 _ _ _ _ _ _ _ _)
      | (with_reducible exact ih2 _ _ _ _ _ _ _ _)
      | (with_reducible exact ih3 _ _ _ _ _ _ _ _ _)
      | (with_reducible exact LeO.refl _)
      | (with_reducible exact LeO.none _)
      | (with_reducible refine LeO.ite ?_ ?_)
      | (with_reducible refine LeO.bind ?_ (fun _ => ?_))
      | exact ih0 _ _ _ _ _ _ _
      | exact ih1 _ _ _ _ _ _ _ _
      | exact ih2 _ _ _ _ _ _ _ _
      | exact ih3 _ _ _ _ _ _ _ _ _
      | exact LeO.none _
      | refine LeO.ite ?_ ?_
      | refine LeO.bind ?_ (fun _ => ?_)
set_option maxHeartbeats 8000000 in
set_option maxRecDepth 100000 in
theorem clavierref03_body.calls (k : Nat) (a0_0 : Int) (a0_1 : Int) (A0_2 : Option Addr) (c0_2 : Nat) (l0_2 : List (List Int)) (a0_3 : ByteArray) (a0_4 : Int) (a0_5 : ByteArray) (r : ByteArray) (w : World) (hr0_2 : Kd.C (Kd.slice 3 (Kd.int .i64)) w A0_2 l0_2.length l0_2) (hc0_2 : l0_2.length ≤ c0_2) (h : clavierref03_body.f k a0_0 a0_1 l0_2 a0_3 a0_4 a0_5 = some r) :
    Calls Tryd.prog 53 #[.agg #[.int .i64 a0_0, .int .u8 a0_1, .slice A0_2 l0_2.length c0_2, .string a0_3, .int .u8 a0_4, .string a0_5]] w fun e w' => e = .returned (.string r) ∧ Below w.heap.size w w' := by
  have hu30 := Tryd.underlying30
  have HR0_2 := Aside0.mk hr0_2
  have HC0_2 := Aside0.mk hc0_2
  clear hr0_2 hc0_2
  have HB := Aside0.mk (Below.refl w.heap.size w)
  have H : (if a0_1 = 0 then (clavierref03_body.j0 k (⟨#[]⟩ : ByteArray) a0_0 a0_1 l0_2 a0_3 a0_4 a0_5) else (clavierref03_body.j0 k (strOfNums (([a0_1] : List Int))) a0_0 a0_1 l0_2 a0_3 a0_4 a0_5)) = some r := h
  clear h
  have HC2 := Aside0.mk H
  clear H
  go_enter Tryd.func53, Tryd.ntmps53
  go_upto_if 8 with (first | ((with_reducible refine gate_dst (N := 1) rfl ?_); refine box_event ?hg (N := 1) ?hd (cs := #[.int .i64 a0_0, .int .u8 a0_1, .slice A0_2 l0_2.length c0_2, .string a0_3, .int .u8 a0_4, .string a0_5]) (t := 30) ?hr ?_; (case hd => rfl); (case hg => rfl); (case hr => first | (go_simp; done) | (go_simp; rfl)); intro gb200 hg w3 hbox hb; have n0_ := Aside0.mk (below_step (by repeat (first | (with_reducible first | exact HB.out | apply la1 | apply ln1 | apply ld1) | exact HB.out)) hb); have n1_ := Aside0.mk (hbox); have n2_ := Aside0.mk ((by rw [hg]; exact (below_size (by repeat (first | (with_reducible first | exact HB.out | apply la1 | apply ln1 | apply ld1) | exact HB.out))) : w.heap.size ≤ gb200)); have n3_ := Aside0.mk ((by rw [hg]; exact (below_size (by repeat (first | (with_reducible first | exact HB.out | apply la1 | apply ln1 | apply ld1) | exact HB.out))) : w.heap.size ≤ gb200)); clear HB; have HB := n0_; have BK200 := n1_; have GW200 := n2_; have GE200 := n3_; clear n0_ n1_ n2_ n3_; clear hb hbox hg; have hcz4_0 : w3.cell? ⟨gb200, 0, none⟩ = some (.int .i64 a0_0) := (bc1 BK200.out 0).trans rfl; have hcz4_1 : w3.cell? ⟨gb200, 1, none⟩ = some (.int .u8 a0_1) := (bc1 BK200.out 1).trans rfl; have hcz4_2 : w3.cell? ⟨gb200, 2, none⟩ = some (.slice A0_2 l0_2.length c0_2) := (bc1 BK200.out 2).trans rfl; have hcz4_3 : w3.cell? ⟨gb200, 3, none⟩ = some (.string a0_3) := (bc1 BK200.out 3).trans rfl; have hcz4_4 : w3.cell? ⟨gb200, 4, none⟩ = some (.int .u8 a0_4) := (bc1 BK200.out 4).trans rfl; have hcz4_5 : w3.cell? ⟨gb200, 5, none⟩ = some (.string a0_5) := (bc1 BK200.out 5).trans rfl; have hfz4_0 := bz1 BK200.out 0; have hfz4_1 := bz1 BK200.out 1; have hfz4_2 := bz1 BK200.out 2; have hfz4_3 := bz1 BK200.out 3; have hfz4_4 := bz1 BK200.out 4; have hfz4_5 := bz1 BK200.out 5))
  (try simp only [Act.put, List.setIfInBounds_toArray, List.set_cons_zero, List.set_cons_succ])
  go_cut [3] (fun v3 wc => ∃ (kq : Nat) (x3_1 : ByteArray), v3 = .string x3_1 ∧ Aside0 (clavierref03_body.j0 kq x3_1 a0_0 a0_1 l0_2 a0_3 a0_4 a0_5 = some r) ∧ Aside0 (kq ≤ k) ∧ Aside0 (wc.heap[gb200]? = some (.cells #[.int .i64 a0_0, .int .u8 a0_1, (.slice A0_2 l0_2.length c0_2), .string a0_3, .int .u8 a0_4, .string a0_5] 30 (0, 0))) ∧ Aside0 (Below w.heap.size w wc))
  case first =>
    have H := HC2.out
    clear HC2
    by_cases c5 : a0_1 = 0
    · rw [if_pos c5] at H
      have c5b0 : (a0_1 == 0) = true := beq_iff_eq.mpr c5
      have c5b1 : (a0_1 != 0) = false := bne_eq_false_iff_eq.mpr c5
      clear c5
      (first | rw [c5b0] | (simp only [i64_w, i32_w]; rw [c5b0]) | skip)
      have H' := Aside0.mk H
      clear H
      go_wp2
      go_meet
      case rel => exact ⟨_, ((⟨#[]⟩ : ByteArray)), (by first | rfl | (simp; done) | (simp [*]; done)), H', ⟨by first | omega | exact Nat.le_refl _⟩, ⟨by (with_reducible repeat (first | refine bn1 ?_ _ | refine bd1 ?_ | refine ba1 ?_ _)); exact BK200.out⟩, ⟨by repeat (first | (with_reducible first | exact HB.out | apply la1 | apply ln1 | apply ld1 | refine ls1 ?_ GE200.out) | exact HB.out)⟩⟩
    · rw [if_neg c5] at H
      have c5b0 : (a0_1 == 0) = false := beq_eq_false_iff_ne.mpr c5
      have c5b1 : (a0_1 != 0) = true := bne_iff_ne.mpr c5
      (first | rw [c5b0] | (simp only [i64_w, i32_w]; rw [c5b0]) | skip)
      obtain ⟨y201, hy201⟩ : ∃ y_ : List Int, y_ = (([a0_1] : List Int)) := ⟨_, rfl⟩
      replace H : (clavierref03_body.j0 k (strOfNums y201) a0_0 a0_1 l0_2 a0_3 a0_4 a0_5) = some r := by first | (rw [hy201]; with_reducible exact H) | (have H2_ := (Option.bind_some _ _).symm.trans H; rw [hy201]; with_reducible exact H2_) | (have H2_ := (Option.bind_some _ _).symm.trans H; with_reducible exact H2_) | with_reducible exact H | (rw [hy201]; exact H) | exact H
      have Ny201 := Aside0.mk hy201
      clear hy201
      have H' := Aside0.mk H
      clear H
      have hcz6_0 : w3.cell? ⟨gb200, 0, none⟩ = some (.int .i64 a0_0) := (bc1 BK200.out 0).trans rfl
      have hcz6_1 : w3.cell? ⟨gb200, 1, none⟩ = some (.int .u8 a0_1) := (bc1 BK200.out 1).trans rfl
      have hcz6_2 : w3.cell? ⟨gb200, 2, none⟩ = some (.slice A0_2 l0_2.length c0_2) := (bc1 BK200.out 2).trans rfl
      have hcz6_3 : w3.cell? ⟨gb200, 3, none⟩ = some (.string a0_3) := (bc1 BK200.out 3).trans rfl
      have hcz6_4 : w3.cell? ⟨gb200, 4, none⟩ = some (.int .u8 a0_4) := (bc1 BK200.out 4).trans rfl
      have hcz6_5 : w3.cell? ⟨gb200, 5, none⟩ = some (.string a0_5) := (bc1 BK200.out 5).trans rfl
      have hfz6_0 := bz1 BK200.out 0
      have hfz6_1 := bz1 BK200.out 1
      have hfz6_2 := bz1 BK200.out 2
      have hfz6_3 := bz1 BK200.out 3
      have hfz6_4 := bz1 BK200.out 4
      have hfz6_5 := bz1 BK200.out 5
      go_wp2_with (first | ((with_reducible refine gate_dst (N := 11) rfl ?_); refine Kd.R_lit (Kd.int .u8) _ 5 ?hg (N := 11) ?hd (xs := ([a0_1] : List Int)) (inner := [.int .u8 a0_1]) (ok := fun _ => True) (okp := fun _ => True) ?hr ?hp (fun _ hk => hk) trivial (Below.refl _ _) (Nat.le_refl _) (by simp) ?_; (case hd => rfl); (case hg => rfl); (case hr => first | (go_simp; done) | (go_simp; rfl)); (case hp => exact (Reps.one (show Kd.M (Kd.int .u8) _ _ _ a0_1 [.int .u8 a0_1] from rfl) (Reps.none _ _))); intro v202 w7 ho8 hb hg_ hnew_; clear hg_ hnew_; (first | rw [← Ny201.out] at ho8 | (simp only [Int.reduceToNat] at ho8; rw [← Ny201.out] at ho8)); have n0_ := Aside0.mk (Kd.R_lower ho8 (below_size (by repeat (first | (with_reducible first | exact HB.out | apply la1 | apply ln1 | apply ld1 | refine ls1 ?_ GE200.out) | exact HB.out)))); have n1_ := Aside0.mk (bb1 (g := gb200) (o := .cells #[.int .i64 a0_0, .int .u8 a0_1, .slice A0_2 l0_2.length c0_2, .string a0_3, .int .u8 a0_4, .string a0_5] 30 (0, 0)) (by (with_reducible repeat (first | refine bn1 ?_ _ | refine bd1 ?_ | refine ba1 ?_ _)); exact BK200.out) hb); have n2_ := Aside0.mk (below_step (by repeat (first | (with_reducible first | exact HB.out | apply la1 | apply ln1 | apply ld1 | refine ls1 ?_ GE200.out) | exact HB.out)) hb); clear BK200; clear HB; have HO203 := n0_; have BK200 := n1_; have HB := n2_; clear n0_ n1_ n2_; clear hb ho8; have hcv9 := own_string (P := Tryd.prog) Tryd.underlying48 Tryd.underlying5 Tryd.underlying9 (Kd.own_of_R HO203.out)))
      go_meet
      case rel => exact ⟨_, (strOfNums y201), (by first | rfl | (simp; done) | (simp [*]; done)), H', ⟨by first | omega | exact Nat.le_refl _⟩, ⟨by (with_reducible repeat (first | refine bn1 ?_ _ | refine bd1 ?_ | refine ba1 ?_ _)); exact BK200.out⟩, ⟨by repeat (first | (with_reducible first | exact HB.out | apply la1 | apply ln1 | apply ld1 | refine ls1 ?_ GE200.out) | exact HB.out)⟩⟩
  case rest =>
    clear HC2
    try clear p2
    try clear c5
    try clear c5b0
    try clear c5b1
    try clear hcv9
    try clear hcz4_0
    try clear hcz4_1
    try clear hcz4_2
    try clear hcz4_3
    try clear hcz4_4
    try clear hcz4_5
    try clear hcz6_0
    try clear hcz6_1
    try clear hcz6_2
    try clear hcz6_3
    try clear hcz6_4
    try clear hcz6_5
    try clear hfz4_0
    try clear hfz4_1
    try clear hfz4_2
    try clear hfz4_3
    try clear hfz4_4
    try clear hfz4_5
    try clear hfz6_0
    try clear hfz6_1
    try clear hfz6_2
    try clear hfz6_3
    try clear hfz6_4
    try clear hfz6_5
    obtain ⟨kq, x3_1, rfl, HA, HJ1, BK200, HB⟩ := hcut
    cases kq with
    | zero => exact absurd HA.out (by simp [clavierref03_body.j0])
    | succ kj1 =>
      have H := HA.out
      clear HA
      simp only [clavierref03_body.j0] at H
      have H' := Aside0.mk H
      clear H
      go_wp2
      go_loopg [3, 4] kj1 (fun kq v3 v4 w' => ∃ (x3_2 : ByteArray) (x4_2 : Int), v3 = .string x3_2 ∧ v4 = .int .i64 x4_2 ∧ Aside0 (clavierref03_body.l0 kq x3_2 x4_2 a0_0 a0_1 l0_2 a0_3 a0_4 a0_5 = some r) ∧ Aside0 (kq ≤ kj1) ∧ Aside0 (w'.heap[gb200]? = some (.cells #[.int .i64 a0_0, .int .u8 a0_1, (.slice A0_2 l0_2.length c0_2), .string a0_3, .int .u8 a0_4, .string a0_5] 30 (0, 0))) ∧ Aside0 (Below w.heap.size w w'))
      case atStart => exact ⟨(x3_1), (0), (by first | rfl | (simp; done) | (simp [*]; done)), (by first | rfl | (simp; done) | (simp [*]; done)), H', ⟨Nat.le_refl _⟩, ⟨by (with_reducible repeat (first | refine bn1 ?_ _ | refine bd1 ?_ | refine ba1 ?_ _)); exact BK200.out⟩, ⟨by repeat (first | (with_reducible first | exact HB.out | apply la1 | apply ln1 | apply ld1 | refine ls1 ?_ GE200.out) | exact HB.out)⟩⟩
      case round =>
        clear H'
        try clear p2
        try clear c5
        try clear c5b0
        try clear c5b1
        try clear hcv9
        try clear hcz4_0
        try clear hcz4_1
        try clear hcz4_2
        try clear hcz4_3
        try clear hcz4_4
        try clear hcz4_5
        try clear hcz6_0
        try clear hcz6_1
        try clear hcz6_2
        try clear hcz6_3
        try clear hcz6_4
        try clear hcz6_5
        try clear hfz4_0
        try clear hfz4_1
        try clear hfz4_2
        try clear hfz4_3
        try clear hfz4_4
        try clear hfz4_5
        try clear hfz6_0
        try clear hfz6_1
        try clear hfz6_2
        try clear hfz6_3
        try clear hfz6_4
        try clear hfz6_5
        try clear p2
        obtain ⟨x3_2, x4_2, rfl, rfl, HA, HK2, BK200, HB⟩ := hrel
        cases gk with
        | zero => exact absurd HA.out (by simp [clavierref03_body.l0])
        | succ k2 =>
          have H := HA.out
          clear HA
          simp only [clavierref03_body.l0] at H
          by_cases c10 : x4_2 < (l0_2.length : Int)
          · rw [if_pos c10] at H
            have c10b0 : decide (x4_2 < (l0_2.length : Int)) = true := decide_eq_true c10
            clear c10
            have HC11 := Aside0.mk H
            clear H
            have hcz12_0 : wr.cell? ⟨gb200, 0, none⟩ = some (.int .i64 a0_0) := (bc1 BK200.out 0).trans rfl
            have hcz12_1 : wr.cell? ⟨gb200, 1, none⟩ = some (.int .u8 a0_1) := (bc1 BK200.out 1).trans rfl
            have hcz12_2 : wr.cell? ⟨gb200, 2, none⟩ = some (.slice A0_2 l0_2.length c0_2) := (bc1 BK200.out 2).trans rfl
            have hcz12_3 : wr.cell? ⟨gb200, 3, none⟩ = some (.string a0_3) := (bc1 BK200.out 3).trans rfl
            have hcz12_4 : wr.cell? ⟨gb200, 4, none⟩ = some (.int .u8 a0_4) := (bc1 BK200.out 4).trans rfl
            have hcz12_5 : wr.cell? ⟨gb200, 5, none⟩ = some (.string a0_5) := (bc1 BK200.out 5).trans rfl
            have hfz12_0 := bz1 BK200.out 0
            have hfz12_1 := bz1 BK200.out 1
            have hfz12_2 := bz1 BK200.out 2
            have hfz12_3 := bz1 BK200.out 3
            have hfz12_4 := bz1 BK200.out 4
            have hfz12_5 := bz1 BK200.out 5
            go_upto_if 21 with (fail)
            go_cut [3] (fun v3 wc => ∃ (kq : Nat) (x3_10 : ByteArray), v3 = .string x3_10 ∧ Aside0 (clavierref03_body.j2 kq x3_10 x4_2 a0_0 a0_1 l0_2 a0_3 a0_4 a0_5 = some r) ∧ Aside0 (kq ≤ k2) ∧ Aside0 (wc.heap[gb200]? = some (.cells #[.int .i64 a0_0, .int .u8 a0_1, (.slice A0_2 l0_2.length c0_2), .string a0_3, .int .u8 a0_4, .string a0_5] 30 (0, 0))) ∧ Aside0 (Below w.heap.size w wc))
            case first =>
              have H := HC11.out
              clear HC11
              by_cases c13 : x4_2 > 0
              · rw [if_pos c13] at H
                have c13b0 : decide (0 < x4_2) = true := decide_eq_true c13
                clear c13
                (first | rw [c13b0] | (simp only [i64_w, i32_w]; rw [c13b0]) | skip)
                by_cases c14 : x3_2.size + 1 ≤ 9223372036854775807
                · rw [if_pos c14] at H
                  have c14b0 := eq_true c14
                  have c14b1 : decide (x3_2.size + 1 ≤ 9223372036854775807) = true := decide_eq_true c14
                  try have c14b2 : (9223372036854775807 < x3_2.size + 1) = False := eq_false (Nat.not_lt.2 c14)
                  have H' := Aside0.mk H
                  clear H
                  go_wp2
                  go_meet
                  case rel => exact ⟨_, (x3_2 ++ (⟨#[59]⟩ : ByteArray)), (by first | rfl | (simp; done) | (simp [*]; done)), H', ⟨by have := HJ1.out; have := HK2.out; first | omega | exact Nat.le_refl _⟩, ⟨by (with_reducible repeat (first | refine bn1 ?_ _ | refine bd1 ?_ | refine ba1 ?_ _)); exact BK200.out⟩, ⟨by repeat (first | (with_reducible first | exact HB.out | apply la1 | apply ln1 | apply ld1 | refine ls1 ?_ GE200.out) | exact HB.out)⟩⟩
                · rw [if_neg c14] at H
                  exact absurd H (by simp)
              · rw [if_neg c13] at H
                have c13b0 : decide (0 < x4_2) = false := decide_eq_false c13
                clear c13
                (first | rw [c13b0] | (simp only [i64_w, i32_w]; rw [c13b0]) | skip)
                have H' := Aside0.mk H
                clear H
                go_wp2
                go_meet
                case rel => exact ⟨_, (x3_2), (by first | rfl | (simp; done) | (simp [*]; done)), H', ⟨by have := HJ1.out; have := HK2.out; first | omega | exact Nat.le_refl _⟩, ⟨by (with_reducible repeat (first | refine bn1 ?_ _ | refine bd1 ?_ | refine ba1 ?_ _)); exact BK200.out⟩, ⟨by repeat (first | (with_reducible first | exact HB.out | apply la1 | apply ln1 | apply ld1 | refine ls1 ?_ GE200.out) | exact HB.out)⟩⟩
            case rest =>
              clear HC11
              try clear c1
              try clear p2
              try clear c5
              try clear c5b0
              try clear c5b1
              try clear hcv9
              try clear c10
              try clear c10b0
              try clear c13
              try clear c13b0
              try clear c14
              try clear c14b0
              try clear c14b1
              try clear c14b2
              try clear hcz12_0
              try clear hcz12_1
              try clear hcz12_2
              try clear hcz12_3
              try clear hcz12_4
              try clear hcz12_5
              try clear hcz4_0
              try clear hcz4_1
              try clear hcz4_2
              try clear hcz4_3
              try clear hcz4_4
              try clear hcz4_5
              try clear hcz6_0
              try clear hcz6_1
              try clear hcz6_2
              try clear hcz6_3
              try clear hcz6_4
              try clear hcz6_5
              try clear hfz12_0
              try clear hfz12_1
              try clear hfz12_2
              try clear hfz12_3
              try clear hfz12_4
              try clear hfz12_5
              try clear hfz4_0
              try clear hfz4_1
              try clear hfz4_2
              try clear hfz4_3
              try clear hfz4_4
              try clear hfz4_5
              try clear hfz6_0
              try clear hfz6_1
              try clear hfz6_2
              try clear hfz6_3
              try clear hfz6_4
              try clear hfz6_5
              try clear p2
              obtain ⟨kq, x3_10, rfl, HA, HJ10, BK200, HB⟩ := hcut
              cases kq with
              | zero => exact absurd HA.out (by simp [clavierref03_body.j2])
              | succ kj10 =>
                have H := HA.out
                clear HA
                simp only [clavierref03_body.j2] at H
                have H' := Aside0.mk H
                clear H
                go_wp2
                go_loopg [3, 5] kj10 (fun kq v3 v5 w' => ∃ (x3_4 : ByteArray) (x5_4 : Int), v3 = .string x3_4 ∧ v5 = .int .i64 x5_4 ∧ Aside0 (clavierref03_body.l1 kq x3_4 x4_2 x5_4 a0_0 a0_1 l0_2 a0_3 a0_4 a0_5 = some r) ∧ Aside0 (kq ≤ kj10) ∧ Aside0 (w'.heap[gb200]? = some (.cells #[.int .i64 a0_0, .int .u8 a0_1, (.slice A0_2 l0_2.length c0_2), .string a0_3, .int .u8 a0_4, .string a0_5] 30 (0, 0))) ∧ Aside0 (Below w.heap.size w w'))
                case atStart => exact ⟨(x3_10), (0), (by first | rfl | (simp; done) | (simp [*]; done)), (by first | rfl | (simp; done) | (simp [*]; done)), H', ⟨Nat.le_refl _⟩, ⟨by (with_reducible repeat (first | refine bn1 ?_ _ | refine bd1 ?_ | refine ba1 ?_ _)); exact BK200.out⟩, ⟨by repeat (first | (with_reducible first | exact HB.out | apply la1 | apply ln1 | apply ld1 | refine ls1 ?_ GE200.out) | exact HB.out)⟩⟩
                case round =>
                  clear H'
                  try clear c1
                  try clear p2
                  try clear c5
                  try clear c5b0
                  try clear c5b1
                  try clear hcv9
                  try clear c10
                  try clear c10b0
                  try clear c13
                  try clear c13b0
                  try clear c14
                  try clear c14b0
                  try clear c14b1
                  try clear c14b2
                  try clear hcz12_0
                  try clear hcz12_1
                  try clear hcz12_2
                  try clear hcz12_3
                  try clear hcz12_4
                  try clear hcz12_5
                  try clear hcz4_0
                  try clear hcz4_1
                  try clear hcz4_2
                  try clear hcz4_3
                  try clear hcz4_4
                  try clear hcz4_5
                  try clear hcz6_0
                  try clear hcz6_1
                  try clear hcz6_2
                  try clear hcz6_3
                  try clear hcz6_4
                  try clear hcz6_5
                  try clear hfz12_0
                  try clear hfz12_1
                  try clear hfz12_2
                  try clear hfz12_3
                  try clear hfz12_4
                  try clear hfz12_5
                  try clear hfz4_0
                  try clear hfz4_1
                  try clear hfz4_2
                  try clear hfz4_3
                  try clear hfz4_4
                  try clear hfz4_5
                  try clear hfz6_0
                  try clear hfz6_1
                  try clear hfz6_2
                  try clear hfz6_3
                  try clear hfz6_4
                  try clear hfz6_5
                  try clear p2
                  obtain ⟨x3_4, x5_4, rfl, rfl, HA, HK4, BK200, HB⟩ := hrel
                  cases gk with
                  | zero => exact absurd HA.out (by simp [clavierref03_body.l1])
                  | succ k4 =>
                    have H := HA.out
                    clear HA
                    simp only [clavierref03_body.l1] at H
                    by_cases c15 : 0 ≤ x4_2
                    · rw [if_pos c15] at H
                      have c15b0 : decide (0 ≤ x4_2) = true := decide_eq_true c15
                      clear c15
                      by_cases c16 : x4_2 < (l0_2.length : Int)
                      · rw [if_pos c16] at H
                        have c16b0 : decide (x4_2 < (l0_2.length : Int)) = true := decide_eq_true c16
                        clear c16
                        by_cases c17 : x5_4 < ((rd_L1 l0_2 x4_2).length : Int)
                        · rw [if_pos c17] at H
                          have c17b0 : decide (x5_4 < ((rd_L1 l0_2 x4_2).length : Int)) = true := decide_eq_true c17
                          clear c17
                          by_cases c18 : x5_4 > 0
                          · rw [if_pos c18] at H
                            have c18b0 : decide (0 < x5_4) = true := decide_eq_true c18
                            clear c18
                            by_cases c19 : x3_4.size + 1 ≤ 9223372036854775807
                            · rw [if_pos c19] at H
                              have c19b0 := eq_true c19
                              have c19b1 : decide (x3_4.size + 1 ≤ 9223372036854775807) = true := decide_eq_true c19
                              try have c19b2 : (9223372036854775807 < x3_4.size + 1) = False := eq_false (Nat.not_lt.2 c19)
                              by_cases c20 : 0 ≤ x5_4
                              · rw [if_pos c20] at H
                                have c20b0 : decide (0 ≤ x5_4) = true := decide_eq_true c20
                                clear c20
                                replace H := Option.bind_eq_some_iff.mp H
                                obtain ⟨t207, A210, H⟩ := H
                                replace H : (if (x3_4 ++ (⟨#[58]⟩ : ByteArray)).size + t207.size ≤ 9223372036854775807 then (clavierref03_body.l1 k4 ((x3_4 ++ (⟨#[58]⟩ : ByteArray)) ++ t207) x4_2 (wrap64 (x5_4 + 1)) a0_0 a0_1 l0_2 a0_3 a0_4 a0_5) else (none)) = some r := H
                                have A21 := Aside0.mk A210
                                clear A210
                                by_cases c22 : (x3_4 ++ (⟨#[58]⟩ : ByteArray)).size + t207.size ≤ 9223372036854775807
                                · rw [if_pos c22] at H
                                  have c22b0 := eq_true c22
                                  have c22b1 : decide ((x3_4 ++ (⟨#[58]⟩ : ByteArray)).size + t207.size ≤ 9223372036854775807) = true := decide_eq_true c22
                                  try (have c22s := c22; simp only [ByteArray.size_append, show (⟨#[58]⟩ : ByteArray).size = 1 from rfl] at c22s; have c22b3 := eq_true c22s)
                                  try (have c22t := c22; simp only [ByteArray.size_append, Nat.add_assoc] at c22t; have c22b4 := eq_true c22t)
                                  try have c22b2 : (9223372036854775807 < (x3_4 ++ (⟨#[58]⟩ : ByteArray)).size + t207.size) = False := eq_false (Nat.not_lt.2 c22)
                                  have H' := Aside0.mk H
                                  clear H
                                  have hcz23_0 : wr.cell? ⟨gb200, 0, none⟩ = some (.int .i64 a0_0) := (bc1 BK200.out 0).trans rfl
                                  have hcz23_1 : wr.cell? ⟨gb200, 1, none⟩ = some (.int .u8 a0_1) := (bc1 BK200.out 1).trans rfl
                                  have hcz23_2 : wr.cell? ⟨gb200, 2, none⟩ = some (.slice A0_2 l0_2.length c0_2) := (bc1 BK200.out 2).trans rfl
                                  have hcz23_3 : wr.cell? ⟨gb200, 3, none⟩ = some (.string a0_3) := (bc1 BK200.out 3).trans rfl
                                  have hcz23_4 : wr.cell? ⟨gb200, 4, none⟩ = some (.int .u8 a0_4) := (bc1 BK200.out 4).trans rfl
                                  have hcz23_5 : wr.cell? ⟨gb200, 5, none⟩ = some (.string a0_5) := (bc1 BK200.out 5).trans rfl
                                  have hfz23_0 := bz1 BK200.out 0
                                  have hfz23_1 := bz1 BK200.out 1
                                  have hfz23_2 := bz1 BK200.out 2
                                  have hfz23_3 := bz1 BK200.out 3
                                  have hfz23_4 := bz1 BK200.out 4
                                  have hfz23_5 := bz1 BK200.out 5
                                  have p204 : 0 ≤ (x4_2 : Int) := of_decide_eq_true (by first | (with_reducible assumption) | assumption)
                                  have q204 : x4_2 < (l0_2.length : Int) := of_decide_eq_true (by first | (with_reducible assumption) | assumption)
                                  obtain ⟨ad204, A204_0, c204_0, e204, hx204_0, hl204_0, hi204_0⟩ := at_L1 HR0_2.out x4_2 p204 q204
                                  cases e204
                                  replace hx204_0 := (HB.out.cell (World.block_lt_of_cell? w _ hx204_0)).trans hx204_0
                                  have HR204_0 := Aside0.mk hi204_0
                                  have HC204_0 := Aside0.mk hl204_0
                                  clear hi204_0 hl204_0
                                  replace p204 := eq_true p204
                                  replace q204 := eq_true q204
                                  have p205 : 0 ≤ (x4_2 : Int) := of_decide_eq_true (by first | (with_reducible assumption) | assumption)
                                  have q205 : x4_2 < (l0_2.length : Int) := of_decide_eq_true (by first | (with_reducible assumption) | assumption)
                                  obtain ⟨ad205, A205_0, c205_0, e205, hx205_0, hl205_0, hi205_0⟩ := at_L1 HR0_2.out x4_2 p205 q205
                                  obtain rfl : ad204 = ad205 := (by injection e205)
                                  replace hx205_0 := (HB.out.cell (World.block_lt_of_cell? w _ hx205_0)).trans hx205_0
                                  have HR205_0 := Aside0.mk hi205_0
                                  have HC205_0 := Aside0.mk hl205_0
                                  clear hi205_0 hl205_0
                                  replace p205 := eq_true p205
                                  replace q205 := eq_true q205
                                  have ea_ := Option.some.inj (hx204_0.symm.trans hx205_0)
                                  injection ea_ with ea_ en_ ec_
                                  subst ea_
                                  subst ec_
                                  clear en_
                                  have p206 : 0 ≤ (x5_4 : Int) := of_decide_eq_true (by first | (with_reducible assumption) | assumption)
                                  have q206 : x5_4 < ((rd_L1 l0_2 x4_2).length : Int) := of_decide_eq_true (by first | (with_reducible assumption) | assumption)
                                  obtain ⟨ad206, e206, hx206_0⟩ := Kd.at_int HR205_0.out x5_4 p206 q206
                                  cases e206
                                  replace hx206_0 := (HB.out.cell (World.block_lt_of_cell? w _ hx206_0)).trans hx206_0
                                  replace p206 := eq_true p206
                                  replace q206 := eq_true q206
                                  go_wp2_with (first | ((with_reducible refine gate_callee (f := 63) rfl ?_); refine goesL_ (some 47) rfl rfl Tryd.func63 (by kernel_rfl) rfl #[.int .i64 (rd (rd_L1 l0_2 x4_2) x5_4)] rfl (by (try simp only [List.map_toArray, List.map_cons, List.map_nil]); first | done | rfl | (simp only [List.length_drop, List.length_take]; rfl)) ?_; (with_reducible refine (clavierref01_Text.calls (rd (rd_L1 l0_2 x4_2) x5_4) t207 _ A21.out).mono ?_); rintro e w24 ⟨rfl, hb⟩; refine ⟨_, rfl, ?_⟩; have n0_ := Aside0.mk (bb1 (g := gb200) (o := .cells #[.int .i64 a0_0, .int .u8 a0_1, .slice (some ad204) l0_2.length c0_2, .string a0_3, .int .u8 a0_4, .string a0_5] 30 (0, 0)) (by (with_reducible repeat (first | refine bn1 ?_ _ | refine bd1 ?_ | refine ba1 ?_ _)); exact BK200.out) hb); have n1_ := Aside0.mk (below_step (by repeat (first | (with_reducible first | exact HB.out | apply la1 | apply ln1 | apply ld1 | refine ls1 ?_ GE200.out) | exact HB.out)) hb); clear BK200; clear HB; have BK200 := n0_; have HB := n1_; clear n0_ n1_; (try clear hb); (try clear hb2); (try clear hk); (try clear hi)))
                                  go_roundg k4
                                  case measure => have := HJ1.out; have := HK2.out; have := HJ10.out; have := HK4.out; omega
                                  case rel => exact ⟨((x3_4 ++ (⟨#[58]⟩ : ByteArray)) ++ t207), (wrap64 (x5_4 + 1)), (by first | rfl | (simp; done) | (simp [*]; done)), (by first | rfl | (simp; done) | (simp [*]; done)), H', ⟨by have := HJ1.out; have := HK2.out; have := HJ10.out; have := HK4.out; omega⟩, ⟨by (with_reducible repeat (first | refine bn1 ?_ _ | refine bd1 ?_ | refine ba1 ?_ _)); exact BK200.out⟩, ⟨by repeat (first | (with_reducible first | exact HB.out | apply la1 | apply ln1 | apply ld1 | refine ls1 ?_ GE200.out) | exact HB.out)⟩⟩
                                · rw [if_neg c22] at H
                                  exact absurd H (by simp)
                              · rw [if_neg c20] at H
                                exact absurd H (by simp)
                            · rw [if_neg c19] at H
                              exact absurd H (by simp)
                          · rw [if_neg c18] at H
                            have c18b0 : decide (0 < x5_4) = false := decide_eq_false c18
                            clear c18
                            by_cases c25 : 0 ≤ x5_4
                            · rw [if_pos c25] at H
                              have c25b0 : decide (0 ≤ x5_4) = true := decide_eq_true c25
                              clear c25
                              replace H := Option.bind_eq_some_iff.mp H
                              obtain ⟨t210, A260, H⟩ := H
                              replace H : (if x3_4.size + t210.size ≤ 9223372036854775807 then (clavierref03_body.l1 k4 (x3_4 ++ t210) x4_2 (wrap64 (x5_4 + 1)) a0_0 a0_1 l0_2 a0_3 a0_4 a0_5) else (none)) = some r := H
                              have A26 := Aside0.mk A260
                              clear A260
                              by_cases c27 : x3_4.size + t210.size ≤ 9223372036854775807
                              · rw [if_pos c27] at H
                                have c27b0 := eq_true c27
                                have c27b1 : decide (x3_4.size + t210.size ≤ 9223372036854775807) = true := decide_eq_true c27
                                try have c27b2 : (9223372036854775807 < x3_4.size + t210.size) = False := eq_false (Nat.not_lt.2 c27)
                                have H' := Aside0.mk H
                                clear H
                                have hcz28_0 : wr.cell? ⟨gb200, 0, none⟩ = some (.int .i64 a0_0) := (bc1 BK200.out 0).trans rfl
                                have hcz28_1 : wr.cell? ⟨gb200, 1, none⟩ = some (.int .u8 a0_1) := (bc1 BK200.out 1).trans rfl
                                have hcz28_2 : wr.cell? ⟨gb200, 2, none⟩ = some (.slice A0_2 l0_2.length c0_2) := (bc1 BK200.out 2).trans rfl
                                have hcz28_3 : wr.cell? ⟨gb200, 3, none⟩ = some (.string a0_3) := (bc1 BK200.out 3).trans rfl
                                have hcz28_4 : wr.cell? ⟨gb200, 4, none⟩ = some (.int .u8 a0_4) := (bc1 BK200.out 4).trans rfl
                                have hcz28_5 : wr.cell? ⟨gb200, 5, none⟩ = some (.string a0_5) := (bc1 BK200.out 5).trans rfl
                                have hfz28_0 := bz1 BK200.out 0
                                have hfz28_1 := bz1 BK200.out 1
                                have hfz28_2 := bz1 BK200.out 2
                                have hfz28_3 := bz1 BK200.out 3
                                have hfz28_4 := bz1 BK200.out 4
                                have hfz28_5 := bz1 BK200.out 5
                                have p204 : 0 ≤ (x4_2 : Int) := of_decide_eq_true (by first | (with_reducible assumption) | assumption)
                                have q204 : x4_2 < (l0_2.length : Int) := of_decide_eq_true (by first | (with_reducible assumption) | assumption)
                                obtain ⟨ad204, A204_0, c204_0, e204, hx204_0, hl204_0, hi204_0⟩ := at_L1 HR0_2.out x4_2 p204 q204
                                cases e204
                                replace hx204_0 := (HB.out.cell (World.block_lt_of_cell? w _ hx204_0)).trans hx204_0
                                have HR204_0 := Aside0.mk hi204_0
                                have HC204_0 := Aside0.mk hl204_0
                                clear hi204_0 hl204_0
                                replace p204 := eq_true p204
                                replace q204 := eq_true q204
                                have p208 : 0 ≤ (x4_2 : Int) := of_decide_eq_true (by first | (with_reducible assumption) | assumption)
                                have q208 : x4_2 < (l0_2.length : Int) := of_decide_eq_true (by first | (with_reducible assumption) | assumption)
                                obtain ⟨ad208, A208_0, c208_0, e208, hx208_0, hl208_0, hi208_0⟩ := at_L1 HR0_2.out x4_2 p208 q208
                                obtain rfl : ad204 = ad208 := (by injection e208)
                                replace hx208_0 := (HB.out.cell (World.block_lt_of_cell? w _ hx208_0)).trans hx208_0
                                have HR208_0 := Aside0.mk hi208_0
                                have HC208_0 := Aside0.mk hl208_0
                                clear hi208_0 hl208_0
                                replace p208 := eq_true p208
                                replace q208 := eq_true q208
                                have ea_ := Option.some.inj (hx204_0.symm.trans hx208_0)
                                injection ea_ with ea_ en_ ec_
                                subst ea_
                                subst ec_
                                clear en_
                                have p209 : 0 ≤ (x5_4 : Int) := of_decide_eq_true (by first | (with_reducible assumption) | assumption)
                                have q209 : x5_4 < ((rd_L1 l0_2 x4_2).length : Int) := of_decide_eq_true (by first | (with_reducible assumption) | assumption)
                                obtain ⟨ad209, e209, hx209_0⟩ := Kd.at_int HR208_0.out x5_4 p209 q209
                                cases e209
                                replace hx209_0 := (HB.out.cell (World.block_lt_of_cell? w _ hx209_0)).trans hx209_0
                                replace p209 := eq_true p209
                                replace q209 := eq_true q209
                                go_wp2_with (first | ((with_reducible refine gate_callee (f := 63) rfl ?_); refine goesL_ (some 47) rfl rfl Tryd.func63 (by kernel_rfl) rfl #[.int .i64 (rd (rd_L1 l0_2 x4_2) x5_4)] rfl (by (try simp only [List.map_toArray, List.map_cons, List.map_nil]); first | done | rfl | (simp only [List.length_drop, List.length_take]; rfl)) ?_; (with_reducible refine (clavierref01_Text.calls (rd (rd_L1 l0_2 x4_2) x5_4) t210 _ A26.out).mono ?_); rintro e w29 ⟨rfl, hb⟩; refine ⟨_, rfl, ?_⟩; have n0_ := Aside0.mk (bb1 (g := gb200) (o := .cells #[.int .i64 a0_0, .int .u8 a0_1, .slice (some ad204) l0_2.length c0_2, .string a0_3, .int .u8 a0_4, .string a0_5] 30 (0, 0)) (by (with_reducible repeat (first | refine bn1 ?_ _ | refine bd1 ?_ | refine ba1 ?_ _)); exact BK200.out) hb); have n1_ := Aside0.mk (below_step (by repeat (first | (with_reducible first | exact HB.out | apply la1 | apply ln1 | apply ld1 | refine ls1 ?_ GE200.out) | exact HB.out)) hb); clear BK200; clear HB; have BK200 := n0_; have HB := n1_; clear n0_ n1_; (try clear hb); (try clear hb2); (try clear hk); (try clear hi)))
                                go_roundg k4
                                case measure => have := HJ1.out; have := HK2.out; have := HJ10.out; have := HK4.out; omega
                                case rel => exact ⟨(x3_4 ++ t210), (wrap64 (x5_4 + 1)), (by first | rfl | (simp; done) | (simp [*]; done)), (by first | rfl | (simp; done) | (simp [*]; done)), H', ⟨by have := HJ1.out; have := HK2.out; have := HJ10.out; have := HK4.out; omega⟩, ⟨by (with_reducible repeat (first | refine bn1 ?_ _ | refine bd1 ?_ | refine ba1 ?_ _)); exact BK200.out⟩, ⟨by repeat (first | (with_reducible first | exact HB.out | apply la1 | apply ln1 | apply ld1 | refine ls1 ?_ GE200.out) | exact HB.out)⟩⟩
                              · rw [if_neg c27] at H
                                exact absurd H (by simp)
                            · rw [if_neg c25] at H
                              exact absurd H (by simp)
                        · rw [if_neg c17] at H
                          have c17b0 : decide (x5_4 < ((rd_L1 l0_2 x4_2).length : Int)) = false := decide_eq_false c17
                          clear c17
                          have H' := Aside0.mk H
                          clear H
                          have hcz30_0 : wr.cell? ⟨gb200, 0, none⟩ = some (.int .i64 a0_0) := (bc1 BK200.out 0).trans rfl
                          have hcz30_1 : wr.cell? ⟨gb200, 1, none⟩ = some (.int .u8 a0_1) := (bc1 BK200.out 1).trans rfl
                          have hcz30_2 : wr.cell? ⟨gb200, 2, none⟩ = some (.slice A0_2 l0_2.length c0_2) := (bc1 BK200.out 2).trans rfl
                          have hcz30_3 : wr.cell? ⟨gb200, 3, none⟩ = some (.string a0_3) := (bc1 BK200.out 3).trans rfl
                          have hcz30_4 : wr.cell? ⟨gb200, 4, none⟩ = some (.int .u8 a0_4) := (bc1 BK200.out 4).trans rfl
                          have hcz30_5 : wr.cell? ⟨gb200, 5, none⟩ = some (.string a0_5) := (bc1 BK200.out 5).trans rfl
                          have hfz30_0 := bz1 BK200.out 0
                          have hfz30_1 := bz1 BK200.out 1
                          have hfz30_2 := bz1 BK200.out 2
                          have hfz30_3 := bz1 BK200.out 3
                          have hfz30_4 := bz1 BK200.out 4
                          have hfz30_5 := bz1 BK200.out 5
                          have p204 : 0 ≤ (x4_2 : Int) := of_decide_eq_true (by first | (with_reducible assumption) | assumption)
                          have q204 : x4_2 < (l0_2.length : Int) := of_decide_eq_true (by first | (with_reducible assumption) | assumption)
                          obtain ⟨ad204, A204_0, c204_0, e204, hx204_0, hl204_0, hi204_0⟩ := at_L1 HR0_2.out x4_2 p204 q204
                          cases e204
                          replace hx204_0 := (HB.out.cell (World.block_lt_of_cell? w _ hx204_0)).trans hx204_0
                          have HR204_0 := Aside0.mk hi204_0
                          have HC204_0 := Aside0.mk hl204_0
                          clear hi204_0 hl204_0
                          replace p204 := eq_true p204
                          replace q204 := eq_true q204
                          go_wp2
                          go_roundg k4
                          case measure => have := HJ1.out; have := HK2.out; have := HJ10.out; have := HK4.out; omega
                          case rel => exact ⟨(x3_4), (wrap64 (x4_2 + 1)), (by first | rfl | (simp; done) | (simp [*]; done)), (by first | rfl | (simp; done) | (simp [*]; done)), H', ⟨by have := HJ1.out; have := HK2.out; have := HJ10.out; have := HK4.out; omega⟩, ⟨by (with_reducible repeat (first | refine bn1 ?_ _ | refine bd1 ?_ | refine ba1 ?_ _)); exact BK200.out⟩, ⟨by repeat (first | (with_reducible first | exact HB.out | apply la1 | apply ln1 | apply ld1 | refine ls1 ?_ GE200.out) | exact HB.out)⟩⟩
                      · rw [if_neg c16] at H
                        exact absurd H (by simp)
                    · rw [if_neg c15] at H
                      exact absurd H (by simp)
          · rw [if_neg c10] at H
            have c10b0 : decide (x4_2 < (l0_2.length : Int)) = false := decide_eq_false c10
            clear c10
            by_cases c31 : x3_2.size + a0_3.size ≤ 9223372036854775807
            · rw [if_pos c31] at H
              have c31b0 := eq_true c31
              have c31b1 : decide (x3_2.size + a0_3.size ≤ 9223372036854775807) = true := decide_eq_true c31
              try have c31b2 : (9223372036854775807 < x3_2.size + a0_3.size) = False := eq_false (Nat.not_lt.2 c31)
              obtain rfl := Option.some.inj H
              have hcz32_0 : wr.cell? ⟨gb200, 0, none⟩ = some (.int .i64 a0_0) := (bc1 BK200.out 0).trans rfl
              have hcz32_1 : wr.cell? ⟨gb200, 1, none⟩ = some (.int .u8 a0_1) := (bc1 BK200.out 1).trans rfl
              have hcz32_2 : wr.cell? ⟨gb200, 2, none⟩ = some (.slice A0_2 l0_2.length c0_2) := (bc1 BK200.out 2).trans rfl
              have hcz32_3 : wr.cell? ⟨gb200, 3, none⟩ = some (.string a0_3) := (bc1 BK200.out 3).trans rfl
              have hcz32_4 : wr.cell? ⟨gb200, 4, none⟩ = some (.int .u8 a0_4) := (bc1 BK200.out 4).trans rfl
              have hcz32_5 : wr.cell? ⟨gb200, 5, none⟩ = some (.string a0_5) := (bc1 BK200.out 5).trans rfl
              have hfz32_0 := bz1 BK200.out 0
              have hfz32_1 := bz1 BK200.out 1
              have hfz32_2 := bz1 BK200.out 2
              have hfz32_3 := bz1 BK200.out 3
              have hfz32_4 := bz1 BK200.out 4
              have hfz32_5 := bz1 BK200.out 5
              go_wp2
              go_ret
              exact ⟨by first | rfl | (simp [errW_none, errW_some] <;> rfl) | (simp [*, errW_none, errW_some] <;> rfl), by repeat (first | (with_reducible first | exact HB.out | apply la1 | apply ln1 | apply ld1 | refine ls1 ?_ GE200.out) | exact HB.out)⟩
            · rw [if_neg c31] at H
              exact absurd H (by simp)
end Go.Proofs.YtopcleljecdkkaaDoor.G
end
section
namespace Go.Proofs.YtopcleljecdkkaaDoor.G
open Go.RowKit Go.Proofs.YtopcleljecdkkaaDoorW.PrintWords Go.Proofs.YtopcleljecdkkaaDoorW.PrintLast Go.Proofs.YtopcleljecdkkaaDoorW.PrintMore
attribute [local go_sem] max2_int min2_int max_two min_two max_three min_three max_four min_four
set_option linter.unusedVariables false
set_option linter.unusedSimpArgs false
def clavierlaw19_awake.f  : Option (Bool) := some true
theorem tx_of (n : Nat) (l : List UInt8) (h : Lib.decDigits n = l) (hn : n ≤ 1000) : clavierref01_Text.f (n : Int) = some ⟨l.toArray⟩ ∧ num_Text.f (n : Int) = some ⟨l.toArray⟩ := by
  have e : textL (n : Int) = l := by rw [textL_nat, h]
  unfold clavierref01_Text.f num_Text.f
  rw [if_pos ⟨by omega, by omega⟩, e]
  exact ⟨rfl, rfl⟩
theorem dd_small (n : Nat) (h : n < 10) : Lib.decDigits n = [UInt8.ofNat (48 + n)] := by rw [Lib.decDigits, dif_pos h]
theorem dd24 : Lib.decDigits 24 = [50, 52] := by
  rw [Lib.decDigits, dif_neg (by decide), Lib.decDigits, dif_pos (by decide)]
  rfl
theorem awBody1 : clavierref03_body.f 20 1 0 [[3], [4]] ⟨#[]⟩ 82 ⟨#[]⟩ = some ⟨#[51, 59, 52]⟩ := by
  have t3 : clavierref01_Text.f 3 = some ⟨#[51]⟩ := (tx_of 3 _ (dd_small 3 (by decide)) (by decide)).1
  have t4 : clavierref01_Text.f 4 = some ⟨#[52]⟩ := (tx_of 4 _ (dd_small 4 (by decide)) (by decide)).1
  simp [clavierref03_body.f, clavierref03_body.j0, clavierref03_body.l0, clavierref03_body.j2, clavierref03_body.l1, rd, rd_L1, wrap64, t3, t4]
  decide
theorem awBody2 : clavierref03_body.f 20 3 0 [[1]] ⟨#[36]⟩ 114 ⟨#[49, 59, 50, 52, 114]⟩ = some ⟨#[49, 36]⟩ := by
  have t1 : clavierref01_Text.f 1 = some ⟨#[49]⟩ := (tx_of 1 _ (dd_small 1 (by decide)) (by decide)).1
  simp [clavierref03_body.f, clavierref03_body.j0, clavierref03_body.l0, clavierref03_body.j2, clavierref03_body.l1, rd, rd_L1, wrap64, t1]
  decide
theorem awBody3 : clavierref03_body.f 20 3 0 [[0]] ⟨#[36]⟩ 114 ⟨#[]⟩ = some ⟨#[48, 36]⟩ := by
  have t0 : clavierref01_Text.f 0 = some ⟨#[48]⟩ := (tx_of 0 _ (dd_small 0 (by decide)) (by decide)).1
  simp [clavierref03_body.f, clavierref03_body.j0, clavierref03_body.l0, clavierref03_body.j2, clavierref03_body.l1, rd, rd_L1, wrap64, t0]
  decide
theorem awMay1 : clavierref03_May.f 30 1 0 [[3], [4]] ⟨#[]⟩ 82 ⟨#[]⟩ = some 0 := by kernel_rfl
theorem awMay2 : clavierref03_May.f 30 3 0 [[1]] ⟨#[36]⟩ 114 ⟨#[49, 59, 50, 52, 114]⟩ = some 0 := by kernel_rfl
theorem awMay3 : clavierref03_May.f 30 3 0 [[0]] ⟨#[36]⟩ 114 ⟨#[]⟩ = some 0 := by kernel_rfl
theorem awPlace : report_Place.f 20 0 0 3 4 1 24 0 0 0 false false false false false false false 0 0 0 false = some (1, 0, [[3], [4]], ⟨#[]⟩, 82, ⟨#[]⟩) := by kernel_rfl
theorem awSetR : report_Setting.f 20 0 0 3 4 1 24 0 0 0 false false false false false false false 0 0 0 ⟨#[114]⟩ = some (3, 0, [[1]], ⟨#[36]⟩, 114, ⟨#[49, 59, 50, 52, 114]⟩) := by
  have t1 : num_Text.f 1 = some ⟨#[49]⟩ := (tx_of 1 _ (dd_small 1 (by decide)) (by decide)).2
  have t24 : num_Text.f 24 = some ⟨#[50, 52]⟩ := (tx_of 24 _ dd24 (by decide)).2
  have s1 : report_Setting_1.f 1 = some ⟨#[49]⟩ := by unfold report_Setting_1.f; rw [show report_fact.f 1 = some 1 from rfl, Option.bind_some, t1]; rfl
  have s24 : report_Setting_1.f 24 = some ⟨#[50, 52]⟩ := by unfold report_Setting_1.f; rw [show report_fact.f 24 = some 24 from rfl, Option.bind_some, t24]; rfl
  unfold report_Setting.f
  rw [if_neg (by decide), if_pos rfl, s1, Option.bind_some, s24, Option.bind_some, if_pos (by decide)]
  rfl
theorem awSetX : report_Setting.f 20 0 0 3 4 1 24 0 0 0 false false false false false false false 0 0 0 ⟨#[120]⟩ = some (3, 0, [[0]], ⟨#[36]⟩, 114, ⟨#[]⟩) := by
  unfold report_Setting.f
  rw [if_neg (by decide), if_neg (by decide), if_neg (by decide), if_neg (by decide), if_neg (by decide)]
theorem clavierlaw19_awake.calls  (r : Bool) (w : World) (hT : Tab w) (h : clavierlaw19_awake.f  = some r) :
    Calls Tryd.prog 9 #[] w fun e w' => e = .returned (.bool r) ∧ Below w.heap.size w w' := by
  obtain rfl : true = r := Option.some.inj h
  have hp : ∀ (kd pv fi : Int) (rows : List (List Int)) (inter data bd : ByteArray), clavierref03_May.f 30 kd pv rows inter fi data = some 0 → clavierref03_body.f 20 kd pv rows inter fi data = some bd → ∀ W A c, (Kd.slice 3 (Kd.int .i64)).C W A rows.length rows → rows.length ≤ c →
      SeqAt 26 (seqV kd pv (.slice A rows.length c) inter fi data) (.int .i64 0) W ∧ SeqAt 53 (seqV kd pv (.slice A rows.length c) inter fi data) (.string bd) W := by
    intro kd pv fi rows inter data bd hm hb W A c hC hc
    refine ⟨fun W' hW => ?_, fun W' hW => ?_⟩
    · exact (clavierref03_May.calls 30 kd pv A c rows inter fi data 0 W' (Kd.C_below hC hW) hc hm).mono fun e w' h => ⟨h.1, by first | exact h.2 | exact h.2.below⟩
    · exact (clavierref03_body.calls 20 kd pv A c rows inter fi data bd W' (Kd.C_below hC hW) hc hb).mono fun e w' h => ⟨h.1, by first | exact h.2 | exact h.2.below⟩
  refine awake19_calls w (fun W hb => ?_) (fun W hb => ?_) (fun W hb => ?_) (fun W hb => ?_) (fun W A c hb hC hc => ?_) (fun W A c hb hC hc => ?_) (fun W A c hb hC hc => ?_)
  · exact report_Place.calls 20 0 0 3 4 1 24 0 0 0 false false false false false false false 0 0 0 false _ _ _ _ _ _ W awPlace
  · exact report_Setting.calls 20 0 0 3 4 1 24 0 0 0 false false false false false false false 0 0 0 ⟨#[114]⟩ _ _ _ _ _ _ W (Tab.below hT hb) awSetR
  · exact report_Setting.calls 20 0 0 3 4 1 24 0 0 0 false false false false false false false 0 0 0 ⟨#[120]⟩ _ _ _ _ _ _ W (Tab.below hT hb) awSetX
  · exact (report_Version.calls _ _ _ _ _ _ W rfl).mono fun e w' ⟨v, h1, h2, h3⟩ => ⟨v, h1, h3⟩
  · obtain ⟨k1, k2⟩ := hp 1 0 82 [[3], [4]] ⟨#[]⟩ ⟨#[]⟩ _ awMay1 awBody1 W A c hC hc
    exact put_csi 0 82 _ ⟨rfl, rfl⟩ ⟨#[]⟩ ⟨#[]⟩ _ W (by decide) (by decide) k1 k2 (by decide) _ rfl
  · obtain ⟨k1, k2⟩ := hp 3 0 114 [[1]] ⟨#[36]⟩ ⟨#[49, 59, 50, 52, 114]⟩ _ awMay2 awBody2 W A c hC hc
    exact put_dcs 0 114 _ ⟨rfl, rfl⟩ ⟨#[36]⟩ ⟨#[49, 59, 50, 52, 114]⟩ _ W (by decide) (by decide) k1 k2 (by decide) (by decide) _ rfl
  · obtain ⟨k1, k2⟩ := hp 3 0 114 [[0]] ⟨#[36]⟩ ⟨#[]⟩ _ awMay3 awBody3 W A c hC hc
    exact put_dcs 0 114 _ ⟨rfl, rfl⟩ ⟨#[36]⟩ ⟨#[]⟩ _ W (by decide) (by decide) k1 k2 (by decide) (by decide) _ rfl
end Go.Proofs.YtopcleljecdkkaaDoor.G
end
section
namespace Go.Proofs.YtopcleljecdkkaaDoor
set_option linter.unusedVariables false
set_option linter.unusedSimpArgs false
set_option maxRecDepth 100000
open Go.RowKit Kit Go.Proofs.YtopcleljecdkkaaDoorW.PrintWords G
attribute [local irreducible] wpList Calls
theorem awake_gives {w : World} (hT : Tab w) : Gives 9 #[] (.bool true) w := fun W hb => (clavierlaw19_awake.calls true W (Tab.below hT hb) rfl).mono fun e w' h => ⟨h.1, by first | exact h.2 | exact h.2.below⟩
end Go.Proofs.YtopcleljecdkkaaDoor
end
