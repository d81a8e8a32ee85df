/- S: texts run together by shake.py: PuSa Gclavierref18a3 PuSb. -/
import Derived.ArgAppend
import Derived.Below
import Derived.BigQuiet
import Derived.ChangeOld
import Derived.ChangeSlices
import Derived.Deep.AppendLies
import Derived.Deep.CutBlock
import Derived.Deep.DeepCutAuto
import Derived.Deep.Draws
import Derived.Deep.LoopGhost
import Derived.Deep.Matrix
import Derived.Deep.OwnRows
import Derived.Deep.Quiet
import Derived.Deep.QuietTactic
import Derived.Deep.RegionHeld3
import Derived.KernelRfl
import Derived.Laws.AppendOwn
import Derived.Laws.AppendOwnNone
import Derived.Laws.BitsLemmas
import Derived.Laws.BytesArg
import Derived.Laws.Concat
import Derived.Laws.CopyRow
import Derived.Laws.IdiomCopy
import Derived.Laws.IdiomStrings
import Derived.Laws.MakeOwn
import Derived.Laws.OwnMore
import Derived.Laws.Rows
import Derived.Laws.Slices
import Derived.Laws.StructEq
import Derived.Lib.AppendIntMem
import Derived.Lib.AppendStr
import Derived.Lib.ConvBytes
import Derived.Lib.Hide
import Derived.Lib.ItoaLen
import Derived.Lib.ItoaNum
import Derived.Lib.LaidTab
import Derived.Lib.Strings
import Derived.MapKept
import Derived.Maps.AppendAt
import Derived.OpenShut
import Derived.Orders
import Derived.OrdersHeld
import Derived.Outline
import Derived.OwnWalk
import Derived.ProofKit
import Derived.RowKit
import Derived.RowKit3
import Derived.Shelf.LaysM
import Derived.Shelf.Strconv.Itoa0
import Derived.Shelf.Strconv.Itoa1
import Derived.Shelf.Strconv.Itoa2
import Derived.Shelf.Strconv.Itoa3
import Derived.Shelf.Strings.Builder1
import Derived.Shelf.Strings.Builder2
import Derived.Shelf.Strings.Builder2Cap
import Derived.Shelf.Strings.BuilderCap
import Derived.Shelf.Strings.BuilderF
import Derived.Shelf.Strings.BuilderK
import Derived.Shelf.Strings.OnBuilder
import Derived.ShutString
import Derived.SizedLaws
import Derived.Still
import Derived.Tactics
import Derived.Test.YtbaigfoioiklkaaDoorProg
import Derived.WalkKit
import Derived.WalkLawsBesides
import Derived.WalkSpells
import Derived.WideLaws
import Derived.Test.YtbaigfoioiklkaaDoorZS1
import Derived.Test.YtbaigfoioiklkaaDoorZS2
import Derived.Test.YtbaigfoioiklkaaDoorZS3
import Derived.Test.YtbaigfoioiklkaaDoorZS4
import Derived.Test.YtbaigfoioiklkaaDoorZS7
import Derived.Test.YtbaigfoioiklkaaDoorZS8
import Derived.Test.YtbaigfoioiklkaaDoorZS9
import Derived.Test.YtbaigfoioiklkaaDoorZS11
import Derived.Test.YtbaigfoioiklkaaDoorZS12
import Derived.Test.YtbaigfoioiklkaaDoorZS13
section
namespace Go.Proofs.YtbaigfoioiklkaaDoor.G
set_option linter.unusedVariables false
set_option linter.unusedSimpArgs false
open Go.RowKit Kit Go.Proofs.YtbaigfoioiklkaaDoorW.PrintWords
theorem within_is (n : Int) : clavierref18_within.f n = some (byteB n) := by
  unfold clavierref18_within.f byteB
  by_cases h : n ≥ 0
  · rw [if_pos h]; simp [show (0 : Int) ≤ n from h]; omega
  · rw [if_neg h]; simp [show ¬ (0 : Int) ≤ n by omega]
theorem parted_j0 (l : List Int) (k : Nat) (hk : 1 ≤ k) (b : Bool) (hb : b = (decide (l.length = 3) && (decide (at_ l 1 = 5) && byteB (at_ l 2)))) : clavierref18_parted.j0 k l b = some (splitI l) := by
  obtain ⟨k, rfl⟩ : ∃ m, k = m + 1 := ⟨k - 1, by omega⟩
  unfold splitI
  rw [clavierref18_parted.j0]
  cases b with
  | true =>
    have hb' := hb.symm
    simp only [Bool.and_eq_true, decide_eq_true_eq] at hb'
    rw [if_pos rfl, if_pos (by omega), if_pos ⟨hb'.1, hb'.2.1, hb'.2.2⟩, rd_at2]
  | false =>
    have hb' := hb.symm
    have hn : ¬ (l.length = 3 ∧ at_ l 1 = 5 ∧ byteB (at_ l 2) = true) := by
      rintro ⟨h1, h2, h3⟩
      simp [h1, h2, h3] at hb'
    rw [if_neg (by decide), if_neg hn]
    by_cases h6 : l.length = 6
    · rw [if_pos (by omega), if_pos (by omega), rd_at1]
      by_cases h2 : at_ l 1 = 2
      · rw [if_pos h2, if_pos (by omega), within_is, Option.bind_some, rd_at3]
        by_cases c3 : byteB (at_ l 3) = true
        · rw [if_pos c3, if_pos (by omega), within_is, Option.bind_some, rd_at4]
          by_cases c4 : byteB (at_ l 4) = true
          · rw [if_pos c4, if_pos (by omega), within_is, Option.bind_some, rd_at5]
            by_cases c5 : byteB (at_ l 5) = true
            · rw [if_pos c5, if_pos ⟨h6, h2, c3, c4, c5⟩, (rgb_wrap c3 c4 c5).2]
            · rw [if_neg c5, if_neg (fun h => c5 h.2.2.2.2)]
          · rw [if_neg c4, if_neg (fun h => c4 h.2.2.2.1)]
        · rw [if_neg c3, if_neg (fun h => c3 h.2.2.1)]
      · rw [if_neg h2, if_neg (fun h => h2 h.2.1)]
    · rw [if_neg (by omega), if_neg (fun h => h6 h.1)]
theorem parted_is (l : List Int) (k : Nat) (hk : 1 ≤ k) : clavierref18_parted.f k l = some (splitI l) := by
  unfold clavierref18_parted.f
  by_cases h3 : l.length = 3
  · rw [if_pos (by omega), if_pos (by omega), rd_at1]
    by_cases h5 : at_ l 1 = 5
    · rw [if_pos h5, if_pos (by omega), within_is, Option.bind_some, rd_at2]
      exact parted_j0 l k hk _ (by simp [h3, h5])
    · rw [if_neg h5]
      exact parted_j0 l k hk _ (by simp [h5])
  · rw [if_neg (by omega)]
    exact parted_j0 l k hk _ (by simp [h3])
theorem refSaid_is (l : List Int) (base : Int) (k : Nat) (hk : 30 ≤ k) (hl : 0 < l.length) (h0 : 0 < at_ l 0) (h1 : at_ l 0 ≤ 9223372036854775807) (hb : base = 30 ∨ base = 40) : clavierref18_said.f k l base = some (saidI l base) := by
  obtain ⟨k, rfl⟩ : ∃ m, k = m + 2 := ⟨k - 2, by omega⟩
  have hw : wrap64 (at_ l 0 - base) = at_ l 0 - base := by unfold wrap64; omega
  unfold clavierref18_said.f saidI
  rw [if_pos (by omega), rd_at0, hw]
  generalize at_ l 0 - base = n at *
  have hj1 : ∀ c : Bool, c = (decide (60 ≤ n) && decide (n ≤ 67)) → ¬ (0 ≤ n ∧ n < 8) → n ≠ 9 → clavierref18_said.j1 (k + 1) l n c = some (if 0 ≤ n ∧ n < 8 then n else if n = 8 then splitI l else if n = 9 then -1 else if 60 ≤ n ∧ n < 68 then n - 52 else -2) := by
    intro c hc hn h9
    rw [clavierref18_said.j1, if_neg hn]
    cases c with
    | true =>
      have hc' := hc.symm
      simp only [Bool.and_eq_true, decide_eq_true_eq] at hc'
      rw [if_pos rfl, if_neg (show ¬ n = 8 by omega), if_neg h9, if_pos (by omega), show wrap64 (n - 52) = n - 52 by unfold wrap64; omega]
    | false =>
      have hn2 : ¬ (60 ≤ n ∧ n < 68) := by
        rintro ⟨a, b⟩
        simp [a, show n ≤ 67 by omega] at hc
      rw [if_neg (by decide)]
      by_cases h8 : n = 8
      · rw [if_pos h8, if_pos h8, parted_is l k (by omega)]; rfl
      · rw [if_neg h8, if_neg h8, if_neg h9, if_neg hn2]
  have hj : ∀ c : Bool, c = (decide (0 ≤ n) && decide (n < 8)) → clavierref18_said.j0 (k + 2) l n c = some (if 0 ≤ n ∧ n < 8 then n else if n = 8 then splitI l else if n = 9 then -1 else if 60 ≤ n ∧ n < 68 then n - 52 else -2) := by
    intro c hc
    rw [clavierref18_said.j0]
    cases c with
    | true =>
      have hc' := hc.symm
      simp only [Bool.and_eq_true, decide_eq_true_eq] at hc'
      rw [if_pos rfl, if_pos hc']
    | false =>
      have hn : ¬ (0 ≤ n ∧ n < 8) := by
        rintro ⟨a, b⟩
        simp [a, b] at hc
      rw [if_neg (by decide)]
      by_cases h9 : n = 9
      · rw [if_pos h9, if_neg hn, if_neg (show ¬ n = 8 by omega), if_pos h9]
      · rw [if_neg h9]
        by_cases h60 : n ≥ 60
        · rw [if_pos h60]
          exact hj1 _ (by simp [show (60 : Int) ≤ n from h60]) hn h9
        · rw [if_neg h60]
          exact hj1 _ (by simp [show ¬ (60 : Int) ≤ n by omega]) hn h9
  by_cases hn0 : n ≥ 0
  · rw [if_pos hn0]
    exact hj _ (by simp only [show (0 : Int) ≤ n from hn0, decide_true, Bool.true_and]; rw [Bool.eq_iff_iff]; simp; omega)
  · rw [if_neg hn0]
    exact hj _ (by simp [show ¬ (0 : Int) ≤ n by omega])
end Go.Proofs.YtbaigfoioiklkaaDoor.G
end
section
namespace Go.Proofs.YtbaigfoioiklkaaDoor.G
open Go.RowKit Go.Proofs.YtbaigfoioiklkaaDoorW.PrintWords Go.Proofs.YtbaigfoioiklkaaDoorW.PrintLast Go.Proofs.YtbaigfoioiklkaaDoorW.PrintMore
attribute [local go_sem] max2_int min2_int max_two min_two max_three min_three max_four min_four
set_option linter.unusedVariables false
set_option linter.unusedSimpArgs false
def clavierref18_Apply.l0 : Nat → List (List Int) → Int → Bool → Bool → Bool → Bool → Bool → Bool → Bool → Int → Int → Int → Option (Bool × Bool × Bool × Bool × Bool × Bool × Bool × Int × Int × Int)
  | 0, _, _, _, _, _, _, _, _, _, _, _, _ => none
  | k + 1, x1, x5, x386000, x386001, x386002, x386003, x386004, x386005, x386006, x386007, x386008, x386009 => if x5 < (x1.length : Int) then (if 0 ≤ x5 then ((clavierref18_apply.f k x386000 x386001 x386002 x386003 x386004 x386005 x386006 x386007 x386008 x386009 (rd_L1 x1 x5)).bind fun bt388 => (clavierref18_Apply.l0 k x1 (wrap64 (x5 + 1)) bt388.1 bt388.2.1 bt388.2.2.1 bt388.2.2.2.1 bt388.2.2.2.2.1 bt388.2.2.2.2.2.1 bt388.2.2.2.2.2.2.1 bt388.2.2.2.2.2.2.2.1 bt388.2.2.2.2.2.2.2.2.1 bt388.2.2.2.2.2.2.2.2.2)) else (none)) else (some (x386000, x386001, x386002, x386003, x386004, x386005, x386006, x386007, x386008, x386009))
def clavierref18_Apply.f (k : Nat) (a0_0 : Bool) (a0_1 : Bool) (a0_2 : Bool) (a0_3 : Bool) (a0_4 : Bool) (a0_5 : Bool) (a0_6 : Bool) (a0_7 : Int) (a0_8 : Int) (a0_9 : Int) (l1 : List (List Int)) : Option (Bool × Bool × Bool × Bool × Bool × Bool × Bool × Int × Int × Int) := clavierref18_Apply.l0 k l1 0 a0_0 a0_1 a0_2 a0_3 a0_4 a0_5 a0_6 a0_7 a0_8 a0_9
theorem clavierref18_Apply.mono_l : ∀ k, (∀ y0 y1 y2 y3 y4 y5 y6 y7 y8 y9 y10 y11, LeO (clavierref18_Apply.l0 k y0 y1 y2 y3 y4 y5 y6 y7 y8 y9 y10 y11) (clavierref18_Apply.l0 (k + 1) y0 y1 y2 y3 y4 y5 y6 y7 y8 y9 y10 y11))
  | 0 => fun _ _ _ _ _ _ _ _ _ _ _ _ r h => by simp [clavierref18_Apply.l0] at h
  | k + 1 => by
    have ih0 := clavierref18_Apply.mono_l k
    · intro y0 y1 y2 y3 y4 y5 y6 y7 y8 y9 y10 y11
      unfold clavierref18_Apply.l0
      repeat' first
      | (with_reducible exact ih0 _ _ _ _ _ _ _ _ _ _ _ _)
      | (with_reducible exact clavierref18_apply.mono _ _ _ _ _ _ _ _ _ _ _ _)
      | (with_reducible exact LeO.refl _)
      | (with_reducible exact LeO.none _)
      | (with_reducible refine LeO.ite ?_ ?_)
      | (with_reducible refine LeO.bind ?_ (fun _ => ?_))
      | exact ih0 _ _ _ _ _ _ _ _ _ _ _ _
      | exact clavierref18_apply.mono _ _ _ _ _ _ _ _ _ _ _ _
      | exact LeO.none _
      | refine LeO.ite ?_ ?_
      | refine LeO.bind ?_ (fun _ => ?_)
theorem clavierref18_Apply.mono : ∀ a0 a1 a2 a3 a4 a5 a6 a7 a8 a9 a10 k, LeO (clavierref18_Apply.f k a0 a1 a2 a3 a4 a5 a6 a7 a8 a9 a10) (clavierref18_Apply.f (k + 1) a0 a1 a2 a3 a4 a5 a6 a7 a8 a9 a10) := by
  intro a0 a1 a2 a3 a4 a5 a6 a7 a8 a9 a10 k
  have ih0 := clavierref18_Apply.mono_l k
  unfold clavierref18_Apply.f
  repeat' first
      | (with_reducible exact ih0 _ _ _ _ _ _ _ _ _ _ _ _)
      | (with_reducible exact clavierref18_apply.mono _ _ _ _ _ _ _ _ _ _ _ _)
      | (with_reducible exact LeO.refl _)
      | (with_reducible exact LeO.none _)
      | (with_reducible refine LeO.ite ?_ ?_)
      | (with_reducible refine LeO.bind ?_ (fun _ => ?_))
      | exact ih0 _ _ _ _ _ _ _ _ _ _ _ _
      | exact clavierref18_apply.mono _ _ _ _ _ _ _ _ _ _ _ _
      | exact LeO.none _
      | refine LeO.ite ?_ ?_
      | refine LeO.bind ?_ (fun _ => ?_)
set_option maxHeartbeats 8000000 in
set_option maxRecDepth 100000 in
theorem clavierref18_Apply.calls (k : Nat) (a0_0 : Bool) (a0_1 : Bool) (a0_2 : Bool) (a0_3 : Bool) (a0_4 : Bool) (a0_5 : Bool) (a0_6 : Bool) (a0_7 : Int) (a0_8 : Int) (a0_9 : Int) (A1 : Option Addr) (c1 : Nat) (l1 : List (List Int)) (r1 : Bool) (r2 : Bool) (r3 : Bool) (r4 : Bool) (r5 : Bool) (r6 : Bool) (r7 : Bool) (r8 : Int) (r9 : Int) (r10 : Int) (w : World) (hr1 : Kd.C (Kd.slice 3 (Kd.int .i64)) w A1 l1.length l1) (hc1 : l1.length ≤ c1) (h : clavierref18_Apply.f k a0_0 a0_1 a0_2 a0_3 a0_4 a0_5 a0_6 a0_7 a0_8 a0_9 l1 = some (r1, r2, r3, r4, r5, r6, r7, r8, r9, r10)) :
    Calls Tryd.prog 19 #[.agg #[.bool a0_0, .bool a0_1, .bool a0_2, .bool a0_3, .bool a0_4, .bool a0_5, .bool a0_6, .int .i64 a0_7, .int .i64 a0_8, .int .i64 a0_9], .slice A1 l1.length c1] w fun e w' => e = .returned (.agg #[.bool r1, .bool r2, .bool r3, .bool r4, .bool r5, .bool r6, .bool r7, .int .i64 r8, .int .i64 r9, .int .i64 r10]) ∧ Below w.heap.size w w' := by
  have hu23 := Tryd.underlying23
  have HR1 := Aside0.mk hr1
  have HC1 := Aside0.mk hc1
  clear hr1 hc1
  have HB := Aside0.mk (Below.refl w.heap.size w)
  have H : (clavierref18_Apply.l0 k l1 0 a0_0 a0_1 a0_2 a0_3 a0_4 a0_5 a0_6 a0_7 a0_8 a0_9) = some (r1, r2, r3, r4, r5, r6, r7, r8, r9, r10) := h
  clear h
  have H' := Aside0.mk H
  clear H
  go_enter Tryd.func19, Tryd.ntmps19
  go_wp2_with (first | ((with_reducible refine gate_dst (N := 2) rfl ?_); refine box_event ?hg (N := 2) ?hd (cs := #[.bool a0_0, .bool a0_1, .bool a0_2, .bool a0_3, .bool a0_4, .bool a0_5, .bool a0_6, .int .i64 a0_7, .int .i64 a0_8, .int .i64 a0_9]) (t := 23) ?hr ?_; (case hd => rfl); (case hg => rfl); (case hr => first | (go_simp; done) | (go_simp; rfl)); intro gb385 hg w3 hbox hb; have n0_ := Aside0.mk (below_step (by repeat (first | (with_reducible first | exact HB.out | apply below_alloc | apply pw_below_drewN | apply below_drew1) | exact HB.out)) hb); have n1_ := Aside0.mk (hbox); have n2_ := Aside0.mk ((by rw [hg]; exact (below_size (by repeat (first | (with_reducible first | exact HB.out | apply below_alloc | apply pw_below_drewN | apply below_drew1) | exact HB.out))) : w.heap.size ≤ gb385)); have n3_ := Aside0.mk ((by rw [hg]; exact (below_size (by repeat (first | (with_reducible first | exact HB.out | apply below_alloc | apply pw_below_drewN | apply below_drew1) | exact HB.out))) : w.heap.size ≤ gb385)); clear HB; have HB := n0_; have BK385 := n1_; have GW385 := n2_; have GE385 := n3_; clear n0_ n1_ n2_ n3_; clear hb hbox hg) | ((with_reducible refine gate_dst (N := 4) rfl ?_); refine box_event ?hg (N := 4) ?hd (cs := #[.bool false, .bool false, .bool false, .bool false, .bool false, .bool false, .bool false, .int .i64 0, .int .i64 0, .int .i64 0]) (t := 23) ?hr ?_; (case hd => rfl); (case hg => rfl); (case hr => first | (go_simp; done) | (go_simp; rfl)); intro gb386 hg w4 hbox hb; have n0_ := Aside0.mk (blk_below (g := gb385) (o := .cells #[.bool a0_0, .bool a0_1, .bool a0_2, .bool a0_3, .bool a0_4, .bool a0_5, .bool a0_6, .int .i64 a0_7, .int .i64 a0_8, .int .i64 a0_9] 23 (0, 0)) (by (with_reducible repeat (first | refine blk_drewN ?_ _ | refine blk_drew ?_ | refine blk_alloc ?_ _)); exact BK385.out) hb); have n1_ := Aside0.mk (below_step (by repeat (first | (with_reducible first | exact HB.out | apply below_alloc | apply pw_below_drewN | apply below_drew1 | refine below_set ?_ GE385.out) | exact HB.out)) hb); have n2_ := Aside0.mk (hbox); have n3_ := Aside0.mk ((by rw [hg]; exact (below_size (by repeat (first | (with_reducible first | exact HB.out | apply below_alloc | apply pw_below_drewN | apply below_drew1 | refine below_set ?_ GE385.out) | exact HB.out))) : w.heap.size ≤ gb386)); have n4_ := Aside0.mk ((by rw [hg]; exact (below_size (by repeat (first | (with_reducible first | exact HB.out | apply below_alloc | apply pw_below_drewN | apply below_drew1 | refine below_set ?_ GE385.out) | exact HB.out))) : w.heap.size ≤ gb386)); have n5_ := Aside0.mk ((by rw [hg]; exact Nat.ne_of_lt (blk_lt (g := gb385) (o := .cells #[.bool a0_0, .bool a0_1, .bool a0_2, .bool a0_3, .bool a0_4, .bool a0_5, .bool a0_6, .int .i64 a0_7, .int .i64 a0_8, .int .i64 a0_9] 23 (0, 0)) (by (with_reducible repeat (first | refine blk_drewN ?_ _ | refine blk_drew ?_ | refine blk_alloc ?_ _)); exact BK385.out)) : gb385 ≠ gb386)); have n6_ := Aside0.mk ((by rw [hg]; exact Nat.ne_of_gt (blk_lt (g := gb385) (o := .cells #[.bool a0_0, .bool a0_1, .bool a0_2, .bool a0_3, .bool a0_4, .bool a0_5, .bool a0_6, .int .i64 a0_7, .int .i64 a0_8, .int .i64 a0_9] 23 (0, 0)) (by (with_reducible repeat (first | refine blk_drewN ?_ _ | refine blk_drew ?_ | refine blk_alloc ?_ _)); exact BK385.out)) : gb386 ≠ gb385)); clear BK385; clear HB; have BK385 := n0_; have HB := n1_; have BK386 := n2_; have GW386 := n3_; have GE386 := n4_; have NB385_386 := n5_; have NB386_385 := n6_; clear n0_ n1_ n2_ n3_ n4_ n5_ n6_; clear hb hbox hg))
  go_loopg [5] k (fun kq v5 w' => ∃ (x5_1 : Int) (x386000_1 : Bool) (x386001_1 : Bool) (x386002_1 : Bool) (x386003_1 : Bool) (x386004_1 : Bool) (x386005_1 : Bool) (x386006_1 : Bool) (x386007_1 : Int) (x386008_1 : Int) (x386009_1 : Int), v5 = .int .i64 x5_1 ∧ Aside0 (clavierref18_Apply.l0 kq l1 x5_1 x386000_1 x386001_1 x386002_1 x386003_1 x386004_1 x386005_1 x386006_1 x386007_1 x386008_1 x386009_1 = some (r1, r2, r3, r4, r5, r6, r7, r8, r9, r10)) ∧ Aside0 (kq ≤ k) ∧ Aside0 (w'.heap[gb385]? = some (.cells #[.bool x386000_1, .bool x386001_1, .bool x386002_1, .bool x386003_1, .bool x386004_1, .bool x386005_1, .bool x386006_1, .int .i64 x386007_1, .int .i64 x386008_1, .int .i64 x386009_1] 23 (0, 0))) ∧ Aside0 (w'.heap[gb386]? = some (.cells #[.bool false, .bool false, .bool false, .bool false, .bool false, .bool false, .bool false, .int .i64 0, .int .i64 0, .int .i64 0] 23 (0, 0))) ∧ Aside0 (Below w.heap.size w w'))
  case atStart => exact ⟨(0), (a0_0), (a0_1), (a0_2), (a0_3), (a0_4), (a0_5), (a0_6), (a0_7), (a0_8), (a0_9), (by first | rfl | (simp; done) | (simp [*]; done)), H', ⟨Nat.le_refl _⟩, ⟨by (with_reducible repeat (first | refine blk_drewN ?_ _ | refine blk_drew ?_ | refine blk_alloc ?_ _)); exact BK385.out⟩, ⟨by (with_reducible repeat (first | refine blk_drewN ?_ _ | refine blk_drew ?_ | refine blk_alloc ?_ _)); exact BK386.out⟩, ⟨by repeat (first | (with_reducible first | exact HB.out | apply below_alloc | apply pw_below_drewN | apply below_drew1 | refine below_set ?_ GE385.out | refine below_set ?_ GE386.out) | exact HB.out)⟩⟩
  case round =>
    clear H'
    try clear c1
    try clear p2
    obtain ⟨x5_1, x386000_1, x386001_1, x386002_1, x386003_1, x386004_1, x386005_1, x386006_1, x386007_1, x386008_1, x386009_1, rfl, HA, HK1, BK385, BK386, HB⟩ := hrel
    cases gk with
    | zero => exact absurd HA.out (by simp [clavierref18_Apply.l0])
    | succ k1 =>
      have H := HA.out
      clear HA
      simp only [clavierref18_Apply.l0] at H
      by_cases c5 : x5_1 < (l1.length : Int)
      · rw [if_pos c5] at H
        have c5b0 : decide (x5_1 < (l1.length : Int)) = true := decide_eq_true c5
        clear c5
        by_cases c6 : 0 ≤ x5_1
        · rw [if_pos c6] at H
          have c6b0 : decide (0 ≤ x5_1) = true := decide_eq_true c6
          clear c6
          replace H := Option.bind_eq_some_iff.mp H
          obtain ⟨⟨t388, t389, t390, t391, t392, t393, t394, t395, t396, t397⟩, A70, H⟩ := H
          replace H : (clavierref18_Apply.l0 k1 l1 (wrap64 (x5_1 + 1)) t388 t389 t390 t391 t392 t393 t394 t395 t396 t397) = some (r1, r2, r3, r4, r5, r6, r7, r8, r9, r10) := H
          have A7 := Aside0.mk A70
          clear A70
          have H' := Aside0.mk H
          clear H
          try go_wp2
          have n0_ := Aside0.mk (blk_drew BK385.out)
          have n1_ := Aside0.mk (blk_drew BK386.out)
          have n2_ := Aside0.mk (below_drew1 HB.out)
          clear BK385
          clear BK386
          clear HB
          have BK385 := n0_
          have BK386 := n1_
          have HB := n2_
          clear n0_ n1_ n2_
          have p387 : 0 ≤ (x5_1 : Int) := of_decide_eq_true (by first | (with_reducible assumption) | assumption)
          have q387 : x5_1 < (l1.length : Int) := of_decide_eq_true (by first | (with_reducible assumption) | assumption)
          obtain ⟨ad387, A387_0, c387_0, e387, hx387_0, hl387_0, hi387_0⟩ := at_L1 HR1.out x5_1 p387 q387
          have hw387_0 := hx387_0
          cases e387
          replace hx387_0 := (HB.out.cell (World.block_lt_of_cell? w _ hx387_0)).trans hx387_0
          have HR387_0 := Aside0.mk hi387_0
          have HC387_0 := Aside0.mk hl387_0
          clear hi387_0 hl387_0
          replace p387 := eq_true p387
          replace q387 := eq_true q387
          refine start_ (n := 7) (S := fun w' => w'.cell? ⟨gb385, 0, none⟩ = some (.bool x386000_1) ∧ w'.cell? ⟨gb385, 1, none⟩ = some (.bool x386001_1) ∧ w'.cell? ⟨gb385, 2, none⟩ = some (.bool x386002_1) ∧ w'.cell? ⟨gb385, 3, none⟩ = some (.bool x386003_1) ∧ w'.cell? ⟨gb385, 4, none⟩ = some (.bool x386004_1) ∧ w'.cell? ⟨gb385, 5, none⟩ = some (.bool x386005_1) ∧ w'.cell? ⟨gb385, 6, none⟩ = some (.bool x386006_1) ∧ w'.cell? ⟨gb385, 7, none⟩ = some (.int .i64 x386007_1) ∧ w'.cell? ⟨gb385, 8, none⟩ = some (.int .i64 x386008_1) ∧ w'.cell? ⟨gb385, 9, none⟩ = some (.int .i64 x386009_1) ∧ w'.cell? (ad387.add (x5_1).toNat) = some (.slice A387_0 (rd_L1 l1 x5_1).length c387_0)) (ds := [6]) #[false, false, false, false, false, false, false] (by kernel_rfl) rfl rfl ⟨(blk_cell BK385.out 0).trans rfl, (blk_cell BK385.out 1).trans rfl, (blk_cell BK385.out 2).trans rfl, (blk_cell BK385.out 3).trans rfl, (blk_cell BK385.out 4).trans rfl, (blk_cell BK385.out 5).trans rfl, (blk_cell BK385.out 6).trans rfl, (blk_cell BK385.out 7).trans rfl, (blk_cell BK385.out 8).trans rfl, (blk_cell BK385.out 9).trans rfl, ((HB.out.cell (World.block_lt_of_cell? w _ hw387_0)).trans hw387_0)⟩ (fun hHeld => ?_)
          generalize wr.drew = w8 at BK385 BK386 HB HR387_0 hx387_0 hHeld ⊢
          refine pure_ (i := 1) (N := some 13) (v := ?_) (a' := ?_) #[false, true, false, false, false, false, false] rfl rfl (by kernel_rfl) (fun _ _ _ h => h) (Or.inl ⟨by rfl, ?_⟩) ?_ ?_
          rotate_left
          · intro w'
            go_simp
            with_reducible rfl
          rotate_left
          · simp only [Act.put, List.setIfInBounds_toArray, List.set_cons_zero, List.set_cons_succ, i64_w, i32_w]
            rfl
          refine pure_ (i := 2) (N := some 14) (v := ?_) (a' := ?_) #[false, true, true, false, false, false, false] rfl rfl (by kernel_rfl) (fun _ _ _ h => h) (Or.inl ⟨by rfl, ?_⟩) ?_ ?_
          rotate_left
          · intro w'
            go_simp
            with_reducible rfl
          rotate_left
          · simp only [Act.put, List.setIfInBounds_toArray, List.set_cons_zero, List.set_cons_succ, i64_w, i32_w]
            rfl
          refine pure_ (i := 3) (N := some 15) (v := ?_) (a' := ?_) #[false, true, true, true, false, false, false] rfl rfl (by kernel_rfl) (fun _ _ _ h => h) (Or.inl ⟨by rfl, ?_⟩) ?_ ?_
          rotate_left
          · intro w'
            go_simp
            with_reducible rfl
          rotate_left
          · simp only [Act.put, List.setIfInBounds_toArray, List.set_cons_zero, List.set_cons_succ, i64_w, i32_w]
            rfl
          refine take_ (i := 0) (N := some 12) (v := ?_) (a' := ?_) #[true, true, true, true, false, false, false] rfl rfl (by kernel_rfl) (fun _ _ _ h => h) (Or.inl ⟨by rfl, ?_⟩) hHeld ?_ ?_
          rotate_left
          · rintro w' ⟨s0, s1, s2, s3, s4, s5, s6, s7, s8, s9, s10⟩
            go_simp
            with_reducible rfl
          rotate_left
          · simp only [Act.put, List.setIfInBounds_toArray, List.set_cons_zero, List.set_cons_succ, i64_w, i32_w]
            rfl
          refine take_ (i := 4) (N := some 16) (v := ?_) (a' := ?_) #[true, true, true, true, true, false, false] rfl rfl (by kernel_rfl) (fun _ _ _ h => h) (Or.inl ⟨by rfl, ?_⟩) hHeld ?_ ?_
          rotate_left
          · rintro w' ⟨s0, s1, s2, s3, s4, s5, s6, s7, s8, s9, s10⟩
            go_simp
            with_reducible rfl
          rotate_left
          · simp only [Act.put, List.setIfInBounds_toArray, List.set_cons_zero, List.set_cons_succ, i64_w, i32_w]
            rfl
          refine one_ (i := 5) (N := some 17) #[true, true, true, true, true, true, false] rfl rfl (by kernel_rfl) (by decide) (fun K hK => ?_)
          refine goes_ Tryd.func33 (by kernel_rfl) rfl #[.agg #[.bool x386000_1, .bool x386001_1, .bool x386002_1, .bool x386003_1, .bool x386004_1, .bool x386005_1, .bool x386006_1, .int .i64 x386007_1, .int .i64 x386008_1, .int .i64 x386009_1], .slice A387_0 (rd_L1 l1 x5_1).length c387_0] (by rfl) rfl rfl (by (try simp only [List.map_toArray, List.map_cons, List.map_nil]); first | done | rfl | (simp only [List.length_drop, List.length_take]; rfl)) ?_
          with_reducible refine (clavierref18_apply.calls k1 x386000_1 x386001_1 x386002_1 x386003_1 x386004_1 x386005_1 x386006_1 x386007_1 x386008_1 x386009_1 _ _ (rd_L1 l1 x5_1) t388 t389 t390 t391 t392 t393 t394 t395 t396 t397 _ ?side1 ?side2 A7.out).mono ?_
          (case side1 => repeat (first | exact (Kd.C_below HR387_0.out HB.out) | (with_reducible refine Kd.C_alloc ?_ _) | (with_reducible refine Kd.C_drewN ?_ _) | (with_reducible refine Kd.C_drew ?_)))
          (case side2 => exact HC387_0.out)
          rintro e w9 ⟨rfl, hb⟩
          refine ⟨_, rfl, ?_⟩
          have n0_ := Aside0.mk (blk_below (g := gb385) (o := .cells #[.bool x386000_1, .bool x386001_1, .bool x386002_1, .bool x386003_1, .bool x386004_1, .bool x386005_1, .bool x386006_1, .int .i64 x386007_1, .int .i64 x386008_1, .int .i64 x386009_1] 23 (0, 0)) (by (with_reducible repeat (first | refine blk_drewN ?_ _ | refine blk_drew ?_ | refine blk_alloc ?_ _)); exact BK385.out) hb)
          have n1_ := Aside0.mk (blk_below (g := gb386) (o := .cells #[.bool false, .bool false, .bool false, .bool false, .bool false, .bool false, .bool false, .int .i64 0, .int .i64 0, .int .i64 0] 23 (0, 0)) (by (with_reducible repeat (first | refine blk_drewN ?_ _ | refine blk_drew ?_ | refine blk_alloc ?_ _)); exact BK386.out) hb)
          have n2_ := Aside0.mk (below_step (by repeat (first | (with_reducible first | exact HB.out | apply below_alloc | apply pw_below_drewN | apply below_drew1 | refine below_set ?_ GE385.out | refine below_set ?_ GE386.out) | exact HB.out)) hb)
          clear BK385
          clear BK386
          clear HB
          have BK385 := n0_
          have BK386 := n1_
          have HB := n2_
          clear n0_ n1_ n2_
          (try clear hb)
          (try clear hb2)
          (try clear hk)
          (try clear hi)
          refine hK.out _ _ ⟨(blk_cell BK385.out 0).trans rfl, (blk_cell BK385.out 1).trans rfl, (blk_cell BK385.out 2).trans rfl, (blk_cell BK385.out 3).trans rfl, (blk_cell BK385.out 4).trans rfl, (blk_cell BK385.out 5).trans rfl, (blk_cell BK385.out 6).trans rfl, (blk_cell BK385.out 7).trans rfl, (blk_cell BK385.out 8).trans rfl, (blk_cell BK385.out 9).trans rfl, ((HB.out.cell (World.block_lt_of_cell? w _ hw387_0)).trans hw387_0)⟩ (fun hHeld => ?_)
          clear hK K
          refine norm_ (a' := ?_) ?_ ?_
          rotate_left
          · show Act.put _ (some 17) _ = _
            simp only [Act.put, List.setIfInBounds_toArray, List.set_cons_zero, List.set_cons_succ, i64_w, i32_w]
            rfl
          refine last_ (i := 6) (N := none) #[true, true, true, true, true, true, true] rfl rfl (by kernel_rfl) (by decide) (fun K hK => ?_)
          have hs10 : w9.cell? ⟨gb385, 0, none⟩ = some (.bool x386000_1) := (blk_cell BK385.out 0).trans rfl
          have hfs10 := blk_frozen BK385.out 0
          have hns10_1 := NB386_385.out
          have hms10_1 := NB385_386.out
          have hs11 : w9.cell? ⟨gb385, 1, none⟩ = some (.bool x386001_1) := (blk_cell BK385.out 1).trans rfl
          have hfs11 := blk_frozen BK385.out 1
          have hns11_1 := NB386_385.out
          have hms11_1 := NB385_386.out
          have hs12 : w9.cell? ⟨gb385, 2, none⟩ = some (.bool x386002_1) := (blk_cell BK385.out 2).trans rfl
          have hfs12 := blk_frozen BK385.out 2
          have hns12_1 := NB386_385.out
          have hms12_1 := NB385_386.out
          have hs13 : w9.cell? ⟨gb385, 3, none⟩ = some (.bool x386003_1) := (blk_cell BK385.out 3).trans rfl
          have hfs13 := blk_frozen BK385.out 3
          have hns13_1 := NB386_385.out
          have hms13_1 := NB385_386.out
          have hs14 : w9.cell? ⟨gb385, 4, none⟩ = some (.bool x386004_1) := (blk_cell BK385.out 4).trans rfl
          have hfs14 := blk_frozen BK385.out 4
          have hns14_1 := NB386_385.out
          have hms14_1 := NB385_386.out
          have hs15 : w9.cell? ⟨gb385, 5, none⟩ = some (.bool x386005_1) := (blk_cell BK385.out 5).trans rfl
          have hfs15 := blk_frozen BK385.out 5
          have hns15_1 := NB386_385.out
          have hms15_1 := NB385_386.out
          have hs16 : w9.cell? ⟨gb385, 6, none⟩ = some (.bool x386006_1) := (blk_cell BK385.out 6).trans rfl
          have hfs16 := blk_frozen BK385.out 6
          have hns16_1 := NB386_385.out
          have hms16_1 := NB385_386.out
          have hs17 : w9.cell? ⟨gb385, 7, none⟩ = some (.int .i64 x386007_1) := (blk_cell BK385.out 7).trans rfl
          have hfs17 := blk_frozen BK385.out 7
          have hns17_1 := NB386_385.out
          have hms17_1 := NB385_386.out
          have hs18 : w9.cell? ⟨gb385, 8, none⟩ = some (.int .i64 x386008_1) := (blk_cell BK385.out 8).trans rfl
          have hfs18 := blk_frozen BK385.out 8
          have hns18_1 := NB386_385.out
          have hms18_1 := NB385_386.out
          have hs19 : w9.cell? ⟨gb385, 9, none⟩ = some (.int .i64 x386009_1) := (blk_cell BK385.out 9).trans rfl
          have hfs19 := blk_frozen BK385.out 9
          have hns19_1 := NB386_385.out
          have hms19_1 := NB385_386.out
          refine skip_ (w1 := ?_) (by rfl) rfl ?_ ?_
          rotate_left
          · go_simp
            rfl
          refine hK.out _ _ ?_
          clear hK K
          refine done_ (by kernel_rfl) ?_
          try go_wp2
          go_roundg k1
          case measure => have := HK1.out; omega
          case rel => exact ⟨(wrap64 (x5_1 + 1)), (t388), (t389), (t390), (t391), (t392), (t393), (t394), (t395), (t396), (t397), (by first | rfl | (simp; done) | (simp [*]; done)), H', ⟨by have := HK1.out; omega⟩, ⟨by (with_reducible repeat (first | refine blk_drewN ?_ _ | refine blk_drew ?_ | refine blk_alloc ?_ _)); refine blk_put (cs := #[.bool t388, .bool t389, .bool t390, .bool t391, .bool t392, .bool t393, .bool t394, .int .i64 t395, .int .i64 t396, .int .i64 x386009_1]) ?_ 9 _ rfl; (with_reducible repeat (first | refine blk_drewN ?_ _ | refine blk_drew ?_ | refine blk_alloc ?_ _)); refine blk_put (cs := #[.bool t388, .bool t389, .bool t390, .bool t391, .bool t392, .bool t393, .bool t394, .int .i64 t395, .int .i64 x386008_1, .int .i64 x386009_1]) ?_ 8 _ rfl; (with_reducible repeat (first | refine blk_drewN ?_ _ | refine blk_drew ?_ | refine blk_alloc ?_ _)); refine blk_put (cs := #[.bool t388, .bool t389, .bool t390, .bool t391, .bool t392, .bool t393, .bool t394, .int .i64 x386007_1, .int .i64 x386008_1, .int .i64 x386009_1]) ?_ 7 _ rfl; (with_reducible repeat (first | refine blk_drewN ?_ _ | refine blk_drew ?_ | refine blk_alloc ?_ _)); refine blk_put (cs := #[.bool t388, .bool t389, .bool t390, .bool t391, .bool t392, .bool t393, .bool x386006_1, .int .i64 x386007_1, .int .i64 x386008_1, .int .i64 x386009_1]) ?_ 6 _ rfl; (with_reducible repeat (first | refine blk_drewN ?_ _ | refine blk_drew ?_ | refine blk_alloc ?_ _)); refine blk_put (cs := #[.bool t388, .bool t389, .bool t390, .bool t391, .bool t392, .bool x386005_1, .bool x386006_1, .int .i64 x386007_1, .int .i64 x386008_1, .int .i64 x386009_1]) ?_ 5 _ rfl; (with_reducible repeat (first | refine blk_drewN ?_ _ | refine blk_drew ?_ | refine blk_alloc ?_ _)); refine blk_put (cs := #[.bool t388, .bool t389, .bool t390, .bool t391, .bool x386004_1, .bool x386005_1, .bool x386006_1, .int .i64 x386007_1, .int .i64 x386008_1, .int .i64 x386009_1]) ?_ 4 _ rfl; (with_reducible repeat (first | refine blk_drewN ?_ _ | refine blk_drew ?_ | refine blk_alloc ?_ _)); refine blk_put (cs := #[.bool t388, .bool t389, .bool t390, .bool x386003_1, .bool x386004_1, .bool x386005_1, .bool x386006_1, .int .i64 x386007_1, .int .i64 x386008_1, .int .i64 x386009_1]) ?_ 3 _ rfl; (with_reducible repeat (first | refine blk_drewN ?_ _ | refine blk_drew ?_ | refine blk_alloc ?_ _)); refine blk_put (cs := #[.bool t388, .bool t389, .bool x386002_1, .bool x386003_1, .bool x386004_1, .bool x386005_1, .bool x386006_1, .int .i64 x386007_1, .int .i64 x386008_1, .int .i64 x386009_1]) ?_ 2 _ rfl; (with_reducible repeat (first | refine blk_drewN ?_ _ | refine blk_drew ?_ | refine blk_alloc ?_ _)); refine blk_put (cs := #[.bool t388, .bool x386001_1, .bool x386002_1, .bool x386003_1, .bool x386004_1, .bool x386005_1, .bool x386006_1, .int .i64 x386007_1, .int .i64 x386008_1, .int .i64 x386009_1]) ?_ 1 _ rfl; (with_reducible repeat (first | refine blk_drewN ?_ _ | refine blk_drew ?_ | refine blk_alloc ?_ _)); refine blk_put (cs := #[.bool x386000_1, .bool x386001_1, .bool x386002_1, .bool x386003_1, .bool x386004_1, .bool x386005_1, .bool x386006_1, .int .i64 x386007_1, .int .i64 x386008_1, .int .i64 x386009_1]) ?_ 0 _ rfl; (with_reducible repeat (first | refine blk_drewN ?_ _ | refine blk_drew ?_ | refine blk_alloc ?_ _)); exact BK385.out⟩, ⟨by (with_reducible repeat (first | refine blk_drewN ?_ _ | refine blk_drew ?_ | refine blk_alloc ?_ _)); refine blk_far ?_ NB386_385.out _; (with_reducible repeat (first | refine blk_drewN ?_ _ | refine blk_drew ?_ | refine blk_alloc ?_ _)); refine blk_far ?_ NB386_385.out _; (with_reducible repeat (first | refine blk_drewN ?_ _ | refine blk_drew ?_ | refine blk_alloc ?_ _)); refine blk_far ?_ NB386_385.out _; (with_reducible repeat (first | refine blk_drewN ?_ _ | refine blk_drew ?_ | refine blk_alloc ?_ _)); refine blk_far ?_ NB386_385.out _; (with_reducible repeat (first | refine blk_drewN ?_ _ | refine blk_drew ?_ | refine blk_alloc ?_ _)); refine blk_far ?_ NB386_385.out _; (with_reducible repeat (first | refine blk_drewN ?_ _ | refine blk_drew ?_ | refine blk_alloc ?_ _)); refine blk_far ?_ NB386_385.out _; (with_reducible repeat (first | refine blk_drewN ?_ _ | refine blk_drew ?_ | refine blk_alloc ?_ _)); refine blk_far ?_ NB386_385.out _; (with_reducible repeat (first | refine blk_drewN ?_ _ | refine blk_drew ?_ | refine blk_alloc ?_ _)); refine blk_far ?_ NB386_385.out _; (with_reducible repeat (first | refine blk_drewN ?_ _ | refine blk_drew ?_ | refine blk_alloc ?_ _)); refine blk_far ?_ NB386_385.out _; (with_reducible repeat (first | refine blk_drewN ?_ _ | refine blk_drew ?_ | refine blk_alloc ?_ _)); refine blk_far ?_ NB386_385.out _; (with_reducible repeat (first | refine blk_drewN ?_ _ | refine blk_drew ?_ | refine blk_alloc ?_ _)); exact BK386.out⟩, ⟨by repeat (first | (with_reducible first | exact HB.out | apply below_alloc | apply pw_below_drewN | apply below_drew1 | refine below_set ?_ GE385.out | refine below_set ?_ GE386.out) | exact HB.out)⟩⟩
        · rw [if_neg c6] at H
          exact absurd H (by simp)
      · rw [if_neg c5] at H
        have c5b0 : decide (x5_1 < (l1.length : Int)) = false := decide_eq_false c5
        clear c5
        simp only [Option.some.injEq, Prod.mk.injEq] at H
        obtain ⟨rfl, rfl, rfl, rfl, rfl, rfl, rfl, rfl, rfl, rfl⟩ := H
        have hnb20 := NB385_386.out
        have hnc20 := NB386_385.out
        have hcz21_0 : wr.cell? ⟨gb385, 0, none⟩ = some (.bool x386000_1) := (blk_cell BK385.out 0).trans rfl
        have hcz21_1 : wr.cell? ⟨gb385, 1, none⟩ = some (.bool x386001_1) := (blk_cell BK385.out 1).trans rfl
        have hcz21_2 : wr.cell? ⟨gb385, 2, none⟩ = some (.bool x386002_1) := (blk_cell BK385.out 2).trans rfl
        have hcz21_3 : wr.cell? ⟨gb385, 3, none⟩ = some (.bool x386003_1) := (blk_cell BK385.out 3).trans rfl
        have hcz21_4 : wr.cell? ⟨gb385, 4, none⟩ = some (.bool x386004_1) := (blk_cell BK385.out 4).trans rfl
        have hcz21_5 : wr.cell? ⟨gb385, 5, none⟩ = some (.bool x386005_1) := (blk_cell BK385.out 5).trans rfl
        have hcz21_6 : wr.cell? ⟨gb385, 6, none⟩ = some (.bool x386006_1) := (blk_cell BK385.out 6).trans rfl
        have hcz21_7 : wr.cell? ⟨gb385, 7, none⟩ = some (.int .i64 x386007_1) := (blk_cell BK385.out 7).trans rfl
        have hcz21_8 : wr.cell? ⟨gb385, 8, none⟩ = some (.int .i64 x386008_1) := (blk_cell BK385.out 8).trans rfl
        have hcz21_9 : wr.cell? ⟨gb385, 9, none⟩ = some (.int .i64 x386009_1) := (blk_cell BK385.out 9).trans rfl
        have hfz21_0 := blk_frozen BK385.out 0
        have hfz21_1 := blk_frozen BK385.out 1
        have hfz21_2 := blk_frozen BK385.out 2
        have hfz21_3 := blk_frozen BK385.out 3
        have hfz21_4 := blk_frozen BK385.out 4
        have hfz21_5 := blk_frozen BK385.out 5
        have hfz21_6 := blk_frozen BK385.out 6
        have hfz21_7 := blk_frozen BK385.out 7
        have hfz21_8 := blk_frozen BK385.out 8
        have hfz21_9 := blk_frozen BK385.out 9
        have hcz22_0 : wr.cell? ⟨gb386, 0, none⟩ = some (.bool false) := (blk_cell BK386.out 0).trans rfl
        have hcz22_1 : wr.cell? ⟨gb386, 1, none⟩ = some (.bool false) := (blk_cell BK386.out 1).trans rfl
        have hcz22_2 : wr.cell? ⟨gb386, 2, none⟩ = some (.bool false) := (blk_cell BK386.out 2).trans rfl
        have hcz22_3 : wr.cell? ⟨gb386, 3, none⟩ = some (.bool false) := (blk_cell BK386.out 3).trans rfl
        have hcz22_4 : wr.cell? ⟨gb386, 4, none⟩ = some (.bool false) := (blk_cell BK386.out 4).trans rfl
        have hcz22_5 : wr.cell? ⟨gb386, 5, none⟩ = some (.bool false) := (blk_cell BK386.out 5).trans rfl
        have hcz22_6 : wr.cell? ⟨gb386, 6, none⟩ = some (.bool false) := (blk_cell BK386.out 6).trans rfl
        have hcz22_7 : wr.cell? ⟨gb386, 7, none⟩ = some (.int .i64 0) := (blk_cell BK386.out 7).trans rfl
        have hcz22_8 : wr.cell? ⟨gb386, 8, none⟩ = some (.int .i64 0) := (blk_cell BK386.out 8).trans rfl
        have hcz22_9 : wr.cell? ⟨gb386, 9, none⟩ = some (.int .i64 0) := (blk_cell BK386.out 9).trans rfl
        have hfz22_0 := blk_frozen BK386.out 0
        have hfz22_1 := blk_frozen BK386.out 1
        have hfz22_2 := blk_frozen BK386.out 2
        have hfz22_3 := blk_frozen BK386.out 3
        have hfz22_4 := blk_frozen BK386.out 4
        have hfz22_5 := blk_frozen BK386.out 5
        have hfz22_6 := blk_frozen BK386.out 6
        have hfz22_7 := blk_frozen BK386.out 7
        have hfz22_8 := blk_frozen BK386.out 8
        have hfz22_9 := blk_frozen BK386.out 9
        go_wp2
        refine bodyPost_ret (results_cell_row rfl _ _ gb386 23 #[.bool x386000_1, .bool x386001_1, .bool x386002_1, .bool x386003_1, .bool x386004_1, .bool x386005_1, .bool x386006_1, .int .i64 x386007_1, .int .i64 x386008_1, .int .i64 x386009_1] (0, 0) _ rfl (by (with_reducible repeat (first | refine blk_drewN ?_ _ | refine blk_drew ?_ | refine blk_alloc ?_ _)); refine blk_put (cs := #[.bool x386000_1, .bool x386001_1, .bool x386002_1, .bool x386003_1, .bool x386004_1, .bool x386005_1, .bool x386006_1, .int .i64 x386007_1, .int .i64 x386008_1, .int .i64 0]) ?_ 9 _ rfl; (with_reducible repeat (first | refine blk_drewN ?_ _ | refine blk_drew ?_ | refine blk_alloc ?_ _)); refine blk_put (cs := #[.bool x386000_1, .bool x386001_1, .bool x386002_1, .bool x386003_1, .bool x386004_1, .bool x386005_1, .bool x386006_1, .int .i64 x386007_1, .int .i64 0, .int .i64 0]) ?_ 8 _ rfl; (with_reducible repeat (first | refine blk_drewN ?_ _ | refine blk_drew ?_ | refine blk_alloc ?_ _)); refine blk_put (cs := #[.bool x386000_1, .bool x386001_1, .bool x386002_1, .bool x386003_1, .bool x386004_1, .bool x386005_1, .bool x386006_1, .int .i64 0, .int .i64 0, .int .i64 0]) ?_ 7 _ rfl; (with_reducible repeat (first | refine blk_drewN ?_ _ | refine blk_drew ?_ | refine blk_alloc ?_ _)); refine blk_put (cs := #[.bool x386000_1, .bool x386001_1, .bool x386002_1, .bool x386003_1, .bool x386004_1, .bool x386005_1, .bool false, .int .i64 0, .int .i64 0, .int .i64 0]) ?_ 6 _ rfl; (with_reducible repeat (first | refine blk_drewN ?_ _ | refine blk_drew ?_ | refine blk_alloc ?_ _)); refine blk_put (cs := #[.bool x386000_1, .bool x386001_1, .bool x386002_1, .bool x386003_1, .bool x386004_1, .bool false, .bool false, .int .i64 0, .int .i64 0, .int .i64 0]) ?_ 5 _ rfl; (with_reducible repeat (first | refine blk_drewN ?_ _ | refine blk_drew ?_ | refine blk_alloc ?_ _)); refine blk_put (cs := #[.bool x386000_1, .bool x386001_1, .bool x386002_1, .bool x386003_1, .bool false, .bool false, .bool false, .int .i64 0, .int .i64 0, .int .i64 0]) ?_ 4 _ rfl; (with_reducible repeat (first | refine blk_drewN ?_ _ | refine blk_drew ?_ | refine blk_alloc ?_ _)); refine blk_put (cs := #[.bool x386000_1, .bool x386001_1, .bool x386002_1, .bool false, .bool false, .bool false, .bool false, .int .i64 0, .int .i64 0, .int .i64 0]) ?_ 3 _ rfl; (with_reducible repeat (first | refine blk_drewN ?_ _ | refine blk_drew ?_ | refine blk_alloc ?_ _)); refine blk_put (cs := #[.bool x386000_1, .bool x386001_1, .bool false, .bool false, .bool false, .bool false, .bool false, .int .i64 0, .int .i64 0, .int .i64 0]) ?_ 2 _ rfl; (with_reducible repeat (first | refine blk_drewN ?_ _ | refine blk_drew ?_ | refine blk_alloc ?_ _)); refine blk_put (cs := #[.bool x386000_1, .bool false, .bool false, .bool false, .bool false, .bool false, .bool false, .int .i64 0, .int .i64 0, .int .i64 0]) ?_ 1 _ rfl; (with_reducible repeat (first | refine blk_drewN ?_ _ | refine blk_drew ?_ | refine blk_alloc ?_ _)); refine blk_put (cs := #[.bool false, .bool false, .bool false, .bool false, .bool false, .bool false, .bool false, .int .i64 0, .int .i64 0, .int .i64 0]) ?_ 0 _ rfl; (with_reducible repeat (first | refine blk_drewN ?_ _ | refine blk_drew ?_ | refine blk_alloc ?_ _)); exact BK386.out) Tryd.underlying23 rfl (by kernel_rfl)) rfl ?_
        exact ⟨by first | rfl | (simp [errW_none, errW_some] <;> rfl) | (simp [*, errW_none, errW_some] <;> rfl), by repeat (first | (with_reducible first | exact HB.out | apply below_alloc | apply pw_below_drewN | apply below_drew1 | refine below_set ?_ GE385.out | refine below_set ?_ GE386.out) | exact HB.out)⟩
end Go.Proofs.YtbaigfoioiklkaaDoor.G
end
section
namespace Go.Proofs.YtbaigfoioiklkaaDoor.G
set_option linter.unusedVariables false
set_option linter.unusedSimpArgs false
open Go.RowKit Kit Go.Proofs.YtbaigfoioiklkaaDoorW.PrintWords
theorem said_rng (l : List Int) (base : Int) : -2 ≤ saidI l base := by
  have hs : -2 ≤ splitI l := by
    unfold splitI
    by_cases h : l.length = 3 ∧ at_ l 1 = 5 ∧ byteB (at_ l 2) = true
    · rw [if_pos h]
      have := h.2.2
      simp only [byteB, Bool.and_eq_true, decide_eq_true_eq] at this
      omega
    · rw [if_neg h]
      by_cases h2 : l.length = 6 ∧ at_ l 1 = 2 ∧ byteB (at_ l 3) = true ∧ byteB (at_ l 4) = true ∧ byteB (at_ l 5) = true
      · rw [if_pos h2]
        obtain ⟨_, _, a, b, c⟩ := h2
        simp only [byteB, Bool.and_eq_true, decide_eq_true_eq] at a b c
        omega
      · rw [if_neg h2]; omega
  unfold saidI
  dsimp only
  repeat' split
  all_goals omega
theorem flag_is (b0 b1 b2 b3 b4 b5 b6 : Bool) (u f b n : Int) : clavierref18_flag.f b0 b1 b2 b3 b4 b5 b6 u f b n = some (b0 || n == 1, b1 || n == 2, b2 || n == 3, b3 || n == 5, b4 || n == 7, b5 || n == 8, b6 || n == 9, u, f, b) := by
  unfold clavierref18_flag.f
  by_cases h1 : n = 1
  · subst h1; simp
  by_cases h2 : n = 2
  · subst h2; simp
  by_cases h3 : n = 3
  · subst h3; simp
  by_cases h5 : n = 5
  · subst h5; simp
  by_cases h7 : n = 7
  · subst h7; simp
  by_cases h8 : n = 8
  · subst h8; simp
  by_cases h9 : n = 9
  · subst h9; simp
  simp [h1, h2, h3, h5, h7, h8, h9]
theorem apply_j0 (b0 b1 b2 b3 b4 b5 b6 : Bool) (u f b : Int) (l : List Int) (hi : InI l) (k : Nat) (hk : 50 ≤ k) (c : Bool) (hc : c = true ↔ (l.length = 0 ∨ at_ l 0 ≤ 0)) : clavierref18_apply.j0 k l c b0 b1 b2 b3 b4 b5 b6 u f b = some (oneL b0 b1 b2 b3 b4 b5 b6 u f b l) := by
  obtain ⟨k, rfl⟩ : ∃ m, k = m + 1 := ⟨k - 1, by omega⟩
  unfold oneL
  rw [clavierref18_apply.j0]
  by_cases h : l.length = 0 ∨ at_ l 0 ≤ 0
  · rw [if_pos (hc.2 h), if_pos h]; rfl
  · rw [if_neg (fun e => h (hc.1 e)), if_neg h, if_pos (by omega), rd_at0, rd_at1]
    by_cases h4 : at_ l 0 = 4
    · rw [if_pos h4, if_pos h4]
      by_cases h1 : l.length < 2
      · rw [if_pos (by omega), if_neg (by omega)]
      · rw [if_neg (by omega), if_pos (by omega), if_pos (show 1 < l.length by omega)]
        by_cases y0 : at_ l 1 ≥ 0
        · rw [if_pos y0]
          by_cases y5 : at_ l 1 ≤ 5
          · rw [if_pos y5, if_pos ⟨y0, y5⟩]
          · rw [if_neg y5, if_neg (fun h => y5 h.2)]
        · rw [if_neg y0, if_neg (fun h => y0 h.1)]
    · rw [if_neg h4, if_neg h4, refSaid_is l 30 k (by omega) (by omega) (by omega) (at_in hi 0).2 (.inl rfl), Option.bind_some, refSaid_is l 40 k (by omega) (by omega) (by omega) (at_in hi 0).2 (.inr rfl), Option.bind_some]
      have g1 := said_rng l 30
      have g2 := said_rng l 40
      simp only [flag_is, Option.bind_some]
      by_cases s1 : saidI l 30 = -2
      · rw [if_neg (by omega), if_pos s1]
        by_cases s2 : saidI l 40 = -2
        · rw [if_neg (by omega), if_pos s2]
        · rw [if_pos (by omega), if_neg s2]
      · rw [if_pos (by omega), if_neg s1]
        by_cases s2 : saidI l 40 = -2
        · rw [if_neg (by omega), if_pos s2]
        · rw [if_pos (by omega), if_neg s2]
theorem apply_is (b0 b1 b2 b3 b4 b5 b6 : Bool) (u f b : Int) (l : List Int) (hi : InI l) (k : Nat) (hk : 50 ≤ k) : clavierref18_apply.f k b0 b1 b2 b3 b4 b5 b6 u f b l = some (oneL b0 b1 b2 b3 b4 b5 b6 u f b l) := by
  unfold clavierref18_apply.f
  by_cases h0 : (l.length : Int) = 0
  · rw [if_pos h0]
    exact apply_j0 _ _ _ _ _ _ _ _ _ _ l hi k hk _ ⟨fun _ => .inl (by omega), fun _ => rfl⟩
  · rw [if_neg h0, if_pos (by omega), rd_at0]
    exact apply_j0 _ _ _ _ _ _ _ _ _ _ l hi k hk _ (by rw [decide_eq_true_eq]; exact ⟨fun h => .inr h, fun h => h.resolve_left (by omega)⟩)
theorem refApply_loop (l : List (List Int)) (hi : AllI l) (hl : l.length ≤ 140737488351232) : ∀ d i k (s : St), i + d = l.length → d + 60 ≤ k → clavierref18_Apply.l0 k l (i : Int) s.1 s.2.1 s.2.2.1 s.2.2.2.1 s.2.2.2.2.1 s.2.2.2.2.2.1 s.2.2.2.2.2.2.1 s.2.2.2.2.2.2.2.1 s.2.2.2.2.2.2.2.2.1 s.2.2.2.2.2.2.2.2.2 = some (foldS s (l.drop i)) := by
  intro d
  induction d with
  | zero =>
    intro i k s hid hk
    obtain ⟨k, rfl⟩ : ∃ m, k = m + 1 := ⟨k - 1, by omega⟩
    rw [clavierref18_Apply.l0, if_neg (by omega), List.drop_eq_nil_of_le (by omega)]
    rfl
  | succ d ih =>
    intro i k s hid hk
    obtain ⟨k, rfl⟩ : ∃ m, k = m + 1 := ⟨k - 1, by omega⟩
    have hil : i < l.length := by omega
    have hw : wrap64 ((i : Int) + 1) = ((i + 1 : Nat) : Int) := by unfold wrap64; omega
    rw [clavierref18_Apply.l0, if_pos (by omega), if_pos (by omega), rd_row l i hil, apply_is _ _ _ _ _ _ _ _ _ _ _ (hi _ (List.getElem_mem hil)) k (by omega), Option.bind_some, hw, List.drop_eq_getElem_cons hil]
    exact ih (i + 1) k (oneS s l[i]) (by omega) (by omega)
theorem refApply_is (s : St) (l : List (List Int)) (hi : AllI l) (hl : l.length ≤ 140737488351232) (k : Nat) (hk : l.length + 60 ≤ k) : clavierref18_Apply.f k s.1 s.2.1 s.2.2.1 s.2.2.2.1 s.2.2.2.2.1 s.2.2.2.2.2.1 s.2.2.2.2.2.2.1 s.2.2.2.2.2.2.2.1 s.2.2.2.2.2.2.2.2.1 s.2.2.2.2.2.2.2.2.2 l = some (foldS s l) := by
  have := refApply_loop l hi hl l.length 0 k s (by omega) hk
  simpa [clavierref18_Apply.f] using this
end Go.Proofs.YtbaigfoioiklkaaDoor.G
end
