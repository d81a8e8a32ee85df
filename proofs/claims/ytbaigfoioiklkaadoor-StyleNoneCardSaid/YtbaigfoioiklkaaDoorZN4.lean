/- N: texts run together by shake.py: Ggstyleone Gstyleb PuSa PTx PuSb PTj PuSc GgstyleParams Geq23. -/
import Derived.ArgAppend
import Derived.Below
import Derived.BigQuiet
import Derived.ChangeOld
import Derived.ChangeSlices
import Derived.Deep.AppendLies
import Derived.Deep.CutBlock
import Derived.Deep.DeepCutAuto
import Derived.Deep.Draws
import Derived.Deep.LoopGhost
import Derived.Deep.Matrix
import Derived.Deep.OwnRows
import Derived.Deep.Quiet
import Derived.Deep.QuietTactic
import Derived.Deep.RegionHeld3
import Derived.KernelRfl
import Derived.Laws.AppendOwn
import Derived.Laws.AppendOwnNone
import Derived.Laws.BitsLemmas
import Derived.Laws.BytesArg
import Derived.Laws.Concat
import Derived.Laws.CopyRow
import Derived.Laws.IdiomCopy
import Derived.Laws.IdiomStrings
import Derived.Laws.MakeOwn
import Derived.Laws.OwnMore
import Derived.Laws.Rows
import Derived.Laws.Slices
import Derived.Laws.StructEq
import Derived.Lib.AppendIntMem
import Derived.Lib.AppendStr
import Derived.Lib.ConvBytes
import Derived.Lib.Hide
import Derived.Lib.ItoaLen
import Derived.Lib.ItoaNum
import Derived.Lib.Join
import Derived.Lib.LaidTab
import Derived.Lib.Strings
import Derived.MapKept
import Derived.Maps.AppendAt
import Derived.OpenShut
import Derived.Orders
import Derived.OrdersHeld
import Derived.Outline
import Derived.OwnWalk
import Derived.ProofKit
import Derived.RowKit
import Derived.RowKit3
import Derived.Shelf.LaysM
import Derived.Shelf.Strconv.Itoa0
import Derived.Shelf.Strconv.Itoa1
import Derived.Shelf.Strconv.Itoa2
import Derived.Shelf.Strconv.Itoa3
import Derived.Shelf.Strings.Builder1
import Derived.Shelf.Strings.Builder2
import Derived.Shelf.Strings.Builder2Cap
import Derived.Shelf.Strings.BuilderCap
import Derived.Shelf.Strings.BuilderF
import Derived.Shelf.Strings.BuilderK
import Derived.Shelf.Strings.OnBuilder
import Derived.ShutString
import Derived.SizedLaws
import Derived.Still
import Derived.Tactics
import Derived.Test.YtbaigfoioiklkaaDoorProg
import Derived.WalkKit
import Derived.WalkLawsBesides
import Derived.WalkSpells
import Derived.WideLaws
import Derived.Test.YtbaigfoioiklkaaDoorZN1
import Derived.Test.YtbaigfoioiklkaaDoorZN2
import Derived.Test.YtbaigfoioiklkaaDoorZN3
section
namespace Go.Proofs.YtbaigfoioiklkaaDoor.G
open Go.RowKit Go.Proofs.YtbaigfoioiklkaaDoorW.PrintWords Go.Proofs.YtbaigfoioiklkaaDoorW.PrintLast Go.Proofs.YtbaigfoioiklkaaDoorW.PrintMore
attribute [local go_sem] max2_int min2_int max_two min_two max_three min_three max_four min_four
set_option linter.unusedVariables false
set_option linter.unusedSimpArgs false
def style_one.f (k : Nat) (a0_0 : Bool) (a0_1 : Bool) (a0_2 : Bool) (a0_3 : Bool) (a0_4 : Bool) (a0_5 : Bool) (a0_6 : Bool) (a0_7 : Int) (a0_8 : Int) (a0_9 : Int) (l1 : List Int) : Option (Bool × Bool × Bool × Bool × Bool × Bool × Bool × Int × Int × Int) :=
  if l1.length = 0 then some (false, false, false, false, false, false, false, 0, -1, -1)
  else if rd l1 0 ≤ 0 then some (false, false, false, false, false, false, false, 0, -1, -1)
  else if rd l1 0 = 4 then some (a0_0, a0_1, a0_2, a0_3, a0_4, a0_5, a0_6, (if l1.length = 1 then 1 else if 0 ≤ rd l1 1 ∧ rd l1 1 ≤ 5 then rd l1 1 else a0_7), a0_8, a0_9)
  else (style_said.f k l1 30).bind fun s => (style_said.f k l1 40).bind fun t =>
    some (a0_0 || rd l1 0 == 1, a0_1 || rd l1 0 == 2, a0_2 || rd l1 0 == 3, a0_3 || rd l1 0 == 5, a0_4 || rd l1 0 == 7, a0_5 || rd l1 0 == 8, a0_6 || rd l1 0 == 9, a0_7, (if s = -2 then a0_8 else s), (if t = -2 then a0_9 else t))
theorem style_one.mono : ∀ a0 a1 a2 a3 a4 a5 a6 a7 a8 a9 a10 k, LeO (style_one.f k a0 a1 a2 a3 a4 a5 a6 a7 a8 a9 a10) (style_one.f (k + 1) a0 a1 a2 a3 a4 a5 a6 a7 a8 a9 a10) := by
  intro a0 a1 a2 a3 a4 a5 a6 a7 a8 a9 a10 k
  unfold style_one.f
  repeat' first
      | exact LeO.refl _
      | exact style_said.mono _ _ _
      | refine LeO.ite ?_ ?_
      | refine LeO.bind ?_ (fun _ => ?_)
set_option maxHeartbeats 1000000 in
theorem style_one.calls (k : Nat) (a0_0 : Bool) (a0_1 : Bool) (a0_2 : Bool) (a0_3 : Bool) (a0_4 : Bool) (a0_5 : Bool) (a0_6 : Bool) (a0_7 : Int) (a0_8 : Int) (a0_9 : Int) (A1 : Option Addr) (c1 : Nat) (l1 : List Int) (r1 : Bool) (r2 : Bool) (r3 : Bool) (r4 : Bool) (r5 : Bool) (r6 : Bool) (r7 : Bool) (r8 : Int) (r9 : Int) (r10 : Int) (w : World) (hr1 : Kd.C (Kd.int .i64) w A1 l1.length l1) (hc1 : l1.length ≤ c1) (h : style_one.f k a0_0 a0_1 a0_2 a0_3 a0_4 a0_5 a0_6 a0_7 a0_8 a0_9 l1 = some (r1, r2, r3, r4, r5, r6, r7, r8, r9, r10)) :
    Calls Tryd.prog 32 #[.agg #[.bool a0_0, .bool a0_1, .bool a0_2, .bool a0_3, .bool a0_4, .bool a0_5, .bool a0_6, .int .i64 a0_7, .int .i64 a0_8, .int .i64 a0_9], .slice A1 l1.length c1] w fun e w' => e = .returned (.agg #[.bool r1, .bool r2, .bool r3, .bool r4, .bool r5, .bool r6, .bool r7, .int .i64 r8, .int .i64 r9, .int .i64 r10]) ∧ Below w.heap.size w w' := by
  unfold style_one.f at h
  cases l1 with
  | nil =>
    rw [if_pos (show ([] : List Int).length = 0 from rfl)] at h
    simp only [Option.some.injEq, Prod.mk.injEq] at h
    obtain ⟨rfl, rfl, rfl, rfl, rfl, rfl, rfl, rfl, rfl, rfl⟩ := h
    exact one_zero a0_0 a0_1 a0_2 a0_3 a0_4 a0_5 a0_6 a0_7 a0_8 a0_9 A1 c1 w
  | cons x xs =>
    have hr := Kit.reads_ints hr1
    obtain ⟨b, o, rfl, hcx⟩ := hr 0 (.int .i64 x) rfl
    rw [Nat.add_zero] at hcx
    rw [if_neg (by simp)] at h
    have hn : 0 < (x :: xs).length := by simp
    have e0 : rd (x :: xs) 0 = x := rfl
    rw [e0] at h
    by_cases h0 : x ≤ 0
    · rw [if_pos h0] at h
      simp only [Option.some.injEq, Prod.mk.injEq] at h
      obtain ⟨rfl, rfl, rfl, rfl, rfl, rfl, rfl, rfl, rfl, rfl⟩ := h
      exact one_low a0_0 a0_1 a0_2 a0_3 a0_4 a0_5 a0_6 a0_7 a0_8 a0_9 b o _ c1 x hn h0 w hcx
    · rw [if_neg h0] at h
      by_cases h4 : x = 4
      · rw [if_pos h4] at h
        subst h4
        simp only [Option.some.injEq, Prod.mk.injEq] at h
        obtain ⟨rfl, rfl, rfl, rfl, rfl, rfl, rfl, rfl, rfl, rfl⟩ := h
        cases xs with
        | nil => exact one_four1 a0_0 a0_1 a0_2 a0_3 a0_4 a0_5 a0_6 a0_7 a0_8 a0_9 b o c1 w hcx
        | cons y ys =>
          obtain ⟨b', o', he, hcy⟩ := hr 1 (.int .i64 y) rfl
          cases he
          have e1 : rd (4 :: y :: ys) 1 = y := rfl
          rw [if_neg (by simp), e1]
          exact one_four2 a0_0 a0_1 a0_2 a0_3 a0_4 a0_5 a0_6 a0_7 a0_8 a0_9 b o _ c1 y (by simp) w hcx hcy
      · rw [if_neg h4] at h
        obtain ⟨s, hs, h⟩ := Option.bind_eq_some_iff.1 h
        obtain ⟨t, ht, h⟩ := Option.bind_eq_some_iff.1 h
        simp only [Option.some.injEq, Prod.mk.injEq] at h
        obtain ⟨rfl, rfl, rfl, rfl, rfl, rfl, rfl, rfl, rfl, rfl⟩ := h
        exact one_more a0_0 a0_1 a0_2 a0_3 a0_4 a0_5 a0_6 a0_7 a0_8 a0_9 b o _ c1 x s t hn (by omega) h4 w hcx
          (fun W hb => style_said.calls k _ c1 _ 30 s W (Kd.C_below hr1 hb) hc1 hs) (fun W hb => style_said.calls k _ c1 _ 40 t W (Kd.C_below hr1 hb) hc1 ht)
end Go.Proofs.YtbaigfoioiklkaaDoor.G
end
section
namespace Go.Proofs.YtbaigfoioiklkaaDoor.G
open Go.RowKit Go.Proofs.YtbaigfoioiklkaaDoorW.PrintWords Go.Proofs.YtbaigfoioiklkaaDoorW.PrintLast Go.Proofs.YtbaigfoioiklkaaDoorW.PrintMore
attribute [local go_sem] max2_int min2_int max_two min_two max_three min_three max_four min_four
set_option linter.unusedVariables false
set_option linter.unusedSimpArgs false
mutual
def style_Text.l0 : Nat → List ByteArray → List (List Int) → Int → Int → Option (ByteArray)
  | 0, _, _, _, _ => none
  | k + 1, x3, x9, x10, x11 => if x11 < x10 then (if 0 ≤ x11 then (if x11 < (x9.length : Int) then (style_Text.l1 k x3 ([] : List ByteArray) x9 x10 x11 (rd_L1 x9 x11) ((rd_L1 x9 x11).length : Int) 0) else (none)) else (none)) else ((strings_Join.f x3 (⟨#[59]⟩ : ByteArray)).bind fun t128 => (some t128))
def style_Text.l1 : Nat → List ByteArray → List ByteArray → List (List Int) → Int → Int → List Int → Int → Int → Option (ByteArray)
  | 0, _, _, _, _, _, _, _, _ => none
  | k + 1, x3, x6, x9, x10, x11, x15, x16, x17 => if x17 < x16 then (if 0 ≤ x17 then (if x17 < (x15.length : Int) then ((num_Text.f (rd x15 x17)).bind fun t131 => (if x6.length < 8796093022208 then (style_Text.l1 k x3 (x6 ++ [t131]) x9 x10 x11 x15 x16 (wrap64 (x17 + 1))) else (none))) else (none)) else (none)) else ((strings_Join.f x6 (⟨#[58]⟩ : ByteArray)).bind fun t135 => (if x3.length < 8796093022208 then (style_Text.l0 k (x3 ++ [t135]) x9 x10 (wrap64 (x11 + 1))) else (none)))
end
def style_Text.f (k : Nat) (l0 : List (List Int)) : Option (ByteArray) := style_Text.l0 k ([] : List ByteArray) l0 (l0.length : Int) 0
theorem style_Text.mono_l : ∀ k, (∀ y0 y1 y2 y3, LeO (style_Text.l0 k y0 y1 y2 y3) (style_Text.l0 (k + 1) y0 y1 y2 y3)) ∧ (∀ y0 y1 y2 y3 y4 y5 y6 y7, LeO (style_Text.l1 k y0 y1 y2 y3 y4 y5 y6 y7) (style_Text.l1 (k + 1) y0 y1 y2 y3 y4 y5 y6 y7))
  | 0 => ⟨fun _ _ _ _ r h => by simp [style_Text.l0] at h, fun _ _ _ _ _ _ _ _ r h => by simp [style_Text.l1] at h⟩
  | k + 1 => by
    obtain ⟨ih0, ih1⟩ := style_Text.mono_l k
    refine ⟨?_, ?_⟩
    · intro y0 y1 y2 y3
      unfold style_Text.l0
      repeat' first
      | (with_reducible exact ih0 _ _ _ _)
      | (with_reducible exact ih1 _ _ _ _ _ _ _ _)
      | (with_reducible exact LeO.refl _)
      | (with_reducible exact LeO.none _)
      | (with_reducible refine LeO.ite ?_ ?_)
      | (with_reducible refine LeO.bind ?_ (fun _ => ?_))
      | exact ih0 _ _ _ _
      | exact ih1 _ _ _ _ _ _ _ _
      | exact LeO.none _
      | refine LeO.ite ?_ ?_
      | refine LeO.bind ?_ (fun _ => ?_)
    · intro y0 y1 y2 y3 y4 y5 y6 y7
      unfold style_Text.l1
      repeat' first
      | (with_reducible exact ih0 _ _ _ _)
      | (with_reducible exact ih1 _ _ _ _ _ _ _ _)
      | (with_reducible exact LeO.refl _)
      | (with_reducible exact LeO.none _)
      | (with_reducible refine LeO.ite ?_ ?_)
      | (with_reducible refine LeO.bind ?_ (fun _ => ?_))
      | exact ih0 _ _ _ _
      | exact ih1 _ _ _ _ _ _ _ _
      | exact LeO.none _
      | refine LeO.ite ?_ ?_
      | refine LeO.bind ?_ (fun _ => ?_)
theorem style_Text.mono : ∀ a0 k, LeO (style_Text.f k a0) (style_Text.f (k + 1) a0) := by
  intro a0 k
  obtain ⟨ih0, ih1⟩ := style_Text.mono_l k
  unfold style_Text.f
  repeat' first
      | (with_reducible exact ih0 _ _ _ _)
      | (with_reducible exact ih1 _ _ _ _ _ _ _ _)
      | (with_reducible exact LeO.refl _)
      | (with_reducible exact LeO.none _)
      | (with_reducible refine LeO.ite ?_ ?_)
      | (with_reducible refine LeO.bind ?_ (fun _ => ?_))
      | exact ih0 _ _ _ _
      | exact ih1 _ _ _ _ _ _ _ _
      | exact LeO.none _
      | refine LeO.ite ?_ ?_
      | refine LeO.bind ?_ (fun _ => ?_)
set_option maxHeartbeats 8000000 in
set_option maxRecDepth 100000 in
theorem style_Text.calls (k : Nat) (A0 : Option Addr) (c0 : Nat) (l0 : List (List Int)) (r : ByteArray) (w : World) (hr0 : Kd.C (Kd.slice 3 (Kd.int .i64)) w A0 l0.length l0) (hc0 : l0.length ≤ c0) (hT : Tab w) (h : style_Text.f k l0 = some r) :
    Calls Tryd.prog 15 #[.slice A0 l0.length c0] w fun e w' => e = .returned (.string r) ∧ Below w.heap.size w w' := by
  have HR0 := Aside0.mk hr0
  have HC0 := Aside0.mk hc0
  clear hr0 hc0
  have HT := Aside0.mk hT
  clear hT
  have HB := Aside0.mk (Below.refl w.heap.size w)
  have H : (style_Text.l0 k ([] : List ByteArray) l0 (l0.length : Int) 0) = some r := h
  clear h
  have H' := Aside0.mk H
  clear H
  go_enter Tryd.func15, Tryd.ntmps15
  go_wp2
  go_loopg [3, 11] k (fun kq v3 v11 w' => ∃ (x3_1 : List ByteArray) (x11_1 : Int), v11 = .int .i64 x11_1 ∧ Aside0 (style_Text.l0 kq x3_1 l0 (l0.length : Int) x11_1 = some r) ∧ Aside0 (kq ≤ k) ∧ Aside0 (Kd.R Kd.string 9 w' w.heap.size (fun _ => True) v3 x3_1) ∧ Aside0 (Below w.heap.size w w'))
  case atStart => exact ⟨(([] : List ByteArray)), (0), (by first | rfl | (simp; done) | (simp [*]; done)), H', ⟨Nat.le_refl _⟩, ⟨by first | exact Kd.R_nil _ _ _ _ _ | exact Kd.N_nil _ _ _ _ _ | exact Kd.V_nil _ _ _ _ _ | exact Kd.Q_nil _ _ _ _ _ | exact Kd.S_nil _ _ _ _ _⟩, ⟨by repeat (first | (with_reducible first | exact HB.out | apply below_alloc | apply pw_below_drewN | apply below_drew1) | exact HB.out)⟩⟩
  case round =>
    clear H'
    try clear c1
    obtain ⟨x3_1, x11_1, rfl, HA, HK1, HO_3, HB⟩ := hrel
    cases gk with
    | zero => exact absurd HA.out (by simp [style_Text.l0])
    | succ k1 =>
      have H := HA.out
      clear HA
      simp only [style_Text.l0] at H
      by_cases c2 : x11_1 < (l0.length : Int)
      · rw [if_pos c2] at H
        have c2b0 : decide (x11_1 < (l0.length : Int)) = true := decide_eq_true c2
        clear c2
        by_cases c3 : 0 ≤ x11_1
        · rw [if_pos c3] at H
          have c3b0 : decide (0 ≤ x11_1) = true := decide_eq_true c3
          clear c3
          by_cases c4 : x11_1 < (l0.length : Int)
          · rw [if_pos c4] at H
            have c4b0 : decide (x11_1 < (l0.length : Int)) = true := decide_eq_true c4
            clear c4
            have H' := Aside0.mk H
            clear H
            have p129 : 0 ≤ (x11_1 : Int) := of_decide_eq_true (by first | (with_reducible assumption) | assumption)
            have q129 : x11_1 < (l0.length : Int) := of_decide_eq_true (by first | (with_reducible assumption) | assumption)
            obtain ⟨ad129, A129_0, c129_0, e129, hx129_0, hl129_0, hi129_0⟩ := at_L1 HR0.out x11_1 p129 q129
            cases e129
            replace hx129_0 := (HB.out.cell (World.block_lt_of_cell? w _ hx129_0)).trans hx129_0
            have HR129_0 := Aside0.mk hi129_0
            have HC129_0 := Aside0.mk hl129_0
            clear hi129_0 hl129_0
            replace p129 := eq_true p129
            replace q129 := eq_true q129
            go_wp2
            go_loopg [6, 17] k1 (fun kq v6 v17 w' => ∃ (x6_2 : List ByteArray) (x17_2 : Int), v17 = .int .i64 x17_2 ∧ Aside0 (style_Text.l1 kq x3_1 x6_2 l0 (l0.length : Int) x11_1 (rd_L1 l0 x11_1) ((rd_L1 l0 x11_1).length : Int) x17_2 = some r) ∧ Aside0 (kq ≤ k1) ∧ Aside0 (Kd.R Kd.string 9 w' w.heap.size (fun k_ => some k_ ≠ (v6 : Value).ownBlock) u3 x3_1) ∧ Aside0 (Kd.R Kd.string 9 w' w.heap.size (fun k_ => some k_ ≠ (u3 : Value).ownBlock) v6 x6_2) ∧ Aside0 (Below w.heap.size w w'))
            case atStart => exact ⟨(([] : List ByteArray)), (0), (by first | rfl | (simp; done) | (simp [*]; done)), H', ⟨Nat.le_refl _⟩, ⟨by (with_reducible repeat (first | apply Kd.R_alloc | apply Kd.R_drewN | apply Kd.R_drew)); exact Kd.R_mono HO_3.out (fun _ hk => (by simp [Value.ownBlock]))⟩, ⟨by first | exact Kd.R_nil _ _ _ _ _ | exact Kd.N_nil _ _ _ _ _ | exact Kd.V_nil _ _ _ _ _ | exact Kd.Q_nil _ _ _ _ _ | exact Kd.S_nil _ _ _ _ _⟩, ⟨by repeat (first | (with_reducible first | exact HB.out | apply below_alloc | apply pw_below_drewN | apply below_drew1) | exact HB.out)⟩⟩
            case round =>
              clear H'
              try clear c1
              try clear p1
              try clear q1
              try clear hx1
              try clear c2
              try clear c2b0
              try clear p2
              try clear c3
              try clear c3b0
              try clear c4
              try clear c4b0
              try clear hx129_0
              try clear p129
              try clear q129
              obtain ⟨x6_2, x17_2, rfl, HA, HK2, HO_3, HO_6, HB⟩ := hrel
              cases gk with
              | zero => exact absurd HA.out (by simp [style_Text.l1])
              | succ k2 =>
                have H := HA.out
                clear HA
                simp only [style_Text.l1] at H
                by_cases c5 : x17_2 < ((rd_L1 l0 x11_1).length : Int)
                · rw [if_pos c5] at H
                  have c5b0 : decide (x17_2 < ((rd_L1 l0 x11_1).length : Int)) = true := decide_eq_true c5
                  clear c5
                  by_cases c6 : 0 ≤ x17_2
                  · rw [if_pos c6] at H
                    have c6b0 : decide (0 ≤ x17_2) = true := decide_eq_true c6
                    clear c6
                    by_cases c7 : x17_2 < ((rd_L1 l0 x11_1).length : Int)
                    · rw [if_pos c7] at H
                      have c7b0 : decide (x17_2 < ((rd_L1 l0 x11_1).length : Int)) = true := decide_eq_true c7
                      clear c7
                      replace H := Option.bind_eq_some_iff.mp H
                      obtain ⟨t131, A80, H⟩ := H
                      replace H : (if x6_2.length < 8796093022208 then (style_Text.l1 k2 x3_1 (x6_2 ++ [t131]) l0 (l0.length : Int) x11_1 (rd_L1 l0 x11_1) ((rd_L1 l0 x11_1).length : Int) (wrap64 (x17_2 + 1))) else (none)) = some r := H
                      have A8 := Aside0.mk A80
                      clear A80
                      by_cases c9 : x6_2.length < 8796093022208
                      · rw [if_pos c9] at H
                        have LMc9 := Aside0.mk c9
                        clear c9
                        obtain ⟨y132, hy132⟩ : ∃ y_ : List ByteArray, y_ = (x6_2 ++ [t131]) := ⟨_, rfl⟩
                        replace H : (style_Text.l1 k2 x3_1 y132 l0 (l0.length : Int) x11_1 (rd_L1 l0 x11_1) ((rd_L1 l0 x11_1).length : Int) (wrap64 (x17_2 + 1))) = some r := by first | (rw [hy132]; with_reducible exact H) | (have H2_ := (Option.bind_some _ _).symm.trans H; rw [hy132]; with_reducible exact H2_) | (have H2_ := (Option.bind_some _ _).symm.trans H; with_reducible exact H2_) | with_reducible exact H | (rw [hy132]; exact H) | exact H
                        have Ny132 := Aside0.mk hy132
                        clear hy132
                        have H' := Aside0.mk H
                        clear H
                        have p130 : 0 ≤ (x17_2 : Int) := of_decide_eq_true (by first | (with_reducible assumption) | assumption)
                        have q130 : x17_2 < ((rd_L1 l0 x11_1).length : Int) := of_decide_eq_true (by first | (with_reducible assumption) | assumption)
                        obtain ⟨ad130, e130, hx130_0⟩ := Kd.at_int HR129_0.out x17_2 p130 q130
                        cases e130
                        replace hx130_0 := (HB.out.cell (World.block_lt_of_cell? w _ hx130_0)).trans hx130_0
                        replace p130 := eq_true p130
                        replace q130 := eq_true q130
                        go_wp2_with (first | ((with_reducible refine gate_callee (f := 29) rfl ?_); refine goesL_ (some 23) rfl rfl Tryd.func29 (by kernel_rfl) rfl #[.int .i64 (rd (rd_L1 l0 x11_1) x17_2)] rfl (by (try simp only [List.map_toArray, List.map_cons, List.map_nil]); first | done | rfl | (simp only [List.length_drop, List.length_take]; rfl)) ?_; (with_reducible refine (num_Text.calls (rd (rd_L1 l0 x11_1) x17_2) t131 _ ?side1 A8.out).mono ?_); (case side1 => exact Tab.below HT.out (by repeat (first | (with_reducible first | exact HB.out | apply below_alloc | apply pw_below_drewN | apply below_drew1) | exact HB.out))); rintro e w10 ⟨rfl, hb⟩; refine ⟨_, rfl, ?_⟩; have n0_ := Aside0.mk (Kd.R_below (by (with_reducible repeat (first | apply Kd.R_alloc | apply Kd.R_drewN | apply Kd.R_drew)); exact HO_3.out) hb); have n1_ := Aside0.mk (Kd.R_below (by (with_reducible repeat (first | apply Kd.R_alloc | apply Kd.R_drewN | apply Kd.R_drew)); exact HO_6.out) hb); have n2_ := Aside0.mk (below_step (by repeat (first | (with_reducible first | exact HB.out | apply below_alloc | apply pw_below_drewN | apply below_drew1) | exact HB.out)) hb); clear HO_3; clear HO_6; clear HB; have HO_3 := n0_; have HO_6 := n1_; have HB := n2_; clear n0_ n1_ n2_; (try clear hb); (try clear hb2); (try clear hk); (try clear hi)) | ((with_reducible refine gate_builtin (b := .append) (xs := #[.tmp 21, .tmp 24]) rfl ?_); at_builtin; refine Kd.R_append Kd.string (w0 := w) w.heap.size rfl (.tmp 21) (.tmp 24) 51 9 (.string ⟨#[]⟩) 16 rfl Tryd.underlying51 info9 rfl (by decide) (by omega) u6 x6_2 t131 [.string t131] (fun k_ => some k_ ≠ (u3 : Value).ownBlock) (fun _ => False) rfl rfl ?aP (fun _ hk => hk.elim) ?aF ?aO ?aB ?aS ?aL ?_; (case aP => exact rfl); (case aB => exact (by repeat (first | (with_reducible first | exact HB.out | apply below_alloc | apply pw_below_drewN | apply below_drew1) | exact HB.out))); (case aF => exact (fun k_ hk => Kd.fresh' (Kd.R_lt (by (with_reducible repeat (first | apply Kd.R_alloc | apply Kd.R_drewN | apply Kd.R_drew)); exact HO_3.out)) k_ hk)); (case aO => exact (by (with_reducible repeat (first | apply Kd.R_alloc | apply Kd.R_drewN | apply Kd.R_drew)); exact HO_6.out)); (case aS => exact (below_size (by repeat (first | (with_reducible first | exact HB.out | apply below_alloc | apply pw_below_drewN | apply below_drew1) | exact HB.out)))); (case aL => have := LMc9.out; omega); intro v133 w11 ho hb hg hat; rw [← Ny132.out] at ho; have n0_ := Aside0.mk (Kd.R_after (ok := (fun _ => True)) (by (with_reducible repeat (first | apply Kd.R_alloc | apply Kd.R_drewN | apply Kd.R_drew)); exact Kd.R_mono HO_3.out (fun _ hk => ⟨trivial, hk⟩)) hg hat); have n1_ := Aside0.mk (hb); have n2_ := Aside0.mk (ho); clear HO_3; clear HB; clear HO_6; have HO_3 := n0_; have HB := n1_; have HO134 := n2_; clear n0_ n1_ n2_; clear ho hb hg hat))
                        go_roundg k2
                        case measure => have := HK1.out; have := HK2.out; omega
                        case rel => exact ⟨(y132), (wrap64 (x17_2 + 1)), (by first | rfl | (simp; done) | (simp [*]; done)), H', ⟨by have := HK1.out; have := HK2.out; omega⟩, ⟨by (with_reducible repeat (first | apply Kd.R_alloc | apply Kd.R_drewN | apply Kd.R_drew)); exact Kd.R_mono HO_3.out (fun _ hk => hk.2)⟩, ⟨by (with_reducible repeat (first | apply Kd.R_alloc | apply Kd.R_drewN | apply Kd.R_drew)); exact HO134.out⟩, ⟨by repeat (first | (with_reducible first | exact HB.out | apply below_alloc | apply pw_below_drewN | apply below_drew1) | exact HB.out)⟩⟩
                      · rw [if_neg c9] at H
                        exact absurd H (by simp)
                    · rw [if_neg c7] at H
                      exact absurd H (by simp)
                  · rw [if_neg c6] at H
                    exact absurd H (by simp)
                · rw [if_neg c5] at H
                  have c5b0 : decide (x17_2 < ((rd_L1 l0 x11_1).length : Int)) = false := decide_eq_false c5
                  clear c5
                  replace H := Option.bind_eq_some_iff.mp H
                  obtain ⟨t135, A120, H⟩ := H
                  replace H : (if x3_1.length < 8796093022208 then (style_Text.l0 k2 (x3_1 ++ [t135]) l0 (l0.length : Int) (wrap64 (x11_1 + 1))) else (none)) = some r := H
                  have A12 := Aside0.mk A120
                  clear A120
                  by_cases c13 : x3_1.length < 8796093022208
                  · rw [if_pos c13] at H
                    have LMc13 := Aside0.mk c13
                    clear c13
                    obtain ⟨y136, hy136⟩ : ∃ y_ : List ByteArray, y_ = (x3_1 ++ [t135]) := ⟨_, rfl⟩
                    replace H : (style_Text.l0 k2 y136 l0 (l0.length : Int) (wrap64 (x11_1 + 1))) = some r := by first | (rw [hy136]; with_reducible exact H) | (have H2_ := (Option.bind_some _ _).symm.trans H; rw [hy136]; with_reducible exact H2_) | (have H2_ := (Option.bind_some _ _).symm.trans H; with_reducible exact H2_) | with_reducible exact H | (rw [hy136]; exact H) | exact H
                    have Ny136 := Aside0.mk hy136
                    clear hy136
                    have H' := Aside0.mk H
                    clear H
                    obtain ⟨Ao14, co14, eo14⟩ := Kd.R_slice HO_6.out
                    subst eo14
                    go_wp2_with (first | ((with_reducible refine gate_callee (f := 30) rfl ?_); refine goesL_ (some 29) rfl rfl Tryd.func30 (by kernel_rfl) rfl #[.slice Ao14 x6_2.length co14, .string (⟨#[58]⟩ : ByteArray)] rfl (by (try simp only [List.map_toArray, List.map_cons, List.map_nil]); first | done | rfl | (simp only [List.length_drop, List.length_take]; rfl)) ?_; (with_reducible refine (strings_Join.calls _ _ x6_2 (⟨#[58]⟩ : ByteArray) t135 _ ?side1 ?side2 A12.out).mono ?_); (case side1 => repeat (first | exact (Kd.R_reads' HO_6.out).2.2 | (with_reducible refine Kd.C_alloc ?_ _) | (with_reducible refine Kd.C_drewN ?_ _) | (with_reducible refine Kd.C_drew ?_))); (case side2 => exact (Kd.R_reads' HO_6.out).2.1); rintro e w15 ⟨rfl, hb⟩; refine ⟨_, rfl, ?_⟩; have n0_ := Aside0.mk (Kd.R_below (by (with_reducible repeat (first | apply Kd.R_alloc | apply Kd.R_drewN | apply Kd.R_drew)); exact HO_3.out) hb); have n1_ := Aside0.mk (Kd.R_below (by (with_reducible repeat (first | apply Kd.R_alloc | apply Kd.R_drewN | apply Kd.R_drew)); exact HO_6.out) hb); have n2_ := Aside0.mk (below_step (by repeat (first | (with_reducible first | exact HB.out | apply below_alloc | apply pw_below_drewN | apply below_drew1) | exact HB.out)) hb); clear HO_3; clear HO_6; clear HB; have HO_3 := n0_; have HO_6 := n1_; have HB := n2_; clear n0_ n1_ n2_; (try clear hb); (try clear hb2); (try clear hk); (try clear hi)) | ((with_reducible refine gate_builtin (b := .append) (xs := #[.tmp 27, .tmp 30]) rfl ?_); at_builtin; refine Kd.R_append Kd.string (w0 := w) w.heap.size rfl (.tmp 27) (.tmp 30) 51 9 (.string ⟨#[]⟩) 16 rfl Tryd.underlying51 info9 rfl (by decide) (by omega) u3 x3_1 t135 [.string t135] (fun k_ => some k_ ≠ (.slice Ao14 x6_2.length co14 : Value).ownBlock) (fun _ => False) rfl rfl ?aP (fun _ hk => hk.elim) ?aF ?aO ?aB ?aS ?aL ?_; (case aP => exact rfl); (case aB => exact (by repeat (first | (with_reducible first | exact HB.out | apply below_alloc | apply pw_below_drewN | apply below_drew1) | exact HB.out))); (case aF => exact (fun k_ hk => Kd.fresh' (Kd.R_lt (by (with_reducible repeat (first | apply Kd.R_alloc | apply Kd.R_drewN | apply Kd.R_drew)); exact HO_6.out)) k_ hk)); (case aO => exact (by (with_reducible repeat (first | apply Kd.R_alloc | apply Kd.R_drewN | apply Kd.R_drew)); exact HO_3.out)); (case aS => exact (below_size (by repeat (first | (with_reducible first | exact HB.out | apply below_alloc | apply pw_below_drewN | apply below_drew1) | exact HB.out)))); (case aL => have := LMc13.out; omega); intro v137 w16 ho hb hg hat; rw [← Ny136.out] at ho; have n0_ := Aside0.mk (Kd.R_after (ok := (fun _ => True)) (by (with_reducible repeat (first | apply Kd.R_alloc | apply Kd.R_drewN | apply Kd.R_drew)); exact Kd.R_mono HO_6.out (fun _ hk => ⟨trivial, hk⟩)) hg hat); have n1_ := Aside0.mk (hb); have n2_ := Aside0.mk (ho); clear HO_6; clear HB; clear HO_3; have HO_6 := n0_; have HB := n1_; have HO138 := n2_; clear n0_ n1_ n2_; clear ho hb hg hat))
                    go_roundg k2
                    case measure => have := HK1.out; have := HK2.out; omega
                    case rel => exact ⟨(y136), (wrap64 (x11_1 + 1)), (by first | rfl | (simp; done) | (simp [*]; done)), H', ⟨by have := HK1.out; have := HK2.out; omega⟩, ⟨by (with_reducible repeat (first | apply Kd.R_alloc | apply Kd.R_drewN | apply Kd.R_drew)); exact Kd.R_mono HO138.out (fun _ hk => trivial)⟩, ⟨by repeat (first | (with_reducible first | exact HB.out | apply below_alloc | apply pw_below_drewN | apply below_drew1) | exact HB.out)⟩⟩
                  · rw [if_neg c13] at H
                    exact absurd H (by simp)
          · rw [if_neg c4] at H
            exact absurd H (by simp)
        · rw [if_neg c3] at H
          exact absurd H (by simp)
      · rw [if_neg c2] at H
        have c2b0 : decide (x11_1 < (l0.length : Int)) = false := decide_eq_false c2
        clear c2
        replace H := Option.bind_eq_some_iff.mp H
        obtain ⟨t128, A170, H⟩ := H
        replace H : (some t128) = some r := H
        have A17 := Aside0.mk A170
        clear A170
        obtain rfl := Option.some.inj H
        obtain ⟨Ao18, co18, eo18⟩ := Kd.R_slice HO_3.out
        subst eo18
        go_wp2_with (first | ((with_reducible refine gate_callee (f := 30) rfl ?_); refine goesL_ (some 34) rfl rfl Tryd.func30 (by kernel_rfl) rfl #[.slice Ao18 x3_1.length co18, .string (⟨#[59]⟩ : ByteArray)] rfl (by (try simp only [List.map_toArray, List.map_cons, List.map_nil]); first | done | rfl | (simp only [List.length_drop, List.length_take]; rfl)) ?_; (with_reducible refine (strings_Join.calls _ _ x3_1 (⟨#[59]⟩ : ByteArray) t128 _ ?side1 ?side2 A17.out).mono ?_); (case side1 => repeat (first | exact (Kd.R_reads' HO_3.out).2.2 | (with_reducible refine Kd.C_alloc ?_ _) | (with_reducible refine Kd.C_drewN ?_ _) | (with_reducible refine Kd.C_drew ?_))); (case side2 => exact (Kd.R_reads' HO_3.out).2.1); rintro e w19 ⟨rfl, hb⟩; refine ⟨_, rfl, ?_⟩; have n0_ := Aside0.mk (Kd.R_below (by (with_reducible repeat (first | apply Kd.R_alloc | apply Kd.R_drewN | apply Kd.R_drew)); exact HO_3.out) hb); have n1_ := Aside0.mk (below_step (by repeat (first | (with_reducible first | exact HB.out | apply below_alloc | apply pw_below_drewN | apply below_drew1) | exact HB.out)) hb); clear HO_3; clear HB; have HO_3 := n0_; have HB := n1_; clear n0_ n1_; (try clear hb); (try clear hb2); (try clear hk); (try clear hi)))
        go_ret
        exact ⟨by first | rfl | (simp [errW_none, errW_some] <;> rfl) | (simp [*, errW_none, errW_some] <;> rfl), by repeat (first | (with_reducible first | exact HB.out | apply below_alloc | apply pw_below_drewN | apply below_drew1) | exact HB.out)⟩
def style_Apply.l0 : Nat → List (List Int) → Int → Int → Bool → Bool → Bool → Bool → Bool → Bool → Bool → Int → Int → Int → Option (Bool × Bool × Bool × Bool × Bool × Bool × Bool × Int × Int × Int)
  | 0, _, _, _, _, _, _, _, _, _, _, _, _, _ => none
  | k + 1, x7, x8, x9, x156000, x156001, x156002, x156003, x156004, x156005, x156006, x156007, x156008, x156009 => if x9 < x8 then (if 0 ≤ x9 then (if x9 < (x7.length : Int) then ((style_one.f k x156000 x156001 x156002 x156003 x156004 x156005 x156006 x156007 x156008 x156009 (rd_L1 x7 x9)).bind fun bt158 => (style_Apply.l0 k x7 x8 (wrap64 (x9 + 1)) bt158.1 bt158.2.1 bt158.2.2.1 bt158.2.2.2.1 bt158.2.2.2.2.1 bt158.2.2.2.2.2.1 bt158.2.2.2.2.2.2.1 bt158.2.2.2.2.2.2.2.1 bt158.2.2.2.2.2.2.2.2.1 bt158.2.2.2.2.2.2.2.2.2)) else (none)) else (none)) else (some (x156000, x156001, x156002, x156003, x156004, x156005, x156006, x156007, x156008, x156009))
def style_Apply.f (k : Nat) (a0_0 : Bool) (a0_1 : Bool) (a0_2 : Bool) (a0_3 : Bool) (a0_4 : Bool) (a0_5 : Bool) (a0_6 : Bool) (a0_7 : Int) (a0_8 : Int) (a0_9 : Int) (l1 : List (List Int)) : Option (Bool × Bool × Bool × Bool × Bool × Bool × Bool × Int × Int × Int) := style_Apply.l0 k l1 (l1.length : Int) 0 a0_0 a0_1 a0_2 a0_3 a0_4 a0_5 a0_6 a0_7 a0_8 a0_9
theorem style_Apply.mono_l : ∀ k, (∀ y0 y1 y2 y3 y4 y5 y6 y7 y8 y9 y10 y11 y12, LeO (style_Apply.l0 k y0 y1 y2 y3 y4 y5 y6 y7 y8 y9 y10 y11 y12) (style_Apply.l0 (k + 1) y0 y1 y2 y3 y4 y5 y6 y7 y8 y9 y10 y11 y12))
  | 0 => fun _ _ _ _ _ _ _ _ _ _ _ _ _ r h => by simp [style_Apply.l0] at h
  | k + 1 => by
    have ih0 := style_Apply.mono_l k
    · intro y0 y1 y2 y3 y4 y5 y6 y7 y8 y9 y10 y11 y12
      unfold style_Apply.l0
      repeat' first
      | (with_reducible exact ih0 _ _ _ _ _ _ _ _ _ _ _ _ _)
      | (with_reducible exact style_one.mono _ _ _ _ _ _ _ _ _ _ _ _)
      | (with_reducible exact LeO.refl _)
      | (with_reducible exact LeO.none _)
      | (with_reducible refine LeO.ite ?_ ?_)
      | (with_reducible refine LeO.bind ?_ (fun _ => ?_))
      | exact ih0 _ _ _ _ _ _ _ _ _ _ _ _ _
      | exact style_one.mono _ _ _ _ _ _ _ _ _ _ _ _
      | exact LeO.none _
      | refine LeO.ite ?_ ?_
      | refine LeO.bind ?_ (fun _ => ?_)
theorem style_Apply.mono : ∀ a0 a1 a2 a3 a4 a5 a6 a7 a8 a9 a10 k, LeO (style_Apply.f k a0 a1 a2 a3 a4 a5 a6 a7 a8 a9 a10) (style_Apply.f (k + 1) a0 a1 a2 a3 a4 a5 a6 a7 a8 a9 a10) := by
  intro a0 a1 a2 a3 a4 a5 a6 a7 a8 a9 a10 k
  have ih0 := style_Apply.mono_l k
  unfold style_Apply.f
  repeat' first
      | (with_reducible exact ih0 _ _ _ _ _ _ _ _ _ _ _ _ _)
      | (with_reducible exact style_one.mono _ _ _ _ _ _ _ _ _ _ _ _)
      | (with_reducible exact LeO.refl _)
      | (with_reducible exact LeO.none _)
      | (with_reducible refine LeO.ite ?_ ?_)
      | (with_reducible refine LeO.bind ?_ (fun _ => ?_))
      | exact ih0 _ _ _ _ _ _ _ _ _ _ _ _ _
      | exact style_one.mono _ _ _ _ _ _ _ _ _ _ _ _
      | exact LeO.none _
      | refine LeO.ite ?_ ?_
      | refine LeO.bind ?_ (fun _ => ?_)
set_option maxHeartbeats 8000000 in
set_option maxRecDepth 100000 in
theorem style_Apply.calls (k : Nat) (a0_0 : Bool) (a0_1 : Bool) (a0_2 : Bool) (a0_3 : Bool) (a0_4 : Bool) (a0_5 : Bool) (a0_6 : Bool) (a0_7 : Int) (a0_8 : Int) (a0_9 : Int) (A1 : Option Addr) (c1 : Nat) (l1 : List (List Int)) (r1 : Bool) (r2 : Bool) (r3 : Bool) (r4 : Bool) (r5 : Bool) (r6 : Bool) (r7 : Bool) (r8 : Int) (r9 : Int) (r10 : Int) (w : World) (hr1 : Kd.C (Kd.slice 3 (Kd.int .i64)) w A1 l1.length l1) (hc1 : l1.length ≤ c1) (h : style_Apply.f k a0_0 a0_1 a0_2 a0_3 a0_4 a0_5 a0_6 a0_7 a0_8 a0_9 l1 = some (r1, r2, r3, r4, r5, r6, r7, r8, r9, r10)) :
    Calls Tryd.prog 18 #[.agg #[.bool a0_0, .bool a0_1, .bool a0_2, .bool a0_3, .bool a0_4, .bool a0_5, .bool a0_6, .int .i64 a0_7, .int .i64 a0_8, .int .i64 a0_9], .slice A1 l1.length c1] w fun e w' => e = .returned (.agg #[.bool r1, .bool r2, .bool r3, .bool r4, .bool r5, .bool r6, .bool r7, .int .i64 r8, .int .i64 r9, .int .i64 r10]) ∧ Below w.heap.size w w' := by
  have hu23 := Tryd.underlying23
  have HR1 := Aside0.mk hr1
  have HC1 := Aside0.mk hc1
  clear hr1 hc1
  have HB := Aside0.mk (Below.refl w.heap.size w)
  have H : (style_Apply.l0 k l1 (l1.length : Int) 0 a0_0 a0_1 a0_2 a0_3 a0_4 a0_5 a0_6 a0_7 a0_8 a0_9) = some (r1, r2, r3, r4, r5, r6, r7, r8, r9, r10) := h
  clear h
  have H' := Aside0.mk H
  clear H
  go_enter Tryd.func18, Tryd.ntmps18
  go_wp2_with (first | ((with_reducible refine gate_dst (N := 2) rfl ?_); refine box_event ?hg (N := 2) ?hd (cs := #[.bool a0_0, .bool a0_1, .bool a0_2, .bool a0_3, .bool a0_4, .bool a0_5, .bool a0_6, .int .i64 a0_7, .int .i64 a0_8, .int .i64 a0_9]) (t := 23) ?hr ?_; (case hd => rfl); (case hg => rfl); (case hr => first | (go_simp; done) | (go_simp; rfl)); intro gb155 hg w3 hbox hb; have n0_ := Aside0.mk (below_step (by repeat (first | (with_reducible first | exact HB.out | apply below_alloc | apply pw_below_drewN | apply below_drew1) | exact HB.out)) hb); have n1_ := Aside0.mk (hbox); have n2_ := Aside0.mk ((by rw [hg]; exact (below_size (by repeat (first | (with_reducible first | exact HB.out | apply below_alloc | apply pw_below_drewN | apply below_drew1) | exact HB.out))) : w.heap.size ≤ gb155)); have n3_ := Aside0.mk ((by rw [hg]; exact (below_size (by repeat (first | (with_reducible first | exact HB.out | apply below_alloc | apply pw_below_drewN | apply below_drew1) | exact HB.out))) : w.heap.size ≤ gb155)); clear HB; have HB := n0_; have BK155 := n1_; have GW155 := n2_; have GE155 := n3_; clear n0_ n1_ n2_ n3_; clear hb hbox hg) | ((with_reducible refine gate_dst (N := 4) rfl ?_); refine box_event ?hg (N := 4) ?hd (cs := #[.bool false, .bool false, .bool false, .bool false, .bool false, .bool false, .bool false, .int .i64 0, .int .i64 0, .int .i64 0]) (t := 23) ?hr ?_; (case hd => rfl); (case hg => rfl); (case hr => first | (go_simp; done) | (go_simp; rfl)); intro gb156 hg w4 hbox hb; have n0_ := Aside0.mk (blk_below (g := gb155) (o := .cells #[.bool a0_0, .bool a0_1, .bool a0_2, .bool a0_3, .bool a0_4, .bool a0_5, .bool a0_6, .int .i64 a0_7, .int .i64 a0_8, .int .i64 a0_9] 23 (0, 0)) (by (with_reducible repeat (first | refine blk_drewN ?_ _ | refine blk_drew ?_ | refine blk_alloc ?_ _)); exact BK155.out) hb); have n1_ := Aside0.mk (below_step (by repeat (first | (with_reducible first | exact HB.out | apply below_alloc | apply pw_below_drewN | apply below_drew1 | refine below_set ?_ GE155.out) | exact HB.out)) hb); have n2_ := Aside0.mk (hbox); have n3_ := Aside0.mk ((by rw [hg]; exact (below_size (by repeat (first | (with_reducible first | exact HB.out | apply below_alloc | apply pw_below_drewN | apply below_drew1 | refine below_set ?_ GE155.out) | exact HB.out))) : w.heap.size ≤ gb156)); have n4_ := Aside0.mk ((by rw [hg]; exact (below_size (by repeat (first | (with_reducible first | exact HB.out | apply below_alloc | apply pw_below_drewN | apply below_drew1 | refine below_set ?_ GE155.out) | exact HB.out))) : w.heap.size ≤ gb156)); have n5_ := Aside0.mk ((by rw [hg]; exact Nat.ne_of_lt (blk_lt (g := gb155) (o := .cells #[.bool a0_0, .bool a0_1, .bool a0_2, .bool a0_3, .bool a0_4, .bool a0_5, .bool a0_6, .int .i64 a0_7, .int .i64 a0_8, .int .i64 a0_9] 23 (0, 0)) (by (with_reducible repeat (first | refine blk_drewN ?_ _ | refine blk_drew ?_ | refine blk_alloc ?_ _)); exact BK155.out)) : gb155 ≠ gb156)); have n6_ := Aside0.mk ((by rw [hg]; exact Nat.ne_of_gt (blk_lt (g := gb155) (o := .cells #[.bool a0_0, .bool a0_1, .bool a0_2, .bool a0_3, .bool a0_4, .bool a0_5, .bool a0_6, .int .i64 a0_7, .int .i64 a0_8, .int .i64 a0_9] 23 (0, 0)) (by (with_reducible repeat (first | refine blk_drewN ?_ _ | refine blk_drew ?_ | refine blk_alloc ?_ _)); exact BK155.out)) : gb156 ≠ gb155)); clear BK155; clear HB; have BK155 := n0_; have HB := n1_; have BK156 := n2_; have GW156 := n3_; have GE156 := n4_; have NB155_156 := n5_; have NB156_155 := n6_; clear n0_ n1_ n2_ n3_ n4_ n5_ n6_; clear hb hbox hg))
  go_loopg [9] k (fun kq v9 w' => ∃ (x9_1 : Int) (x156000_1 : Bool) (x156001_1 : Bool) (x156002_1 : Bool) (x156003_1 : Bool) (x156004_1 : Bool) (x156005_1 : Bool) (x156006_1 : Bool) (x156007_1 : Int) (x156008_1 : Int) (x156009_1 : Int), v9 = .int .i64 x9_1 ∧ Aside0 (style_Apply.l0 kq l1 (l1.length : Int) x9_1 x156000_1 x156001_1 x156002_1 x156003_1 x156004_1 x156005_1 x156006_1 x156007_1 x156008_1 x156009_1 = some (r1, r2, r3, r4, r5, r6, r7, r8, r9, r10)) ∧ Aside0 (kq ≤ k) ∧ Aside0 (w'.heap[gb155]? = some (.cells #[.bool x156000_1, .bool x156001_1, .bool x156002_1, .bool x156003_1, .bool x156004_1, .bool x156005_1, .bool x156006_1, .int .i64 x156007_1, .int .i64 x156008_1, .int .i64 x156009_1] 23 (0, 0))) ∧ Aside0 (w'.heap[gb156]? = some (.cells #[.bool false, .bool false, .bool false, .bool false, .bool false, .bool false, .bool false, .int .i64 0, .int .i64 0, .int .i64 0] 23 (0, 0))) ∧ Aside0 (Below w.heap.size w w'))
  case atStart => exact ⟨(0), (a0_0), (a0_1), (a0_2), (a0_3), (a0_4), (a0_5), (a0_6), (a0_7), (a0_8), (a0_9), (by first | rfl | (simp; done) | (simp [*]; done)), H', ⟨Nat.le_refl _⟩, ⟨by (with_reducible repeat (first | refine blk_drewN ?_ _ | refine blk_drew ?_ | refine blk_alloc ?_ _)); exact BK155.out⟩, ⟨by (with_reducible repeat (first | refine blk_drewN ?_ _ | refine blk_drew ?_ | refine blk_alloc ?_ _)); exact BK156.out⟩, ⟨by repeat (first | (with_reducible first | exact HB.out | apply below_alloc | apply pw_below_drewN | apply below_drew1 | refine below_set ?_ GE155.out | refine below_set ?_ GE156.out) | exact HB.out)⟩⟩
  case round =>
    clear H'
    try clear c1
    try clear p2
    obtain ⟨x9_1, x156000_1, x156001_1, x156002_1, x156003_1, x156004_1, x156005_1, x156006_1, x156007_1, x156008_1, x156009_1, rfl, HA, HK1, BK155, BK156, HB⟩ := hrel
    cases gk with
    | zero => exact absurd HA.out (by simp [style_Apply.l0])
    | succ k1 =>
      have H := HA.out
      clear HA
      simp only [style_Apply.l0] at H
      by_cases c5 : x9_1 < (l1.length : Int)
      · rw [if_pos c5] at H
        have c5b0 : decide (x9_1 < (l1.length : Int)) = true := decide_eq_true c5
        clear c5
        by_cases c6 : 0 ≤ x9_1
        · rw [if_pos c6] at H
          have c6b0 : decide (0 ≤ x9_1) = true := decide_eq_true c6
          clear c6
          by_cases c7 : x9_1 < (l1.length : Int)
          · rw [if_pos c7] at H
            have c7b0 : decide (x9_1 < (l1.length : Int)) = true := decide_eq_true c7
            clear c7
            replace H := Option.bind_eq_some_iff.mp H
            obtain ⟨⟨t158, t159, t160, t161, t162, t163, t164, t165, t166, t167⟩, A80, H⟩ := H
            replace H : (style_Apply.l0 k1 l1 (l1.length : Int) (wrap64 (x9_1 + 1)) t158 t159 t160 t161 t162 t163 t164 t165 t166 t167) = some (r1, r2, r3, r4, r5, r6, r7, r8, r9, r10) := H
            have A8 := Aside0.mk A80
            clear A80
            have H' := Aside0.mk H
            clear H
            have p157 : 0 ≤ (x9_1 : Int) := of_decide_eq_true (by first | (with_reducible assumption) | assumption)
            have q157 : x9_1 < (l1.length : Int) := of_decide_eq_true (by first | (with_reducible assumption) | assumption)
            obtain ⟨ad157, A157_0, c157_0, e157, hx157_0, hl157_0, hi157_0⟩ := at_L1 HR1.out x9_1 p157 q157
            cases e157
            replace hx157_0 := (HB.out.cell (World.block_lt_of_cell? w _ hx157_0)).trans hx157_0
            have HR157_0 := Aside0.mk hi157_0
            have HC157_0 := Aside0.mk hl157_0
            clear hi157_0 hl157_0
            replace p157 := eq_true p157
            replace q157 := eq_true q157
            have hnb9 := NB155_156.out
            have hnc9 := NB156_155.out
            have hcz10_0 : wr.cell? ⟨gb155, 0, none⟩ = some (.bool x156000_1) := (blk_cell BK155.out 0).trans rfl
            have hcz10_1 : wr.cell? ⟨gb155, 1, none⟩ = some (.bool x156001_1) := (blk_cell BK155.out 1).trans rfl
            have hcz10_2 : wr.cell? ⟨gb155, 2, none⟩ = some (.bool x156002_1) := (blk_cell BK155.out 2).trans rfl
            have hcz10_3 : wr.cell? ⟨gb155, 3, none⟩ = some (.bool x156003_1) := (blk_cell BK155.out 3).trans rfl
            have hcz10_4 : wr.cell? ⟨gb155, 4, none⟩ = some (.bool x156004_1) := (blk_cell BK155.out 4).trans rfl
            have hcz10_5 : wr.cell? ⟨gb155, 5, none⟩ = some (.bool x156005_1) := (blk_cell BK155.out 5).trans rfl
            have hcz10_6 : wr.cell? ⟨gb155, 6, none⟩ = some (.bool x156006_1) := (blk_cell BK155.out 6).trans rfl
            have hcz10_7 : wr.cell? ⟨gb155, 7, none⟩ = some (.int .i64 x156007_1) := (blk_cell BK155.out 7).trans rfl
            have hcz10_8 : wr.cell? ⟨gb155, 8, none⟩ = some (.int .i64 x156008_1) := (blk_cell BK155.out 8).trans rfl
            have hcz10_9 : wr.cell? ⟨gb155, 9, none⟩ = some (.int .i64 x156009_1) := (blk_cell BK155.out 9).trans rfl
            have hfz10_0 := blk_frozen BK155.out 0
            have hfz10_1 := blk_frozen BK155.out 1
            have hfz10_2 := blk_frozen BK155.out 2
            have hfz10_3 := blk_frozen BK155.out 3
            have hfz10_4 := blk_frozen BK155.out 4
            have hfz10_5 := blk_frozen BK155.out 5
            have hfz10_6 := blk_frozen BK155.out 6
            have hfz10_7 := blk_frozen BK155.out 7
            have hfz10_8 := blk_frozen BK155.out 8
            have hfz10_9 := blk_frozen BK155.out 9
            go_wp2_with (first | ((with_reducible refine gate_callee (f := 32) rfl ?_); refine goesL_ (some 15) rfl rfl Tryd.func32 (by kernel_rfl) rfl #[.agg #[.bool x156000_1, .bool x156001_1, .bool x156002_1, .bool x156003_1, .bool x156004_1, .bool x156005_1, .bool x156006_1, .int .i64 x156007_1, .int .i64 x156008_1, .int .i64 x156009_1], .slice A157_0 (rd_L1 l1 x9_1).length c157_0] rfl (by (try simp only [List.map_toArray, List.map_cons, List.map_nil]); first | done | rfl | (simp only [List.length_drop, List.length_take]; rfl)) ?_; (with_reducible refine (style_one.calls k1 x156000_1 x156001_1 x156002_1 x156003_1 x156004_1 x156005_1 x156006_1 x156007_1 x156008_1 x156009_1 _ _ (rd_L1 l1 x9_1) t158 t159 t160 t161 t162 t163 t164 t165 t166 t167 _ ?side1 ?side2 A8.out).mono ?_); (case side1 => repeat (first | exact (Kd.C_below HR157_0.out HB.out) | (with_reducible refine Kd.C_alloc ?_ _) | (with_reducible refine Kd.C_drewN ?_ _) | (with_reducible refine Kd.C_drew ?_))); (case side2 => exact HC157_0.out); rintro e w11 ⟨rfl, hb⟩; refine ⟨_, rfl, ?_⟩; have n0_ := Aside0.mk (blk_below (g := gb155) (o := .cells #[.bool x156000_1, .bool x156001_1, .bool x156002_1, .bool x156003_1, .bool x156004_1, .bool x156005_1, .bool x156006_1, .int .i64 x156007_1, .int .i64 x156008_1, .int .i64 x156009_1] 23 (0, 0)) (by (with_reducible repeat (first | refine blk_drewN ?_ _ | refine blk_drew ?_ | refine blk_alloc ?_ _)); exact BK155.out) hb); have n1_ := Aside0.mk (blk_below (g := gb156) (o := .cells #[.bool false, .bool false, .bool false, .bool false, .bool false, .bool false, .bool false, .int .i64 0, .int .i64 0, .int .i64 0] 23 (0, 0)) (by (with_reducible repeat (first | refine blk_drewN ?_ _ | refine blk_drew ?_ | refine blk_alloc ?_ _)); exact BK156.out) hb); have n2_ := Aside0.mk (below_step (by repeat (first | (with_reducible first | exact HB.out | apply below_alloc | apply pw_below_drewN | apply below_drew1 | refine below_set ?_ GE155.out | refine below_set ?_ GE156.out) | exact HB.out)) hb); clear BK155; clear BK156; clear HB; have BK155 := n0_; have BK156 := n1_; have HB := n2_; clear n0_ n1_ n2_; (try clear hb); (try clear hb2); (try clear hk); (try clear hi); have hcz12_0 : w11.cell? ⟨gb155, 0, none⟩ = some (.bool x156000_1) := (blk_cell BK155.out 0).trans rfl; have hcz12_1 : w11.cell? ⟨gb155, 1, none⟩ = some (.bool x156001_1) := (blk_cell BK155.out 1).trans rfl; have hcz12_2 : w11.cell? ⟨gb155, 2, none⟩ = some (.bool x156002_1) := (blk_cell BK155.out 2).trans rfl; have hcz12_3 : w11.cell? ⟨gb155, 3, none⟩ = some (.bool x156003_1) := (blk_cell BK155.out 3).trans rfl; have hcz12_4 : w11.cell? ⟨gb155, 4, none⟩ = some (.bool x156004_1) := (blk_cell BK155.out 4).trans rfl; have hcz12_5 : w11.cell? ⟨gb155, 5, none⟩ = some (.bool x156005_1) := (blk_cell BK155.out 5).trans rfl; have hcz12_6 : w11.cell? ⟨gb155, 6, none⟩ = some (.bool x156006_1) := (blk_cell BK155.out 6).trans rfl; have hcz12_7 : w11.cell? ⟨gb155, 7, none⟩ = some (.int .i64 x156007_1) := (blk_cell BK155.out 7).trans rfl; have hcz12_8 : w11.cell? ⟨gb155, 8, none⟩ = some (.int .i64 x156008_1) := (blk_cell BK155.out 8).trans rfl; have hcz12_9 : w11.cell? ⟨gb155, 9, none⟩ = some (.int .i64 x156009_1) := (blk_cell BK155.out 9).trans rfl; have hfz12_0 := blk_frozen BK155.out 0; have hfz12_1 := blk_frozen BK155.out 1; have hfz12_2 := blk_frozen BK155.out 2; have hfz12_3 := blk_frozen BK155.out 3; have hfz12_4 := blk_frozen BK155.out 4; have hfz12_5 := blk_frozen BK155.out 5; have hfz12_6 := blk_frozen BK155.out 6; have hfz12_7 := blk_frozen BK155.out 7; have hfz12_8 := blk_frozen BK155.out 8; have hfz12_9 := blk_frozen BK155.out 9))
            go_roundg k1
            case measure => have := HK1.out; omega
            case rel => exact ⟨(wrap64 (x9_1 + 1)), (t158), (t159), (t160), (t161), (t162), (t163), (t164), (t165), (t166), (t167), (by first | rfl | (simp; done) | (simp [*]; done)), H', ⟨by have := HK1.out; omega⟩, ⟨by (with_reducible repeat (first | refine blk_drewN ?_ _ | refine blk_drew ?_ | refine blk_alloc ?_ _)); refine blk_put (cs := #[.bool t158, .bool t159, .bool t160, .bool t161, .bool t162, .bool t163, .bool t164, .int .i64 t165, .int .i64 t166, .int .i64 x156009_1]) ?_ 9 _ rfl; (with_reducible repeat (first | refine blk_drewN ?_ _ | refine blk_drew ?_ | refine blk_alloc ?_ _)); refine blk_put (cs := #[.bool t158, .bool t159, .bool t160, .bool t161, .bool t162, .bool t163, .bool t164, .int .i64 t165, .int .i64 x156008_1, .int .i64 x156009_1]) ?_ 8 _ rfl; (with_reducible repeat (first | refine blk_drewN ?_ _ | refine blk_drew ?_ | refine blk_alloc ?_ _)); refine blk_put (cs := #[.bool t158, .bool t159, .bool t160, .bool t161, .bool t162, .bool t163, .bool t164, .int .i64 x156007_1, .int .i64 x156008_1, .int .i64 x156009_1]) ?_ 7 _ rfl; (with_reducible repeat (first | refine blk_drewN ?_ _ | refine blk_drew ?_ | refine blk_alloc ?_ _)); refine blk_put (cs := #[.bool t158, .bool t159, .bool t160, .bool t161, .bool t162, .bool t163, .bool x156006_1, .int .i64 x156007_1, .int .i64 x156008_1, .int .i64 x156009_1]) ?_ 6 _ rfl; (with_reducible repeat (first | refine blk_drewN ?_ _ | refine blk_drew ?_ | refine blk_alloc ?_ _)); refine blk_put (cs := #[.bool t158, .bool t159, .bool t160, .bool t161, .bool t162, .bool x156005_1, .bool x156006_1, .int .i64 x156007_1, .int .i64 x156008_1, .int .i64 x156009_1]) ?_ 5 _ rfl; (with_reducible repeat (first | refine blk_drewN ?_ _ | refine blk_drew ?_ | refine blk_alloc ?_ _)); refine blk_put (cs := #[.bool t158, .bool t159, .bool t160, .bool t161, .bool x156004_1, .bool x156005_1, .bool x156006_1, .int .i64 x156007_1, .int .i64 x156008_1, .int .i64 x156009_1]) ?_ 4 _ rfl; (with_reducible repeat (first | refine blk_drewN ?_ _ | refine blk_drew ?_ | refine blk_alloc ?_ _)); refine blk_put (cs := #[.bool t158, .bool t159, .bool t160, .bool x156003_1, .bool x156004_1, .bool x156005_1, .bool x156006_1, .int .i64 x156007_1, .int .i64 x156008_1, .int .i64 x156009_1]) ?_ 3 _ rfl; (with_reducible repeat (first | refine blk_drewN ?_ _ | refine blk_drew ?_ | refine blk_alloc ?_ _)); refine blk_put (cs := #[.bool t158, .bool t159, .bool x156002_1, .bool x156003_1, .bool x156004_1, .bool x156005_1, .bool x156006_1, .int .i64 x156007_1, .int .i64 x156008_1, .int .i64 x156009_1]) ?_ 2 _ rfl; (with_reducible repeat (first | refine blk_drewN ?_ _ | refine blk_drew ?_ | refine blk_alloc ?_ _)); refine blk_put (cs := #[.bool t158, .bool x156001_1, .bool x156002_1, .bool x156003_1, .bool x156004_1, .bool x156005_1, .bool x156006_1, .int .i64 x156007_1, .int .i64 x156008_1, .int .i64 x156009_1]) ?_ 1 _ rfl; (with_reducible repeat (first | refine blk_drewN ?_ _ | refine blk_drew ?_ | refine blk_alloc ?_ _)); refine blk_put (cs := #[.bool x156000_1, .bool x156001_1, .bool x156002_1, .bool x156003_1, .bool x156004_1, .bool x156005_1, .bool x156006_1, .int .i64 x156007_1, .int .i64 x156008_1, .int .i64 x156009_1]) ?_ 0 _ rfl; (with_reducible repeat (first | refine blk_drewN ?_ _ | refine blk_drew ?_ | refine blk_alloc ?_ _)); exact BK155.out⟩, ⟨by (with_reducible repeat (first | refine blk_drewN ?_ _ | refine blk_drew ?_ | refine blk_alloc ?_ _)); refine blk_far ?_ NB156_155.out _; (with_reducible repeat (first | refine blk_drewN ?_ _ | refine blk_drew ?_ | refine blk_alloc ?_ _)); refine blk_far ?_ NB156_155.out _; (with_reducible repeat (first | refine blk_drewN ?_ _ | refine blk_drew ?_ | refine blk_alloc ?_ _)); refine blk_far ?_ NB156_155.out _; (with_reducible repeat (first | refine blk_drewN ?_ _ | refine blk_drew ?_ | refine blk_alloc ?_ _)); refine blk_far ?_ NB156_155.out _; (with_reducible repeat (first | refine blk_drewN ?_ _ | refine blk_drew ?_ | refine blk_alloc ?_ _)); refine blk_far ?_ NB156_155.out _; (with_reducible repeat (first | refine blk_drewN ?_ _ | refine blk_drew ?_ | refine blk_alloc ?_ _)); refine blk_far ?_ NB156_155.out _; (with_reducible repeat (first | refine blk_drewN ?_ _ | refine blk_drew ?_ | refine blk_alloc ?_ _)); refine blk_far ?_ NB156_155.out _; (with_reducible repeat (first | refine blk_drewN ?_ _ | refine blk_drew ?_ | refine blk_alloc ?_ _)); refine blk_far ?_ NB156_155.out _; (with_reducible repeat (first | refine blk_drewN ?_ _ | refine blk_drew ?_ | refine blk_alloc ?_ _)); refine blk_far ?_ NB156_155.out _; (with_reducible repeat (first | refine blk_drewN ?_ _ | refine blk_drew ?_ | refine blk_alloc ?_ _)); refine blk_far ?_ NB156_155.out _; (with_reducible repeat (first | refine blk_drewN ?_ _ | refine blk_drew ?_ | refine blk_alloc ?_ _)); exact BK156.out⟩, ⟨by repeat (first | (with_reducible first | exact HB.out | apply below_alloc | apply pw_below_drewN | apply below_drew1 | refine below_set ?_ GE155.out | refine below_set ?_ GE156.out) | exact HB.out)⟩⟩
          · rw [if_neg c7] at H
            exact absurd H (by simp)
        · rw [if_neg c6] at H
          exact absurd H (by simp)
      · rw [if_neg c5] at H
        have c5b0 : decide (x9_1 < (l1.length : Int)) = false := decide_eq_false c5
        clear c5
        simp only [Option.some.injEq, Prod.mk.injEq] at H
        obtain ⟨rfl, rfl, rfl, rfl, rfl, rfl, rfl, rfl, rfl, rfl⟩ := H
        have hnb13 := NB155_156.out
        have hnc13 := NB156_155.out
        have hcz14_0 : wr.cell? ⟨gb155, 0, none⟩ = some (.bool x156000_1) := (blk_cell BK155.out 0).trans rfl
        have hcz14_1 : wr.cell? ⟨gb155, 1, none⟩ = some (.bool x156001_1) := (blk_cell BK155.out 1).trans rfl
        have hcz14_2 : wr.cell? ⟨gb155, 2, none⟩ = some (.bool x156002_1) := (blk_cell BK155.out 2).trans rfl
        have hcz14_3 : wr.cell? ⟨gb155, 3, none⟩ = some (.bool x156003_1) := (blk_cell BK155.out 3).trans rfl
        have hcz14_4 : wr.cell? ⟨gb155, 4, none⟩ = some (.bool x156004_1) := (blk_cell BK155.out 4).trans rfl
        have hcz14_5 : wr.cell? ⟨gb155, 5, none⟩ = some (.bool x156005_1) := (blk_cell BK155.out 5).trans rfl
        have hcz14_6 : wr.cell? ⟨gb155, 6, none⟩ = some (.bool x156006_1) := (blk_cell BK155.out 6).trans rfl
        have hcz14_7 : wr.cell? ⟨gb155, 7, none⟩ = some (.int .i64 x156007_1) := (blk_cell BK155.out 7).trans rfl
        have hcz14_8 : wr.cell? ⟨gb155, 8, none⟩ = some (.int .i64 x156008_1) := (blk_cell BK155.out 8).trans rfl
        have hcz14_9 : wr.cell? ⟨gb155, 9, none⟩ = some (.int .i64 x156009_1) := (blk_cell BK155.out 9).trans rfl
        have hfz14_0 := blk_frozen BK155.out 0
        have hfz14_1 := blk_frozen BK155.out 1
        have hfz14_2 := blk_frozen BK155.out 2
        have hfz14_3 := blk_frozen BK155.out 3
        have hfz14_4 := blk_frozen BK155.out 4
        have hfz14_5 := blk_frozen BK155.out 5
        have hfz14_6 := blk_frozen BK155.out 6
        have hfz14_7 := blk_frozen BK155.out 7
        have hfz14_8 := blk_frozen BK155.out 8
        have hfz14_9 := blk_frozen BK155.out 9
        have hcz15_0 : wr.cell? ⟨gb156, 0, none⟩ = some (.bool false) := (blk_cell BK156.out 0).trans rfl
        have hcz15_1 : wr.cell? ⟨gb156, 1, none⟩ = some (.bool false) := (blk_cell BK156.out 1).trans rfl
        have hcz15_2 : wr.cell? ⟨gb156, 2, none⟩ = some (.bool false) := (blk_cell BK156.out 2).trans rfl
        have hcz15_3 : wr.cell? ⟨gb156, 3, none⟩ = some (.bool false) := (blk_cell BK156.out 3).trans rfl
        have hcz15_4 : wr.cell? ⟨gb156, 4, none⟩ = some (.bool false) := (blk_cell BK156.out 4).trans rfl
        have hcz15_5 : wr.cell? ⟨gb156, 5, none⟩ = some (.bool false) := (blk_cell BK156.out 5).trans rfl
        have hcz15_6 : wr.cell? ⟨gb156, 6, none⟩ = some (.bool false) := (blk_cell BK156.out 6).trans rfl
        have hcz15_7 : wr.cell? ⟨gb156, 7, none⟩ = some (.int .i64 0) := (blk_cell BK156.out 7).trans rfl
        have hcz15_8 : wr.cell? ⟨gb156, 8, none⟩ = some (.int .i64 0) := (blk_cell BK156.out 8).trans rfl
        have hcz15_9 : wr.cell? ⟨gb156, 9, none⟩ = some (.int .i64 0) := (blk_cell BK156.out 9).trans rfl
        have hfz15_0 := blk_frozen BK156.out 0
        have hfz15_1 := blk_frozen BK156.out 1
        have hfz15_2 := blk_frozen BK156.out 2
        have hfz15_3 := blk_frozen BK156.out 3
        have hfz15_4 := blk_frozen BK156.out 4
        have hfz15_5 := blk_frozen BK156.out 5
        have hfz15_6 := blk_frozen BK156.out 6
        have hfz15_7 := blk_frozen BK156.out 7
        have hfz15_8 := blk_frozen BK156.out 8
        have hfz15_9 := blk_frozen BK156.out 9
        go_wp2
        refine bodyPost_ret (results_cell_row rfl _ _ gb156 23 #[.bool x156000_1, .bool x156001_1, .bool x156002_1, .bool x156003_1, .bool x156004_1, .bool x156005_1, .bool x156006_1, .int .i64 x156007_1, .int .i64 x156008_1, .int .i64 x156009_1] (0, 0) _ rfl (by (with_reducible repeat (first | refine blk_drewN ?_ _ | refine blk_drew ?_ | refine blk_alloc ?_ _)); refine blk_put (cs := #[.bool x156000_1, .bool x156001_1, .bool x156002_1, .bool x156003_1, .bool x156004_1, .bool x156005_1, .bool x156006_1, .int .i64 x156007_1, .int .i64 x156008_1, .int .i64 0]) ?_ 9 _ rfl; (with_reducible repeat (first | refine blk_drewN ?_ _ | refine blk_drew ?_ | refine blk_alloc ?_ _)); refine blk_put (cs := #[.bool x156000_1, .bool x156001_1, .bool x156002_1, .bool x156003_1, .bool x156004_1, .bool x156005_1, .bool x156006_1, .int .i64 x156007_1, .int .i64 0, .int .i64 0]) ?_ 8 _ rfl; (with_reducible repeat (first | refine blk_drewN ?_ _ | refine blk_drew ?_ | refine blk_alloc ?_ _)); refine blk_put (cs := #[.bool x156000_1, .bool x156001_1, .bool x156002_1, .bool x156003_1, .bool x156004_1, .bool x156005_1, .bool x156006_1, .int .i64 0, .int .i64 0, .int .i64 0]) ?_ 7 _ rfl; (with_reducible repeat (first | refine blk_drewN ?_ _ | refine blk_drew ?_ | refine blk_alloc ?_ _)); refine blk_put (cs := #[.bool x156000_1, .bool x156001_1, .bool x156002_1, .bool x156003_1, .bool x156004_1, .bool x156005_1, .bool false, .int .i64 0, .int .i64 0, .int .i64 0]) ?_ 6 _ rfl; (with_reducible repeat (first | refine blk_drewN ?_ _ | refine blk_drew ?_ | refine blk_alloc ?_ _)); refine blk_put (cs := #[.bool x156000_1, .bool x156001_1, .bool x156002_1, .bool x156003_1, .bool x156004_1, .bool false, .bool false, .int .i64 0, .int .i64 0, .int .i64 0]) ?_ 5 _ rfl; (with_reducible repeat (first | refine blk_drewN ?_ _ | refine blk_drew ?_ | refine blk_alloc ?_ _)); refine blk_put (cs := #[.bool x156000_1, .bool x156001_1, .bool x156002_1, .bool x156003_1, .bool false, .bool false, .bool false, .int .i64 0, .int .i64 0, .int .i64 0]) ?_ 4 _ rfl; (with_reducible repeat (first | refine blk_drewN ?_ _ | refine blk_drew ?_ | refine blk_alloc ?_ _)); refine blk_put (cs := #[.bool x156000_1, .bool x156001_1, .bool x156002_1, .bool false, .bool false, .bool false, .bool false, .int .i64 0, .int .i64 0, .int .i64 0]) ?_ 3 _ rfl; (with_reducible repeat (first | refine blk_drewN ?_ _ | refine blk_drew ?_ | refine blk_alloc ?_ _)); refine blk_put (cs := #[.bool x156000_1, .bool x156001_1, .bool false, .bool false, .bool false, .bool false, .bool false, .int .i64 0, .int .i64 0, .int .i64 0]) ?_ 2 _ rfl; (with_reducible repeat (first | refine blk_drewN ?_ _ | refine blk_drew ?_ | refine blk_alloc ?_ _)); refine blk_put (cs := #[.bool x156000_1, .bool false, .bool false, .bool false, .bool false, .bool false, .bool false, .int .i64 0, .int .i64 0, .int .i64 0]) ?_ 1 _ rfl; (with_reducible repeat (first | refine blk_drewN ?_ _ | refine blk_drew ?_ | refine blk_alloc ?_ _)); refine blk_put (cs := #[.bool false, .bool false, .bool false, .bool false, .bool false, .bool false, .bool false, .int .i64 0, .int .i64 0, .int .i64 0]) ?_ 0 _ rfl; (with_reducible repeat (first | refine blk_drewN ?_ _ | refine blk_drew ?_ | refine blk_alloc ?_ _)); exact BK156.out) Tryd.underlying23 rfl (by kernel_rfl)) rfl ?_
        exact ⟨by first | rfl | (simp [errW_none, errW_some] <;> rfl) | (simp [*, errW_none, errW_some] <;> rfl), by repeat (first | (with_reducible first | exact HB.out | apply below_alloc | apply pw_below_drewN | apply below_drew1 | refine below_set ?_ GE155.out | refine below_set ?_ GE156.out) | exact HB.out)⟩
end Go.Proofs.YtbaigfoioiklkaaDoor.G
end
section
namespace Go.Proofs.YtbaigfoioiklkaaDoor.G
set_option linter.unusedVariables false
set_option linter.unusedSimpArgs false
open Go.RowKit Kit Go.Proofs.YtbaigfoioiklkaaDoorW.PrintWords
def InI (l : List Int) : Prop := ∀ z ∈ l, -9223372036854775808 ≤ z ∧ z ≤ 9223372036854775807
theorem rd_at (l : List Int) (i : Nat) : rd l (i : Int) = at_ l i := by
  unfold rd at_
  rw [List.getD_eq_getElem?_getD]
  rfl
theorem rd_at0 (l : List Int) : rd l 0 = at_ l 0 := rd_at l 0
theorem rd_at1 (l : List Int) : rd l 1 = at_ l 1 := rd_at l 1
theorem rd_at2 (l : List Int) : rd l 2 = at_ l 2 := rd_at l 2
theorem rd_at3 (l : List Int) : rd l 3 = at_ l 3 := rd_at l 3
theorem rd_at4 (l : List Int) : rd l 4 = at_ l 4 := rd_at l 4
theorem rd_at5 (l : List Int) : rd l 5 = at_ l 5 := rd_at l 5
theorem at_in {l : List Int} (h : InI l) (i : Nat) : -9223372036854775808 ≤ at_ l i ∧ at_ l i ≤ 9223372036854775807 := by
  unfold at_
  rcases Nat.lt_or_ge i l.length with hi | hi
  · rw [List.getElem?_eq_getElem hi]
    exact h _ (List.getElem_mem hi)
  · rw [List.getElem?_eq_none hi]
    decide
theorem byte8_loop (l : List Int) (hl : l.length ≤ 1000) : ∀ d i k, i + d = l.length → d < k → style_split_1.l0 k l (l.length : Int) (i : Int) = some ((l.drop i).all byteB) := by
  intro d
  induction d with
  | zero =>
    intro i k hi hk
    obtain ⟨k, rfl⟩ : ∃ m, k = m + 1 := ⟨k - 1, by omega⟩
    have e : l.drop i = [] := List.drop_eq_nil_of_le (by omega)
    rw [style_split_1.l0, if_neg (by omega), e]
    rfl
  | succ d ih =>
    intro i k hi hk
    obtain ⟨k, rfl⟩ : ∃ m, k = m + 1 := ⟨k - 1, by omega⟩
    have hil : i < l.length := by omega
    have e : l.drop i = at_ l i :: l.drop (i + 1) := by
      rw [List.drop_eq_getElem_cons hil]
      simp [at_, List.getElem?_eq_getElem hil]
    have hw : wrap64 ((i : Int) + 1) = ((i + 1 : Nat) : Int) := by unfold wrap64; omega
    rw [style_split_1.l0, if_pos (by omega), if_pos (by omega), if_pos (by omega), rd_at, e]
    simp only [List.all_cons, byteB]
    by_cases h0 : at_ l i < 0
    · rw [if_pos h0]; simp [show ¬ (0 ≤ at_ l i) by omega]
    · rw [if_neg h0]
      by_cases h1 : at_ l i ≥ 256
      · rw [if_pos h1]; simp [show ¬ (at_ l i < 256) by omega]
      · rw [if_neg h1, hw, ih (i + 1) k (by omega) (by omega)]
        simp [show 0 ≤ at_ l i by omega, show at_ l i < 256 by omega]
theorem byte8_is (l : List Int) (hl : l.length ≤ 1000) (k : Nat) (hk : l.length < k) : style_split_1.f k l = some (l.all byteB) := by
  have := byte8_loop l hl l.length 0 k (by omega) hk
  simpa [style_split_1.f] using this
theorem three (l : List Int) (h : l.length = 6) : l.drop 3 = [at_ l 3, at_ l 4, at_ l 5] := by
  match l, h with
  | [a, b, c, d, e, f], _ => rfl
theorem rgb_wrap {a b c : Int} (ha : byteB a = true) (hb : byteB b = true) (hc : byteB c = true) :
    wrap64 (wrap64 (wrap64 (256 + wrap64 (a * 65536)) + wrap64 (b * 256)) + c) = 256 + a * 65536 + b * 256 + c ∧ wrap64 (wrap64 (wrap64 (256 + wrap64 (65536 * a)) + wrap64 (256 * b)) + c) = 256 + a * 65536 + b * 256 + c := by
  simp only [byteB, Bool.and_eq_true, decide_eq_true_eq] at ha hb hc
  have e1 : wrap64 (a * 65536) = a * 65536 := by unfold wrap64; omega
  have e2 : wrap64 (b * 256) = b * 256 := by unfold wrap64; omega
  have e3 : wrap64 (65536 * a) = a * 65536 := by unfold wrap64; omega
  have e4 : wrap64 (256 * b) = b * 256 := by unfold wrap64; omega
  rw [e1, e2, e3, e4]
  have e5 : wrap64 (256 + a * 65536) = 256 + a * 65536 := by unfold wrap64; omega
  rw [e5]
  have e6 : wrap64 (256 + a * 65536 + b * 256) = 256 + a * 65536 + b * 256 := by unfold wrap64; omega
  rw [e6]
  have e7 : wrap64 (256 + a * 65536 + b * 256 + c) = 256 + a * 65536 + b * 256 + c := by unfold wrap64; omega
  exact ⟨e7, e7⟩
theorem split_j0 (l : List Int) (k : Nat) (hk : 10 ≤ k) (b : Bool) (hb : b = (decide (l.length = 3) && (decide (at_ l 1 = 5) && byteB (at_ l 2)))) : style_split.j0 k l b = some (splitI l) := by
  obtain ⟨k, rfl⟩ : ∃ m, k = m + 1 := ⟨k - 1, by omega⟩
  unfold splitI
  rw [style_split.j0]
  cases b with
  | true =>
    have hb' := hb.symm
    simp only [Bool.and_eq_true, decide_eq_true_eq] at hb'
    rw [if_pos rfl, if_pos (by omega), if_pos ⟨hb'.1, hb'.2.1, hb'.2.2⟩, rd_at2]
  | false =>
    have hb' := hb.symm
    have hn : ¬ (l.length = 3 ∧ at_ l 1 = 5 ∧ byteB (at_ l 2) = true) := by
      rintro ⟨h1, h2, h3⟩
      simp [h1, h2, h3] at hb'
    rw [if_neg (by decide), if_neg hn]
    by_cases h6 : l.length = 6
    · rw [if_pos (by omega), if_pos (by omega), rd_at1]
      by_cases h2 : at_ l 1 = 2
      · rw [if_pos h2, if_pos (by omega), three l h6, byte8_is _ (by simp) k (by simp; omega), Option.bind_some]
        by_cases hc : byteB (at_ l 3) = true ∧ byteB (at_ l 4) = true ∧ byteB (at_ l 5) = true
        · rw [if_pos (by simp [hc]), if_pos (by omega), if_pos (by omega), if_pos (by omega), if_pos ⟨h6, h2, hc⟩, rd_at3, rd_at4, rd_at5, (rgb_wrap hc.1 hc.2.1 hc.2.2).1]
        · rw [if_neg (by simpa using hc), if_neg (fun h => hc h.2.2)]
      · rw [if_neg h2, if_neg (fun h => h2 h.2.1)]
    · rw [if_neg (by omega), if_neg (fun h => h6 h.1)]
theorem split_is (l : List Int) (k : Nat) (hk : 20 ≤ k) : style_split.f k l = some (splitI l) := by
  unfold style_split.f
  by_cases h3 : l.length = 3
  · rw [if_pos (by omega), if_pos (by omega), rd_at1]
    by_cases h5 : at_ l 1 = 5
    · rw [if_pos h5, if_pos (by omega), byte8_is _ (by simp) k (by simp; omega), Option.bind_some, rd_at2]
      exact split_j0 l k (by omega) _ (by simp [h3, h5])
    · rw [if_neg h5]
      exact split_j0 l k (by omega) _ (by simp [h5])
  · rw [if_neg (by omega)]
    exact split_j0 l k (by omega) _ (by simp [h3])
theorem said_is (l : List Int) (base : Int) (k : Nat) (hk : 30 ≤ k) (hl : 0 < l.length) (h0 : 0 < at_ l 0) (h1 : at_ l 0 ≤ 9223372036854775807) (hb : base = 30 ∨ base = 40) : style_said.f k l base = some (saidI l base) := by
  obtain ⟨k, rfl⟩ : ∃ m, k = m + 1 := ⟨k - 1, by omega⟩
  have hw : wrap64 (at_ l 0 - base) = at_ l 0 - base := by unfold wrap64; omega
  unfold style_said.f saidI
  rw [if_pos (by omega), rd_at0, hw]
  generalize at_ l 0 - base = n at *
  have hj : ∀ c : Bool, c = (decide (0 ≤ n) && decide (n < 8)) → style_said.j0 (k + 1) l n c = some (if 0 ≤ n ∧ n < 8 then n else if n = 8 then splitI l else if n = 9 then -1 else if 60 ≤ n ∧ n < 68 then n - 52 else -2) := by
    intro c hc
    rw [style_said.j0]
    cases c with
    | true =>
      have hc' := hc.symm
      simp only [Bool.and_eq_true, decide_eq_true_eq] at hc'
      rw [if_pos rfl, if_pos hc']
    | false =>
      have hn : ¬ (0 ≤ n ∧ n < 8) := by
        rintro ⟨a, b⟩
        simp [a, b] at hc
      rw [if_neg (by decide), if_neg hn]
      by_cases h8 : n = 8
      · rw [if_pos h8, if_pos h8, split_is l k (by omega)]; rfl
      · rw [if_neg h8, if_neg h8]
        by_cases h9 : n = 9
        · rw [if_pos h9, if_pos h9]
        · rw [if_neg h9, if_neg h9]
          by_cases h60 : 60 ≤ n
          · rw [if_pos (show n ≥ 60 from h60)]
            by_cases h68 : n < 68
            · rw [if_pos h68, if_pos ⟨h60, h68⟩, show wrap64 (n - 52) = n - 52 by unfold wrap64; omega]
            · rw [if_neg h68, if_neg (fun h => h68 h.2)]
          · rw [if_neg (show ¬ n ≥ 60 from h60), if_neg (fun h => h60 h.1)]
  by_cases hn0 : n ≥ 0
  · rw [if_pos hn0]
    exact hj _ (by simp [show (0 : Int) ≤ n from hn0])
  · rw [if_neg hn0]
    exact hj _ (by simp [show ¬ (0 : Int) ≤ n by omega])
end Go.Proofs.YtbaigfoioiklkaaDoor.G
end
section
namespace Go.Proofs.YtbaigfoioiklkaaDoor
set_option linter.unusedVariables false
set_option linter.unusedSimpArgs false
theorem decDigits_small {n : Nat} (h : n < 10) : Lib.decDigits n = [UInt8.ofNat (48 + n)] := by rw [Lib.decDigits, dif_pos h]
theorem decDigits_big {n : Nat} (h : ¬ n < 10) : Lib.decDigits n = Lib.decDigits (n / 10) ++ [UInt8.ofNat (48 + n % 10)] := by rw [Lib.decDigits, dif_neg h]
theorem textL_of {n : Int} (h : 0 ≤ n) : textL n = Lib.decDigits n.toNat := by unfold textL; rw [if_neg (by omega)]
theorem decDigits_mono (a : Nat) : ∀ b, a ≤ b → (Lib.decDigits a).length ≤ (Lib.decDigits b).length := by
  induction a using Nat.strongRecOn with
  | _ a ih =>
    intro b hab
    by_cases h : a < 10
    · rw [decDigits_small h]
      rw [Lib.decDigits_length]
      exact Lib.nDigits_pos b
    · rw [decDigits_big h, decDigits_big (show ¬ b < 10 by omega)]
      have := ih (a / 10) (by omega) (b / 10) (by omega)
      simp only [List.length_append, List.length_singleton]
      omega
theorem textL_len {a : Int} (h0 : 0 ≤ a) (h : a ≤ 9223372036854775807) : (textL a).length ≤ 20 ∧ 1 ≤ (textL a).length := by
  rw [textL_of h0, Lib.decDigits_length]
  exact ⟨by
    have : Lib.nDigits a.toNat ≤ 20 := by
      rcases Nat.lt_or_ge 20 (Lib.nDigits a.toNat) with h1 | h1
      · exfalso
        have h2 := Lib.decDigits_length a.toNat
        have h3 : (Lib.decDigits a.toNat).length ≤ (Lib.decDigits 9223372036854775807).length := decDigits_mono _ _ (by omega)
        rw [Lib.decDigits_length, Lib.decDigits_length] at h3
        have h4 : Lib.nDigits 9223372036854775807 = 18 + 1 := Lib.nDigits_unique 18 _ (by decide) (by decide)
        omega
      · exact h1
    exact this, Lib.nDigits_pos _⟩
end Go.Proofs.YtbaigfoioiklkaaDoor
end
section
namespace Go.Proofs.YtbaigfoioiklkaaDoor.G
set_option linter.unusedVariables false
set_option linter.unusedSimpArgs false
open Go.RowKit Kit Go.Proofs.YtbaigfoioiklkaaDoorW.PrintWords
theorem one_is (b0 b1 b2 b3 b4 b5 b6 : Bool) (u f b : Int) (l : List Int) (hi : InI l) (k : Nat) (hk : 40 ≤ k) : style_one.f k b0 b1 b2 b3 b4 b5 b6 u f b l = some (oneL b0 b1 b2 b3 b4 b5 b6 u f b l) := by
  unfold style_one.f oneL
  rw [rd_at0, rd_at1]
  by_cases hl : l.length = 0
  · rw [if_pos hl, if_pos (.inl hl)]
  · rw [if_neg hl]
    by_cases h0 : at_ l 0 ≤ 0
    · rw [if_pos h0, if_pos (.inr h0)]
    · rw [if_neg h0, if_neg (show ¬ (l.length = 0 ∨ at_ l 0 ≤ 0) by omega)]
      by_cases h4 : at_ l 0 = 4
      · rw [if_pos h4, if_pos h4]
        congr 9
        by_cases h1 : l.length = 1
        · rw [if_pos h1, if_neg (by omega)]
        · rw [if_neg h1, if_pos (show 1 < l.length by omega)]
      · rw [if_neg h4, if_neg h4, said_is l 30 k (by omega) (by omega) (by omega) (at_in hi 0).2 (.inl rfl), Option.bind_some, said_is l 40 k (by omega) (by omega) (by omega) (at_in hi 0).2 (.inr rfl), Option.bind_some]
def oneS (s : St) (l : List Int) : St := oneL s.1 s.2.1 s.2.2.1 s.2.2.2.1 s.2.2.2.2.1 s.2.2.2.2.2.1 s.2.2.2.2.2.2.1 s.2.2.2.2.2.2.2.1 s.2.2.2.2.2.2.2.2.1 s.2.2.2.2.2.2.2.2.2 l
def foldS (s : St) (l : List (List Int)) : St := l.foldl oneS s
theorem rd_row (l : List (List Int)) (i : Nat) (h : i < l.length) : rd_L1 l (i : Int) = l[i] := by
  unfold rd_L1
  simp [List.getD, h]
theorem Apply_loop (l : List (List Int)) (hi : AllI l) (hl : l.length ≤ 140737488351232) : ∀ d i k (s : St), i + d = l.length → d + 60 ≤ k → style_Apply.l0 k l (l.length : Int) (i : Int) s.1 s.2.1 s.2.2.1 s.2.2.2.1 s.2.2.2.2.1 s.2.2.2.2.2.1 s.2.2.2.2.2.2.1 s.2.2.2.2.2.2.2.1 s.2.2.2.2.2.2.2.2.1 s.2.2.2.2.2.2.2.2.2 = some (foldS s (l.drop i)) := by
  intro d
  induction d with
  | zero =>
    intro i k s hid hk
    obtain ⟨k, rfl⟩ : ∃ m, k = m + 1 := ⟨k - 1, by omega⟩
    rw [style_Apply.l0, if_neg (by omega), List.drop_eq_nil_of_le (by omega)]
    rfl
  | succ d ih =>
    intro i k s hid hk
    obtain ⟨k, rfl⟩ : ∃ m, k = m + 1 := ⟨k - 1, by omega⟩
    have hil : i < l.length := by omega
    have hw : wrap64 ((i : Int) + 1) = ((i + 1 : Nat) : Int) := by unfold wrap64; omega
    rw [style_Apply.l0, if_pos (by omega), if_pos (by omega), if_pos (by omega), rd_row l i hil, one_is _ _ _ _ _ _ _ _ _ _ _ (hi _ (List.getElem_mem hil)) k (by omega), Option.bind_some, hw, List.drop_eq_getElem_cons hil]
    exact ih (i + 1) k (oneS s l[i]) (by omega) (by omega)
theorem Apply_is (s : St) (l : List (List Int)) (hi : AllI l) (hl : l.length ≤ 140737488351232) (k : Nat) (hk : l.length + 60 ≤ k) : style_Apply.f k s.1 s.2.1 s.2.2.1 s.2.2.2.1 s.2.2.2.2.1 s.2.2.2.2.2.1 s.2.2.2.2.2.2.1 s.2.2.2.2.2.2.2.1 s.2.2.2.2.2.2.2.2.1 s.2.2.2.2.2.2.2.2.2 l = some (foldS s l) := by
  have := Apply_loop l hi hl l.length 0 k s (by omega) hk
  simpa [style_Apply.f] using this
end Go.Proofs.YtbaigfoioiklkaaDoor.G
end
section
namespace Go.Proofs.YtbaigfoioiklkaaDoor
set_option linter.unusedVariables false
set_option linter.unusedSimpArgs false
theorem lens_le (xs : List (List UInt8)) (m : Nat) (h : ∀ x ∈ xs, x.length ≤ m) : Lib.lens xs ≤ m * xs.length := by
  induction xs with
  | nil => simp [Lib.lens]
  | cons x r ih =>
    have h1 := ih (fun y hy => h y (by simp [hy]))
    have h2 := h x (by simp)
    simp only [Lib.lens, List.map_cons, List.sum_cons, List.length_cons] at h1 ⊢
    rw [Nat.mul_succ]
    omega
theorem join_le (xs : List (List UInt8)) (sep : List UInt8) (m : Nat) (h : ∀ x ∈ xs, x.length ≤ m) : (Lib.join xs sep).length ≤ (m + sep.length) * xs.length := by
  cases xs with
  | nil => simp [Lib.join_nil]
  | cons x r =>
    have h1 := lens_le (x :: r) m h
    rw [Lib.join_length]
    have h2 : sep.length * r.length ≤ sep.length * (x :: r).length := Nat.mul_le_mul_left _ (by simp)
    rw [Nat.add_mul]
    omega
def partT (r : List Int) : List UInt8 := Lib.join (r.map textL) [58]
def textP (l : List (List Int)) : List UInt8 := Lib.join (l.map partT) [59]
theorem textL_le {n : Int} (h : n ≤ 9223372036854775807) : (textL n).length ≤ 20 := by
  by_cases h0 : 0 ≤ n
  · exact (textL_len h0 h).1
  · unfold textL; rw [if_pos (by omega)]; simp
theorem partT_le (r : List Int) (h : ∀ z ∈ r, z ≤ 9223372036854775807) : (partT r).length ≤ 21 * r.length := by
  have := join_le (r.map textL) [58] 20 (fun x hx => by obtain ⟨z, hz, rfl⟩ := List.mem_map.1 hx; exact textL_le (h z hz))
  simpa [partT] using this
theorem take_snoc_map {α β : Type} (f : α → β) (l : List α) {i : Nat} (h : i < l.length) : (l.take (i + 1)).map f = (l.take i).map f ++ [f l[i]] := by
  rw [List.take_succ_eq_append_getElem h, List.map_append]
  rfl
end Go.Proofs.YtbaigfoioiklkaaDoor
end
section
namespace Go.Proofs.YtbaigfoioiklkaaDoor.G
set_option linter.unusedVariables false
set_option linter.unusedSimpArgs false
open Go.RowKit Kit Go.Proofs.YtbaigfoioiklkaaDoorW.PrintWords
def Small (l : List (List Int)) : Prop := l.length ≤ 100 ∧ ∀ r ∈ l, r.length ≤ 100
theorem numText_is {n : Int} (h0 : -9223372036854775808 ≤ n) (h1 : n ≤ 9223372036854775807) : num_Text.f n = some ⟨(textL n).toArray⟩ := by unfold num_Text.f; rw [if_pos ⟨h0, h1⟩]
theorem join_is (xs : List (List UInt8)) (sep : List UInt8) (m : Nat) (h : ∀ x ∈ xs, x.length ≤ m) (hm : m ≤ 100000) (hs : sep.length = 1) (hx : xs.length ≤ 1000) : strings_Join.f (xs.map fun x => ⟨x.toArray⟩) ⟨sep.toArray⟩ = some ⟨(Lib.join xs sep).toArray⟩ := by
  unfold strings_Join.f
  have e : (xs.map fun x => (⟨x.toArray⟩ : ByteArray)).map (·.data.toList) = xs := by
    rw [List.map_map]
    conv => rhs; rw [← List.map_id xs]
    rfl
  have hb := join_le xs sep m h
  rw [e]
  rw [if_pos]
  refine ⟨by rw [List.length_map]; omega, ?_⟩
  show (Lib.join xs sep).length ≤ _
  have : (m + sep.length) * xs.length ≤ 100001 * 1000 := Nat.mul_le_mul (by omega) hx
  omega
theorem text_inner (l : List (List Int)) (x3 : List ByteArray) (x10 x11 : Int) (r : List Int) (hi : InI r) (hr : r.length ≤ 100) (hx3 : x3.length ≤ 1000) : ∀ d j k, j + d = r.length → d < k →
    style_Text.l1 k x3 (((r.take j).map textL).map fun x => ⟨x.toArray⟩) l x10 x11 r (r.length : Int) (j : Int) = style_Text.l0 (k - d - 1) (x3 ++ [⟨(partT r).toArray⟩]) l x10 (wrap64 (x11 + 1)) := by
  intro d
  induction d with
  | zero =>
    intro j k hj hk
    obtain ⟨k, rfl⟩ : ∃ m, k = m + 1 := ⟨k - 1, by omega⟩
    have e : r.take j = r := List.take_of_length_le (by omega)
    have hm : ∀ x ∈ r.map textL, x.length ≤ 20 := fun x hx => by
      obtain ⟨z, hz, rfl⟩ := List.mem_map.1 hx
      exact textL_le (hi z hz).2
    have hJ := join_is (r.map textL) [58] 20 hm (by omega) rfl (by simp; omega)
    rw [style_Text.l1, if_neg (by omega), e, show (⟨#[58]⟩ : ByteArray) = ⟨([58] : List UInt8).toArray⟩ from rfl, hJ, Option.bind_some, if_pos (by omega)]
    rfl
  | succ d ih =>
    intro j k hj hk
    obtain ⟨k, rfl⟩ : ∃ m, k = m + 1 := ⟨k - 1, by omega⟩
    have hjl : j < r.length := by omega
    have hw : wrap64 ((j : Int) + 1) = ((j + 1 : Nat) : Int) := by unfold wrap64; omega
    have hz := hi _ (List.getElem_mem hjl)
    have hrd : rd r (j : Int) = r[j] := by unfold rd; simp [List.getD, hjl]
    rw [style_Text.l1, if_pos (by omega), if_pos (by omega), if_pos (by omega), hrd, numText_is hz.1 hz.2, Option.bind_some, if_pos (by simp; omega), hw]
    have e : (((r.take j).map textL).map fun x => (⟨x.toArray⟩ : ByteArray)) ++ [⟨(textL r[j]).toArray⟩] = ((r.take (j + 1)).map textL).map fun x => (⟨x.toArray⟩ : ByteArray) := by
      rw [take_snoc_map textL r hjl]; simp
    rw [e, ih (j + 1) k (by omega) (by omega)]
    congr 1
    omega
theorem text_outer (l : List (List Int)) (hi : AllI l) (hl : Small l) : ∀ d i k, i + d = l.length → d * 110 + 10 ≤ k →
    style_Text.l0 k (((l.take i).map partT).map fun x => ⟨x.toArray⟩) l (l.length : Int) (i : Int) = some ⟨(textP l).toArray⟩ := by
  intro d
  induction d with
  | zero =>
    intro i k hid hk
    obtain ⟨k, rfl⟩ : ∃ m, k = m + 1 := ⟨k - 1, by omega⟩
    have e : l.take i = l := List.take_of_length_le (by omega)
    have hm : ∀ x ∈ l.map partT, x.length ≤ 2100 := fun x hx => by
      obtain ⟨r, hr, rfl⟩ := List.mem_map.1 hx
      have h1 := partT_le r (fun z hz => (hi r hr z hz).2)
      have h2 := hl.2 r hr
      omega
    have h100 := hl.1
    have hJ := join_is (l.map partT) [59] 2100 hm (by omega) rfl (by simp; omega)
    rw [style_Text.l0, if_neg (by omega), e, show (⟨#[59]⟩ : ByteArray) = ⟨([59] : List UInt8).toArray⟩ from rfl, hJ]
    rfl
  | succ d ih =>
    intro i k hid hk
    obtain ⟨k, rfl⟩ : ∃ m, k = m + 1 := ⟨k - 1, by omega⟩
    have hil : i < l.length := by omega
    have h100 := hl.1
    have hr := hl.2 _ (List.getElem_mem hil)
    have hw : wrap64 ((i : Int) + 1) = ((i + 1 : Nat) : Int) := by unfold wrap64; omega
    rw [style_Text.l0, if_pos (by omega), if_pos (by omega), if_pos (by omega), rd_row l i hil]
    have hin := text_inner l (((l.take i).map partT).map fun x => (⟨x.toArray⟩ : ByteArray)) (l.length : Int) (i : Int) l[i] (hi _ (List.getElem_mem hil)) hr (by simp; omega) l[i].length 0 k (by omega) (by omega)
    rw [show (([] : List ByteArray)) = (((l[i].take 0).map textL).map fun x => (⟨x.toArray⟩ : ByteArray)) by simp]
    rw [show (0 : Int) = ((0 : Nat) : Int) from rfl, hin, hw]
    have e : (((l.take i).map partT).map fun x => (⟨x.toArray⟩ : ByteArray)) ++ [⟨(partT l[i]).toArray⟩] = ((l.take (i + 1)).map partT).map fun x => (⟨x.toArray⟩ : ByteArray) := by
      rw [take_snoc_map partT l hil]; simp
    rw [e]
    exact ih (i + 1) _ (by omega) (by omega)
theorem Text_is (l : List (List Int)) (hi : AllI l) (hl : Small l) (k : Nat) (hk : 12000 ≤ k) : style_Text.f k l = some ⟨(textP l).toArray⟩ := by
  have h100 := hl.1
  have := text_outer l hi hl l.length 0 k (by omega) (by omega)
  simpa [style_Text.f] using this
end Go.Proofs.YtbaigfoioiklkaaDoor.G
end
section
namespace Go.Proofs.YtbaigfoioiklkaaDoor.G
open Go.RowKit Go.Proofs.YtbaigfoioiklkaaDoorW.PrintWords Go.Proofs.YtbaigfoioiklkaaDoorW.PrintLast Go.Proofs.YtbaigfoioiklkaaDoorW.PrintMore
attribute [local go_sem] max2_int min2_int max_two min_two max_three min_three max_four min_four
set_option linter.unusedVariables false
set_option linter.unusedSimpArgs false
def style_Params.f (a0_0 : Bool) (a0_1 : Bool) (a0_2 : Bool) (a0_3 : Bool) (a0_4 : Bool) (a0_5 : Bool) (a0_6 : Bool) (a0_7 : Int) (a0_8 : Int) (a0_9 : Int) : Option ((List (List Int))) := if style_May.f a0_0 a0_1 a0_2 a0_3 a0_4 a0_5 a0_6 a0_7 a0_8 a0_9 = some true then (if -9223372036854775808 ≤ a0_8 ∧ -9223372036854775808 ≤ a0_9 then some (paramsL a0_0 a0_1 a0_2 a0_3 a0_4 a0_5 a0_6 a0_7 a0_8 a0_9) else none) else if style_May.f a0_0 a0_1 a0_2 a0_3 a0_4 a0_5 a0_6 a0_7 a0_8 a0_9 = some false then some [] else none
theorem tint_is (n base : Int) (h0 : -2 ≤ n) (h1 : n < 16777472) (hb : 0 ≤ base) (hb1 : base ≤ 1000) : style_tint.f n base = some (tintL n base) := by
  have w1 : wrap64 (base + n) = base + n := by unfold wrap64; omega
  have w2 : wrap64 (base + 52) = base + 52 := by unfold wrap64; omega
  have w3 : wrap64 (base + 52 + n) = base + 52 + n := by unfold wrap64; omega
  have w4 : wrap64 (base + 8) = base + 8 := by unfold wrap64; omega
  unfold style_tint.f tintL style_parts.f
  by_cases g1 : n < 8
  · rw [if_pos g1, if_pos g1, w1]; rfl
  · rw [if_neg g1, if_neg g1]
    by_cases g2 : n < 16
    · rw [if_pos g2, if_pos g2, w2, w3]; rfl
    · rw [if_neg g2, if_neg g2]
      by_cases g3 : n < 256
      · rw [if_pos g3, if_pos g3, w4]; rfl
      · have w5 : wrap64 (n - 256) = n - 256 := by unfold wrap64; omega
        have t1 : Int.tdiv (n - 256) 65536 = (n - 256) / 65536 := Int.tdiv_eq_ediv_of_nonneg (by omega)
        have t2 : Int.tdiv (n - 256) 256 = (n - 256) / 256 := Int.tdiv_eq_ediv_of_nonneg (by omega)
        have w6 : wrap64 ((n - 256) / 65536) = (n - 256) / 65536 := by unfold wrap64; omega
        have w7 : wrap64 ((n - 256) / 256) = (n - 256) / 256 := by unfold wrap64; omega
        have t3 : Int.tmod ((n - 256) / 256) 256 = (n - 256) / 256 % 256 := Int.tmod_eq_emod_of_nonneg (by omega)
        have t4 : Int.tmod (n - 256) 256 = (n - 256) % 256 := Int.tmod_eq_emod_of_nonneg (by omega)
        rw [if_neg g3, if_neg g3, w4, w5, t1, t2, w6, w7, t3, t4]; rfl
theorem may_is (b0 b1 b2 b3 b4 b5 b6 : Bool) (u f b : Int) : style_May.f b0 b1 b2 b3 b4 b5 b6 u f b = some (mayL u f b) := by
  unfold style_May.f style_May_1.f mayL colL
  by_cases h0 : 0 ≤ u <;> by_cases h1 : u ≤ 5 <;> by_cases h2 : -1 ≤ f <;> by_cases h3 : f < 16777472 <;> by_cases h4 : -1 ≤ b <;> simp [h0, h1, h2, h3, h4, ge_iff_le]
set_option maxHeartbeats 1000000 in
theorem style_Params.calls (a0_0 : Bool) (a0_1 : Bool) (a0_2 : Bool) (a0_3 : Bool) (a0_4 : Bool) (a0_5 : Bool) (a0_6 : Bool) (a0_7 : Int) (a0_8 : Int) (a0_9 : Int) (r : List (List Int)) (w : World) (h : style_Params.f a0_0 a0_1 a0_2 a0_3 a0_4 a0_5 a0_6 a0_7 a0_8 a0_9 = some r) :
    Calls Tryd.prog 10 #[.agg #[.bool a0_0, .bool a0_1, .bool a0_2, .bool a0_3, .bool a0_4, .bool a0_5, .bool a0_6, .int .i64 a0_7, .int .i64 a0_8, .int .i64 a0_9]] w fun e w' => ∃ v0_ : Value, e = .returned (v0_) ∧ Kd.S (Kd.slice 3 (Kd.int .i64)) 35 w' w.heap.size (fun _ => True) v0_ r ∧ Below w.heap.size w w' := by
  unfold style_Params.f at h
  rw [may_is] at h
  have HM : ∀ r, mayL a0_7 a0_8 a0_9 = r → MayAt a0_0 a0_1 a0_2 a0_3 a0_4 a0_5 a0_6 a0_7 a0_8 a0_9 r := fun r hr W => by
    refine (style_May.calls a0_0 a0_1 a0_2 a0_3 a0_4 a0_5 a0_6 a0_7 a0_8 a0_9 r W (by rw [may_is, hr])).mono fun e w' h => ⟨h.1, ?_⟩
    first | exact h.2 | exact h.2.below
  cases hm : mayL a0_7 a0_8 a0_9 with
  | false =>
    rw [hm, if_neg (by decide), if_pos rfl] at h
    obtain rfl := Option.some.inj h
    exact params_not a0_0 a0_1 a0_2 a0_3 a0_4 a0_5 a0_6 a0_7 a0_8 a0_9 (HM false hm) w
  | true =>
    rw [hm, if_pos rfl] at h
    by_cases hlo : -9223372036854775808 ≤ a0_8 ∧ -9223372036854775808 ≤ a0_9
    · rw [if_pos hlo] at h
      obtain rfl := Option.some.inj h
      have hm' := hm
      simp only [mayL, colL, Bool.and_eq_true, decide_eq_true_eq] at hm'
      exact params_yes a0_0 a0_1 a0_2 a0_3 a0_4 a0_5 a0_6 a0_7 a0_8 a0_9 hm'.1 (HM true hm)
        (fun _ W => style_tint.calls a0_8 30 _ W (tint_is a0_8 30 (by omega) (by omega) (by decide) (by decide))) (fun _ W => style_tint.calls a0_9 40 _ W (tint_is a0_9 40 (by omega) (by omega) (by decide) (by decide))) w
    · rw [if_neg hlo] at h; cases h
end Go.Proofs.YtbaigfoioiklkaaDoor.G
end
section
namespace Go.Proofs.YtbaigfoioiklkaaDoor.G
open Go.RowKit Go.Proofs.YtbaigfoioiklkaaDoorW.PrintWords Go.Proofs.YtbaigfoioiklkaaDoorW.PrintLast Go.Proofs.YtbaigfoioiklkaaDoorW.PrintMore
attribute [local go_sem] max2_int min2_int max_two min_two max_three min_three max_four min_four
set_option linter.unusedVariables false
set_option linter.unusedSimpArgs false
theorem eqA23 (d : Nat) (w : World) (x0 y0 : Bool) (x1 y1 : Bool) (x2 y2 : Bool) (x3 y3 : Bool) (x4 y4 : Bool) (x5 y5 : Bool) (x6 y6 : Bool) (x7 y7 : Int) (x8 y8 : Int) (x9 y9 : Int) :
    (Op.equalIn (d + 2) 23 (.agg #[.bool x0, .bool x1, .bool x2, .bool x3, .bool x4, .bool x5, .bool x6, .int .i64 x7, .int .i64 x8, .int .i64 x9]) (.agg #[.bool y0, .bool y1, .bool y2, .bool y3, .bool y4, .bool y5, .bool y6, .int .i64 y7, .int .i64 y8, .int .i64 y9])).run Tryd.prog w = .ok (x0 == y0 && (x1 == y1 && (x2 == y2 && (x3 == y3 && (x4 == y4 && (x5 == y5 && (x6 == y6 && (x7 == y7 && (x8 == y8 && (x9 == y9)))))))))) w := by
  refine eqA_of Tryd.underlying23 (by kernel_rfl) ?_
  refine eqf_cons (by rfl) (by go_simp; rfl) (by go_simp; rfl) (by go_simp) ?_
  refine eqf_cons (by rfl) (by go_simp; rfl) (by go_simp; rfl) (by go_simp) ?_
  refine eqf_cons (by rfl) (by go_simp; rfl) (by go_simp; rfl) (by go_simp) ?_
  refine eqf_cons (by rfl) (by go_simp; rfl) (by go_simp; rfl) (by go_simp) ?_
  refine eqf_cons (by rfl) (by go_simp; rfl) (by go_simp; rfl) (by go_simp) ?_
  refine eqf_cons (by rfl) (by go_simp; rfl) (by go_simp; rfl) (by go_simp) ?_
  refine eqf_cons (by rfl) (by go_simp; rfl) (by go_simp; rfl) (by go_simp) ?_
  refine eqf_cons (by rfl) (by go_simp; rfl) (by go_simp; rfl) (by go_simp) ?_
  refine eqf_cons (by rfl) (by go_simp; rfl) (by go_simp; rfl) (by go_simp) ?_
  exact eqf_last (by rfl) (by go_simp; rfl) (by go_simp; rfl) (by go_simp)
end Go.Proofs.YtbaigfoioiklkaaDoor.G
end
