/- Q: texts run together by shake.py: Greportb GgreportSetting PuRa Gclavierref03a Gclavierref03a1 Gclavierref03a2 Gclavierref03b. -/
import Derived.ArgAppend
import Derived.Below
import Derived.BigQuiet
import Derived.ChangeOld
import Derived.ChangeSlices
import Derived.Deep.AppendLies
import Derived.Deep.CutBlock
import Derived.Deep.DeepCutAuto
import Derived.Deep.Draws
import Derived.Deep.LoopGhost
import Derived.Deep.Matrix
import Derived.Deep.OwnRows
import Derived.Deep.Quiet
import Derived.Deep.QuietTactic
import Derived.Deep.RegionHeld3
import Derived.Ground.Names2Prog
import Derived.Ground.SlgnProg
import Derived.KernelRfl
import Derived.Laws.AppendOwn
import Derived.Laws.AppendOwnNone
import Derived.Laws.BitsLemmas
import Derived.Laws.BytesArg
import Derived.Laws.Concat
import Derived.Laws.CopyRow
import Derived.Laws.IdiomCopy
import Derived.Laws.IdiomStrings
import Derived.Laws.MakeOwn
import Derived.Laws.OwnMore
import Derived.Laws.Rows
import Derived.Laws.Slices
import Derived.Laws.StructEq
import Derived.Laws.Tables
import Derived.Lib.AppendIntMem
import Derived.Lib.AppendStr
import Derived.Lib.ConvBytes
import Derived.Lib.Hide
import Derived.Lib.ItoaLen
import Derived.Lib.ItoaNum
import Derived.Lib.Join
import Derived.Lib.LaidTab
import Derived.Lib.Strings
import Derived.MapKept
import Derived.Maps.AppendAt
import Derived.OpenShut
import Derived.Orders
import Derived.OrdersHeld
import Derived.Outline
import Derived.OwnWalk
import Derived.ProofKit
import Derived.RowKit
import Derived.RowKit3
import Derived.Shelf.LaysM
import Derived.Shelf.Slices.Clone
import Derived.Shelf.SlicesE.Clone
import Derived.Shelf.Strconv.Itoa0
import Derived.Shelf.Strconv.Itoa1
import Derived.Shelf.Strconv.Itoa2
import Derived.Shelf.Strconv.Itoa3
import Derived.Shelf.Strings.Builder1
import Derived.Shelf.Strings.Builder2
import Derived.Shelf.Strings.Builder2Cap
import Derived.Shelf.Strings.BuilderCap
import Derived.Shelf.Strings.BuilderF
import Derived.Shelf.Strings.BuilderK
import Derived.Shelf.Strings.OnBuilder
import Derived.ShutString
import Derived.SizedLaws
import Derived.Still
import Derived.Tactics
import Derived.Test.YtopcleljecdkkaaDoorProg
import Derived.WalkKit
import Derived.WalkLawsBesides
import Derived.WalkSpells
import Derived.WideLaws
import Derived.Test.YtopcleljecdkkaaDoorZQ1
import Derived.Test.YtopcleljecdkkaaDoorZQ2
import Derived.Test.YtopcleljecdkkaaDoorZQ3
import Derived.Test.YtopcleljecdkkaaDoorZQ4
import Derived.Test.YtopcleljecdkkaaDoorZQ5
import Derived.Test.YtopcleljecdkkaaDoorZQ6
section
namespace Go.Proofs.YtopcleljecdkkaaDoor.G
open Go.RowKit Go.Proofs.YtopcleljecdkkaaDoorW.PrintWords Go.Proofs.YtopcleljecdkkaaDoorW.PrintLast Go.Proofs.YtopcleljecdkkaaDoorW.PrintMore
attribute [local go_sem] max2_int min2_int max_two min_two max_three min_three max_four min_four
set_option linter.unusedVariables false
set_option linter.unusedSimpArgs false
def report_Setting_1.f (a0 : Int) : Option (ByteArray) := (report_fact.f a0).bind fun t136 => ((num_Text.f t136).bind fun t137 => (some t137))
set_option maxHeartbeats 8000000 in
set_option maxRecDepth 100000 in
theorem report_Setting_1.calls (a0 : Int) (r : ByteArray) (w : World) (hT : Tab w) (h : report_Setting_1.f a0 = some r) :
    Calls Tryd.prog 33 #[.int .i64 a0] w fun e w' => e = .returned (.string r) ∧ Below w.heap.size w w' := by
  have HT := Aside0.mk hT
  clear hT
  have HB := Aside0.mk (Below.refl w.heap.size w)
  have H : ((report_fact.f a0).bind fun t136 => ((num_Text.f t136).bind fun t137 => (some t137))) = some r := h
  clear h
  replace H := Option.bind_eq_some_iff.mp H
  obtain ⟨t136, A20, H⟩ := H
  replace H : ((num_Text.f t136).bind fun t137 => (some t137)) = some r := H
  have A2 := Aside0.mk A20
  clear A20
  replace H := Option.bind_eq_some_iff.mp H
  obtain ⟨t137, A30, H⟩ := H
  replace H : (some t137) = some r := H
  have A3 := Aside0.mk A30
  clear A30
  obtain rfl := Option.some.inj H
  go_enter Tryd.func33, Tryd.ntmps33
  go_wp2_with (first | ((with_reducible refine gate_callee (f := 29) rfl ?_); refine goesL_ (some 4) rfl rfl Tryd.func29 (by kernel_rfl) rfl #[.int .i64 a0] rfl (by (try simp only [List.map_toArray, List.map_cons, List.map_nil]); first | done | rfl | (simp only [List.length_drop, List.length_take]; rfl)) ?_; (with_reducible refine (report_fact.calls a0 t136 _ A2.out).mono ?_); rintro e w4 ⟨rfl, hb⟩; refine ⟨_, rfl, ?_⟩; have n0_ := Aside0.mk (below_step (by repeat (first | (with_reducible first | exact HB.out | apply below_alloc | apply pw_below_drewN | apply below_drew1) | exact HB.out)) hb); clear HB; have HB := n0_; clear n0_; (try clear hb); (try clear hb2); (try clear hk); (try clear hi)) | ((with_reducible refine gate_callee (f := 34) rfl ?_); refine goesL_ (some 5) rfl rfl Tryd.func34 (by kernel_rfl) rfl #[.int .i64 t136] rfl (by (try simp only [List.map_toArray, List.map_cons, List.map_nil]); first | done | rfl | (simp only [List.length_drop, List.length_take]; rfl)) ?_; (with_reducible refine (num_Text.calls t136 t137 _ ?side1 A3.out).mono ?_); (case side1 => exact Tab.below HT.out (by repeat (first | (with_reducible first | exact HB.out | apply below_alloc | apply pw_below_drewN | apply below_drew1) | exact HB.out))); rintro e w5 ⟨rfl, hb⟩; refine ⟨_, rfl, ?_⟩; have n0_ := Aside0.mk (below_step (by repeat (first | (with_reducible first | exact HB.out | apply below_alloc | apply pw_below_drewN | apply below_drew1) | exact HB.out)) hb); clear HB; have HB := n0_; clear n0_; (try clear hb); (try clear hb2); (try clear hk); (try clear hi)))
  go_ret
  exact ⟨by first | rfl | (simp [errW_none, errW_some] <;> rfl) | (simp [*, errW_none, errW_some] <;> rfl), by repeat (first | (with_reducible first | exact HB.out | apply below_alloc | apply pw_below_drewN | apply below_drew1) | exact HB.out)⟩
end Go.Proofs.YtopcleljecdkkaaDoor.G
end
section
namespace Go.Proofs.YtopcleljecdkkaaDoor.G
open Go.RowKit Go.Proofs.YtopcleljecdkkaaDoorW.PrintWords Go.Proofs.YtopcleljecdkkaaDoorW.PrintLast Go.Proofs.YtopcleljecdkkaaDoorW.PrintMore
attribute [local go_sem] max2_int min2_int max_two min_two max_three min_three max_four min_four
set_option linter.unusedVariables false
set_option linter.unusedSimpArgs false
def report_Setting.f (k : Nat) (a0_0 : Int) (a0_1 : Int) (a0_2 : Int) (a0_3 : Int) (a0_4 : Int) (a0_5 : Int) (a0_6 : Int) (a0_7 : Int) (a0_8 : Int) (a0_9 : Bool) (a0_10 : Bool) (a0_11 : Bool) (a0_12 : Bool) (a0_13 : Bool) (a0_14 : Bool) (a0_15 : Bool) (a0_16 : Int) (a0_17 : Int) (a0_18 : Int) (a1 : ByteArray) : Option (Int × Int × (List (List Int)) × ByteArray × Int × ByteArray) :=
  if a1 = ⟨#[109]⟩ then (style_May.f a0_9 a0_10 a0_11 a0_12 a0_13 a0_14 a0_15 a0_16 a0_17 a0_18).bind fun b => if b = true then (style_Params.f a0_9 a0_10 a0_11 a0_12 a0_13 a0_14 a0_15 a0_16 a0_17 a0_18).bind fun l => (style_Text.f k l).bind fun s => if s.size ≤ 1000000 then some (3, 0, [[1]], ⟨#[36]⟩, 114, s ++ ⟨#[109]⟩) else none else some (3, 0, [[0]], ⟨#[36]⟩, 114, ⟨#[]⟩)
  else if a1 = ⟨#[114]⟩ then (report_Setting_1.f a0_4).bind fun s => (report_Setting_1.f a0_5).bind fun t => if s.size ≤ 1000 ∧ t.size ≤ 1000 then some (3, 0, [[1]], ⟨#[36]⟩, 114, s ++ ⟨#[59]⟩ ++ t ++ ⟨#[114]⟩) else none
  else if a1 = ⟨#[115]⟩ then (report_Setting_1.f a0_6).bind fun s => (report_Setting_1.f a0_7).bind fun t => if s.size ≤ 1000 ∧ t.size ≤ 1000 then some (3, 0, [[1]], ⟨#[36]⟩, 114, s ++ ⟨#[59]⟩ ++ t ++ ⟨#[115]⟩) else none
  else if a1 = ⟨#[32, 113]⟩ then (report_Setting_1.f a0_8).bind fun s => if s.size ≤ 1000 then some (3, 0, [[1]], ⟨#[36]⟩, 114, s ++ ⟨#[32, 113]⟩) else none
  else if a1 = ⟨#[34, 112]⟩ then some (3, 0, [[1]], ⟨#[36]⟩, 114, ⟨#[54, 50, 59, 49]⟩ ++ ⟨#[34, 112]⟩)
  else some (3, 0, [[0]], ⟨#[36]⟩, 114, ⟨#[]⟩)
theorem report_Setting.mono : ∀ a0 a1 a2 a3 a4 a5 a6 a7 a8 a9 a10 a11 a12 a13 a14 a15 a16 a17 a18 a19 k, LeO (report_Setting.f k a0 a1 a2 a3 a4 a5 a6 a7 a8 a9 a10 a11 a12 a13 a14 a15 a16 a17 a18 a19) (report_Setting.f (k + 1) a0 a1 a2 a3 a4 a5 a6 a7 a8 a9 a10 a11 a12 a13 a14 a15 a16 a17 a18 a19) := by
  intro a0 a1 a2 a3 a4 a5 a6 a7 a8 a9 a10 a11 a12 a13 a14 a15 a16 a17 a18 a19 k
  unfold report_Setting.f
  repeat' first
      | exact LeO.refl _
      | exact style_Text.mono _ _
      | refine LeO.ite ?_ ?_
      | refine LeO.bind ?_ (fun _ => ?_)
theorem set_ans {n kd pv fi : Int} {rows : List (List Int)} {inter data d : ByteArray} {w : World} {e : Ending} {w' : World} (hh : SetAns n d w e w') (h : some ((3 : Int), (0 : Int), [[n]], (⟨#[36]⟩ : ByteArray), (114 : Int), d) = some (kd, pv, rows, inter, fi, data)) :
    ∃ v : Value, e = .returned (.agg #[.int .i64 kd, .int .u8 pv, v, .string inter, .int .u8 fi, .string data]) ∧ Kd.S (Kd.slice 3 (Kd.int .i64)) 52 w' w.heap.size (fun _ => True) v rows ∧ Below w.heap.size w w' := by
  simp only [Option.some.injEq, Prod.mk.injEq] at h
  obtain ⟨rfl, rfl, rfl, rfl, rfl, rfl⟩ := h
  exact hh
set_option maxHeartbeats 1000000 in
theorem report_Setting.calls (k : Nat) (a0_0 : Int) (a0_1 : Int) (a0_2 : Int) (a0_3 : Int) (a0_4 : Int) (a0_5 : Int) (a0_6 : Int) (a0_7 : Int) (a0_8 : Int) (a0_9 : Bool) (a0_10 : Bool) (a0_11 : Bool) (a0_12 : Bool) (a0_13 : Bool) (a0_14 : Bool) (a0_15 : Bool) (a0_16 : Int) (a0_17 : Int) (a0_18 : Int) (a1 : ByteArray) (r1 : Int) (r2 : Int) (r3 : List (List Int)) (r4 : ByteArray) (r5 : Int) (r6 : ByteArray) (w : World) (hT : Tab w) (h : report_Setting.f k a0_0 a0_1 a0_2 a0_3 a0_4 a0_5 a0_6 a0_7 a0_8 a0_9 a0_10 a0_11 a0_12 a0_13 a0_14 a0_15 a0_16 a0_17 a0_18 a1 = some (r1, r2, r3, r4, r5, r6)) :
    Calls Tryd.prog 13 #[.agg #[.int .i64 a0_0, .int .i64 a0_1, .int .i64 a0_2, .int .i64 a0_3, .int .i64 a0_4, .int .i64 a0_5, .int .i64 a0_6, .int .i64 a0_7, .int .i64 a0_8, .bool a0_9, .bool a0_10, .bool a0_11, .bool a0_12, .bool a0_13, .bool a0_14, .bool a0_15, .int .i64 a0_16, .int .i64 a0_17, .int .i64 a0_18], .string a1] w fun e w' => ∃ v2_ : Value, e = .returned (.agg #[.int .i64 r1, .int .u8 r2, v2_, .string r4, .int .u8 r5, .string r6]) ∧ Kd.S (Kd.slice 3 (Kd.int .i64)) 52 w' w.heap.size (fun _ => True) v2_ r3 ∧ Below w.heap.size w w' := by
  unfold report_Setting.f at h
  by_cases c1 : a1 = ⟨#[109]⟩
  · rw [if_pos c1] at h
    subst c1
    obtain ⟨b, hb, h⟩ := Option.bind_eq_some_iff.1 h
    have HM : Gives 42 #[styV a0_9 a0_10 a0_11 a0_12 a0_13 a0_14 a0_15 a0_16 a0_17 a0_18] (.bool b) w := fun W _ => (style_May.calls a0_9 a0_10 a0_11 a0_12 a0_13 a0_14 a0_15 a0_16 a0_17 a0_18 b W hb).mono fun e w' h => ⟨h.1, by first | exact h.2 | exact h.2.below⟩
    cases b with
    | false =>
      rw [if_neg (by decide)] at h
      exact (setting_m_no a0_0 a0_1 a0_2 a0_3 a0_4 a0_5 a0_6 a0_7 a0_8 a0_9 a0_10 a0_11 a0_12 a0_13 a0_14 a0_15 a0_16 a0_17 a0_18 w HM).mono fun e w' hh => set_ans hh h
    | true =>
      rw [if_pos rfl] at h
      obtain ⟨l, hl, h⟩ := Option.bind_eq_some_iff.1 h
      obtain ⟨s, hs, h⟩ := Option.bind_eq_some_iff.1 h
      by_cases hz : s.size ≤ 1000000
      · rw [if_pos hz] at h
        exact (setting_m a0_0 a0_1 a0_2 a0_3 a0_4 a0_5 a0_6 a0_7 a0_8 a0_9 a0_10 a0_11 a0_12 a0_13 a0_14 a0_15 a0_16 a0_17 a0_18 w HM l s (fun W _ => style_Params.calls a0_9 a0_10 a0_11 a0_12 a0_13 a0_14 a0_15 a0_16 a0_17 a0_18 l W hl) (fun W A c hb hC hc => style_Text.calls k A c l s W hC hc (Tab.below hT hb) hs) hz).mono fun e w' hh => set_ans hh h
      · rw [if_neg hz] at h; cases h
  rw [if_neg c1] at h
  have G1 : ∀ z s, report_Setting_1.f z = some s → Gives 33 #[.int .i64 z] (.string s) w := fun z s hs W hb => (report_Setting_1.calls z s W (Tab.below hT hb) hs).mono fun e w' h => ⟨h.1, by first | exact h.2 | exact h.2.below⟩
  by_cases c2 : a1 = ⟨#[114]⟩
  · rw [if_pos c2] at h
    subst c2
    obtain ⟨s, hs, h⟩ := Option.bind_eq_some_iff.1 h
    obtain ⟨t, ht, h⟩ := Option.bind_eq_some_iff.1 h
    by_cases hz : s.size ≤ 1000 ∧ t.size ≤ 1000
    · rw [if_pos hz] at h
      exact (setting_r a0_0 a0_1 a0_2 a0_3 a0_4 a0_5 a0_6 a0_7 a0_8 a0_9 a0_10 a0_11 a0_12 a0_13 a0_14 a0_15 a0_16 a0_17 a0_18 w s t (G1 _ _ hs) (G1 _ _ ht) hz.1 hz.2).mono fun e w' hh => set_ans hh h
    · rw [if_neg hz] at h; cases h
  rw [if_neg c2] at h
  by_cases c3 : a1 = ⟨#[115]⟩
  · rw [if_pos c3] at h
    subst c3
    obtain ⟨s, hs, h⟩ := Option.bind_eq_some_iff.1 h
    obtain ⟨t, ht, h⟩ := Option.bind_eq_some_iff.1 h
    by_cases hz : s.size ≤ 1000 ∧ t.size ≤ 1000
    · rw [if_pos hz] at h
      exact (setting_s a0_0 a0_1 a0_2 a0_3 a0_4 a0_5 a0_6 a0_7 a0_8 a0_9 a0_10 a0_11 a0_12 a0_13 a0_14 a0_15 a0_16 a0_17 a0_18 w s t (G1 _ _ hs) (G1 _ _ ht) hz.1 hz.2).mono fun e w' hh => set_ans hh h
    · rw [if_neg hz] at h; cases h
  rw [if_neg c3] at h
  by_cases c4 : a1 = ⟨#[32, 113]⟩
  · rw [if_pos c4] at h
    subst c4
    obtain ⟨s, hs, h⟩ := Option.bind_eq_some_iff.1 h
    by_cases hz : s.size ≤ 1000
    · rw [if_pos hz] at h
      exact (setting_q a0_0 a0_1 a0_2 a0_3 a0_4 a0_5 a0_6 a0_7 a0_8 a0_9 a0_10 a0_11 a0_12 a0_13 a0_14 a0_15 a0_16 a0_17 a0_18 w s (G1 _ _ hs) hz).mono fun e w' hh => set_ans hh h
    · rw [if_neg hz] at h; cases h
  rw [if_neg c4] at h
  by_cases c5 : a1 = ⟨#[34, 112]⟩
  · rw [if_pos c5] at h
    subst c5
    exact (setting_p a0_0 a0_1 a0_2 a0_3 a0_4 a0_5 a0_6 a0_7 a0_8 a0_9 a0_10 a0_11 a0_12 a0_13 a0_14 a0_15 a0_16 a0_17 a0_18 w).mono fun e w' hh => set_ans hh h
  rw [if_neg c5] at h
  exact (setting_none a0_0 a0_1 a0_2 a0_3 a0_4 a0_5 a0_6 a0_7 a0_8 a0_9 a0_10 a0_11 a0_12 a0_13 a0_14 a0_15 a0_16 a0_17 a0_18 a1 w ⟨c1, c2, c3, c4, c5⟩).mono fun e w' hh => set_ans hh h
end Go.Proofs.YtopcleljecdkkaaDoor.G
end
section
namespace Go.Proofs.YtopcleljecdkkaaDoor.G
set_option linter.unusedVariables false
set_option linter.unusedSimpArgs false
open Go.RowKit Kit Go.Proofs.YtopcleljecdkkaaDoorW.PrintWords Go.Proofs.YtopcleljecdkkaaDoorW.PrintMore
def clamp (n : Int) : Int := mn (mx n 0) 65535
end Go.Proofs.YtopcleljecdkkaaDoor.G
end
section
namespace Go.Proofs.YtopcleljecdkkaaDoor.G
open Go.RowKit Go.Proofs.YtopcleljecdkkaaDoorW.PrintWords Go.Proofs.YtopcleljecdkkaaDoorW.PrintLast Go.Proofs.YtopcleljecdkkaaDoorW.PrintMore
attribute [local go_sem] max2_int min2_int max_two min_two max_three min_three max_four min_four
set_option linter.unusedVariables false
set_option linter.unusedSimpArgs false
mutual
def clavierref03_params.j0 : Nat → List (List Int) → Bool → Option (Bool)
  | 0, _, _ => none
  | k + 1, x0, x27 => if x27 = true then (some false) else (clavierref03_params.l0 k x0 0)
def clavierref03_params.l0 : Nat → List (List Int) → Int → Option (Bool)
  | 0, _, _ => none
  | k + 1, x0, x3 => if x3 < (x0.length : Int) then (if 0 ≤ x3 then (if ((rd_L1 x0 x3).length : Int) < 1 then (clavierref03_params.j2 k x0 x3 true) else (clavierref03_params.j2 k x0 x3 (decide (((rd_L1 x0 x3).length : Int) > 8)))) else (none)) else (some true)
def clavierref03_params.j2 : Nat → List (List Int) → Int → Bool → Option (Bool)
  | 0, _, _, _ => none
  | k + 1, x0, x3, x47 => if x47 = true then (some false) else (clavierref03_params.l1 k x0 x3 0)
def clavierref03_params.l1 : Nat → List (List Int) → Int → Int → Option (Bool)
  | 0, _, _, _ => none
  | k + 1, x0, x3, x4 => if 0 ≤ x3 then (if x3 < (x0.length : Int) then (if x4 < ((rd_L1 x0 x3).length : Int) then (if 0 ≤ x4 then (if (rd (rd_L1 x0 x3) x4) < (-1) then (some false) else (if (rd (rd_L1 x0 x3) x4) > 1114111 then (some false) else (clavierref03_params.l1 k x0 x3 (wrap64 (x4 + 1))))) else (none)) else (clavierref03_params.l0 k x0 (wrap64 (x3 + 1)))) else (none)) else (none)
end
def clavierref03_params.f (k : Nat) (l0 : List (List Int)) : Option (Bool) := if (l0.length : Int) > 16 then (clavierref03_params.j0 k l0 true) else (if (l0.length : Int) = 1 then (if 0 < (l0.length : Int) then (if ((rd_L1 l0 0).length : Int) = 1 then (if 0 < ((rd_L1 l0 0).length : Int) then (clavierref03_params.j0 k l0 ((rd (rd_L1 l0 0) 0) == (-1))) else (none)) else (clavierref03_params.j0 k l0 false)) else (none)) else (clavierref03_params.j0 k l0 false))
theorem clavierref03_params.mono_l : ∀ k, (∀ y0 y1, LeO (clavierref03_params.j0 k y0 y1) (clavierref03_params.j0 (k + 1) y0 y1)) ∧ (∀ y0 y1, LeO (clavierref03_params.l0 k y0 y1) (clavierref03_params.l0 (k + 1) y0 y1)) ∧ (∀ y0 y1 y2, LeO (clavierref03_params.j2 k y0 y1 y2) (clavierref03_params.j2 (k + 1) y0 y1 y2)) ∧ (∀ y0 y1 y2, LeO (clavierref03_params.l1 k y0 y1 y2) (clavierref03_params.l1 (k + 1) y0 y1 y2))
  | 0 => ⟨fun _ _ r h => by simp [clavierref03_params.j0] at h, fun _ _ r h => by simp [clavierref03_params.l0] at h, fun _ _ _ r h => by simp [clavierref03_params.j2] at h, fun _ _ _ r h => by simp [clavierref03_params.l1] at h⟩
  | k + 1 => by
    obtain ⟨ih0, ih1, ih2, ih3⟩ := clavierref03_params.mono_l k
    refine ⟨?_, ?_, ?_, ?_⟩
    · intro y0 y1
      unfold clavierref03_params.j0
      repeat' first
      | (with_reducible exact ih0 _ _)
      | (with_reducible exact ih1 _ _)
      | (with_reducible exact ih2 _ _ _)
      | (with_reducible exact ih3 _ _ _)
      | (with_reducible exact LeO.refl _)
      | (with_reducible exact LeO.none _)
      | (with_reducible refine LeO.ite ?_ ?_)
      | (with_reducible refine LeO.bind ?_ (fun _ => ?_))
      | exact ih0 _ _
      | exact ih1 _ _
      | exact ih2 _ _ _
      | exact ih3 _ _ _
      | exact LeO.none _
      | refine LeO.ite ?_ ?_
      | refine LeO.bind ?_ (fun _ => ?_)
    · intro y0 y1
      unfold clavierref03_params.l0
      repeat' first
      | (with_reducible exact ih0 _ _)
      | (with_reducible exact ih1 _ _)
      | (with_reducible exact ih2 _ _ _)
      | (with_reducible exact ih3 _ _ _)
      | (with_reducible exact LeO.refl _)
      | (with_reducible exact LeO.none _)
      | (with_reducible refine LeO.ite ?_ ?_)
      | (with_reducible refine LeO.bind ?_ (fun _ => ?_))
      | exact ih0 _ _
      | exact ih1 _ _
      | exact ih2 _ _ _
      | exact ih3 _ _ _
      | exact LeO.none _
      | refine LeO.ite ?_ ?_
      | refine LeO.bind ?_ (fun _ => ?_)
    · intro y0 y1 y2
      unfold clavierref03_params.j2
      repeat' first
      | (with_reducible exact ih0 _ _)
      | (with_reducible exact ih1 _ _)
      | (with_reducible exact ih2 _ _ _)
      | (with_reducible exact ih3 _ _ _)
      | (with_reducible exact LeO.refl _)
      | (with_reducible exact LeO.none _)
      | (with_reducible refine LeO.ite ?_ ?_)
      | (with_reducible refine LeO.bind ?_ (fun _ => ?_))
      | exact ih0 _ _
      | exact ih1 _ _
      | exact ih2 _ _ _
      | exact ih3 _ _ _
      | exact LeO.none _
      | refine LeO.ite ?_ ?_
      | refine LeO.bind ?_ (fun _ => ?_)
    · intro y0 y1 y2
      unfold clavierref03_params.l1
      repeat' first
      | (with_reducible exact ih0 _ _)
      | (with_reducible exact ih1 _ _)
      | (with_reducible exact ih2 _ _ _)
      | (with_reducible exact ih3 _ _ _)
      | (with_reducible exact LeO.refl _)
      | (with_reducible exact LeO.none _)
      | (with_reducible refine LeO.ite ?_ ?_)
      | (with_reducible refine LeO.bind ?_ (fun _ => ?_))
      | exact ih0 _ _
      | exact ih1 _ _
      | exact ih2 _ _ _
      | exact ih3 _ _ _
      | exact LeO.none _
      | refine LeO.ite ?_ ?_
      | refine LeO.bind ?_ (fun _ => ?_)
theorem clavierref03_params.mono : ∀ a0 k, LeO (clavierref03_params.f k a0) (clavierref03_params.f (k + 1) a0) := by
  intro a0 k
  obtain ⟨ih0, ih1, ih2, ih3⟩ := clavierref03_params.mono_l k
  unfold clavierref03_params.f
  repeat' first
      | (with_reducible exact ih0 _ _)
      | (with_reducible exact ih1 _ _)
      | (with_reducible exact ih2 _ _ _)
      | (with_reducible exact ih3 _ _ _)
      | (with_reducible exact LeO.refl _)
      | (with_reducible exact LeO.none _)
      | (with_reducible refine LeO.ite ?_ ?_)
      | (with_reducible refine LeO.bind ?_ (fun _ => ?_))
      | exact ih0 _ _
      | exact ih1 _ _
      | exact ih2 _ _ _
      | exact ih3 _ _ _
      | exact LeO.none _
      | refine LeO.ite ?_ ?_
      | refine LeO.bind ?_ (fun _ => ?_)
set_option maxHeartbeats 8000000 in
set_option maxRecDepth 100000 in
theorem clavierref03_params.calls (k : Nat) (A0 : Option Addr) (c0 : Nat) (l0 : List (List Int)) (r : Bool) (w : World) (hr0 : Kd.C (Kd.slice 3 (Kd.int .i64)) w A0 l0.length l0) (hc0 : l0.length ≤ c0) (h : clavierref03_params.f k l0 = some r) :
    Calls Tryd.prog 49 #[.slice A0 l0.length c0] w fun e w' => e = .returned (.bool r) ∧ Drawn0 w w' := by
  have HR0 := Aside0.mk hr0
  have HC0 := Aside0.mk hc0
  clear hr0 hc0
  have H : (if (l0.length : Int) > 16 then (clavierref03_params.j0 k l0 true) else (if (l0.length : Int) = 1 then (if 0 < (l0.length : Int) then (if ((rd_L1 l0 0).length : Int) = 1 then (if 0 < ((rd_L1 l0 0).length : Int) then (clavierref03_params.j0 k l0 ((rd (rd_L1 l0 0) 0) == (-1))) else (none)) else (clavierref03_params.j0 k l0 false)) else (none)) else (clavierref03_params.j0 k l0 false))) = some r := h
  clear h
  have HC2 := Aside0.mk H
  clear H
  go_enter Tryd.func49, Tryd.ntmps49
  go_upto_region 1 with (fail)
  go_cut [27] (fun v27 wc => ∃ (kq : Nat) (x27_1 : Bool), v27 = .bool x27_1 ∧ Aside0 (clavierref03_params.j0 kq l0 x27_1 = some r) ∧ Aside0 (kq ≤ k) ∧ Drawn0 w wc)
  case first =>
    have H := HC2.out
    clear HC2
    by_cases c3 : (l0.length : Int) > 16
    · rw [if_pos c3] at H
      have c3b0 : decide (16 < (l0.length : Int)) = true := decide_eq_true c3
      have c3b1 : decide (16 < l0.length) = true := decide_eq_true (by omega)
      clear c3
      (first | rw [c3b0] | (simp only [i64_w, i32_w]; rw [c3b0]) | skip)
      have H' := Aside0.mk H
      clear H
      go_wp2
      go_meet
      case rel => exact ⟨_, (true), (by first | rfl | (simp; done) | (simp [*]; done)), H', ⟨by first | omega | exact Nat.le_refl _⟩, by repeat (first | exact Drawn0.refl _ | apply Drawn0.step)⟩
    · rw [if_neg c3] at H
      have c3b0 : decide (16 < (l0.length : Int)) = false := decide_eq_false c3
      have c3b1 : decide (16 < l0.length) = false := decide_eq_false (by omega)
      clear c3
      (first | rw [c3b0] | (simp only [i64_w, i32_w]; rw [c3b0]) | skip)
      by_cases c4 : (l0.length : Int) = 1
      · rw [if_pos c4] at H
        have c4b0 : ((l0.length : Int) == 1) = true := beq_iff_eq.mpr c4
        have c4b1 : ((l0.length : Int) != 1) = false := bne_eq_false_iff_eq.mpr c4
        clear c4
        by_cases c5 : 0 < (l0.length : Int)
        · rw [if_pos c5] at H
          have c5b0 : decide (0 < (l0.length : Int)) = true := decide_eq_true c5
          have c5b1 : decide (0 < l0.length) = true := decide_eq_true (by omega)
          clear c5
          by_cases c6 : ((rd_L1 l0 0).length : Int) = 1
          · rw [if_pos c6] at H
            have c6b0 : (((rd_L1 l0 0).length : Int) == 1) = true := beq_iff_eq.mpr c6
            have c6b1 : (((rd_L1 l0 0).length : Int) != 1) = false := bne_eq_false_iff_eq.mpr c6
            clear c6
            by_cases c7 : 0 < ((rd_L1 l0 0).length : Int)
            · rw [if_pos c7] at H
              have c7b0 : decide (0 < ((rd_L1 l0 0).length : Int)) = true := decide_eq_true c7
              have c7b1 : decide (0 < (rd_L1 l0 0).length) = true := decide_eq_true (by omega)
              clear c7
              have H' := Aside0.mk H
              clear H
              have p177 : 0 ≤ (0 : Int) := (by omega)
              have q177 : 0 < (l0.length : Int) := of_decide_eq_true (by first | (with_reducible assumption) | assumption)
              obtain ⟨ad177, A177_0, c177_0, e177, hx177_0, hl177_0, hi177_0⟩ := at_L1 HR0.out 0 p177 q177
              cases e177
              have qi177 : (0 < l0.length) = True := eq_true (by omega)
              (try rw [show ((0 : Int)).toNat = 0 from rfl] at hx177_0)
              (try rw [Addr.add_zero'] at hx177_0)
              have HR177_0 := Aside0.mk hi177_0
              have HC177_0 := Aside0.mk hl177_0
              clear hi177_0 hl177_0
              replace p177 := eq_true p177
              replace q177 := eq_true q177
              have p178 : 0 ≤ (0 : Int) := (by omega)
              have q178 : 0 < (l0.length : Int) := of_decide_eq_true (by first | (with_reducible assumption) | assumption)
              obtain ⟨ad178, A178_0, c178_0, e178, hx178_0, hl178_0, hi178_0⟩ := at_L1 HR0.out 0 p178 q178
              obtain rfl : ad177 = ad178 := (by injection e178)
              have qi178 : (0 < l0.length) = True := eq_true (by omega)
              (try rw [show ((0 : Int)).toNat = 0 from rfl] at hx178_0)
              (try rw [Addr.add_zero'] at hx178_0)
              have HR178_0 := Aside0.mk hi178_0
              have HC178_0 := Aside0.mk hl178_0
              clear hi178_0 hl178_0
              replace p178 := eq_true p178
              replace q178 := eq_true q178
              have ea_ := Option.some.inj (hx177_0.symm.trans hx178_0)
              injection ea_ with ea_ en_ ec_
              subst ea_
              subst ec_
              clear en_
              have p179 : 0 ≤ (0 : Int) := (by omega)
              have q179 : 0 < ((rd_L1 l0 0).length : Int) := of_decide_eq_true (by first | (with_reducible assumption) | assumption)
              obtain ⟨ad179, e179, hx179_0⟩ := Kd.at_int HR178_0.out 0 p179 q179
              cases e179
              have qi179 : (0 < (rd_L1 l0 0).length) = True := eq_true (by omega)
              (try rw [show ((0 : Int)).toNat = 0 from rfl] at hx179_0)
              (try rw [Addr.add_zero'] at hx179_0)
              replace p179 := eq_true p179
              replace q179 := eq_true q179
              go_wp2
              go_meet
              case rel => exact ⟨_, (((rd (rd_L1 l0 0) 0) == (-1))), (by first | rfl | (simp; done) | (simp [*]; done)), H', ⟨by first | omega | exact Nat.le_refl _⟩, by repeat (first | exact Drawn0.refl _ | apply Drawn0.step)⟩
            · rw [if_neg c7] at H
              exact absurd H (by simp)
          · rw [if_neg c6] at H
            have c6b0 : (((rd_L1 l0 0).length : Int) == 1) = false := beq_eq_false_iff_ne.mpr c6
            have c6b1 : (((rd_L1 l0 0).length : Int) != 1) = true := bne_iff_ne.mpr c6
            have H' := Aside0.mk H
            clear H
            have p177 : 0 ≤ (0 : Int) := (by omega)
            have q177 : 0 < (l0.length : Int) := of_decide_eq_true (by first | (with_reducible assumption) | assumption)
            obtain ⟨ad177, A177_0, c177_0, e177, hx177_0, hl177_0, hi177_0⟩ := at_L1 HR0.out 0 p177 q177
            cases e177
            have qi177 : (0 < l0.length) = True := eq_true (by omega)
            (try rw [show ((0 : Int)).toNat = 0 from rfl] at hx177_0)
            (try rw [Addr.add_zero'] at hx177_0)
            have HR177_0 := Aside0.mk hi177_0
            have HC177_0 := Aside0.mk hl177_0
            clear hi177_0 hl177_0
            replace p177 := eq_true p177
            replace q177 := eq_true q177
            go_wp2
            go_meet
            case rel => exact ⟨_, (false), (by first | rfl | (simp; done) | (simp [*]; done)), H', ⟨by first | omega | exact Nat.le_refl _⟩, by repeat (first | exact Drawn0.refl _ | apply Drawn0.step)⟩
        · rw [if_neg c5] at H
          exact absurd H (by simp)
      · rw [if_neg c4] at H
        have c4b0 : ((l0.length : Int) == 1) = false := beq_eq_false_iff_ne.mpr c4
        have c4b1 : ((l0.length : Int) != 1) = true := bne_iff_ne.mpr c4
        have H' := Aside0.mk H
        clear H
        go_wp2
        go_meet
        case rel => exact ⟨_, (false), (by first | rfl | (simp; done) | (simp [*]; done)), H', ⟨by first | omega | exact Nat.le_refl _⟩, by repeat (first | exact Drawn0.refl _ | apply Drawn0.step)⟩
  case rest =>
    clear HC2
    try clear c1
    try clear p1
    try clear q1
    try clear hx1
    try clear qi1
    try clear p2
    try clear c3
    try clear c3b0
    try clear c3b1
    try clear c4
    try clear c4b0
    try clear c4b1
    try clear c5
    try clear c5b0
    try clear c5b1
    try clear c6
    try clear c6b0
    try clear c6b1
    try clear c7
    try clear c7b0
    try clear c7b1
    try clear hx177_0
    try clear hx178_0
    try clear hx179_0
    try clear p177
    try clear p178
    try clear p179
    try clear q177
    try clear q178
    try clear q179
    obtain ⟨kq, x27_1, rfl, HA, HJ1, ⟨mc1, rfl⟩⟩ := hcut
    cases kq with
    | zero => exact absurd HA.out (by simp [clavierref03_params.j0])
    | succ kj1 =>
      have H := HA.out
      clear HA
      simp only [clavierref03_params.j0] at H
      by_cases c8 : x27_1 = true
      · subst c8
        have H1 : (some false) = some r := by rw [if_pos rfl] at H; exact H
        clear H
        have H := H1
        clear H1
        obtain rfl := Option.some.inj H
        go_wp2
        go_ret
        exact ⟨by first | rfl | (simp; done) | (simp [*]; done), by repeat (first | exact Drawn0.refl _ | apply Drawn0.step)⟩
      · replace c8 := Bool.eq_false_iff.mpr c8
        subst c8
        have H1 : (clavierref03_params.l0 kj1 l0 0) = some r := by rw [if_neg (show ¬ (false = true) by decide)] at H; exact H
        clear H
        have H := H1
        clear H1
        have H' := Aside0.mk H
        clear H
        go_wp2
        go_loopg [3] kj1 (fun kq v3 w' => ∃ (x3_2 : Int), v3 = .int .i64 x3_2 ∧ Aside0 (clavierref03_params.l0 kq l0 x3_2 = some r) ∧ Aside0 (kq ≤ kj1) ∧ Drawn0 w w')
        case atStart => exact ⟨(0), (by first | rfl | (simp; done) | (simp [*]; done)), H', ⟨Nat.le_refl _⟩, by repeat (first | exact Drawn0.refl _ | apply Drawn0.step)⟩
        case round =>
          clear H'
          try clear c1
          try clear p1
          try clear q1
          try clear hx1
          try clear qi1
          try clear p2
          try clear c3
          try clear c3b0
          try clear c3b1
          try clear c4
          try clear c4b0
          try clear c4b1
          try clear c5
          try clear c5b0
          try clear c5b1
          try clear c6
          try clear c6b0
          try clear c6b1
          try clear c7
          try clear c7b0
          try clear c7b1
          try clear c8
          try clear hx177_0
          try clear hx178_0
          try clear hx179_0
          try clear p1
          try clear p177
          try clear p178
          try clear p179
          try clear p2
          try clear q1
          try clear q177
          try clear q178
          try clear q179
          obtain ⟨x3_2, rfl, HA, HK2, ⟨m2, rfl⟩⟩ := hrel
          cases gk with
          | zero => exact absurd HA.out (by simp [clavierref03_params.l0])
          | succ k2 =>
            have H := HA.out
            clear HA
            simp only [clavierref03_params.l0] at H
            by_cases c9 : x3_2 < (l0.length : Int)
            · rw [if_pos c9] at H
              have c9b0 : decide (x3_2 < (l0.length : Int)) = true := decide_eq_true c9
              clear c9
              have HC10 := Aside0.mk H
              clear H
              go_upto_region 6 with (fail)
              go_cut [47] (fun v47 wc => ∃ (kq : Nat) (x47_9 : Bool), v47 = .bool x47_9 ∧ Aside0 (clavierref03_params.j2 kq l0 x3_2 x47_9 = some r) ∧ Aside0 (kq ≤ k2) ∧ Drawn0 w wc)
              case first =>
                have H := HC10.out
                clear HC10
                by_cases c11 : 0 ≤ x3_2
                · rw [if_pos c11] at H
                  have c11b0 : decide (0 ≤ x3_2) = true := decide_eq_true c11
                  clear c11
                  (first | rw [c11b0] | (simp only [i64_w, i32_w]; rw [c11b0]) | skip)
                  by_cases c12 : ((rd_L1 l0 x3_2).length : Int) < 1
                  · rw [if_pos c12] at H
                    have c12b0 : decide (((rd_L1 l0 x3_2).length : Int) < 1) = true := decide_eq_true c12
                    have c12b1 : decide ((rd_L1 l0 x3_2).length < 1) = true := decide_eq_true (by omega)
                    clear c12
                    have H' := Aside0.mk H
                    clear H
                    have p180 : 0 ≤ (x3_2 : Int) := of_decide_eq_true (by first | (with_reducible assumption) | assumption)
                    have q180 : x3_2 < (l0.length : Int) := of_decide_eq_true (by first | (with_reducible assumption) | assumption)
                    obtain ⟨ad180, A180_0, c180_0, e180, hx180_0, hl180_0, hi180_0⟩ := at_L1 HR0.out x3_2 p180 q180
                    cases e180
                    have HR180_0 := Aside0.mk hi180_0
                    have HC180_0 := Aside0.mk hl180_0
                    clear hi180_0 hl180_0
                    replace p180 := eq_true p180
                    replace q180 := eq_true q180
                    go_wp2
                    go_meet
                    case rel => exact ⟨_, (true), (by first | rfl | (simp; done) | (simp [*]; done)), H', ⟨by have := HJ1.out; have := HK2.out; first | omega | exact Nat.le_refl _⟩, by repeat (first | exact Drawn0.refl _ | apply Drawn0.step)⟩
                  · rw [if_neg c12] at H
                    have c12b0 : decide (((rd_L1 l0 x3_2).length : Int) < 1) = false := decide_eq_false c12
                    have c12b1 : decide ((rd_L1 l0 x3_2).length < 1) = false := decide_eq_false (by omega)
                    clear c12
                    have H' := Aside0.mk H
                    clear H
                    have p180 : 0 ≤ (x3_2 : Int) := of_decide_eq_true (by first | (with_reducible assumption) | assumption)
                    have q180 : x3_2 < (l0.length : Int) := of_decide_eq_true (by first | (with_reducible assumption) | assumption)
                    obtain ⟨ad180, A180_0, c180_0, e180, hx180_0, hl180_0, hi180_0⟩ := at_L1 HR0.out x3_2 p180 q180
                    cases e180
                    have HR180_0 := Aside0.mk hi180_0
                    have HC180_0 := Aside0.mk hl180_0
                    clear hi180_0 hl180_0
                    replace p180 := eq_true p180
                    replace q180 := eq_true q180
                    have p181 : 0 ≤ (x3_2 : Int) := of_decide_eq_true (by first | (with_reducible assumption) | assumption)
                    have q181 : x3_2 < (l0.length : Int) := of_decide_eq_true (by first | (with_reducible assumption) | assumption)
                    obtain ⟨ad181, A181_0, c181_0, e181, hx181_0, hl181_0, hi181_0⟩ := at_L1 HR0.out x3_2 p181 q181
                    obtain rfl : ad180 = ad181 := (by injection e181)
                    have HR181_0 := Aside0.mk hi181_0
                    have HC181_0 := Aside0.mk hl181_0
                    clear hi181_0 hl181_0
                    replace p181 := eq_true p181
                    replace q181 := eq_true q181
                    have ea_ := Option.some.inj (hx180_0.symm.trans hx181_0)
                    injection ea_ with ea_ en_ ec_
                    subst ea_
                    subst ec_
                    clear en_
                    go_wp2
                    go_meet
                    case rel => exact ⟨_, (decide (((rd_L1 l0 x3_2).length : Int) > 8)), (by first | rfl | (simp; done) | (simp [*]; done)), H', ⟨by have := HJ1.out; have := HK2.out; first | omega | exact Nat.le_refl _⟩, by repeat (first | exact Drawn0.refl _ | apply Drawn0.step)⟩
                · rw [if_neg c11] at H
                  exact absurd H (by simp)
              case rest =>
                clear HC10
                try clear c1
                try clear p1
                try clear q1
                try clear hx1
                try clear qi1
                try clear p2
                try clear c3
                try clear c3b0
                try clear c3b1
                try clear c4
                try clear c4b0
                try clear c4b1
                try clear c5
                try clear c5b0
                try clear c5b1
                try clear c6
                try clear c6b0
                try clear c6b1
                try clear c7
                try clear c7b0
                try clear c7b1
                try clear c8
                try clear c9
                try clear c9b0
                try clear c11
                try clear c11b0
                try clear c12
                try clear c12b0
                try clear c12b1
                try clear hx177_0
                try clear hx178_0
                try clear hx179_0
                try clear hx180_0
                try clear hx181_0
                try clear p1
                try clear p177
                try clear p178
                try clear p179
                try clear p180
                try clear p181
                try clear p2
                try clear q1
                try clear q177
                try clear q178
                try clear q179
                try clear q180
                try clear q181
                obtain ⟨kq, x47_9, rfl, HA, HJ9, ⟨mc9, rfl⟩⟩ := hcut
                cases kq with
                | zero => exact absurd HA.out (by simp [clavierref03_params.j2])
                | succ kj9 =>
                  have H := HA.out
                  clear HA
                  simp only [clavierref03_params.j2] at H
                  by_cases c13 : x47_9 = true
                  · subst c13
                    have H1 : (some false) = some r := by rw [if_pos rfl] at H; exact H
                    clear H
                    have H := H1
                    clear H1
                    obtain rfl := Option.some.inj H
                    go_wp2
                    go_ret
                    exact ⟨by first | rfl | (simp; done) | (simp [*]; done), by repeat (first | exact Drawn0.refl _ | apply Drawn0.step)⟩
                  · replace c13 := Bool.eq_false_iff.mpr c13
                    subst c13
                    have H1 : (clavierref03_params.l1 kj9 l0 x3_2 0) = some r := by rw [if_neg (show ¬ (false = true) by decide)] at H; exact H
                    clear H
                    have H := H1
                    clear H1
                    have H' := Aside0.mk H
                    clear H
                    go_wp2
                    go_loopg [4] kj9 (fun kq v4 w' => ∃ (x4_4 : Int), v4 = .int .i64 x4_4 ∧ Aside0 (clavierref03_params.l1 kq l0 x3_2 x4_4 = some r) ∧ Aside0 (kq ≤ kj9) ∧ Drawn0 w w')
                    case atStart => exact ⟨(0), (by first | rfl | (simp; done) | (simp [*]; done)), H', ⟨Nat.le_refl _⟩, by repeat (first | exact Drawn0.refl _ | apply Drawn0.step)⟩
                    case round =>
                      clear H'
                      try clear c1
                      try clear p1
                      try clear q1
                      try clear hx1
                      try clear qi1
                      try clear p2
                      try clear c3
                      try clear c3b0
                      try clear c3b1
                      try clear c4
                      try clear c4b0
                      try clear c4b1
                      try clear c5
                      try clear c5b0
                      try clear c5b1
                      try clear c6
                      try clear c6b0
                      try clear c6b1
                      try clear c7
                      try clear c7b0
                      try clear c7b1
                      try clear c8
                      try clear c9
                      try clear c9b0
                      try clear c11
                      try clear c11b0
                      try clear c12
                      try clear c12b0
                      try clear c12b1
                      try clear c13
                      try clear hx177_0
                      try clear hx178_0
                      try clear hx179_0
                      try clear hx180_0
                      try clear hx181_0
                      try clear p1
                      try clear p177
                      try clear p178
                      try clear p179
                      try clear p180
                      try clear p181
                      try clear p2
                      try clear q1
                      try clear q177
                      try clear q178
                      try clear q179
                      try clear q180
                      try clear q181
                      obtain ⟨x4_4, rfl, HA, HK4, ⟨m4, rfl⟩⟩ := hrel
                      cases gk with
                      | zero => exact absurd HA.out (by simp [clavierref03_params.l1])
                      | succ k4 =>
                        have H := HA.out
                        clear HA
                        simp only [clavierref03_params.l1] at H
                        by_cases c14 : 0 ≤ x3_2
                        · rw [if_pos c14] at H
                          have c14b0 : decide (0 ≤ x3_2) = true := decide_eq_true c14
                          clear c14
                          by_cases c15 : x3_2 < (l0.length : Int)
                          · rw [if_pos c15] at H
                            have c15b0 : decide (x3_2 < (l0.length : Int)) = true := decide_eq_true c15
                            clear c15
                            by_cases c16 : x4_4 < ((rd_L1 l0 x3_2).length : Int)
                            · rw [if_pos c16] at H
                              have c16b0 : decide (x4_4 < ((rd_L1 l0 x3_2).length : Int)) = true := decide_eq_true c16
                              clear c16
                              by_cases c17 : 0 ≤ x4_4
                              · rw [if_pos c17] at H
                                have c17b0 : decide (0 ≤ x4_4) = true := decide_eq_true c17
                                clear c17
                                by_cases c18 : (rd (rd_L1 l0 x3_2) x4_4) < (-1)
                                · rw [if_pos c18] at H
                                  have c18b0 : decide ((rd (rd_L1 l0 x3_2) x4_4) < (-1)) = true := decide_eq_true c18
                                  clear c18
                                  obtain rfl := Option.some.inj H
                                  have p182 : 0 ≤ (x3_2 : Int) := of_decide_eq_true (by first | (with_reducible assumption) | assumption)
                                  have q182 : x3_2 < (l0.length : Int) := of_decide_eq_true (by first | (with_reducible assumption) | assumption)
                                  obtain ⟨ad182, A182_0, c182_0, e182, hx182_0, hl182_0, hi182_0⟩ := at_L1 HR0.out x3_2 p182 q182
                                  cases e182
                                  have HR182_0 := Aside0.mk hi182_0
                                  have HC182_0 := Aside0.mk hl182_0
                                  clear hi182_0 hl182_0
                                  replace p182 := eq_true p182
                                  replace q182 := eq_true q182
                                  have p183 : 0 ≤ (x3_2 : Int) := of_decide_eq_true (by first | (with_reducible assumption) | assumption)
                                  have q183 : x3_2 < (l0.length : Int) := of_decide_eq_true (by first | (with_reducible assumption) | assumption)
                                  obtain ⟨ad183, A183_0, c183_0, e183, hx183_0, hl183_0, hi183_0⟩ := at_L1 HR0.out x3_2 p183 q183
                                  obtain rfl : ad182 = ad183 := (by injection e183)
                                  have HR183_0 := Aside0.mk hi183_0
                                  have HC183_0 := Aside0.mk hl183_0
                                  clear hi183_0 hl183_0
                                  replace p183 := eq_true p183
                                  replace q183 := eq_true q183
                                  have ea_ := Option.some.inj (hx182_0.symm.trans hx183_0)
                                  injection ea_ with ea_ en_ ec_
                                  subst ea_
                                  subst ec_
                                  clear en_
                                  have p184 : 0 ≤ (x4_4 : Int) := of_decide_eq_true (by first | (with_reducible assumption) | assumption)
                                  have q184 : x4_4 < ((rd_L1 l0 x3_2).length : Int) := of_decide_eq_true (by first | (with_reducible assumption) | assumption)
                                  obtain ⟨ad184, e184, hx184_0⟩ := Kd.at_int HR183_0.out x4_4 p184 q184
                                  cases e184
                                  replace p184 := eq_true p184
                                  replace q184 := eq_true q184
                                  go_wp2
                                  go_ret
                                  exact ⟨by first | rfl | (simp; done) | (simp [*]; done), by repeat (first | exact Drawn0.refl _ | apply Drawn0.step)⟩
                                · rw [if_neg c18] at H
                                  have c18b0 : decide ((rd (rd_L1 l0 x3_2) x4_4) < (-1)) = false := decide_eq_false c18
                                  clear c18
                                  by_cases c19 : (rd (rd_L1 l0 x3_2) x4_4) > 1114111
                                  · rw [if_pos c19] at H
                                    have c19b0 : decide (1114111 < (rd (rd_L1 l0 x3_2) x4_4)) = true := decide_eq_true c19
                                    clear c19
                                    obtain rfl := Option.some.inj H
                                    have p182 : 0 ≤ (x3_2 : Int) := of_decide_eq_true (by first | (with_reducible assumption) | assumption)
                                    have q182 : x3_2 < (l0.length : Int) := of_decide_eq_true (by first | (with_reducible assumption) | assumption)
                                    obtain ⟨ad182, A182_0, c182_0, e182, hx182_0, hl182_0, hi182_0⟩ := at_L1 HR0.out x3_2 p182 q182
                                    cases e182
                                    have HR182_0 := Aside0.mk hi182_0
                                    have HC182_0 := Aside0.mk hl182_0
                                    clear hi182_0 hl182_0
                                    replace p182 := eq_true p182
                                    replace q182 := eq_true q182
                                    have p183 : 0 ≤ (x3_2 : Int) := of_decide_eq_true (by first | (with_reducible assumption) | assumption)
                                    have q183 : x3_2 < (l0.length : Int) := of_decide_eq_true (by first | (with_reducible assumption) | assumption)
                                    obtain ⟨ad183, A183_0, c183_0, e183, hx183_0, hl183_0, hi183_0⟩ := at_L1 HR0.out x3_2 p183 q183
                                    obtain rfl : ad182 = ad183 := (by injection e183)
                                    have HR183_0 := Aside0.mk hi183_0
                                    have HC183_0 := Aside0.mk hl183_0
                                    clear hi183_0 hl183_0
                                    replace p183 := eq_true p183
                                    replace q183 := eq_true q183
                                    have ea_ := Option.some.inj (hx182_0.symm.trans hx183_0)
                                    injection ea_ with ea_ en_ ec_
                                    subst ea_
                                    subst ec_
                                    clear en_
                                    have p184 : 0 ≤ (x4_4 : Int) := of_decide_eq_true (by first | (with_reducible assumption) | assumption)
                                    have q184 : x4_4 < ((rd_L1 l0 x3_2).length : Int) := of_decide_eq_true (by first | (with_reducible assumption) | assumption)
                                    obtain ⟨ad184, e184, hx184_0⟩ := Kd.at_int HR183_0.out x4_4 p184 q184
                                    cases e184
                                    replace p184 := eq_true p184
                                    replace q184 := eq_true q184
                                    have p185 : 0 ≤ (x3_2 : Int) := of_decide_eq_true (by first | (with_reducible assumption) | assumption)
                                    have q185 : x3_2 < (l0.length : Int) := of_decide_eq_true (by first | (with_reducible assumption) | assumption)
                                    obtain ⟨ad185, A185_0, c185_0, e185, hx185_0, hl185_0, hi185_0⟩ := at_L1 HR0.out x3_2 p185 q185
                                    obtain rfl : ad182 = ad185 := (by injection e185)
                                    have HR185_0 := Aside0.mk hi185_0
                                    have HC185_0 := Aside0.mk hl185_0
                                    clear hi185_0 hl185_0
                                    replace p185 := eq_true p185
                                    replace q185 := eq_true q185
                                    have ea_ := Option.some.inj (hx182_0.symm.trans hx185_0)
                                    injection ea_ with ea_ en_ ec_
                                    subst ea_
                                    subst ec_
                                    clear en_
                                    have p186 : 0 ≤ (x4_4 : Int) := of_decide_eq_true (by first | (with_reducible assumption) | assumption)
                                    have q186 : x4_4 < ((rd_L1 l0 x3_2).length : Int) := of_decide_eq_true (by first | (with_reducible assumption) | assumption)
                                    obtain ⟨ad186, e186, hx186_0⟩ := Kd.at_int HR185_0.out x4_4 p186 q186
                                    cases e186
                                    replace p186 := eq_true p186
                                    replace q186 := eq_true q186
                                    go_wp2
                                    go_ret
                                    exact ⟨by first | rfl | (simp; done) | (simp [*]; done), by repeat (first | exact Drawn0.refl _ | apply Drawn0.step)⟩
                                  · rw [if_neg c19] at H
                                    have c19b0 : decide (1114111 < (rd (rd_L1 l0 x3_2) x4_4)) = false := decide_eq_false c19
                                    clear c19
                                    have H' := Aside0.mk H
                                    clear H
                                    have p182 : 0 ≤ (x3_2 : Int) := of_decide_eq_true (by first | (with_reducible assumption) | assumption)
                                    have q182 : x3_2 < (l0.length : Int) := of_decide_eq_true (by first | (with_reducible assumption) | assumption)
                                    obtain ⟨ad182, A182_0, c182_0, e182, hx182_0, hl182_0, hi182_0⟩ := at_L1 HR0.out x3_2 p182 q182
                                    cases e182
                                    have HR182_0 := Aside0.mk hi182_0
                                    have HC182_0 := Aside0.mk hl182_0
                                    clear hi182_0 hl182_0
                                    replace p182 := eq_true p182
                                    replace q182 := eq_true q182
                                    have p183 : 0 ≤ (x3_2 : Int) := of_decide_eq_true (by first | (with_reducible assumption) | assumption)
                                    have q183 : x3_2 < (l0.length : Int) := of_decide_eq_true (by first | (with_reducible assumption) | assumption)
                                    obtain ⟨ad183, A183_0, c183_0, e183, hx183_0, hl183_0, hi183_0⟩ := at_L1 HR0.out x3_2 p183 q183
                                    obtain rfl : ad182 = ad183 := (by injection e183)
                                    have HR183_0 := Aside0.mk hi183_0
                                    have HC183_0 := Aside0.mk hl183_0
                                    clear hi183_0 hl183_0
                                    replace p183 := eq_true p183
                                    replace q183 := eq_true q183
                                    have ea_ := Option.some.inj (hx182_0.symm.trans hx183_0)
                                    injection ea_ with ea_ en_ ec_
                                    subst ea_
                                    subst ec_
                                    clear en_
                                    have p184 : 0 ≤ (x4_4 : Int) := of_decide_eq_true (by first | (with_reducible assumption) | assumption)
                                    have q184 : x4_4 < ((rd_L1 l0 x3_2).length : Int) := of_decide_eq_true (by first | (with_reducible assumption) | assumption)
                                    obtain ⟨ad184, e184, hx184_0⟩ := Kd.at_int HR183_0.out x4_4 p184 q184
                                    cases e184
                                    replace p184 := eq_true p184
                                    replace q184 := eq_true q184
                                    have p185 : 0 ≤ (x3_2 : Int) := of_decide_eq_true (by first | (with_reducible assumption) | assumption)
                                    have q185 : x3_2 < (l0.length : Int) := of_decide_eq_true (by first | (with_reducible assumption) | assumption)
                                    obtain ⟨ad185, A185_0, c185_0, e185, hx185_0, hl185_0, hi185_0⟩ := at_L1 HR0.out x3_2 p185 q185
                                    obtain rfl : ad182 = ad185 := (by injection e185)
                                    have HR185_0 := Aside0.mk hi185_0
                                    have HC185_0 := Aside0.mk hl185_0
                                    clear hi185_0 hl185_0
                                    replace p185 := eq_true p185
                                    replace q185 := eq_true q185
                                    have ea_ := Option.some.inj (hx182_0.symm.trans hx185_0)
                                    injection ea_ with ea_ en_ ec_
                                    subst ea_
                                    subst ec_
                                    clear en_
                                    have p186 : 0 ≤ (x4_4 : Int) := of_decide_eq_true (by first | (with_reducible assumption) | assumption)
                                    have q186 : x4_4 < ((rd_L1 l0 x3_2).length : Int) := of_decide_eq_true (by first | (with_reducible assumption) | assumption)
                                    obtain ⟨ad186, e186, hx186_0⟩ := Kd.at_int HR185_0.out x4_4 p186 q186
                                    cases e186
                                    replace p186 := eq_true p186
                                    replace q186 := eq_true q186
                                    go_wp2
                                    go_roundg k4
                                    case measure => have := HJ1.out; have := HK2.out; have := HJ9.out; have := HK4.out; omega
                                    case rel => exact ⟨(wrap64 (x4_4 + 1)), (by first | rfl | (simp; done) | (simp [*]; done)), H', ⟨by have := HJ1.out; have := HK2.out; have := HJ9.out; have := HK4.out; omega⟩, by repeat (first | exact Drawn0.refl _ | apply Drawn0.step)⟩
                              · rw [if_neg c17] at H
                                exact absurd H (by simp)
                            · rw [if_neg c16] at H
                              have c16b0 : decide (x4_4 < ((rd_L1 l0 x3_2).length : Int)) = false := decide_eq_false c16
                              clear c16
                              have H' := Aside0.mk H
                              clear H
                              have p182 : 0 ≤ (x3_2 : Int) := of_decide_eq_true (by first | (with_reducible assumption) | assumption)
                              have q182 : x3_2 < (l0.length : Int) := of_decide_eq_true (by first | (with_reducible assumption) | assumption)
                              obtain ⟨ad182, A182_0, c182_0, e182, hx182_0, hl182_0, hi182_0⟩ := at_L1 HR0.out x3_2 p182 q182
                              cases e182
                              have HR182_0 := Aside0.mk hi182_0
                              have HC182_0 := Aside0.mk hl182_0
                              clear hi182_0 hl182_0
                              replace p182 := eq_true p182
                              replace q182 := eq_true q182
                              go_wp2
                              go_roundg k4
                              case measure => have := HJ1.out; have := HK2.out; have := HJ9.out; have := HK4.out; omega
                              case rel => exact ⟨(wrap64 (x3_2 + 1)), (by first | rfl | (simp; done) | (simp [*]; done)), H', ⟨by have := HJ1.out; have := HK2.out; have := HJ9.out; have := HK4.out; omega⟩, by repeat (first | exact Drawn0.refl _ | apply Drawn0.step)⟩
                          · rw [if_neg c15] at H
                            exact absurd H (by simp)
                        · rw [if_neg c14] at H
                          exact absurd H (by simp)
            · rw [if_neg c9] at H
              have c9b0 : decide (x3_2 < (l0.length : Int)) = false := decide_eq_false c9
              clear c9
              obtain rfl := Option.some.inj H
              go_wp2
              go_ret
              exact ⟨by first | rfl | (simp; done) | (simp [*]; done), by repeat (first | exact Drawn0.refl _ | apply Drawn0.step)⟩
def clavierref03_within.l0 : Nat → ByteArray → Int → Int → Int → Option (Bool)
  | 0, _, _, _, _ => none
  | k + 1, x0, x1, x2, x7 => if x7 < (x0.size : Int) then (if 0 ≤ x7 then (if (bt x0 x7) < x1 then (some false) else (if (bt x0 x7) > x2 then (some false) else (clavierref03_within.l0 k x0 x1 x2 (wrap64 (x7 + 1))))) else (none)) else (some true)
def clavierref03_within.f (k : Nat) (a0 : ByteArray) (a1 : Int) (a2 : Int) : Option (Bool) := clavierref03_within.l0 k a0 a1 a2 0
theorem clavierref03_within.mono_l : ∀ k, (∀ y0 y1 y2 y3, LeO (clavierref03_within.l0 k y0 y1 y2 y3) (clavierref03_within.l0 (k + 1) y0 y1 y2 y3))
  | 0 => fun _ _ _ _ r h => by simp [clavierref03_within.l0] at h
  | k + 1 => by
    have ih0 := clavierref03_within.mono_l k
    · intro y0 y1 y2 y3
      unfold clavierref03_within.l0
      repeat' first
      | (with_reducible exact ih0 _ _ _ _)
      | (with_reducible exact LeO.refl _)
      | (with_reducible exact LeO.none _)
      | (with_reducible refine LeO.ite ?_ ?_)
      | (with_reducible refine LeO.bind ?_ (fun _ => ?_))
      | exact ih0 _ _ _ _
      | exact LeO.none _
      | refine LeO.ite ?_ ?_
      | refine LeO.bind ?_ (fun _ => ?_)
theorem clavierref03_within.mono : ∀ a0 a1 a2 k, LeO (clavierref03_within.f k a0 a1 a2) (clavierref03_within.f (k + 1) a0 a1 a2) := by
  intro a0 a1 a2 k
  have ih0 := clavierref03_within.mono_l k
  unfold clavierref03_within.f
  repeat' first
      | (with_reducible exact ih0 _ _ _ _)
      | (with_reducible exact LeO.refl _)
      | (with_reducible exact LeO.none _)
      | (with_reducible refine LeO.ite ?_ ?_)
      | (with_reducible refine LeO.bind ?_ (fun _ => ?_))
      | exact ih0 _ _ _ _
      | exact LeO.none _
      | refine LeO.ite ?_ ?_
      | refine LeO.bind ?_ (fun _ => ?_)
set_option maxHeartbeats 8000000 in
set_option maxRecDepth 100000 in
theorem clavierref03_within.calls (k : Nat) (a0 : ByteArray) (a1 : Int) (a2 : Int) (r : Bool) (w : World) (h : clavierref03_within.f k a0 a1 a2 = some r) :
    Calls Tryd.prog 50 #[.string a0, .int .u8 a1, .int .u8 a2] w fun e w' => e = .returned (.bool r) ∧ Drawn0 w w' := by
  have H : (clavierref03_within.l0 k a0 a1 a2 0) = some r := h
  clear h
  have H' := Aside0.mk H
  clear H
  go_enter Tryd.func50, Tryd.ntmps50
  go_wp2
  go_loopg [7] k (fun kq v7 w' => ∃ (x7_1 : Int), v7 = .int .i64 x7_1 ∧ Aside0 (clavierref03_within.l0 kq a0 a1 a2 x7_1 = some r) ∧ Aside0 (kq ≤ k) ∧ Drawn0 w w')
  case atStart => exact ⟨(0), (by first | rfl | (simp; done) | (simp [*]; done)), H', ⟨Nat.le_refl _⟩, by repeat (first | exact Drawn0.refl _ | apply Drawn0.step)⟩
  case round =>
    clear H'
    try clear p2
    obtain ⟨x7_1, rfl, HA, HK1, ⟨m1, rfl⟩⟩ := hrel
    cases gk with
    | zero => exact absurd HA.out (by simp [clavierref03_within.l0])
    | succ k1 =>
      have H := HA.out
      clear HA
      simp only [clavierref03_within.l0] at H
      by_cases c4 : x7_1 < (a0.size : Int)
      · rw [if_pos c4] at H
        have c4b0 : decide (x7_1 < (a0.size : Int)) = true := decide_eq_true c4
        clear c4
        by_cases c5 : 0 ≤ x7_1
        · rw [if_pos c5] at H
          have c5b0 : decide (0 ≤ x7_1) = true := decide_eq_true c5
          clear c5
          by_cases c7 : (bt a0 x7_1) < a1
          · rw [if_pos c7] at H
            have c7b0 : decide ((bt a0 x7_1) < a1) = true := decide_eq_true c7
            clear c7
            obtain rfl := Option.some.inj H
            have p6 : 0 ≤ (x7_1 : Int) := of_decide_eq_true (by first | (with_reducible assumption) | assumption)
            have q6 : x7_1 < (a0.size : Int) := of_decide_eq_true (by first | (with_reducible assumption) | assumption)
            have hx6 := bt_at a0 x7_1
            replace p6 := eq_true p6
            replace q6 := eq_true q6
            go_wp2
            go_ret
            exact ⟨by first | rfl | (simp; done) | (simp [*]; done), by repeat (first | exact Drawn0.refl _ | apply Drawn0.step)⟩
          · rw [if_neg c7] at H
            have c7b0 : decide ((bt a0 x7_1) < a1) = false := decide_eq_false c7
            clear c7
            by_cases c9 : (bt a0 x7_1) > a2
            · rw [if_pos c9] at H
              have c9b0 : decide (a2 < (bt a0 x7_1)) = true := decide_eq_true c9
              clear c9
              obtain rfl := Option.some.inj H
              have p6 : 0 ≤ (x7_1 : Int) := of_decide_eq_true (by first | (with_reducible assumption) | assumption)
              have q6 : x7_1 < (a0.size : Int) := of_decide_eq_true (by first | (with_reducible assumption) | assumption)
              have hx6 := bt_at a0 x7_1
              replace p6 := eq_true p6
              replace q6 := eq_true q6
              have p8 : 0 ≤ (x7_1 : Int) := of_decide_eq_true (by first | (with_reducible assumption) | assumption)
              have q8 : x7_1 < (a0.size : Int) := of_decide_eq_true (by first | (with_reducible assumption) | assumption)
              have hx8 := bt_at a0 x7_1
              replace p8 := eq_true p8
              replace q8 := eq_true q8
              go_wp2
              go_ret
              exact ⟨by first | rfl | (simp; done) | (simp [*]; done), by repeat (first | exact Drawn0.refl _ | apply Drawn0.step)⟩
            · rw [if_neg c9] at H
              have c9b0 : decide (a2 < (bt a0 x7_1)) = false := decide_eq_false c9
              clear c9
              have H' := Aside0.mk H
              clear H
              have p6 : 0 ≤ (x7_1 : Int) := of_decide_eq_true (by first | (with_reducible assumption) | assumption)
              have q6 : x7_1 < (a0.size : Int) := of_decide_eq_true (by first | (with_reducible assumption) | assumption)
              have hx6 := bt_at a0 x7_1
              replace p6 := eq_true p6
              replace q6 := eq_true q6
              have p8 : 0 ≤ (x7_1 : Int) := of_decide_eq_true (by first | (with_reducible assumption) | assumption)
              have q8 : x7_1 < (a0.size : Int) := of_decide_eq_true (by first | (with_reducible assumption) | assumption)
              have hx8 := bt_at a0 x7_1
              replace p8 := eq_true p8
              replace q8 := eq_true q8
              go_wp2
              go_roundg k1
              case measure => have := HK1.out; omega
              case rel => exact ⟨(wrap64 (x7_1 + 1)), (by first | rfl | (simp; done) | (simp [*]; done)), H', ⟨by have := HK1.out; omega⟩, by repeat (first | exact Drawn0.refl _ | apply Drawn0.step)⟩
        · rw [if_neg c5] at H
          exact absurd H (by simp)
      · rw [if_neg c4] at H
        have c4b0 : decide (x7_1 < (a0.size : Int)) = false := decide_eq_false c4
        clear c4
        obtain rfl := Option.some.inj H
        go_wp2
        go_ret
        exact ⟨by first | rfl | (simp; done) | (simp [*]; done), by repeat (first | exact Drawn0.refl _ | apply Drawn0.step)⟩
end Go.Proofs.YtopcleljecdkkaaDoor.G
end
section
namespace Go.Proofs.YtopcleljecdkkaaDoor.G
open Go.RowKit Go.Proofs.YtopcleljecdkkaaDoorW.PrintWords Go.Proofs.YtopcleljecdkkaaDoorW.PrintLast Go.Proofs.YtopcleljecdkkaaDoorW.PrintMore
attribute [local go_sem] max2_int min2_int max_two min_two max_three min_three max_four min_four
set_option linter.unusedVariables false
set_option linter.unusedSimpArgs false
def clavierref03_last.j0 : Nat → Int → Bool → Int → Int → List (List Int) → ByteArray → Int → ByteArray → Option (Bool)
  | 0, _, _, _, _, _, _, _, _ => none
  | k + 1, x5, x6, x188000, x188001, x188002, x188003, x188004, x188005 => if x6 = true then (if x188004 ≥ 64 then (some (decide (x188004 ≤ 126))) else (some false)) else (if x5 = 5 then (if x188004 < 48 then (some false) else (if x188004 > 126 then (some false) else (if (x188003.size : Int) > 0 then (some true) else (if x188004 = 79 then (some false) else (if x188004 = 80 then (some false) else (if x188004 = 88 then (some false) else (if x188004 = 91 then (some false) else (if x188004 = 93 then (some false) else (if x188004 = 92 then (some false) else (if x188004 = 94 then (some false) else (some (x188004 != 95)))))))))))) else (if x188000 = 4 then (some (x188004 == 0)) else (some false)))
def clavierref03_last.f (k : Nat) (a0_0 : Int) (a0_1 : Int) (l0_2 : List (List Int)) (a0_3 : ByteArray) (a0_4 : Int) (a0_5 : ByteArray) : Option (Bool) := if a0_0 = 1 then (clavierref03_last.j0 k a0_0 (a0_0 == 1) a0_0 a0_1 l0_2 a0_3 a0_4 a0_5) else (if a0_0 = 2 then (clavierref03_last.j0 k a0_0 (a0_0 == 2) a0_0 a0_1 l0_2 a0_3 a0_4 a0_5) else (clavierref03_last.j0 k a0_0 (a0_0 == 3) a0_0 a0_1 l0_2 a0_3 a0_4 a0_5))
theorem clavierref03_last.mono_l : ∀ k, (∀ y0 y1 y2 y3 y4 y5 y6 y7, LeO (clavierref03_last.j0 k y0 y1 y2 y3 y4 y5 y6 y7) (clavierref03_last.j0 (k + 1) y0 y1 y2 y3 y4 y5 y6 y7))
  | 0 => fun _ _ _ _ _ _ _ _ r h => by simp [clavierref03_last.j0] at h
  | k + 1 => by
    have ih0 := clavierref03_last.mono_l k
    · intro y0 y1 y2 y3 y4 y5 y6 y7
      unfold clavierref03_last.j0
      repeat' first
      | (with_reducible exact ih0 _ _ _ _ _ _ _ _)
      | (with_reducible exact LeO.refl _)
      | (with_reducible exact LeO.none _)
      | (with_reducible refine LeO.ite ?_ ?_)
      | (with_reducible refine LeO.bind ?_ (fun _ => ?_))
      | exact ih0 _ _ _ _ _ _ _ _
      | exact LeO.none _
      | refine LeO.ite ?_ ?_
      | refine LeO.bind ?_ (fun _ => ?_)
theorem clavierref03_last.mono : ∀ a0 a1 a2 a3 a4 a5 k, LeO (clavierref03_last.f k a0 a1 a2 a3 a4 a5) (clavierref03_last.f (k + 1) a0 a1 a2 a3 a4 a5) := by
  intro a0 a1 a2 a3 a4 a5 k
  have ih0 := clavierref03_last.mono_l k
  unfold clavierref03_last.f
  repeat' first
      | (with_reducible exact ih0 _ _ _ _ _ _ _ _)
      | (with_reducible exact LeO.refl _)
      | (with_reducible exact LeO.none _)
      | (with_reducible refine LeO.ite ?_ ?_)
      | (with_reducible refine LeO.bind ?_ (fun _ => ?_))
      | exact ih0 _ _ _ _ _ _ _ _
      | exact LeO.none _
      | refine LeO.ite ?_ ?_
      | refine LeO.bind ?_ (fun _ => ?_)
set_option maxHeartbeats 8000000 in
set_option maxRecDepth 100000 in
theorem clavierref03_last.calls (k : Nat) (a0_0 : Int) (a0_1 : Int) (A0_2 : Option Addr) (c0_2 : Nat) (l0_2 : List (List Int)) (a0_3 : ByteArray) (a0_4 : Int) (a0_5 : ByteArray) (r : Bool) (w : World) (hr0_2 : Kd.C (Kd.slice 3 (Kd.int .i64)) w A0_2 l0_2.length l0_2) (hc0_2 : l0_2.length ≤ c0_2) (h : clavierref03_last.f k a0_0 a0_1 l0_2 a0_3 a0_4 a0_5 = some r) :
    Calls Tryd.prog 51 #[.agg #[.int .i64 a0_0, .int .u8 a0_1, .slice A0_2 l0_2.length c0_2, .string a0_3, .int .u8 a0_4, .string a0_5]] w fun e w' => e = .returned (.bool r) ∧ Below w.heap.size w w' := by
  have hu30 := Tryd.underlying30
  have HR0_2 := Aside0.mk hr0_2
  have HC0_2 := Aside0.mk hc0_2
  clear hr0_2 hc0_2
  have HB := Aside0.mk (Below.refl w.heap.size w)
  have H : (if a0_0 = 1 then (clavierref03_last.j0 k a0_0 (a0_0 == 1) a0_0 a0_1 l0_2 a0_3 a0_4 a0_5) else (if a0_0 = 2 then (clavierref03_last.j0 k a0_0 (a0_0 == 2) a0_0 a0_1 l0_2 a0_3 a0_4 a0_5) else (clavierref03_last.j0 k a0_0 (a0_0 == 3) a0_0 a0_1 l0_2 a0_3 a0_4 a0_5))) = some r := h
  clear h
  have HC2 := Aside0.mk H
  clear H
  go_enter Tryd.func51, Tryd.ntmps51
  go_upto_if 6 with (first | ((with_reducible refine gate_dst (N := 1) rfl ?_); refine box_event ?hg (N := 1) ?hd (cs := #[.int .i64 a0_0, .int .u8 a0_1, .slice A0_2 l0_2.length c0_2, .string a0_3, .int .u8 a0_4, .string a0_5]) (t := 30) ?hr ?_; (case hd => rfl); (case hg => rfl); (case hr => first | (go_simp; done) | (go_simp; rfl)); intro gb187 hg w3 hbox hb; have n0_ := Aside0.mk (below_step (by repeat (first | (with_reducible first | exact HB.out | apply below_alloc | apply pw_below_drewN | apply below_drew1) | exact HB.out)) hb); have n1_ := Aside0.mk (hbox); have n2_ := Aside0.mk ((by rw [hg]; exact (below_size (by repeat (first | (with_reducible first | exact HB.out | apply below_alloc | apply pw_below_drewN | apply below_drew1) | exact HB.out))) : w.heap.size ≤ gb187)); have n3_ := Aside0.mk ((by rw [hg]; exact (below_size (by repeat (first | (with_reducible first | exact HB.out | apply below_alloc | apply pw_below_drewN | apply below_drew1) | exact HB.out))) : w.heap.size ≤ gb187)); clear HB; have HB := n0_; have BK187 := n1_; have GW187 := n2_; have GE187 := n3_; clear n0_ n1_ n2_ n3_; clear hb hbox hg; have hcz4_0 : w3.cell? ⟨gb187, 0, none⟩ = some (.int .i64 a0_0) := (blk_cell BK187.out 0).trans rfl; have hcz4_1 : w3.cell? ⟨gb187, 1, none⟩ = some (.int .u8 a0_1) := (blk_cell BK187.out 1).trans rfl; have hcz4_2 : w3.cell? ⟨gb187, 2, none⟩ = some (.slice A0_2 l0_2.length c0_2) := (blk_cell BK187.out 2).trans rfl; have hcz4_3 : w3.cell? ⟨gb187, 3, none⟩ = some (.string a0_3) := (blk_cell BK187.out 3).trans rfl; have hcz4_4 : w3.cell? ⟨gb187, 4, none⟩ = some (.int .u8 a0_4) := (blk_cell BK187.out 4).trans rfl; have hcz4_5 : w3.cell? ⟨gb187, 5, none⟩ = some (.string a0_5) := (blk_cell BK187.out 5).trans rfl; have hfz4_0 := blk_frozen BK187.out 0; have hfz4_1 := blk_frozen BK187.out 1; have hfz4_2 := blk_frozen BK187.out 2; have hfz4_3 := blk_frozen BK187.out 3; have hfz4_4 := blk_frozen BK187.out 4; have hfz4_5 := blk_frozen BK187.out 5))
  (try simp only [Act.put, List.setIfInBounds_toArray, List.set_cons_zero, List.set_cons_succ])
  go_cut [6] (fun v6 wc => ∃ (kq : Nat) (x6_1 : Bool), v6 = .bool x6_1 ∧ Aside0 (clavierref03_last.j0 kq a0_0 x6_1 a0_0 a0_1 l0_2 a0_3 a0_4 a0_5 = some r) ∧ Aside0 (kq ≤ k) ∧ Aside0 (wc.heap[gb187]? = some (.cells #[.int .i64 a0_0, .int .u8 a0_1, (.slice A0_2 l0_2.length c0_2), .string a0_3, .int .u8 a0_4, .string a0_5] 30 (0, 0))) ∧ Aside0 (Below w.heap.size w wc))
  case first =>
    have H := HC2.out
    clear HC2
    by_cases c5 : a0_0 = 1
    · rw [if_pos c5] at H
      have c5b0 : (a0_0 == 1) = true := beq_iff_eq.mpr c5
      have c5b1 : (a0_0 != 1) = false := bne_eq_false_iff_eq.mpr c5
      clear c5
      (first | rw [c5b0] | (simp only [i64_w, i32_w]; rw [c5b0]) | skip)
      have H' := Aside0.mk H
      clear H
      go_wp2
      go_meet
      case rel => exact ⟨_, ((a0_0 == 1)), (by first | rfl | (simp; done) | (simp [*]; done)), H', ⟨by first | omega | exact Nat.le_refl _⟩, ⟨by (with_reducible repeat (first | refine blk_drewN ?_ _ | refine blk_drew ?_ | refine blk_alloc ?_ _)); exact BK187.out⟩, ⟨by repeat (first | (with_reducible first | exact HB.out | apply below_alloc | apply pw_below_drewN | apply below_drew1 | refine below_set ?_ GE187.out) | exact HB.out)⟩⟩
    · rw [if_neg c5] at H
      have c5b0 : (a0_0 == 1) = false := beq_eq_false_iff_ne.mpr c5
      have c5b1 : (a0_0 != 1) = true := bne_iff_ne.mpr c5
      (first | rw [c5b0] | (simp only [i64_w, i32_w]; rw [c5b0]) | skip)
      by_cases c6 : a0_0 = 2
      · rw [if_pos c6] at H
        have c6b0 : (a0_0 == 2) = true := beq_iff_eq.mpr c6
        have c6b1 : (a0_0 != 2) = false := bne_eq_false_iff_eq.mpr c6
        clear c6
        have H' := Aside0.mk H
        clear H
        go_wp2
        go_meet
        case rel => exact ⟨_, ((a0_0 == 2)), (by first | rfl | (simp; done) | (simp [*]; done)), H', ⟨by first | omega | exact Nat.le_refl _⟩, ⟨by (with_reducible repeat (first | refine blk_drewN ?_ _ | refine blk_drew ?_ | refine blk_alloc ?_ _)); exact BK187.out⟩, ⟨by repeat (first | (with_reducible first | exact HB.out | apply below_alloc | apply pw_below_drewN | apply below_drew1 | refine below_set ?_ GE187.out) | exact HB.out)⟩⟩
      · rw [if_neg c6] at H
        have c6b0 : (a0_0 == 2) = false := beq_eq_false_iff_ne.mpr c6
        have c6b1 : (a0_0 != 2) = true := bne_iff_ne.mpr c6
        have H' := Aside0.mk H
        clear H
        go_wp2
        go_meet
        case rel => exact ⟨_, ((a0_0 == 3)), (by first | rfl | (simp; done) | (simp [*]; done)), H', ⟨by first | omega | exact Nat.le_refl _⟩, ⟨by (with_reducible repeat (first | refine blk_drewN ?_ _ | refine blk_drew ?_ | refine blk_alloc ?_ _)); exact BK187.out⟩, ⟨by repeat (first | (with_reducible first | exact HB.out | apply below_alloc | apply pw_below_drewN | apply below_drew1 | refine below_set ?_ GE187.out) | exact HB.out)⟩⟩
  case rest =>
    clear HC2
    try clear p2
    try clear c5
    try clear c5b0
    try clear c5b1
    try clear c6
    try clear c6b0
    try clear c6b1
    try clear hcz4_0
    try clear hcz4_1
    try clear hcz4_2
    try clear hcz4_3
    try clear hcz4_4
    try clear hcz4_5
    try clear hfz4_0
    try clear hfz4_1
    try clear hfz4_2
    try clear hfz4_3
    try clear hfz4_4
    try clear hfz4_5
    obtain ⟨kq, x6_1, rfl, HA, HJ1, BK187, HB⟩ := hcut
    cases kq with
    | zero => exact absurd HA.out (by simp [clavierref03_last.j0])
    | succ kj1 =>
      have H := HA.out
      clear HA
      simp only [clavierref03_last.j0] at H
      by_cases c7 : x6_1 = true
      · subst c7
        have H1 : (if a0_4 ≥ 64 then (some (decide (a0_4 ≤ 126))) else (some false)) = some r := by rw [if_pos rfl] at H; exact H
        clear H
        have H := H1
        clear H1
        by_cases c8 : a0_4 ≥ 64
        · rw [if_pos c8] at H
          have c8b0 : decide (64 ≤ a0_4) = true := decide_eq_true c8
          clear c8
          obtain rfl := Option.some.inj H
          have hcz9_0 : wc.cell? ⟨gb187, 0, none⟩ = some (.int .i64 a0_0) := (blk_cell BK187.out 0).trans rfl
          have hcz9_1 : wc.cell? ⟨gb187, 1, none⟩ = some (.int .u8 a0_1) := (blk_cell BK187.out 1).trans rfl
          have hcz9_2 : wc.cell? ⟨gb187, 2, none⟩ = some (.slice A0_2 l0_2.length c0_2) := (blk_cell BK187.out 2).trans rfl
          have hcz9_3 : wc.cell? ⟨gb187, 3, none⟩ = some (.string a0_3) := (blk_cell BK187.out 3).trans rfl
          have hcz9_4 : wc.cell? ⟨gb187, 4, none⟩ = some (.int .u8 a0_4) := (blk_cell BK187.out 4).trans rfl
          have hcz9_5 : wc.cell? ⟨gb187, 5, none⟩ = some (.string a0_5) := (blk_cell BK187.out 5).trans rfl
          have hfz9_0 := blk_frozen BK187.out 0
          have hfz9_1 := blk_frozen BK187.out 1
          have hfz9_2 := blk_frozen BK187.out 2
          have hfz9_3 := blk_frozen BK187.out 3
          have hfz9_4 := blk_frozen BK187.out 4
          have hfz9_5 := blk_frozen BK187.out 5
          go_wp2
          go_ret
          exact ⟨by first | rfl | (simp [errW_none, errW_some] <;> rfl) | (simp [*, errW_none, errW_some] <;> rfl), by repeat (first | (with_reducible first | exact HB.out | apply below_alloc | apply pw_below_drewN | apply below_drew1 | refine below_set ?_ GE187.out) | exact HB.out)⟩
        · rw [if_neg c8] at H
          have c8b0 : decide (64 ≤ a0_4) = false := decide_eq_false c8
          clear c8
          obtain rfl := Option.some.inj H
          have hcz10_0 : wc.cell? ⟨gb187, 0, none⟩ = some (.int .i64 a0_0) := (blk_cell BK187.out 0).trans rfl
          have hcz10_1 : wc.cell? ⟨gb187, 1, none⟩ = some (.int .u8 a0_1) := (blk_cell BK187.out 1).trans rfl
          have hcz10_2 : wc.cell? ⟨gb187, 2, none⟩ = some (.slice A0_2 l0_2.length c0_2) := (blk_cell BK187.out 2).trans rfl
          have hcz10_3 : wc.cell? ⟨gb187, 3, none⟩ = some (.string a0_3) := (blk_cell BK187.out 3).trans rfl
          have hcz10_4 : wc.cell? ⟨gb187, 4, none⟩ = some (.int .u8 a0_4) := (blk_cell BK187.out 4).trans rfl
          have hcz10_5 : wc.cell? ⟨gb187, 5, none⟩ = some (.string a0_5) := (blk_cell BK187.out 5).trans rfl
          have hfz10_0 := blk_frozen BK187.out 0
          have hfz10_1 := blk_frozen BK187.out 1
          have hfz10_2 := blk_frozen BK187.out 2
          have hfz10_3 := blk_frozen BK187.out 3
          have hfz10_4 := blk_frozen BK187.out 4
          have hfz10_5 := blk_frozen BK187.out 5
          go_wp2
          go_ret
          exact ⟨by first | rfl | (simp [errW_none, errW_some] <;> rfl) | (simp [*, errW_none, errW_some] <;> rfl), by repeat (first | (with_reducible first | exact HB.out | apply below_alloc | apply pw_below_drewN | apply below_drew1 | refine below_set ?_ GE187.out) | exact HB.out)⟩
      · replace c7 := Bool.eq_false_iff.mpr c7
        subst c7
        have H1 : (if a0_0 = 5 then (if a0_4 < 48 then (some false) else (if a0_4 > 126 then (some false) else (if (a0_3.size : Int) > 0 then (some true) else (if a0_4 = 79 then (some false) else (if a0_4 = 80 then (some false) else (if a0_4 = 88 then (some false) else (if a0_4 = 91 then (some false) else (if a0_4 = 93 then (some false) else (if a0_4 = 92 then (some false) else (if a0_4 = 94 then (some false) else (some (a0_4 != 95)))))))))))) else (if a0_0 = 4 then (some (a0_4 == 0)) else (some false))) = some r := by rw [if_neg (show ¬ (false = true) by decide)] at H; exact H
        clear H
        have H := H1
        clear H1
        by_cases c11 : a0_0 = 5
        · rw [if_pos c11] at H
          have c11b0 : (a0_0 == 5) = true := beq_iff_eq.mpr c11
          have c11b1 : (a0_0 != 5) = false := bne_eq_false_iff_eq.mpr c11
          clear c11
          by_cases c12 : a0_4 < 48
          · rw [if_pos c12] at H
            have c12b0 : decide (a0_4 < 48) = true := decide_eq_true c12
            clear c12
            obtain rfl := Option.some.inj H
            have hcz13_0 : wc.cell? ⟨gb187, 0, none⟩ = some (.int .i64 a0_0) := (blk_cell BK187.out 0).trans rfl
            have hcz13_1 : wc.cell? ⟨gb187, 1, none⟩ = some (.int .u8 a0_1) := (blk_cell BK187.out 1).trans rfl
            have hcz13_2 : wc.cell? ⟨gb187, 2, none⟩ = some (.slice A0_2 l0_2.length c0_2) := (blk_cell BK187.out 2).trans rfl
            have hcz13_3 : wc.cell? ⟨gb187, 3, none⟩ = some (.string a0_3) := (blk_cell BK187.out 3).trans rfl
            have hcz13_4 : wc.cell? ⟨gb187, 4, none⟩ = some (.int .u8 a0_4) := (blk_cell BK187.out 4).trans rfl
            have hcz13_5 : wc.cell? ⟨gb187, 5, none⟩ = some (.string a0_5) := (blk_cell BK187.out 5).trans rfl
            have hfz13_0 := blk_frozen BK187.out 0
            have hfz13_1 := blk_frozen BK187.out 1
            have hfz13_2 := blk_frozen BK187.out 2
            have hfz13_3 := blk_frozen BK187.out 3
            have hfz13_4 := blk_frozen BK187.out 4
            have hfz13_5 := blk_frozen BK187.out 5
            go_wp2
            go_ret
            exact ⟨by first | rfl | (simp [errW_none, errW_some] <;> rfl) | (simp [*, errW_none, errW_some] <;> rfl), by repeat (first | (with_reducible first | exact HB.out | apply below_alloc | apply pw_below_drewN | apply below_drew1 | refine below_set ?_ GE187.out) | exact HB.out)⟩
          · rw [if_neg c12] at H
            have c12b0 : decide (a0_4 < 48) = false := decide_eq_false c12
            clear c12
            by_cases c14 : a0_4 > 126
            · rw [if_pos c14] at H
              have c14b0 : decide (126 < a0_4) = true := decide_eq_true c14
              clear c14
              obtain rfl := Option.some.inj H
              have hcz15_0 : wc.cell? ⟨gb187, 0, none⟩ = some (.int .i64 a0_0) := (blk_cell BK187.out 0).trans rfl
              have hcz15_1 : wc.cell? ⟨gb187, 1, none⟩ = some (.int .u8 a0_1) := (blk_cell BK187.out 1).trans rfl
              have hcz15_2 : wc.cell? ⟨gb187, 2, none⟩ = some (.slice A0_2 l0_2.length c0_2) := (blk_cell BK187.out 2).trans rfl
              have hcz15_3 : wc.cell? ⟨gb187, 3, none⟩ = some (.string a0_3) := (blk_cell BK187.out 3).trans rfl
              have hcz15_4 : wc.cell? ⟨gb187, 4, none⟩ = some (.int .u8 a0_4) := (blk_cell BK187.out 4).trans rfl
              have hcz15_5 : wc.cell? ⟨gb187, 5, none⟩ = some (.string a0_5) := (blk_cell BK187.out 5).trans rfl
              have hfz15_0 := blk_frozen BK187.out 0
              have hfz15_1 := blk_frozen BK187.out 1
              have hfz15_2 := blk_frozen BK187.out 2
              have hfz15_3 := blk_frozen BK187.out 3
              have hfz15_4 := blk_frozen BK187.out 4
              have hfz15_5 := blk_frozen BK187.out 5
              go_wp2
              go_ret
              exact ⟨by first | rfl | (simp [errW_none, errW_some] <;> rfl) | (simp [*, errW_none, errW_some] <;> rfl), by repeat (first | (with_reducible first | exact HB.out | apply below_alloc | apply pw_below_drewN | apply below_drew1 | refine below_set ?_ GE187.out) | exact HB.out)⟩
            · rw [if_neg c14] at H
              have c14b0 : decide (126 < a0_4) = false := decide_eq_false c14
              clear c14
              by_cases c16 : (a0_3.size : Int) > 0
              · rw [if_pos c16] at H
                have c16b0 : decide (0 < (a0_3.size : Int)) = true := decide_eq_true c16
                have c16b1 : decide (0 < a0_3.size) = true := decide_eq_true (by omega)
                clear c16
                obtain rfl := Option.some.inj H
                have hcz17_0 : wc.cell? ⟨gb187, 0, none⟩ = some (.int .i64 a0_0) := (blk_cell BK187.out 0).trans rfl
                have hcz17_1 : wc.cell? ⟨gb187, 1, none⟩ = some (.int .u8 a0_1) := (blk_cell BK187.out 1).trans rfl
                have hcz17_2 : wc.cell? ⟨gb187, 2, none⟩ = some (.slice A0_2 l0_2.length c0_2) := (blk_cell BK187.out 2).trans rfl
                have hcz17_3 : wc.cell? ⟨gb187, 3, none⟩ = some (.string a0_3) := (blk_cell BK187.out 3).trans rfl
                have hcz17_4 : wc.cell? ⟨gb187, 4, none⟩ = some (.int .u8 a0_4) := (blk_cell BK187.out 4).trans rfl
                have hcz17_5 : wc.cell? ⟨gb187, 5, none⟩ = some (.string a0_5) := (blk_cell BK187.out 5).trans rfl
                have hfz17_0 := blk_frozen BK187.out 0
                have hfz17_1 := blk_frozen BK187.out 1
                have hfz17_2 := blk_frozen BK187.out 2
                have hfz17_3 := blk_frozen BK187.out 3
                have hfz17_4 := blk_frozen BK187.out 4
                have hfz17_5 := blk_frozen BK187.out 5
                go_wp2
                go_ret
                exact ⟨by first | rfl | (simp [errW_none, errW_some] <;> rfl) | (simp [*, errW_none, errW_some] <;> rfl), by repeat (first | (with_reducible first | exact HB.out | apply below_alloc | apply pw_below_drewN | apply below_drew1 | refine below_set ?_ GE187.out) | exact HB.out)⟩
              · rw [if_neg c16] at H
                have c16b0 : decide (0 < (a0_3.size : Int)) = false := decide_eq_false c16
                have c16b1 : decide (0 < a0_3.size) = false := decide_eq_false (by omega)
                clear c16
                by_cases c18 : a0_4 = 79
                · rw [if_pos c18] at H
                  have c18b0 : (a0_4 == 79) = true := beq_iff_eq.mpr c18
                  have c18b1 : (a0_4 != 79) = false := bne_eq_false_iff_eq.mpr c18
                  clear c18
                  obtain rfl := Option.some.inj H
                  have hcz19_0 : wc.cell? ⟨gb187, 0, none⟩ = some (.int .i64 a0_0) := (blk_cell BK187.out 0).trans rfl
                  have hcz19_1 : wc.cell? ⟨gb187, 1, none⟩ = some (.int .u8 a0_1) := (blk_cell BK187.out 1).trans rfl
                  have hcz19_2 : wc.cell? ⟨gb187, 2, none⟩ = some (.slice A0_2 l0_2.length c0_2) := (blk_cell BK187.out 2).trans rfl
                  have hcz19_3 : wc.cell? ⟨gb187, 3, none⟩ = some (.string a0_3) := (blk_cell BK187.out 3).trans rfl
                  have hcz19_4 : wc.cell? ⟨gb187, 4, none⟩ = some (.int .u8 a0_4) := (blk_cell BK187.out 4).trans rfl
                  have hcz19_5 : wc.cell? ⟨gb187, 5, none⟩ = some (.string a0_5) := (blk_cell BK187.out 5).trans rfl
                  have hfz19_0 := blk_frozen BK187.out 0
                  have hfz19_1 := blk_frozen BK187.out 1
                  have hfz19_2 := blk_frozen BK187.out 2
                  have hfz19_3 := blk_frozen BK187.out 3
                  have hfz19_4 := blk_frozen BK187.out 4
                  have hfz19_5 := blk_frozen BK187.out 5
                  go_wp2
                  go_ret
                  exact ⟨by first | rfl | (simp [errW_none, errW_some] <;> rfl) | (simp [*, errW_none, errW_some] <;> rfl), by repeat (first | (with_reducible first | exact HB.out | apply below_alloc | apply pw_below_drewN | apply below_drew1 | refine below_set ?_ GE187.out) | exact HB.out)⟩
                · rw [if_neg c18] at H
                  have c18b0 : (a0_4 == 79) = false := beq_eq_false_iff_ne.mpr c18
                  have c18b1 : (a0_4 != 79) = true := bne_iff_ne.mpr c18
                  by_cases c20 : a0_4 = 80
                  · rw [if_pos c20] at H
                    have c20b0 : (a0_4 == 80) = true := beq_iff_eq.mpr c20
                    have c20b1 : (a0_4 != 80) = false := bne_eq_false_iff_eq.mpr c20
                    clear c20
                    obtain rfl := Option.some.inj H
                    have hcz21_0 : wc.cell? ⟨gb187, 0, none⟩ = some (.int .i64 a0_0) := (blk_cell BK187.out 0).trans rfl
                    have hcz21_1 : wc.cell? ⟨gb187, 1, none⟩ = some (.int .u8 a0_1) := (blk_cell BK187.out 1).trans rfl
                    have hcz21_2 : wc.cell? ⟨gb187, 2, none⟩ = some (.slice A0_2 l0_2.length c0_2) := (blk_cell BK187.out 2).trans rfl
                    have hcz21_3 : wc.cell? ⟨gb187, 3, none⟩ = some (.string a0_3) := (blk_cell BK187.out 3).trans rfl
                    have hcz21_4 : wc.cell? ⟨gb187, 4, none⟩ = some (.int .u8 a0_4) := (blk_cell BK187.out 4).trans rfl
                    have hcz21_5 : wc.cell? ⟨gb187, 5, none⟩ = some (.string a0_5) := (blk_cell BK187.out 5).trans rfl
                    have hfz21_0 := blk_frozen BK187.out 0
                    have hfz21_1 := blk_frozen BK187.out 1
                    have hfz21_2 := blk_frozen BK187.out 2
                    have hfz21_3 := blk_frozen BK187.out 3
                    have hfz21_4 := blk_frozen BK187.out 4
                    have hfz21_5 := blk_frozen BK187.out 5
                    go_wp2
                    go_ret
                    exact ⟨by first | rfl | (simp [errW_none, errW_some] <;> rfl) | (simp [*, errW_none, errW_some] <;> rfl), by repeat (first | (with_reducible first | exact HB.out | apply below_alloc | apply pw_below_drewN | apply below_drew1 | refine below_set ?_ GE187.out) | exact HB.out)⟩
                  · rw [if_neg c20] at H
                    have c20b0 : (a0_4 == 80) = false := beq_eq_false_iff_ne.mpr c20
                    have c20b1 : (a0_4 != 80) = true := bne_iff_ne.mpr c20
                    by_cases c22 : a0_4 = 88
                    · rw [if_pos c22] at H
                      have c22b0 : (a0_4 == 88) = true := beq_iff_eq.mpr c22
                      have c22b1 : (a0_4 != 88) = false := bne_eq_false_iff_eq.mpr c22
                      clear c22
                      obtain rfl := Option.some.inj H
                      have hcz23_0 : wc.cell? ⟨gb187, 0, none⟩ = some (.int .i64 a0_0) := (blk_cell BK187.out 0).trans rfl
                      have hcz23_1 : wc.cell? ⟨gb187, 1, none⟩ = some (.int .u8 a0_1) := (blk_cell BK187.out 1).trans rfl
                      have hcz23_2 : wc.cell? ⟨gb187, 2, none⟩ = some (.slice A0_2 l0_2.length c0_2) := (blk_cell BK187.out 2).trans rfl
                      have hcz23_3 : wc.cell? ⟨gb187, 3, none⟩ = some (.string a0_3) := (blk_cell BK187.out 3).trans rfl
                      have hcz23_4 : wc.cell? ⟨gb187, 4, none⟩ = some (.int .u8 a0_4) := (blk_cell BK187.out 4).trans rfl
                      have hcz23_5 : wc.cell? ⟨gb187, 5, none⟩ = some (.string a0_5) := (blk_cell BK187.out 5).trans rfl
                      have hfz23_0 := blk_frozen BK187.out 0
                      have hfz23_1 := blk_frozen BK187.out 1
                      have hfz23_2 := blk_frozen BK187.out 2
                      have hfz23_3 := blk_frozen BK187.out 3
                      have hfz23_4 := blk_frozen BK187.out 4
                      have hfz23_5 := blk_frozen BK187.out 5
                      go_wp2
                      go_ret
                      exact ⟨by first | rfl | (simp [errW_none, errW_some] <;> rfl) | (simp [*, errW_none, errW_some] <;> rfl), by repeat (first | (with_reducible first | exact HB.out | apply below_alloc | apply pw_below_drewN | apply below_drew1 | refine below_set ?_ GE187.out) | exact HB.out)⟩
                    · rw [if_neg c22] at H
                      have c22b0 : (a0_4 == 88) = false := beq_eq_false_iff_ne.mpr c22
                      have c22b1 : (a0_4 != 88) = true := bne_iff_ne.mpr c22
                      by_cases c24 : a0_4 = 91
                      · rw [if_pos c24] at H
                        have c24b0 : (a0_4 == 91) = true := beq_iff_eq.mpr c24
                        have c24b1 : (a0_4 != 91) = false := bne_eq_false_iff_eq.mpr c24
                        clear c24
                        obtain rfl := Option.some.inj H
                        have hcz25_0 : wc.cell? ⟨gb187, 0, none⟩ = some (.int .i64 a0_0) := (blk_cell BK187.out 0).trans rfl
                        have hcz25_1 : wc.cell? ⟨gb187, 1, none⟩ = some (.int .u8 a0_1) := (blk_cell BK187.out 1).trans rfl
                        have hcz25_2 : wc.cell? ⟨gb187, 2, none⟩ = some (.slice A0_2 l0_2.length c0_2) := (blk_cell BK187.out 2).trans rfl
                        have hcz25_3 : wc.cell? ⟨gb187, 3, none⟩ = some (.string a0_3) := (blk_cell BK187.out 3).trans rfl
                        have hcz25_4 : wc.cell? ⟨gb187, 4, none⟩ = some (.int .u8 a0_4) := (blk_cell BK187.out 4).trans rfl
                        have hcz25_5 : wc.cell? ⟨gb187, 5, none⟩ = some (.string a0_5) := (blk_cell BK187.out 5).trans rfl
                        have hfz25_0 := blk_frozen BK187.out 0
                        have hfz25_1 := blk_frozen BK187.out 1
                        have hfz25_2 := blk_frozen BK187.out 2
                        have hfz25_3 := blk_frozen BK187.out 3
                        have hfz25_4 := blk_frozen BK187.out 4
                        have hfz25_5 := blk_frozen BK187.out 5
                        go_wp2
                        go_ret
                        exact ⟨by first | rfl | (simp [errW_none, errW_some] <;> rfl) | (simp [*, errW_none, errW_some] <;> rfl), by repeat (first | (with_reducible first | exact HB.out | apply below_alloc | apply pw_below_drewN | apply below_drew1 | refine below_set ?_ GE187.out) | exact HB.out)⟩
                      · rw [if_neg c24] at H
                        have c24b0 : (a0_4 == 91) = false := beq_eq_false_iff_ne.mpr c24
                        have c24b1 : (a0_4 != 91) = true := bne_iff_ne.mpr c24
                        by_cases c26 : a0_4 = 93
                        · rw [if_pos c26] at H
                          have c26b0 : (a0_4 == 93) = true := beq_iff_eq.mpr c26
                          have c26b1 : (a0_4 != 93) = false := bne_eq_false_iff_eq.mpr c26
                          clear c26
                          obtain rfl := Option.some.inj H
                          have hcz27_0 : wc.cell? ⟨gb187, 0, none⟩ = some (.int .i64 a0_0) := (blk_cell BK187.out 0).trans rfl
                          have hcz27_1 : wc.cell? ⟨gb187, 1, none⟩ = some (.int .u8 a0_1) := (blk_cell BK187.out 1).trans rfl
                          have hcz27_2 : wc.cell? ⟨gb187, 2, none⟩ = some (.slice A0_2 l0_2.length c0_2) := (blk_cell BK187.out 2).trans rfl
                          have hcz27_3 : wc.cell? ⟨gb187, 3, none⟩ = some (.string a0_3) := (blk_cell BK187.out 3).trans rfl
                          have hcz27_4 : wc.cell? ⟨gb187, 4, none⟩ = some (.int .u8 a0_4) := (blk_cell BK187.out 4).trans rfl
                          have hcz27_5 : wc.cell? ⟨gb187, 5, none⟩ = some (.string a0_5) := (blk_cell BK187.out 5).trans rfl
                          have hfz27_0 := blk_frozen BK187.out 0
                          have hfz27_1 := blk_frozen BK187.out 1
                          have hfz27_2 := blk_frozen BK187.out 2
                          have hfz27_3 := blk_frozen BK187.out 3
                          have hfz27_4 := blk_frozen BK187.out 4
                          have hfz27_5 := blk_frozen BK187.out 5
                          go_wp2
                          go_ret
                          exact ⟨by first | rfl | (simp [errW_none, errW_some] <;> rfl) | (simp [*, errW_none, errW_some] <;> rfl), by repeat (first | (with_reducible first | exact HB.out | apply below_alloc | apply pw_below_drewN | apply below_drew1 | refine below_set ?_ GE187.out) | exact HB.out)⟩
                        · rw [if_neg c26] at H
                          have c26b0 : (a0_4 == 93) = false := beq_eq_false_iff_ne.mpr c26
                          have c26b1 : (a0_4 != 93) = true := bne_iff_ne.mpr c26
                          by_cases c28 : a0_4 = 92
                          · rw [if_pos c28] at H
                            have c28b0 : (a0_4 == 92) = true := beq_iff_eq.mpr c28
                            have c28b1 : (a0_4 != 92) = false := bne_eq_false_iff_eq.mpr c28
                            clear c28
                            obtain rfl := Option.some.inj H
                            have hcz29_0 : wc.cell? ⟨gb187, 0, none⟩ = some (.int .i64 a0_0) := (blk_cell BK187.out 0).trans rfl
                            have hcz29_1 : wc.cell? ⟨gb187, 1, none⟩ = some (.int .u8 a0_1) := (blk_cell BK187.out 1).trans rfl
                            have hcz29_2 : wc.cell? ⟨gb187, 2, none⟩ = some (.slice A0_2 l0_2.length c0_2) := (blk_cell BK187.out 2).trans rfl
                            have hcz29_3 : wc.cell? ⟨gb187, 3, none⟩ = some (.string a0_3) := (blk_cell BK187.out 3).trans rfl
                            have hcz29_4 : wc.cell? ⟨gb187, 4, none⟩ = some (.int .u8 a0_4) := (blk_cell BK187.out 4).trans rfl
                            have hcz29_5 : wc.cell? ⟨gb187, 5, none⟩ = some (.string a0_5) := (blk_cell BK187.out 5).trans rfl
                            have hfz29_0 := blk_frozen BK187.out 0
                            have hfz29_1 := blk_frozen BK187.out 1
                            have hfz29_2 := blk_frozen BK187.out 2
                            have hfz29_3 := blk_frozen BK187.out 3
                            have hfz29_4 := blk_frozen BK187.out 4
                            have hfz29_5 := blk_frozen BK187.out 5
                            go_wp2
                            go_ret
                            exact ⟨by first | rfl | (simp [errW_none, errW_some] <;> rfl) | (simp [*, errW_none, errW_some] <;> rfl), by repeat (first | (with_reducible first | exact HB.out | apply below_alloc | apply pw_below_drewN | apply below_drew1 | refine below_set ?_ GE187.out) | exact HB.out)⟩
                          · rw [if_neg c28] at H
                            have c28b0 : (a0_4 == 92) = false := beq_eq_false_iff_ne.mpr c28
                            have c28b1 : (a0_4 != 92) = true := bne_iff_ne.mpr c28
                            by_cases c30 : a0_4 = 94
                            · rw [if_pos c30] at H
                              have c30b0 : (a0_4 == 94) = true := beq_iff_eq.mpr c30
                              have c30b1 : (a0_4 != 94) = false := bne_eq_false_iff_eq.mpr c30
                              clear c30
                              obtain rfl := Option.some.inj H
                              have hcz31_0 : wc.cell? ⟨gb187, 0, none⟩ = some (.int .i64 a0_0) := (blk_cell BK187.out 0).trans rfl
                              have hcz31_1 : wc.cell? ⟨gb187, 1, none⟩ = some (.int .u8 a0_1) := (blk_cell BK187.out 1).trans rfl
                              have hcz31_2 : wc.cell? ⟨gb187, 2, none⟩ = some (.slice A0_2 l0_2.length c0_2) := (blk_cell BK187.out 2).trans rfl
                              have hcz31_3 : wc.cell? ⟨gb187, 3, none⟩ = some (.string a0_3) := (blk_cell BK187.out 3).trans rfl
                              have hcz31_4 : wc.cell? ⟨gb187, 4, none⟩ = some (.int .u8 a0_4) := (blk_cell BK187.out 4).trans rfl
                              have hcz31_5 : wc.cell? ⟨gb187, 5, none⟩ = some (.string a0_5) := (blk_cell BK187.out 5).trans rfl
                              have hfz31_0 := blk_frozen BK187.out 0
                              have hfz31_1 := blk_frozen BK187.out 1
                              have hfz31_2 := blk_frozen BK187.out 2
                              have hfz31_3 := blk_frozen BK187.out 3
                              have hfz31_4 := blk_frozen BK187.out 4
                              have hfz31_5 := blk_frozen BK187.out 5
                              go_wp2
                              go_ret
                              exact ⟨by first | rfl | (simp [errW_none, errW_some] <;> rfl) | (simp [*, errW_none, errW_some] <;> rfl), by repeat (first | (with_reducible first | exact HB.out | apply below_alloc | apply pw_below_drewN | apply below_drew1 | refine below_set ?_ GE187.out) | exact HB.out)⟩
                            · rw [if_neg c30] at H
                              have c30b0 : (a0_4 == 94) = false := beq_eq_false_iff_ne.mpr c30
                              have c30b1 : (a0_4 != 94) = true := bne_iff_ne.mpr c30
                              obtain rfl := Option.some.inj H
                              have hcz32_0 : wc.cell? ⟨gb187, 0, none⟩ = some (.int .i64 a0_0) := (blk_cell BK187.out 0).trans rfl
                              have hcz32_1 : wc.cell? ⟨gb187, 1, none⟩ = some (.int .u8 a0_1) := (blk_cell BK187.out 1).trans rfl
                              have hcz32_2 : wc.cell? ⟨gb187, 2, none⟩ = some (.slice A0_2 l0_2.length c0_2) := (blk_cell BK187.out 2).trans rfl
                              have hcz32_3 : wc.cell? ⟨gb187, 3, none⟩ = some (.string a0_3) := (blk_cell BK187.out 3).trans rfl
                              have hcz32_4 : wc.cell? ⟨gb187, 4, none⟩ = some (.int .u8 a0_4) := (blk_cell BK187.out 4).trans rfl
                              have hcz32_5 : wc.cell? ⟨gb187, 5, none⟩ = some (.string a0_5) := (blk_cell BK187.out 5).trans rfl
                              have hfz32_0 := blk_frozen BK187.out 0
                              have hfz32_1 := blk_frozen BK187.out 1
                              have hfz32_2 := blk_frozen BK187.out 2
                              have hfz32_3 := blk_frozen BK187.out 3
                              have hfz32_4 := blk_frozen BK187.out 4
                              have hfz32_5 := blk_frozen BK187.out 5
                              go_wp2
                              go_ret
                              exact ⟨by first | rfl | (simp [errW_none, errW_some] <;> rfl) | (simp [*, errW_none, errW_some] <;> rfl), by repeat (first | (with_reducible first | exact HB.out | apply below_alloc | apply pw_below_drewN | apply below_drew1 | refine below_set ?_ GE187.out) | exact HB.out)⟩
        · rw [if_neg c11] at H
          have c11b0 : (a0_0 == 5) = false := beq_eq_false_iff_ne.mpr c11
          have c11b1 : (a0_0 != 5) = true := bne_iff_ne.mpr c11
          by_cases c33 : a0_0 = 4
          · rw [if_pos c33] at H
            have c33b0 : (a0_0 == 4) = true := beq_iff_eq.mpr c33
            have c33b1 : (a0_0 != 4) = false := bne_eq_false_iff_eq.mpr c33
            clear c33
            obtain rfl := Option.some.inj H
            have hcz34_0 : wc.cell? ⟨gb187, 0, none⟩ = some (.int .i64 a0_0) := (blk_cell BK187.out 0).trans rfl
            have hcz34_1 : wc.cell? ⟨gb187, 1, none⟩ = some (.int .u8 a0_1) := (blk_cell BK187.out 1).trans rfl
            have hcz34_2 : wc.cell? ⟨gb187, 2, none⟩ = some (.slice A0_2 l0_2.length c0_2) := (blk_cell BK187.out 2).trans rfl
            have hcz34_3 : wc.cell? ⟨gb187, 3, none⟩ = some (.string a0_3) := (blk_cell BK187.out 3).trans rfl
            have hcz34_4 : wc.cell? ⟨gb187, 4, none⟩ = some (.int .u8 a0_4) := (blk_cell BK187.out 4).trans rfl
            have hcz34_5 : wc.cell? ⟨gb187, 5, none⟩ = some (.string a0_5) := (blk_cell BK187.out 5).trans rfl
            have hfz34_0 := blk_frozen BK187.out 0
            have hfz34_1 := blk_frozen BK187.out 1
            have hfz34_2 := blk_frozen BK187.out 2
            have hfz34_3 := blk_frozen BK187.out 3
            have hfz34_4 := blk_frozen BK187.out 4
            have hfz34_5 := blk_frozen BK187.out 5
            go_wp2
            go_ret
            exact ⟨by first | rfl | (simp [errW_none, errW_some] <;> rfl) | (simp [*, errW_none, errW_some] <;> rfl), by repeat (first | (with_reducible first | exact HB.out | apply below_alloc | apply pw_below_drewN | apply below_drew1 | refine below_set ?_ GE187.out) | exact HB.out)⟩
          · rw [if_neg c33] at H
            have c33b0 : (a0_0 == 4) = false := beq_eq_false_iff_ne.mpr c33
            have c33b1 : (a0_0 != 4) = true := bne_iff_ne.mpr c33
            obtain rfl := Option.some.inj H
            have hcz35_0 : wc.cell? ⟨gb187, 0, none⟩ = some (.int .i64 a0_0) := (blk_cell BK187.out 0).trans rfl
            have hcz35_1 : wc.cell? ⟨gb187, 1, none⟩ = some (.int .u8 a0_1) := (blk_cell BK187.out 1).trans rfl
            have hcz35_2 : wc.cell? ⟨gb187, 2, none⟩ = some (.slice A0_2 l0_2.length c0_2) := (blk_cell BK187.out 2).trans rfl
            have hcz35_3 : wc.cell? ⟨gb187, 3, none⟩ = some (.string a0_3) := (blk_cell BK187.out 3).trans rfl
            have hcz35_4 : wc.cell? ⟨gb187, 4, none⟩ = some (.int .u8 a0_4) := (blk_cell BK187.out 4).trans rfl
            have hcz35_5 : wc.cell? ⟨gb187, 5, none⟩ = some (.string a0_5) := (blk_cell BK187.out 5).trans rfl
            have hfz35_0 := blk_frozen BK187.out 0
            have hfz35_1 := blk_frozen BK187.out 1
            have hfz35_2 := blk_frozen BK187.out 2
            have hfz35_3 := blk_frozen BK187.out 3
            have hfz35_4 := blk_frozen BK187.out 4
            have hfz35_5 := blk_frozen BK187.out 5
            go_wp2
            go_ret
            exact ⟨by first | rfl | (simp [errW_none, errW_some] <;> rfl) | (simp [*, errW_none, errW_some] <;> rfl), by repeat (first | (with_reducible first | exact HB.out | apply below_alloc | apply pw_below_drewN | apply below_drew1 | refine below_set ?_ GE187.out) | exact HB.out)⟩
end Go.Proofs.YtopcleljecdkkaaDoor.G
end
section
namespace Go.Proofs.YtopcleljecdkkaaDoor.G
open Go.RowKit Go.Proofs.YtopcleljecdkkaaDoorW.PrintWords Go.Proofs.YtopcleljecdkkaaDoorW.PrintLast Go.Proofs.YtopcleljecdkkaaDoorW.PrintMore
attribute [local go_sem] max2_int min2_int max_two min_two max_three min_three max_four min_four
set_option linter.unusedVariables false
set_option linter.unusedSimpArgs false
mutual
def clavierref03_bare.j0 : Nat → Bool → Int → Int → List (List Int) → ByteArray → Int → ByteArray → Option (Bool)
  | 0, _, _, _, _, _, _, _ => none
  | k + 1, x3, x189000, x189001, x189002, x189003, x189004, x189005 => if x3 = true then (if x189001 = 0 then (clavierref03_bare.j1 k (decide ((x189002.length : Int) > 0)) x189000 x189001 x189002 x189003 x189004 x189005) else (clavierref03_bare.j1 k true x189000 x189001 x189002 x189003 x189004 x189005)) else (clavierref03_bare.j1 k false x189000 x189001 x189002 x189003 x189004 x189005)
def clavierref03_bare.j1 : Nat → Bool → Int → Int → List (List Int) → ByteArray → Int → ByteArray → Option (Bool)
  | 0, _, _, _, _, _, _, _ => none
  | k + 1, x28, x189000, x189001, x189002, x189003, x189004, x189005 => if x28 = true then (some false) else (if x189000 = 2 then (if x189003.toList = ([] : List UInt8) then (if x189005.toList = ([] : List UInt8) then (some true) else (if x189000 = 3 then (some true) else (some (x189000 == 4)))) else (some false)) else (if x189000 = 4 then (if x189003.toList = ([] : List UInt8) then (if x189005.toList = ([] : List UInt8) then (some true) else (if x189000 = 3 then (some true) else (some (x189000 == 4)))) else (some false)) else (if x189005.toList = ([] : List UInt8) then (some true) else (if x189000 = 3 then (some true) else (some (x189000 == 4))))))
end
def clavierref03_bare.f (k : Nat) (a0_0 : Int) (a0_1 : Int) (l0_2 : List (List Int)) (a0_3 : ByteArray) (a0_4 : Int) (a0_5 : ByteArray) : Option (Bool) := if a0_0 = 2 then (clavierref03_bare.j0 k true a0_0 a0_1 l0_2 a0_3 a0_4 a0_5) else (if a0_0 = 4 then (clavierref03_bare.j0 k true a0_0 a0_1 l0_2 a0_3 a0_4 a0_5) else (clavierref03_bare.j0 k (a0_0 == 5) a0_0 a0_1 l0_2 a0_3 a0_4 a0_5))
theorem clavierref03_bare.mono_l : ∀ k, (∀ y0 y1 y2 y3 y4 y5 y6, LeO (clavierref03_bare.j0 k y0 y1 y2 y3 y4 y5 y6) (clavierref03_bare.j0 (k + 1) y0 y1 y2 y3 y4 y5 y6)) ∧ (∀ y0 y1 y2 y3 y4 y5 y6, LeO (clavierref03_bare.j1 k y0 y1 y2 y3 y4 y5 y6) (clavierref03_bare.j1 (k + 1) y0 y1 y2 y3 y4 y5 y6))
  | 0 => ⟨fun _ _ _ _ _ _ _ r h => by simp [clavierref03_bare.j0] at h, fun _ _ _ _ _ _ _ r h => by simp [clavierref03_bare.j1] at h⟩
  | k + 1 => by
    obtain ⟨ih0, ih1⟩ := clavierref03_bare.mono_l k
    refine ⟨?_, ?_⟩
    · intro y0 y1 y2 y3 y4 y5 y6
      unfold clavierref03_bare.j0
      repeat' first
      | (with_reducible exact ih0 _ _ _ _ _ _ _)
      | (with_reducible exact ih1 _ _ _ _ _ _ _)
      | (with_reducible exact LeO.refl _)
      | (with_reducible exact LeO.none _)
      | (with_reducible refine LeO.ite ?_ ?_)
      | (with_reducible refine LeO.bind ?_ (fun _ => ?_))
      | exact ih0 _ _ _ _ _ _ _
      | exact ih1 _ _ _ _ _ _ _
      | exact LeO.none _
      | refine LeO.ite ?_ ?_
      | refine LeO.bind ?_ (fun _ => ?_)
    · intro y0 y1 y2 y3 y4 y5 y6
      unfold clavierref03_bare.j1
      repeat' first
      | (with_reducible exact ih0 _ _ _ _ _ _ _)
      | (with_reducible exact ih1 _ _ _ _ _ _ _)
      | (with_reducible exact LeO.refl _)
      | (with_reducible exact LeO.none _)
      | (with_reducible refine LeO.ite ?_ ?_)
      | (with_reducible refine LeO.bind ?_ (fun _ => ?_))
      | exact ih0 _ _ _ _ _ _ _
      | exact ih1 _ _ _ _ _ _ _
      | exact LeO.none _
      | refine LeO.ite ?_ ?_
      | refine LeO.bind ?_ (fun _ => ?_)
theorem clavierref03_bare.mono : ∀ a0 a1 a2 a3 a4 a5 k, LeO (clavierref03_bare.f k a0 a1 a2 a3 a4 a5) (clavierref03_bare.f (k + 1) a0 a1 a2 a3 a4 a5) := by
  intro a0 a1 a2 a3 a4 a5 k
  obtain ⟨ih0, ih1⟩ := clavierref03_bare.mono_l k
  unfold clavierref03_bare.f
  repeat' first
      | (with_reducible exact ih0 _ _ _ _ _ _ _)
      | (with_reducible exact ih1 _ _ _ _ _ _ _)
      | (with_reducible exact LeO.refl _)
      | (with_reducible exact LeO.none _)
      | (with_reducible refine LeO.ite ?_ ?_)
      | (with_reducible refine LeO.bind ?_ (fun _ => ?_))
      | exact ih0 _ _ _ _ _ _ _
      | exact ih1 _ _ _ _ _ _ _
      | exact LeO.none _
      | refine LeO.ite ?_ ?_
      | refine LeO.bind ?_ (fun _ => ?_)
set_option maxHeartbeats 8000000 in
set_option maxRecDepth 100000 in
theorem clavierref03_bare.calls (k : Nat) (a0_0 : Int) (a0_1 : Int) (A0_2 : Option Addr) (c0_2 : Nat) (l0_2 : List (List Int)) (a0_3 : ByteArray) (a0_4 : Int) (a0_5 : ByteArray) (r : Bool) (w : World) (hr0_2 : Kd.C (Kd.slice 3 (Kd.int .i64)) w A0_2 l0_2.length l0_2) (hc0_2 : l0_2.length ≤ c0_2) (h : clavierref03_bare.f k a0_0 a0_1 l0_2 a0_3 a0_4 a0_5 = some r) :
    Calls Tryd.prog 52 #[.agg #[.int .i64 a0_0, .int .u8 a0_1, .slice A0_2 l0_2.length c0_2, .string a0_3, .int .u8 a0_4, .string a0_5]] w fun e w' => e = .returned (.bool r) ∧ Below w.heap.size w w' := by
  have hu30 := Tryd.underlying30
  have HR0_2 := Aside0.mk hr0_2
  have HC0_2 := Aside0.mk hc0_2
  clear hr0_2 hc0_2
  have HB := Aside0.mk (Below.refl w.heap.size w)
  have H : (if a0_0 = 2 then (clavierref03_bare.j0 k true a0_0 a0_1 l0_2 a0_3 a0_4 a0_5) else (if a0_0 = 4 then (clavierref03_bare.j0 k true a0_0 a0_1 l0_2 a0_3 a0_4 a0_5) else (clavierref03_bare.j0 k (a0_0 == 5) a0_0 a0_1 l0_2 a0_3 a0_4 a0_5))) = some r := h
  clear h
  have HC2 := Aside0.mk H
  clear H
  go_enter Tryd.func52, Tryd.ntmps52
  go_upto_region 1 with (first | ((with_reducible refine gate_dst (N := 1) rfl ?_); (try (refine gate_guard (by rfl) ?_; dsimp only)); refine box_event ?hg (N := 1) ?hd (cs := #[.int .i64 a0_0, .int .u8 a0_1, .slice A0_2 l0_2.length c0_2, .string a0_3, .int .u8 a0_4, .string a0_5]) (t := 30) ?hr ?_; (case hd => rfl); (case hg => rfl); (case hr => first | (go_simp; done) | (go_simp; rfl)); intro gb188 hg w3 hbox hb; have n0_ := Aside0.mk (below_step (by repeat (first | (with_reducible first | exact HB.out | apply below_alloc | apply pw_below_drewN | apply below_drew1) | exact HB.out)) hb); have n1_ := Aside0.mk (hbox); have n2_ := Aside0.mk ((by rw [hg]; exact (below_size (by repeat (first | (with_reducible first | exact HB.out | apply below_alloc | apply pw_below_drewN | apply below_drew1) | exact HB.out))) : w.heap.size ≤ gb188)); have n3_ := Aside0.mk ((by rw [hg]; exact (below_size (by repeat (first | (with_reducible first | exact HB.out | apply below_alloc | apply pw_below_drewN | apply below_drew1) | exact HB.out))) : w.heap.size ≤ gb188)); clear HB; have HB := n0_; have BK188 := n1_; have GW188 := n2_; have GE188 := n3_; clear n0_ n1_ n2_ n3_; clear hb hbox hg))
  (try simp only [Act.put, List.setIfInBounds_toArray, List.set_cons_zero, List.set_cons_succ])
  go_cut [3] (fun v3 wc => ∃ (kq : Nat) (x3_1 : Bool), v3 = .bool x3_1 ∧ Aside0 (clavierref03_bare.j0 kq x3_1 a0_0 a0_1 l0_2 a0_3 a0_4 a0_5 = some r) ∧ Aside0 (kq ≤ k) ∧ Aside0 (wc.heap[gb188]? = some (.cells #[.int .i64 a0_0, .int .u8 a0_1, (.slice A0_2 l0_2.length c0_2), .string a0_3, .int .u8 a0_4, .string a0_5] 30 (0, 0))) ∧ Aside0 (Below w.heap.size w wc))
  case first =>
    have H := HC2.out
    clear HC2
    by_cases c4 : a0_0 = 2
    · rw [if_pos c4] at H
      have c4b0 : (a0_0 == 2) = true := beq_iff_eq.mpr c4
      have c4b1 : (a0_0 != 2) = false := bne_eq_false_iff_eq.mpr c4
      clear c4
      (first | rw [c4b0] | (simp only [i64_w, i32_w]; rw [c4b0]) | skip)
      have H' := Aside0.mk H
      clear H
      have hcz5_0 : w3.cell? ⟨gb188, 0, none⟩ = some (.int .i64 a0_0) := (blk_cell BK188.out 0).trans rfl
      have hcz5_1 : w3.cell? ⟨gb188, 1, none⟩ = some (.int .u8 a0_1) := (blk_cell BK188.out 1).trans rfl
      have hcz5_2 : w3.cell? ⟨gb188, 2, none⟩ = some (.slice A0_2 l0_2.length c0_2) := (blk_cell BK188.out 2).trans rfl
      have hcz5_3 : w3.cell? ⟨gb188, 3, none⟩ = some (.string a0_3) := (blk_cell BK188.out 3).trans rfl
      have hcz5_4 : w3.cell? ⟨gb188, 4, none⟩ = some (.int .u8 a0_4) := (blk_cell BK188.out 4).trans rfl
      have hcz5_5 : w3.cell? ⟨gb188, 5, none⟩ = some (.string a0_5) := (blk_cell BK188.out 5).trans rfl
      have hfz5_0 := blk_frozen BK188.out 0
      have hfz5_1 := blk_frozen BK188.out 1
      have hfz5_2 := blk_frozen BK188.out 2
      have hfz5_3 := blk_frozen BK188.out 3
      have hfz5_4 := blk_frozen BK188.out 4
      have hfz5_5 := blk_frozen BK188.out 5
      go_wp2
      go_meet
      case rel => exact ⟨_, (true), (by first | rfl | (simp; done) | (simp [*]; done)), H', ⟨by first | omega | exact Nat.le_refl _⟩, ⟨by (with_reducible repeat (first | refine blk_drewN ?_ _ | refine blk_drew ?_ | refine blk_alloc ?_ _)); exact BK188.out⟩, ⟨by repeat (first | (with_reducible first | exact HB.out | apply below_alloc | apply pw_below_drewN | apply below_drew1 | refine below_set ?_ GE188.out) | exact HB.out)⟩⟩
    · rw [if_neg c4] at H
      have c4b0 : (a0_0 == 2) = false := beq_eq_false_iff_ne.mpr c4
      have c4b1 : (a0_0 != 2) = true := bne_iff_ne.mpr c4
      (first | rw [c4b0] | (simp only [i64_w, i32_w]; rw [c4b0]) | skip)
      by_cases c6 : a0_0 = 4
      · rw [if_pos c6] at H
        have c6b0 : (a0_0 == 4) = true := beq_iff_eq.mpr c6
        have c6b1 : (a0_0 != 4) = false := bne_eq_false_iff_eq.mpr c6
        clear c6
        have H' := Aside0.mk H
        clear H
        have hcz7_0 : w3.cell? ⟨gb188, 0, none⟩ = some (.int .i64 a0_0) := (blk_cell BK188.out 0).trans rfl
        have hcz7_1 : w3.cell? ⟨gb188, 1, none⟩ = some (.int .u8 a0_1) := (blk_cell BK188.out 1).trans rfl
        have hcz7_2 : w3.cell? ⟨gb188, 2, none⟩ = some (.slice A0_2 l0_2.length c0_2) := (blk_cell BK188.out 2).trans rfl
        have hcz7_3 : w3.cell? ⟨gb188, 3, none⟩ = some (.string a0_3) := (blk_cell BK188.out 3).trans rfl
        have hcz7_4 : w3.cell? ⟨gb188, 4, none⟩ = some (.int .u8 a0_4) := (blk_cell BK188.out 4).trans rfl
        have hcz7_5 : w3.cell? ⟨gb188, 5, none⟩ = some (.string a0_5) := (blk_cell BK188.out 5).trans rfl
        have hfz7_0 := blk_frozen BK188.out 0
        have hfz7_1 := blk_frozen BK188.out 1
        have hfz7_2 := blk_frozen BK188.out 2
        have hfz7_3 := blk_frozen BK188.out 3
        have hfz7_4 := blk_frozen BK188.out 4
        have hfz7_5 := blk_frozen BK188.out 5
        go_wp2
        go_meet
        case rel => exact ⟨_, (true), (by first | rfl | (simp; done) | (simp [*]; done)), H', ⟨by first | omega | exact Nat.le_refl _⟩, ⟨by (with_reducible repeat (first | refine blk_drewN ?_ _ | refine blk_drew ?_ | refine blk_alloc ?_ _)); exact BK188.out⟩, ⟨by repeat (first | (with_reducible first | exact HB.out | apply below_alloc | apply pw_below_drewN | apply below_drew1 | refine below_set ?_ GE188.out) | exact HB.out)⟩⟩
      · rw [if_neg c6] at H
        have c6b0 : (a0_0 == 4) = false := beq_eq_false_iff_ne.mpr c6
        have c6b1 : (a0_0 != 4) = true := bne_iff_ne.mpr c6
        have H' := Aside0.mk H
        clear H
        have hcz8_0 : w3.cell? ⟨gb188, 0, none⟩ = some (.int .i64 a0_0) := (blk_cell BK188.out 0).trans rfl
        have hcz8_1 : w3.cell? ⟨gb188, 1, none⟩ = some (.int .u8 a0_1) := (blk_cell BK188.out 1).trans rfl
        have hcz8_2 : w3.cell? ⟨gb188, 2, none⟩ = some (.slice A0_2 l0_2.length c0_2) := (blk_cell BK188.out 2).trans rfl
        have hcz8_3 : w3.cell? ⟨gb188, 3, none⟩ = some (.string a0_3) := (blk_cell BK188.out 3).trans rfl
        have hcz8_4 : w3.cell? ⟨gb188, 4, none⟩ = some (.int .u8 a0_4) := (blk_cell BK188.out 4).trans rfl
        have hcz8_5 : w3.cell? ⟨gb188, 5, none⟩ = some (.string a0_5) := (blk_cell BK188.out 5).trans rfl
        have hfz8_0 := blk_frozen BK188.out 0
        have hfz8_1 := blk_frozen BK188.out 1
        have hfz8_2 := blk_frozen BK188.out 2
        have hfz8_3 := blk_frozen BK188.out 3
        have hfz8_4 := blk_frozen BK188.out 4
        have hfz8_5 := blk_frozen BK188.out 5
        go_wp2
        go_meet
        case rel => exact ⟨_, ((a0_0 == 5)), (by first | rfl | (simp; done) | (simp [*]; done)), H', ⟨by first | omega | exact Nat.le_refl _⟩, ⟨by (with_reducible repeat (first | refine blk_drewN ?_ _ | refine blk_drew ?_ | refine blk_alloc ?_ _)); exact BK188.out⟩, ⟨by repeat (first | (with_reducible first | exact HB.out | apply below_alloc | apply pw_below_drewN | apply below_drew1 | refine below_set ?_ GE188.out) | exact HB.out)⟩⟩
  case rest =>
    clear HC2
    try clear p2
    try clear c4
    try clear c4b0
    try clear c4b1
    try clear c5
    try clear c6
    try clear c6b0
    try clear c6b1
    try clear hcz5_0
    try clear hcz5_1
    try clear hcz5_2
    try clear hcz5_3
    try clear hcz5_4
    try clear hcz5_5
    try clear hcz7_0
    try clear hcz7_1
    try clear hcz7_2
    try clear hcz7_3
    try clear hcz7_4
    try clear hcz7_5
    try clear hcz8_0
    try clear hcz8_1
    try clear hcz8_2
    try clear hcz8_3
    try clear hcz8_4
    try clear hcz8_5
    try clear hfz5_0
    try clear hfz5_1
    try clear hfz5_2
    try clear hfz5_3
    try clear hfz5_4
    try clear hfz5_5
    try clear hfz7_0
    try clear hfz7_1
    try clear hfz7_2
    try clear hfz7_3
    try clear hfz7_4
    try clear hfz7_5
    try clear hfz8_0
    try clear hfz8_1
    try clear hfz8_2
    try clear hfz8_3
    try clear hfz8_4
    try clear hfz8_5
    obtain ⟨kq, x3_1, rfl, HA, HJ1, BK188, HB⟩ := hcut
    cases kq with
    | zero => exact absurd HA.out (by simp [clavierref03_bare.j0])
    | succ kj1 =>
      have H := HA.out
      clear HA
      simp only [clavierref03_bare.j0] at H
      have HC9 := Aside0.mk H
      clear H
      go_upto_region 2 with (fail)
      go_cut [28] (fun v28 wc => ∃ (kq : Nat) (x28_8 : Bool), v28 = .bool x28_8 ∧ Aside0 (clavierref03_bare.j1 kq x28_8 a0_0 a0_1 l0_2 a0_3 a0_4 a0_5 = some r) ∧ Aside0 (kq ≤ kj1) ∧ Aside0 (wc.heap[gb188]? = some (.cells #[.int .i64 a0_0, .int .u8 a0_1, (.slice A0_2 l0_2.length c0_2), .string a0_3, .int .u8 a0_4, .string a0_5] 30 (0, 0))) ∧ Aside0 (Below w.heap.size w wc))
      case first =>
        have H := HC9.out
        clear HC9
        by_cases c10 : x3_1 = true
        · subst c10
          have H1 : (if a0_1 = 0 then (clavierref03_bare.j1 kj1 (decide ((l0_2.length : Int) > 0)) a0_0 a0_1 l0_2 a0_3 a0_4 a0_5) else (clavierref03_bare.j1 kj1 true a0_0 a0_1 l0_2 a0_3 a0_4 a0_5)) = some r := by rw [if_pos rfl] at H; exact H
          clear H
          have H := H1
          clear H1
          by_cases c11 : a0_1 = 0
          · rw [if_pos c11] at H
            have c11b0 : (a0_1 == 0) = true := beq_iff_eq.mpr c11
            have c11b1 : (a0_1 != 0) = false := bne_eq_false_iff_eq.mpr c11
            clear c11
            (first | rw [c11b0] | (simp only [i64_w, i32_w]; rw [c11b0]) | skip)
            have H' := Aside0.mk H
            clear H
            have hcz12_0 : wc.cell? ⟨gb188, 0, none⟩ = some (.int .i64 a0_0) := (blk_cell BK188.out 0).trans rfl
            have hcz12_1 : wc.cell? ⟨gb188, 1, none⟩ = some (.int .u8 a0_1) := (blk_cell BK188.out 1).trans rfl
            have hcz12_2 : wc.cell? ⟨gb188, 2, none⟩ = some (.slice A0_2 l0_2.length c0_2) := (blk_cell BK188.out 2).trans rfl
            have hcz12_3 : wc.cell? ⟨gb188, 3, none⟩ = some (.string a0_3) := (blk_cell BK188.out 3).trans rfl
            have hcz12_4 : wc.cell? ⟨gb188, 4, none⟩ = some (.int .u8 a0_4) := (blk_cell BK188.out 4).trans rfl
            have hcz12_5 : wc.cell? ⟨gb188, 5, none⟩ = some (.string a0_5) := (blk_cell BK188.out 5).trans rfl
            have hfz12_0 := blk_frozen BK188.out 0
            have hfz12_1 := blk_frozen BK188.out 1
            have hfz12_2 := blk_frozen BK188.out 2
            have hfz12_3 := blk_frozen BK188.out 3
            have hfz12_4 := blk_frozen BK188.out 4
            have hfz12_5 := blk_frozen BK188.out 5
            go_wp2
            go_meet
            case rel => exact ⟨_, (decide ((l0_2.length : Int) > 0)), (by first | rfl | (simp; done) | (simp [*]; done)), H', ⟨by have := HJ1.out; first | omega | exact Nat.le_refl _⟩, ⟨by (with_reducible repeat (first | refine blk_drewN ?_ _ | refine blk_drew ?_ | refine blk_alloc ?_ _)); exact BK188.out⟩, ⟨by repeat (first | (with_reducible first | exact HB.out | apply below_alloc | apply pw_below_drewN | apply below_drew1 | refine below_set ?_ GE188.out) | exact HB.out)⟩⟩
          · rw [if_neg c11] at H
            have c11b0 : (a0_1 == 0) = false := beq_eq_false_iff_ne.mpr c11
            have c11b1 : (a0_1 != 0) = true := bne_iff_ne.mpr c11
            (first | rw [c11b0] | (simp only [i64_w, i32_w]; rw [c11b0]) | skip)
            have H' := Aside0.mk H
            clear H
            have hcz13_0 : wc.cell? ⟨gb188, 0, none⟩ = some (.int .i64 a0_0) := (blk_cell BK188.out 0).trans rfl
            have hcz13_1 : wc.cell? ⟨gb188, 1, none⟩ = some (.int .u8 a0_1) := (blk_cell BK188.out 1).trans rfl
            have hcz13_2 : wc.cell? ⟨gb188, 2, none⟩ = some (.slice A0_2 l0_2.length c0_2) := (blk_cell BK188.out 2).trans rfl
            have hcz13_3 : wc.cell? ⟨gb188, 3, none⟩ = some (.string a0_3) := (blk_cell BK188.out 3).trans rfl
            have hcz13_4 : wc.cell? ⟨gb188, 4, none⟩ = some (.int .u8 a0_4) := (blk_cell BK188.out 4).trans rfl
            have hcz13_5 : wc.cell? ⟨gb188, 5, none⟩ = some (.string a0_5) := (blk_cell BK188.out 5).trans rfl
            have hfz13_0 := blk_frozen BK188.out 0
            have hfz13_1 := blk_frozen BK188.out 1
            have hfz13_2 := blk_frozen BK188.out 2
            have hfz13_3 := blk_frozen BK188.out 3
            have hfz13_4 := blk_frozen BK188.out 4
            have hfz13_5 := blk_frozen BK188.out 5
            go_wp2
            go_meet
            case rel => exact ⟨_, (true), (by first | rfl | (simp; done) | (simp [*]; done)), H', ⟨by have := HJ1.out; first | omega | exact Nat.le_refl _⟩, ⟨by (with_reducible repeat (first | refine blk_drewN ?_ _ | refine blk_drew ?_ | refine blk_alloc ?_ _)); exact BK188.out⟩, ⟨by repeat (first | (with_reducible first | exact HB.out | apply below_alloc | apply pw_below_drewN | apply below_drew1 | refine below_set ?_ GE188.out) | exact HB.out)⟩⟩
        · replace c10 := Bool.eq_false_iff.mpr c10
          subst c10
          have H1 : (clavierref03_bare.j1 kj1 false a0_0 a0_1 l0_2 a0_3 a0_4 a0_5) = some r := by rw [if_neg (show ¬ (false = true) by decide)] at H; exact H
          clear H
          have H := H1
          clear H1
          have H' := Aside0.mk H
          clear H
          go_wp2
          go_meet
          case rel => exact ⟨_, (false), (by first | rfl | (simp; done) | (simp [*]; done)), H', ⟨by have := HJ1.out; first | omega | exact Nat.le_refl _⟩, ⟨by (with_reducible repeat (first | refine blk_drewN ?_ _ | refine blk_drew ?_ | refine blk_alloc ?_ _)); exact BK188.out⟩, ⟨by repeat (first | (with_reducible first | exact HB.out | apply below_alloc | apply pw_below_drewN | apply below_drew1 | refine below_set ?_ GE188.out) | exact HB.out)⟩⟩
      case rest =>
        clear HC9
        try clear c1
        try clear p2
        try clear c4
        try clear c4b0
        try clear c4b1
        try clear c5
        try clear c6
        try clear c6b0
        try clear c6b1
        try clear c10
        try clear c11
        try clear c11b0
        try clear c11b1
        try clear hcz12_0
        try clear hcz12_1
        try clear hcz12_2
        try clear hcz12_3
        try clear hcz12_4
        try clear hcz12_5
        try clear hcz13_0
        try clear hcz13_1
        try clear hcz13_2
        try clear hcz13_3
        try clear hcz13_4
        try clear hcz13_5
        try clear hcz5_0
        try clear hcz5_1
        try clear hcz5_2
        try clear hcz5_3
        try clear hcz5_4
        try clear hcz5_5
        try clear hcz7_0
        try clear hcz7_1
        try clear hcz7_2
        try clear hcz7_3
        try clear hcz7_4
        try clear hcz7_5
        try clear hcz8_0
        try clear hcz8_1
        try clear hcz8_2
        try clear hcz8_3
        try clear hcz8_4
        try clear hcz8_5
        try clear hfz12_0
        try clear hfz12_1
        try clear hfz12_2
        try clear hfz12_3
        try clear hfz12_4
        try clear hfz12_5
        try clear hfz13_0
        try clear hfz13_1
        try clear hfz13_2
        try clear hfz13_3
        try clear hfz13_4
        try clear hfz13_5
        try clear hfz5_0
        try clear hfz5_1
        try clear hfz5_2
        try clear hfz5_3
        try clear hfz5_4
        try clear hfz5_5
        try clear hfz7_0
        try clear hfz7_1
        try clear hfz7_2
        try clear hfz7_3
        try clear hfz7_4
        try clear hfz7_5
        try clear hfz8_0
        try clear hfz8_1
        try clear hfz8_2
        try clear hfz8_3
        try clear hfz8_4
        try clear hfz8_5
        try clear p2
        obtain ⟨kq, x28_8, rfl, HA, HJ8, BK188, HB⟩ := hcut
        cases kq with
        | zero => exact absurd HA.out (by simp [clavierref03_bare.j1])
        | succ kj8 =>
          have H := HA.out
          clear HA
          simp only [clavierref03_bare.j1] at H
          by_cases c14 : x28_8 = true
          · subst c14
            have H1 : (some false) = some r := by rw [if_pos rfl] at H; exact H
            clear H
            have H := H1
            clear H1
            obtain rfl := Option.some.inj H
            go_wp2
            go_ret
            exact ⟨by first | rfl | (simp [errW_none, errW_some] <;> rfl) | (simp [*, errW_none, errW_some] <;> rfl), by repeat (first | (with_reducible first | exact HB.out | apply below_alloc | apply pw_below_drewN | apply below_drew1 | refine below_set ?_ GE188.out) | exact HB.out)⟩
          · replace c14 := Bool.eq_false_iff.mpr c14
            subst c14
            have H1 : (if a0_0 = 2 then (if a0_3.toList = ([] : List UInt8) then (if a0_5.toList = ([] : List UInt8) then (some true) else (if a0_0 = 3 then (some true) else (some (a0_0 == 4)))) else (some false)) else (if a0_0 = 4 then (if a0_3.toList = ([] : List UInt8) then (if a0_5.toList = ([] : List UInt8) then (some true) else (if a0_0 = 3 then (some true) else (some (a0_0 == 4)))) else (some false)) else (if a0_5.toList = ([] : List UInt8) then (some true) else (if a0_0 = 3 then (some true) else (some (a0_0 == 4)))))) = some r := by rw [if_neg (show ¬ (false = true) by decide)] at H; exact H
            clear H
            have H := H1
            clear H1
            by_cases c15 : a0_0 = 2
            · rw [if_pos c15] at H
              have c15b0 : (a0_0 == 2) = true := beq_iff_eq.mpr c15
              have c15b1 : (a0_0 != 2) = false := bne_eq_false_iff_eq.mpr c15
              clear c15
              by_cases c16 : a0_3.toList = ([] : List UInt8)
              · rw [if_pos c16] at H
                have c16b0 : (a0_3.toList == ([] : List UInt8)) = true := beq_iff_eq.mpr c16
                have c16b1 : (a0_3.toList != ([] : List UInt8)) = false := bne_eq_false_iff_eq.mpr c16
                clear c16
                by_cases c17 : a0_5.toList = ([] : List UInt8)
                · rw [if_pos c17] at H
                  have c17b0 : (a0_5.toList == ([] : List UInt8)) = true := beq_iff_eq.mpr c17
                  have c17b1 : (a0_5.toList != ([] : List UInt8)) = false := bne_eq_false_iff_eq.mpr c17
                  clear c17
                  obtain rfl := Option.some.inj H
                  have hcz18_0 : wc.cell? ⟨gb188, 0, none⟩ = some (.int .i64 a0_0) := (blk_cell BK188.out 0).trans rfl
                  have hcz18_1 : wc.cell? ⟨gb188, 1, none⟩ = some (.int .u8 a0_1) := (blk_cell BK188.out 1).trans rfl
                  have hcz18_2 : wc.cell? ⟨gb188, 2, none⟩ = some (.slice A0_2 l0_2.length c0_2) := (blk_cell BK188.out 2).trans rfl
                  have hcz18_3 : wc.cell? ⟨gb188, 3, none⟩ = some (.string a0_3) := (blk_cell BK188.out 3).trans rfl
                  have hcz18_4 : wc.cell? ⟨gb188, 4, none⟩ = some (.int .u8 a0_4) := (blk_cell BK188.out 4).trans rfl
                  have hcz18_5 : wc.cell? ⟨gb188, 5, none⟩ = some (.string a0_5) := (blk_cell BK188.out 5).trans rfl
                  have hfz18_0 := blk_frozen BK188.out 0
                  have hfz18_1 := blk_frozen BK188.out 1
                  have hfz18_2 := blk_frozen BK188.out 2
                  have hfz18_3 := blk_frozen BK188.out 3
                  have hfz18_4 := blk_frozen BK188.out 4
                  have hfz18_5 := blk_frozen BK188.out 5
                  go_wp2
                  go_ret
                  exact ⟨by first | rfl | (simp [errW_none, errW_some] <;> rfl) | (simp [*, errW_none, errW_some] <;> rfl), by repeat (first | (with_reducible first | exact HB.out | apply below_alloc | apply pw_below_drewN | apply below_drew1 | refine below_set ?_ GE188.out) | exact HB.out)⟩
                · rw [if_neg c17] at H
                  have c17b0 : (a0_5.toList == ([] : List UInt8)) = false := beq_eq_false_iff_ne.mpr c17
                  have c17b1 : (a0_5.toList != ([] : List UInt8)) = true := bne_iff_ne.mpr c17
                  by_cases c19 : a0_0 = 3
                  · rw [if_pos c19] at H
                    have c19b0 : (a0_0 == 3) = true := beq_iff_eq.mpr c19
                    have c19b1 : (a0_0 != 3) = false := bne_eq_false_iff_eq.mpr c19
                    clear c19
                    obtain rfl := Option.some.inj H
                    have hcz20_0 : wc.cell? ⟨gb188, 0, none⟩ = some (.int .i64 a0_0) := (blk_cell BK188.out 0).trans rfl
                    have hcz20_1 : wc.cell? ⟨gb188, 1, none⟩ = some (.int .u8 a0_1) := (blk_cell BK188.out 1).trans rfl
                    have hcz20_2 : wc.cell? ⟨gb188, 2, none⟩ = some (.slice A0_2 l0_2.length c0_2) := (blk_cell BK188.out 2).trans rfl
                    have hcz20_3 : wc.cell? ⟨gb188, 3, none⟩ = some (.string a0_3) := (blk_cell BK188.out 3).trans rfl
                    have hcz20_4 : wc.cell? ⟨gb188, 4, none⟩ = some (.int .u8 a0_4) := (blk_cell BK188.out 4).trans rfl
                    have hcz20_5 : wc.cell? ⟨gb188, 5, none⟩ = some (.string a0_5) := (blk_cell BK188.out 5).trans rfl
                    have hfz20_0 := blk_frozen BK188.out 0
                    have hfz20_1 := blk_frozen BK188.out 1
                    have hfz20_2 := blk_frozen BK188.out 2
                    have hfz20_3 := blk_frozen BK188.out 3
                    have hfz20_4 := blk_frozen BK188.out 4
                    have hfz20_5 := blk_frozen BK188.out 5
                    go_wp2
                    go_ret
                    exact ⟨by first | rfl | (simp [errW_none, errW_some] <;> rfl) | (simp [*, errW_none, errW_some] <;> rfl), by repeat (first | (with_reducible first | exact HB.out | apply below_alloc | apply pw_below_drewN | apply below_drew1 | refine below_set ?_ GE188.out) | exact HB.out)⟩
                  · rw [if_neg c19] at H
                    have c19b0 : (a0_0 == 3) = false := beq_eq_false_iff_ne.mpr c19
                    have c19b1 : (a0_0 != 3) = true := bne_iff_ne.mpr c19
                    obtain rfl := Option.some.inj H
                    have hcz21_0 : wc.cell? ⟨gb188, 0, none⟩ = some (.int .i64 a0_0) := (blk_cell BK188.out 0).trans rfl
                    have hcz21_1 : wc.cell? ⟨gb188, 1, none⟩ = some (.int .u8 a0_1) := (blk_cell BK188.out 1).trans rfl
                    have hcz21_2 : wc.cell? ⟨gb188, 2, none⟩ = some (.slice A0_2 l0_2.length c0_2) := (blk_cell BK188.out 2).trans rfl
                    have hcz21_3 : wc.cell? ⟨gb188, 3, none⟩ = some (.string a0_3) := (blk_cell BK188.out 3).trans rfl
                    have hcz21_4 : wc.cell? ⟨gb188, 4, none⟩ = some (.int .u8 a0_4) := (blk_cell BK188.out 4).trans rfl
                    have hcz21_5 : wc.cell? ⟨gb188, 5, none⟩ = some (.string a0_5) := (blk_cell BK188.out 5).trans rfl
                    have hfz21_0 := blk_frozen BK188.out 0
                    have hfz21_1 := blk_frozen BK188.out 1
                    have hfz21_2 := blk_frozen BK188.out 2
                    have hfz21_3 := blk_frozen BK188.out 3
                    have hfz21_4 := blk_frozen BK188.out 4
                    have hfz21_5 := blk_frozen BK188.out 5
                    go_wp2
                    go_ret
                    exact ⟨by first | rfl | (simp [errW_none, errW_some] <;> rfl) | (simp [*, errW_none, errW_some] <;> rfl), by repeat (first | (with_reducible first | exact HB.out | apply below_alloc | apply pw_below_drewN | apply below_drew1 | refine below_set ?_ GE188.out) | exact HB.out)⟩
              · rw [if_neg c16] at H
                have c16b0 : (a0_3.toList == ([] : List UInt8)) = false := beq_eq_false_iff_ne.mpr c16
                have c16b1 : (a0_3.toList != ([] : List UInt8)) = true := bne_iff_ne.mpr c16
                obtain rfl := Option.some.inj H
                have hcz22_0 : wc.cell? ⟨gb188, 0, none⟩ = some (.int .i64 a0_0) := (blk_cell BK188.out 0).trans rfl
                have hcz22_1 : wc.cell? ⟨gb188, 1, none⟩ = some (.int .u8 a0_1) := (blk_cell BK188.out 1).trans rfl
                have hcz22_2 : wc.cell? ⟨gb188, 2, none⟩ = some (.slice A0_2 l0_2.length c0_2) := (blk_cell BK188.out 2).trans rfl
                have hcz22_3 : wc.cell? ⟨gb188, 3, none⟩ = some (.string a0_3) := (blk_cell BK188.out 3).trans rfl
                have hcz22_4 : wc.cell? ⟨gb188, 4, none⟩ = some (.int .u8 a0_4) := (blk_cell BK188.out 4).trans rfl
                have hcz22_5 : wc.cell? ⟨gb188, 5, none⟩ = some (.string a0_5) := (blk_cell BK188.out 5).trans rfl
                have hfz22_0 := blk_frozen BK188.out 0
                have hfz22_1 := blk_frozen BK188.out 1
                have hfz22_2 := blk_frozen BK188.out 2
                have hfz22_3 := blk_frozen BK188.out 3
                have hfz22_4 := blk_frozen BK188.out 4
                have hfz22_5 := blk_frozen BK188.out 5
                go_wp2
                go_ret
                exact ⟨by first | rfl | (simp [errW_none, errW_some] <;> rfl) | (simp [*, errW_none, errW_some] <;> rfl), by repeat (first | (with_reducible first | exact HB.out | apply below_alloc | apply pw_below_drewN | apply below_drew1 | refine below_set ?_ GE188.out) | exact HB.out)⟩
            · rw [if_neg c15] at H
              have c15b0 : (a0_0 == 2) = false := beq_eq_false_iff_ne.mpr c15
              have c15b1 : (a0_0 != 2) = true := bne_iff_ne.mpr c15
              by_cases c23 : a0_0 = 4
              · rw [if_pos c23] at H
                have c23b0 : (a0_0 == 4) = true := beq_iff_eq.mpr c23
                have c23b1 : (a0_0 != 4) = false := bne_eq_false_iff_eq.mpr c23
                clear c23
                by_cases c24 : a0_3.toList = ([] : List UInt8)
                · rw [if_pos c24] at H
                  have c24b0 : (a0_3.toList == ([] : List UInt8)) = true := beq_iff_eq.mpr c24
                  have c24b1 : (a0_3.toList != ([] : List UInt8)) = false := bne_eq_false_iff_eq.mpr c24
                  clear c24
                  by_cases c25 : a0_5.toList = ([] : List UInt8)
                  · rw [if_pos c25] at H
                    have c25b0 : (a0_5.toList == ([] : List UInt8)) = true := beq_iff_eq.mpr c25
                    have c25b1 : (a0_5.toList != ([] : List UInt8)) = false := bne_eq_false_iff_eq.mpr c25
                    clear c25
                    obtain rfl := Option.some.inj H
                    have hcz26_0 : wc.cell? ⟨gb188, 0, none⟩ = some (.int .i64 a0_0) := (blk_cell BK188.out 0).trans rfl
                    have hcz26_1 : wc.cell? ⟨gb188, 1, none⟩ = some (.int .u8 a0_1) := (blk_cell BK188.out 1).trans rfl
                    have hcz26_2 : wc.cell? ⟨gb188, 2, none⟩ = some (.slice A0_2 l0_2.length c0_2) := (blk_cell BK188.out 2).trans rfl
                    have hcz26_3 : wc.cell? ⟨gb188, 3, none⟩ = some (.string a0_3) := (blk_cell BK188.out 3).trans rfl
                    have hcz26_4 : wc.cell? ⟨gb188, 4, none⟩ = some (.int .u8 a0_4) := (blk_cell BK188.out 4).trans rfl
                    have hcz26_5 : wc.cell? ⟨gb188, 5, none⟩ = some (.string a0_5) := (blk_cell BK188.out 5).trans rfl
                    have hfz26_0 := blk_frozen BK188.out 0
                    have hfz26_1 := blk_frozen BK188.out 1
                    have hfz26_2 := blk_frozen BK188.out 2
                    have hfz26_3 := blk_frozen BK188.out 3
                    have hfz26_4 := blk_frozen BK188.out 4
                    have hfz26_5 := blk_frozen BK188.out 5
                    go_wp2
                    go_ret
                    exact ⟨by first | rfl | (simp [errW_none, errW_some] <;> rfl) | (simp [*, errW_none, errW_some] <;> rfl), by repeat (first | (with_reducible first | exact HB.out | apply below_alloc | apply pw_below_drewN | apply below_drew1 | refine below_set ?_ GE188.out) | exact HB.out)⟩
                  · rw [if_neg c25] at H
                    have c25b0 : (a0_5.toList == ([] : List UInt8)) = false := beq_eq_false_iff_ne.mpr c25
                    have c25b1 : (a0_5.toList != ([] : List UInt8)) = true := bne_iff_ne.mpr c25
                    by_cases c27 : a0_0 = 3
                    · rw [if_pos c27] at H
                      have c27b0 : (a0_0 == 3) = true := beq_iff_eq.mpr c27
                      have c27b1 : (a0_0 != 3) = false := bne_eq_false_iff_eq.mpr c27
                      clear c27
                      obtain rfl := Option.some.inj H
                      have hcz28_0 : wc.cell? ⟨gb188, 0, none⟩ = some (.int .i64 a0_0) := (blk_cell BK188.out 0).trans rfl
                      have hcz28_1 : wc.cell? ⟨gb188, 1, none⟩ = some (.int .u8 a0_1) := (blk_cell BK188.out 1).trans rfl
                      have hcz28_2 : wc.cell? ⟨gb188, 2, none⟩ = some (.slice A0_2 l0_2.length c0_2) := (blk_cell BK188.out 2).trans rfl
                      have hcz28_3 : wc.cell? ⟨gb188, 3, none⟩ = some (.string a0_3) := (blk_cell BK188.out 3).trans rfl
                      have hcz28_4 : wc.cell? ⟨gb188, 4, none⟩ = some (.int .u8 a0_4) := (blk_cell BK188.out 4).trans rfl
                      have hcz28_5 : wc.cell? ⟨gb188, 5, none⟩ = some (.string a0_5) := (blk_cell BK188.out 5).trans rfl
                      have hfz28_0 := blk_frozen BK188.out 0
                      have hfz28_1 := blk_frozen BK188.out 1
                      have hfz28_2 := blk_frozen BK188.out 2
                      have hfz28_3 := blk_frozen BK188.out 3
                      have hfz28_4 := blk_frozen BK188.out 4
                      have hfz28_5 := blk_frozen BK188.out 5
                      go_wp2
                      go_ret
                      exact ⟨by first | rfl | (simp [errW_none, errW_some] <;> rfl) | (simp [*, errW_none, errW_some] <;> rfl), by repeat (first | (with_reducible first | exact HB.out | apply below_alloc | apply pw_below_drewN | apply below_drew1 | refine below_set ?_ GE188.out) | exact HB.out)⟩
                    · rw [if_neg c27] at H
                      have c27b0 : (a0_0 == 3) = false := beq_eq_false_iff_ne.mpr c27
                      have c27b1 : (a0_0 != 3) = true := bne_iff_ne.mpr c27
                      obtain rfl := Option.some.inj H
                      have hcz29_0 : wc.cell? ⟨gb188, 0, none⟩ = some (.int .i64 a0_0) := (blk_cell BK188.out 0).trans rfl
                      have hcz29_1 : wc.cell? ⟨gb188, 1, none⟩ = some (.int .u8 a0_1) := (blk_cell BK188.out 1).trans rfl
                      have hcz29_2 : wc.cell? ⟨gb188, 2, none⟩ = some (.slice A0_2 l0_2.length c0_2) := (blk_cell BK188.out 2).trans rfl
                      have hcz29_3 : wc.cell? ⟨gb188, 3, none⟩ = some (.string a0_3) := (blk_cell BK188.out 3).trans rfl
                      have hcz29_4 : wc.cell? ⟨gb188, 4, none⟩ = some (.int .u8 a0_4) := (blk_cell BK188.out 4).trans rfl
                      have hcz29_5 : wc.cell? ⟨gb188, 5, none⟩ = some (.string a0_5) := (blk_cell BK188.out 5).trans rfl
                      have hfz29_0 := blk_frozen BK188.out 0
                      have hfz29_1 := blk_frozen BK188.out 1
                      have hfz29_2 := blk_frozen BK188.out 2
                      have hfz29_3 := blk_frozen BK188.out 3
                      have hfz29_4 := blk_frozen BK188.out 4
                      have hfz29_5 := blk_frozen BK188.out 5
                      go_wp2
                      go_ret
                      exact ⟨by first | rfl | (simp [errW_none, errW_some] <;> rfl) | (simp [*, errW_none, errW_some] <;> rfl), by repeat (first | (with_reducible first | exact HB.out | apply below_alloc | apply pw_below_drewN | apply below_drew1 | refine below_set ?_ GE188.out) | exact HB.out)⟩
                · rw [if_neg c24] at H
                  have c24b0 : (a0_3.toList == ([] : List UInt8)) = false := beq_eq_false_iff_ne.mpr c24
                  have c24b1 : (a0_3.toList != ([] : List UInt8)) = true := bne_iff_ne.mpr c24
                  obtain rfl := Option.some.inj H
                  have hcz30_0 : wc.cell? ⟨gb188, 0, none⟩ = some (.int .i64 a0_0) := (blk_cell BK188.out 0).trans rfl
                  have hcz30_1 : wc.cell? ⟨gb188, 1, none⟩ = some (.int .u8 a0_1) := (blk_cell BK188.out 1).trans rfl
                  have hcz30_2 : wc.cell? ⟨gb188, 2, none⟩ = some (.slice A0_2 l0_2.length c0_2) := (blk_cell BK188.out 2).trans rfl
                  have hcz30_3 : wc.cell? ⟨gb188, 3, none⟩ = some (.string a0_3) := (blk_cell BK188.out 3).trans rfl
                  have hcz30_4 : wc.cell? ⟨gb188, 4, none⟩ = some (.int .u8 a0_4) := (blk_cell BK188.out 4).trans rfl
                  have hcz30_5 : wc.cell? ⟨gb188, 5, none⟩ = some (.string a0_5) := (blk_cell BK188.out 5).trans rfl
                  have hfz30_0 := blk_frozen BK188.out 0
                  have hfz30_1 := blk_frozen BK188.out 1
                  have hfz30_2 := blk_frozen BK188.out 2
                  have hfz30_3 := blk_frozen BK188.out 3
                  have hfz30_4 := blk_frozen BK188.out 4
                  have hfz30_5 := blk_frozen BK188.out 5
                  go_wp2
                  go_ret
                  exact ⟨by first | rfl | (simp [errW_none, errW_some] <;> rfl) | (simp [*, errW_none, errW_some] <;> rfl), by repeat (first | (with_reducible first | exact HB.out | apply below_alloc | apply pw_below_drewN | apply below_drew1 | refine below_set ?_ GE188.out) | exact HB.out)⟩
              · rw [if_neg c23] at H
                have c23b0 : (a0_0 == 4) = false := beq_eq_false_iff_ne.mpr c23
                have c23b1 : (a0_0 != 4) = true := bne_iff_ne.mpr c23
                by_cases c31 : a0_5.toList = ([] : List UInt8)
                · rw [if_pos c31] at H
                  have c31b0 : (a0_5.toList == ([] : List UInt8)) = true := beq_iff_eq.mpr c31
                  have c31b1 : (a0_5.toList != ([] : List UInt8)) = false := bne_eq_false_iff_eq.mpr c31
                  clear c31
                  obtain rfl := Option.some.inj H
                  have hcz32_0 : wc.cell? ⟨gb188, 0, none⟩ = some (.int .i64 a0_0) := (blk_cell BK188.out 0).trans rfl
                  have hcz32_1 : wc.cell? ⟨gb188, 1, none⟩ = some (.int .u8 a0_1) := (blk_cell BK188.out 1).trans rfl
                  have hcz32_2 : wc.cell? ⟨gb188, 2, none⟩ = some (.slice A0_2 l0_2.length c0_2) := (blk_cell BK188.out 2).trans rfl
                  have hcz32_3 : wc.cell? ⟨gb188, 3, none⟩ = some (.string a0_3) := (blk_cell BK188.out 3).trans rfl
                  have hcz32_4 : wc.cell? ⟨gb188, 4, none⟩ = some (.int .u8 a0_4) := (blk_cell BK188.out 4).trans rfl
                  have hcz32_5 : wc.cell? ⟨gb188, 5, none⟩ = some (.string a0_5) := (blk_cell BK188.out 5).trans rfl
                  have hfz32_0 := blk_frozen BK188.out 0
                  have hfz32_1 := blk_frozen BK188.out 1
                  have hfz32_2 := blk_frozen BK188.out 2
                  have hfz32_3 := blk_frozen BK188.out 3
                  have hfz32_4 := blk_frozen BK188.out 4
                  have hfz32_5 := blk_frozen BK188.out 5
                  go_wp2
                  go_ret
                  exact ⟨by first | rfl | (simp [errW_none, errW_some] <;> rfl) | (simp [*, errW_none, errW_some] <;> rfl), by repeat (first | (with_reducible first | exact HB.out | apply below_alloc | apply pw_below_drewN | apply below_drew1 | refine below_set ?_ GE188.out) | exact HB.out)⟩
                · rw [if_neg c31] at H
                  have c31b0 : (a0_5.toList == ([] : List UInt8)) = false := beq_eq_false_iff_ne.mpr c31
                  have c31b1 : (a0_5.toList != ([] : List UInt8)) = true := bne_iff_ne.mpr c31
                  by_cases c33 : a0_0 = 3
                  · rw [if_pos c33] at H
                    have c33b0 : (a0_0 == 3) = true := beq_iff_eq.mpr c33
                    have c33b1 : (a0_0 != 3) = false := bne_eq_false_iff_eq.mpr c33
                    clear c33
                    obtain rfl := Option.some.inj H
                    have hcz34_0 : wc.cell? ⟨gb188, 0, none⟩ = some (.int .i64 a0_0) := (blk_cell BK188.out 0).trans rfl
                    have hcz34_1 : wc.cell? ⟨gb188, 1, none⟩ = some (.int .u8 a0_1) := (blk_cell BK188.out 1).trans rfl
                    have hcz34_2 : wc.cell? ⟨gb188, 2, none⟩ = some (.slice A0_2 l0_2.length c0_2) := (blk_cell BK188.out 2).trans rfl
                    have hcz34_3 : wc.cell? ⟨gb188, 3, none⟩ = some (.string a0_3) := (blk_cell BK188.out 3).trans rfl
                    have hcz34_4 : wc.cell? ⟨gb188, 4, none⟩ = some (.int .u8 a0_4) := (blk_cell BK188.out 4).trans rfl
                    have hcz34_5 : wc.cell? ⟨gb188, 5, none⟩ = some (.string a0_5) := (blk_cell BK188.out 5).trans rfl
                    have hfz34_0 := blk_frozen BK188.out 0
                    have hfz34_1 := blk_frozen BK188.out 1
                    have hfz34_2 := blk_frozen BK188.out 2
                    have hfz34_3 := blk_frozen BK188.out 3
                    have hfz34_4 := blk_frozen BK188.out 4
                    have hfz34_5 := blk_frozen BK188.out 5
                    go_wp2
                    go_ret
                    exact ⟨by first | rfl | (simp [errW_none, errW_some] <;> rfl) | (simp [*, errW_none, errW_some] <;> rfl), by repeat (first | (with_reducible first | exact HB.out | apply below_alloc | apply pw_below_drewN | apply below_drew1 | refine below_set ?_ GE188.out) | exact HB.out)⟩
                  · rw [if_neg c33] at H
                    have c33b0 : (a0_0 == 3) = false := beq_eq_false_iff_ne.mpr c33
                    have c33b1 : (a0_0 != 3) = true := bne_iff_ne.mpr c33
                    obtain rfl := Option.some.inj H
                    have hcz35_0 : wc.cell? ⟨gb188, 0, none⟩ = some (.int .i64 a0_0) := (blk_cell BK188.out 0).trans rfl
                    have hcz35_1 : wc.cell? ⟨gb188, 1, none⟩ = some (.int .u8 a0_1) := (blk_cell BK188.out 1).trans rfl
                    have hcz35_2 : wc.cell? ⟨gb188, 2, none⟩ = some (.slice A0_2 l0_2.length c0_2) := (blk_cell BK188.out 2).trans rfl
                    have hcz35_3 : wc.cell? ⟨gb188, 3, none⟩ = some (.string a0_3) := (blk_cell BK188.out 3).trans rfl
                    have hcz35_4 : wc.cell? ⟨gb188, 4, none⟩ = some (.int .u8 a0_4) := (blk_cell BK188.out 4).trans rfl
                    have hcz35_5 : wc.cell? ⟨gb188, 5, none⟩ = some (.string a0_5) := (blk_cell BK188.out 5).trans rfl
                    have hfz35_0 := blk_frozen BK188.out 0
                    have hfz35_1 := blk_frozen BK188.out 1
                    have hfz35_2 := blk_frozen BK188.out 2
                    have hfz35_3 := blk_frozen BK188.out 3
                    have hfz35_4 := blk_frozen BK188.out 4
                    have hfz35_5 := blk_frozen BK188.out 5
                    go_wp2
                    go_ret
                    exact ⟨by first | rfl | (simp [errW_none, errW_some] <;> rfl) | (simp [*, errW_none, errW_some] <;> rfl), by repeat (first | (with_reducible first | exact HB.out | apply below_alloc | apply pw_below_drewN | apply below_drew1 | refine below_set ?_ GE188.out) | exact HB.out)⟩
end Go.Proofs.YtopcleljecdkkaaDoor.G
end
section
namespace Go.Proofs.YtopcleljecdkkaaDoor.G
open Go.RowKit Go.Proofs.YtopcleljecdkkaaDoorW.PrintWords Go.Proofs.YtopcleljecdkkaaDoorW.PrintLast Go.Proofs.YtopcleljecdkkaaDoorW.PrintMore
attribute [local go_sem] max2_int min2_int max_two min_two max_three min_three max_four min_four
set_option linter.unusedVariables false
set_option linter.unusedSimpArgs false
mutual
def clavierref03_body.j0 : Nat → ByteArray → Int → Int → List (List Int) → ByteArray → Int → ByteArray → Option (ByteArray)
  | 0, _, _, _, _, _, _, _ => none
  | k + 1, x3, x201000, x201001, x201002, x201003, x201004, x201005 => clavierref03_body.l0 k x3 0 x201000 x201001 x201002 x201003 x201004 x201005
def clavierref03_body.l0 : Nat → ByteArray → Int → Int → Int → List (List Int) → ByteArray → Int → ByteArray → Option (ByteArray)
  | 0, _, _, _, _, _, _, _, _ => none
  | k + 1, x3, x4, x201000, x201001, x201002, x201003, x201004, x201005 => if x4 < (x201002.length : Int) then (if x4 > 0 then (if x3.size + 1 ≤ 9223372036854775807 then (clavierref03_body.j2 k (x3 ++ (⟨#[59]⟩ : ByteArray)) x4 x201000 x201001 x201002 x201003 x201004 x201005) else (none)) else (clavierref03_body.j2 k x3 x4 x201000 x201001 x201002 x201003 x201004 x201005)) else (if x3.size + x201003.size ≤ 9223372036854775807 then (some (x3 ++ x201003)) else (none))
def clavierref03_body.j2 : Nat → ByteArray → Int → Int → Int → List (List Int) → ByteArray → Int → ByteArray → Option (ByteArray)
  | 0, _, _, _, _, _, _, _, _ => none
  | k + 1, x3, x4, x201000, x201001, x201002, x201003, x201004, x201005 => clavierref03_body.l1 k x3 x4 0 x201000 x201001 x201002 x201003 x201004 x201005
def clavierref03_body.l1 : Nat → ByteArray → Int → Int → Int → Int → List (List Int) → ByteArray → Int → ByteArray → Option (ByteArray)
  | 0, _, _, _, _, _, _, _, _, _ => none
  | k + 1, x3, x4, x5, x201000, x201001, x201002, x201003, x201004, x201005 => if 0 ≤ x4 then (if x4 < (x201002.length : Int) then (if x5 < ((rd_L1 x201002 x4).length : Int) then (if x5 > 0 then (if x3.size + 1 ≤ 9223372036854775807 then (if 0 ≤ x5 then ((clavierref01_Text.f (rd (rd_L1 x201002 x4) x5)).bind fun t207 => (if (x3 ++ (⟨#[58]⟩ : ByteArray)).size + t207.size ≤ 9223372036854775807 then (clavierref03_body.l1 k ((x3 ++ (⟨#[58]⟩ : ByteArray)) ++ t207) x4 (wrap64 (x5 + 1)) x201000 x201001 x201002 x201003 x201004 x201005) else (none))) else (none)) else (none)) else (if 0 ≤ x5 then ((clavierref01_Text.f (rd (rd_L1 x201002 x4) x5)).bind fun t210 => (if x3.size + t210.size ≤ 9223372036854775807 then (clavierref03_body.l1 k (x3 ++ t210) x4 (wrap64 (x5 + 1)) x201000 x201001 x201002 x201003 x201004 x201005) else (none))) else (none))) else (clavierref03_body.l0 k x3 (wrap64 (x4 + 1)) x201000 x201001 x201002 x201003 x201004 x201005)) else (none)) else (none)
end
def clavierref03_body.f (k : Nat) (a0_0 : Int) (a0_1 : Int) (l0_2 : List (List Int)) (a0_3 : ByteArray) (a0_4 : Int) (a0_5 : ByteArray) : Option (ByteArray) := if a0_1 = 0 then (clavierref03_body.j0 k (⟨#[]⟩ : ByteArray) a0_0 a0_1 l0_2 a0_3 a0_4 a0_5) else (clavierref03_body.j0 k (strOfNums (([a0_1] : List Int))) a0_0 a0_1 l0_2 a0_3 a0_4 a0_5)
theorem clavierref03_body.mono_l : ∀ k, (∀ y0 y1 y2 y3 y4 y5 y6, LeO (clavierref03_body.j0 k y0 y1 y2 y3 y4 y5 y6) (clavierref03_body.j0 (k + 1) y0 y1 y2 y3 y4 y5 y6)) ∧ (∀ y0 y1 y2 y3 y4 y5 y6 y7, LeO (clavierref03_body.l0 k y0 y1 y2 y3 y4 y5 y6 y7) (clavierref03_body.l0 (k + 1) y0 y1 y2 y3 y4 y5 y6 y7)) ∧ (∀ y0 y1 y2 y3 y4 y5 y6 y7, LeO (clavierref03_body.j2 k y0 y1 y2 y3 y4 y5 y6 y7) (clavierref03_body.j2 (k + 1) y0 y1 y2 y3 y4 y5 y6 y7)) ∧ (∀ y0 y1 y2 y3 y4 y5 y6 y7 y8, LeO (clavierref03_body.l1 k y0 y1 y2 y3 y4 y5 y6 y7 y8) (clavierref03_body.l1 (k + 1) y0 y1 y2 y3 y4 y5 y6 y7 y8))
  | 0 => ⟨fun _ _ _ _ _ _ _ r h => by simp [clavierref03_body.j0] at h, fun _ _ _ _ _ _ _ _ r h => by simp [clavierref03_body.l0] at h, fun _ _ _ _ _ _ _ _ r h => by simp [clavierref03_body.j2] at h, fun _ _ _ _ _ _ _ _ _ r h => by simp [clavierref03_body.l1] at h⟩
  | k + 1 => by
    obtain ⟨ih0, ih1, ih2, ih3⟩ := clavierref03_body.mono_l k
    refine ⟨?_, ?_, ?_, ?_⟩
    · intro y0 y1 y2 y3 y4 y5 y6
      unfold clavierref03_body.j0
      repeat' first
      | (with_reducible exact ih0 _ _ _ _ _ _ _)
      | (with_reducible exact ih1 _ _ _ _ _ _ _ _)
      | (with_reducible exact ih2 _ _ _ _ _ _ _ _)
      | (with_reducible exact ih3 _ _ _ _ _ _ _ _ _)
      | (with_reducible exact LeO.refl _)
      | (with_reducible exact LeO.none _)
      | (with_reducible refine LeO.ite ?_ ?_)
      | (with_reducible refine LeO.bind ?_ (fun _ => ?_))
      | exact ih0 _ _ _ _ _ _ _
      | exact ih1 _ _ _ _ _ _ _ _
      | exact ih2 _ _ _ _ _ _ _ _
      | exact ih3 _ _ _ _ _ _ _ _ _
      | exact LeO.none _
      | refine LeO.ite ?_ ?_
      | refine LeO.bind ?_ (fun _ => ?_)
    · intro y0 y1 y2 y3 y4 y5 y6 y7
      unfold clavierref03_body.l0
      repeat' first
      | (with_reducible exact ih0 _ _ _ _ _ _ _)
      | (with_reducible exact ih1 _ _ _ _ _ _ _ _)
      | (with_reducible exact ih2 _ _ _ _ _ _ _ _)
      | (with_reducible exact ih3 _ _ _ _ _ _ _ _ _)
      | (with_reducible exact LeO.refl _)
      | (with_reducible exact LeO.none _)
      | (with_reducible refine LeO.ite ?_ ?_)
      | (with_reducible refine LeO.bind ?_ (fun _ => ?_))
      | exact ih0 _ _ _ _ _ _ _
      | exact ih1 _ _ _ _ _ _ _ _
      | exact ih2 _ _ _ _ _ _ _ _
      | exact ih3 _ _ _ _ _ _ _ _ _
      | exact LeO.none _
      | refine LeO.ite ?_ ?_
      | refine LeO.bind ?_ (fun _ => ?_)
    · intro y0 y1 y2 y3 y4 y5 y6 y7
      unfold clavierref03_body.j2
      repeat' first
      | (with_reducible exact ih0 _ _ _ _ _ _ _)
      | (with_reducible exact ih1 _ _ _ _ _ _ _ _)
      | (with_reducible exact ih2 _ _ _ _ _ _ _ _)
      | (with_reducible exact ih3 _ _ _ _ _ _ _ _ _)
      | (with_reducible exact LeO.refl _)
      | (with_reducible exact LeO.none _)
      | (with_reducible refine LeO.ite ?_ ?_)
      | (with_reducible refine LeO.bind ?_ (fun _ => ?_))
      | exact ih0 _ _ _ _ _ _ _
      | exact ih1 _ _ _ _ _ _ _ _
      | exact ih2 _ _ _ _ _ _ _ _
      | exact ih3 _ _ _ _ _ _ _ _ _
      | exact LeO.none _
      | refine LeO.ite ?_ ?_
      | refine LeO.bind ?_ (fun _ => ?_)
    · intro y0 y1 y2 y3 y4 y5 y6 y7 y8
      unfold clavierref03_body.l1
      repeat' first
      | (with_reducible exact ih0 _ _ _ _ _ _ _)
      | (with_reducible exact ih1 _ _ _ _ _ _ _ _)
      | (with_reducible exact ih2 _ _ _ _ _ _ _ _)
      | (with_reducible exact ih3 _ _ _ _ _ _ _ _ _)
      | (with_reducible exact LeO.refl _)
      | (with_reducible exact LeO.none _)
      | (with_reducible refine LeO.ite ?_ ?_)
      | (with_reducible refine LeO.bind ?_ (fun _ => ?_))
      | exact ih0 _ _ _ _ _ _ _
      | exact ih1 _ _ _ _ _ _ _ _
      | exact ih2 _ _ _ _ _ _ _ _
      | exact ih3 _ _ _ _ _ _ _ _ _
      | exact LeO.none _
      | refine LeO.ite ?_ ?_
      | refine LeO.bind ?_ (fun _ => ?_)
theorem clavierref03_body.mono : ∀ a0 a1 a2 a3 a4 a5 k, LeO (clavierref03_body.f k a0 a1 a2 a3 a4 a5) (clavierref03_body.f (k + 1) a0 a1 a2 a3 a4 a5) := by
  intro a0 a1 a2 a3 a4 a5 k
  obtain ⟨ih0, ih1, ih2, ih3⟩ := clavierref03_body.mono_l k
  unfold clavierref03_body.f
  repeat' first
      | (with_reducible exact ih0 _ _ _ _ _ _ _)
      | (with_reducible exact ih1 _ _ _ _ _ _ _ _)
      | (with_reducible exact ih2 _ _ _ _ _ _ _ _)
      | (with_reducible exact ih3 _ _ _ _ _ _ _ _ _)
      | (with_reducible exact LeO.refl _)
      | (with_reducible exact LeO.none _)
      | (with_reducible refine LeO.ite ?_ ?_)
      | (with_reducible refine LeO.bind ?_ (fun _ => ?_))
      | exact ih0 _ _ _ _ _ _ _
      | exact ih1 _ _ _ _ _ _ _ _
      | exact ih2 _ _ _ _ _ _ _ _
      | exact ih3 _ _ _ _ _ _ _ _ _
      | exact LeO.none _
      | refine LeO.ite ?_ ?_
      | refine LeO.bind ?_ (fun _ => ?_)
set_option maxHeartbeats 8000000 in
set_option maxRecDepth 100000 in
theorem clavierref03_body.calls (k : Nat) (a0_0 : Int) (a0_1 : Int) (A0_2 : Option Addr) (c0_2 : Nat) (l0_2 : List (List Int)) (a0_3 : ByteArray) (a0_4 : Int) (a0_5 : ByteArray) (r : ByteArray) (w : World) (hr0_2 : Kd.C (Kd.slice 3 (Kd.int .i64)) w A0_2 l0_2.length l0_2) (hc0_2 : l0_2.length ≤ c0_2) (h : clavierref03_body.f k a0_0 a0_1 l0_2 a0_3 a0_4 a0_5 = some r) :
    Calls Tryd.prog 53 #[.agg #[.int .i64 a0_0, .int .u8 a0_1, .slice A0_2 l0_2.length c0_2, .string a0_3, .int .u8 a0_4, .string a0_5]] w fun e w' => e = .returned (.string r) ∧ Below w.heap.size w w' := by
  have hu30 := Tryd.underlying30
  have HR0_2 := Aside0.mk hr0_2
  have HC0_2 := Aside0.mk hc0_2
  clear hr0_2 hc0_2
  have HB := Aside0.mk (Below.refl w.heap.size w)
  have H : (if a0_1 = 0 then (clavierref03_body.j0 k (⟨#[]⟩ : ByteArray) a0_0 a0_1 l0_2 a0_3 a0_4 a0_5) else (clavierref03_body.j0 k (strOfNums (([a0_1] : List Int))) a0_0 a0_1 l0_2 a0_3 a0_4 a0_5)) = some r := h
  clear h
  have HC2 := Aside0.mk H
  clear H
  go_enter Tryd.func53, Tryd.ntmps53
  go_upto_if 8 with (first | ((with_reducible refine gate_dst (N := 1) rfl ?_); refine box_event ?hg (N := 1) ?hd (cs := #[.int .i64 a0_0, .int .u8 a0_1, .slice A0_2 l0_2.length c0_2, .string a0_3, .int .u8 a0_4, .string a0_5]) (t := 30) ?hr ?_; (case hd => rfl); (case hg => rfl); (case hr => first | (go_simp; done) | (go_simp; rfl)); intro gb200 hg w3 hbox hb; have n0_ := Aside0.mk (below_step (by repeat (first | (with_reducible first | exact HB.out | apply below_alloc | apply pw_below_drewN | apply below_drew1) | exact HB.out)) hb); have n1_ := Aside0.mk (hbox); have n2_ := Aside0.mk ((by rw [hg]; exact (below_size (by repeat (first | (with_reducible first | exact HB.out | apply below_alloc | apply pw_below_drewN | apply below_drew1) | exact HB.out))) : w.heap.size ≤ gb200)); have n3_ := Aside0.mk ((by rw [hg]; exact (below_size (by repeat (first | (with_reducible first | exact HB.out | apply below_alloc | apply pw_below_drewN | apply below_drew1) | exact HB.out))) : w.heap.size ≤ gb200)); clear HB; have HB := n0_; have BK200 := n1_; have GW200 := n2_; have GE200 := n3_; clear n0_ n1_ n2_ n3_; clear hb hbox hg; have hcz4_0 : w3.cell? ⟨gb200, 0, none⟩ = some (.int .i64 a0_0) := (blk_cell BK200.out 0).trans rfl; have hcz4_1 : w3.cell? ⟨gb200, 1, none⟩ = some (.int .u8 a0_1) := (blk_cell BK200.out 1).trans rfl; have hcz4_2 : w3.cell? ⟨gb200, 2, none⟩ = some (.slice A0_2 l0_2.length c0_2) := (blk_cell BK200.out 2).trans rfl; have hcz4_3 : w3.cell? ⟨gb200, 3, none⟩ = some (.string a0_3) := (blk_cell BK200.out 3).trans rfl; have hcz4_4 : w3.cell? ⟨gb200, 4, none⟩ = some (.int .u8 a0_4) := (blk_cell BK200.out 4).trans rfl; have hcz4_5 : w3.cell? ⟨gb200, 5, none⟩ = some (.string a0_5) := (blk_cell BK200.out 5).trans rfl; have hfz4_0 := blk_frozen BK200.out 0; have hfz4_1 := blk_frozen BK200.out 1; have hfz4_2 := blk_frozen BK200.out 2; have hfz4_3 := blk_frozen BK200.out 3; have hfz4_4 := blk_frozen BK200.out 4; have hfz4_5 := blk_frozen BK200.out 5))
  (try simp only [Act.put, List.setIfInBounds_toArray, List.set_cons_zero, List.set_cons_succ])
  go_cut [3] (fun v3 wc => ∃ (kq : Nat) (x3_1 : ByteArray), v3 = .string x3_1 ∧ Aside0 (clavierref03_body.j0 kq x3_1 a0_0 a0_1 l0_2 a0_3 a0_4 a0_5 = some r) ∧ Aside0 (kq ≤ k) ∧ Aside0 (wc.heap[gb200]? = some (.cells #[.int .i64 a0_0, .int .u8 a0_1, (.slice A0_2 l0_2.length c0_2), .string a0_3, .int .u8 a0_4, .string a0_5] 30 (0, 0))) ∧ Aside0 (Below w.heap.size w wc))
  case first =>
    have H := HC2.out
    clear HC2
    by_cases c5 : a0_1 = 0
    · rw [if_pos c5] at H
      have c5b0 : (a0_1 == 0) = true := beq_iff_eq.mpr c5
      have c5b1 : (a0_1 != 0) = false := bne_eq_false_iff_eq.mpr c5
      clear c5
      (first | rw [c5b0] | (simp only [i64_w, i32_w]; rw [c5b0]) | skip)
      have H' := Aside0.mk H
      clear H
      go_wp2
      go_meet
      case rel => exact ⟨_, ((⟨#[]⟩ : ByteArray)), (by first | rfl | (simp; done) | (simp [*]; done)), H', ⟨by first | omega | exact Nat.le_refl _⟩, ⟨by (with_reducible repeat (first | refine blk_drewN ?_ _ | refine blk_drew ?_ | refine blk_alloc ?_ _)); exact BK200.out⟩, ⟨by repeat (first | (with_reducible first | exact HB.out | apply below_alloc | apply pw_below_drewN | apply below_drew1 | refine below_set ?_ GE200.out) | exact HB.out)⟩⟩
    · rw [if_neg c5] at H
      have c5b0 : (a0_1 == 0) = false := beq_eq_false_iff_ne.mpr c5
      have c5b1 : (a0_1 != 0) = true := bne_iff_ne.mpr c5
      (first | rw [c5b0] | (simp only [i64_w, i32_w]; rw [c5b0]) | skip)
      obtain ⟨y201, hy201⟩ : ∃ y_ : List Int, y_ = (([a0_1] : List Int)) := ⟨_, rfl⟩
      replace H : (clavierref03_body.j0 k (strOfNums y201) a0_0 a0_1 l0_2 a0_3 a0_4 a0_5) = some r := by first | (rw [hy201]; with_reducible exact H) | (have H2_ := (Option.bind_some _ _).symm.trans H; rw [hy201]; with_reducible exact H2_) | (have H2_ := (Option.bind_some _ _).symm.trans H; with_reducible exact H2_) | with_reducible exact H | (rw [hy201]; exact H) | exact H
      have Ny201 := Aside0.mk hy201
      clear hy201
      have H' := Aside0.mk H
      clear H
      have hcz6_0 : w3.cell? ⟨gb200, 0, none⟩ = some (.int .i64 a0_0) := (blk_cell BK200.out 0).trans rfl
      have hcz6_1 : w3.cell? ⟨gb200, 1, none⟩ = some (.int .u8 a0_1) := (blk_cell BK200.out 1).trans rfl
      have hcz6_2 : w3.cell? ⟨gb200, 2, none⟩ = some (.slice A0_2 l0_2.length c0_2) := (blk_cell BK200.out 2).trans rfl
      have hcz6_3 : w3.cell? ⟨gb200, 3, none⟩ = some (.string a0_3) := (blk_cell BK200.out 3).trans rfl
      have hcz6_4 : w3.cell? ⟨gb200, 4, none⟩ = some (.int .u8 a0_4) := (blk_cell BK200.out 4).trans rfl
      have hcz6_5 : w3.cell? ⟨gb200, 5, none⟩ = some (.string a0_5) := (blk_cell BK200.out 5).trans rfl
      have hfz6_0 := blk_frozen BK200.out 0
      have hfz6_1 := blk_frozen BK200.out 1
      have hfz6_2 := blk_frozen BK200.out 2
      have hfz6_3 := blk_frozen BK200.out 3
      have hfz6_4 := blk_frozen BK200.out 4
      have hfz6_5 := blk_frozen BK200.out 5
      go_wp2_with (first | ((with_reducible refine gate_dst (N := 11) rfl ?_); refine Kd.R_lit (Kd.int .u8) _ 5 ?hg (N := 11) ?hd (xs := ([a0_1] : List Int)) (inner := [.int .u8 a0_1]) (ok := fun _ => True) (okp := fun _ => True) ?hr ?hp (fun _ hk => hk) trivial (Below.refl _ _) (Nat.le_refl _) (by simp) ?_; (case hd => rfl); (case hg => rfl); (case hr => first | (go_simp; done) | (go_simp; rfl)); (case hp => exact (Reps.one (show Kd.M (Kd.int .u8) _ _ _ a0_1 [.int .u8 a0_1] from rfl) (Reps.none _ _))); intro v202 w7 ho8 hb hg_ hnew_; clear hg_ hnew_; (first | rw [← Ny201.out] at ho8 | (simp only [Int.reduceToNat] at ho8; rw [← Ny201.out] at ho8)); have n0_ := Aside0.mk (Kd.R_lower ho8 (below_size (by repeat (first | (with_reducible first | exact HB.out | apply below_alloc | apply pw_below_drewN | apply below_drew1 | refine below_set ?_ GE200.out) | exact HB.out)))); have n1_ := Aside0.mk (blk_below (g := gb200) (o := .cells #[.int .i64 a0_0, .int .u8 a0_1, .slice A0_2 l0_2.length c0_2, .string a0_3, .int .u8 a0_4, .string a0_5] 30 (0, 0)) (by (with_reducible repeat (first | refine blk_drewN ?_ _ | refine blk_drew ?_ | refine blk_alloc ?_ _)); exact BK200.out) hb); have n2_ := Aside0.mk (below_step (by repeat (first | (with_reducible first | exact HB.out | apply below_alloc | apply pw_below_drewN | apply below_drew1 | refine below_set ?_ GE200.out) | exact HB.out)) hb); clear BK200; clear HB; have HO203 := n0_; have BK200 := n1_; have HB := n2_; clear n0_ n1_ n2_; clear hb ho8; have hcv9 := own_string (P := Tryd.prog) Tryd.underlying48 Tryd.underlying5 Tryd.underlying9 (Kd.own_of_R HO203.out)))
      go_meet
      case rel => exact ⟨_, (strOfNums y201), (by first | rfl | (simp; done) | (simp [*]; done)), H', ⟨by first | omega | exact Nat.le_refl _⟩, ⟨by (with_reducible repeat (first | refine blk_drewN ?_ _ | refine blk_drew ?_ | refine blk_alloc ?_ _)); exact BK200.out⟩, ⟨by repeat (first | (with_reducible first | exact HB.out | apply below_alloc | apply pw_below_drewN | apply below_drew1 | refine below_set ?_ GE200.out) | exact HB.out)⟩⟩
  case rest =>
    clear HC2
    try clear p2
    try clear c5
    try clear c5b0
    try clear c5b1
    try clear hcv9
    try clear hcz4_0
    try clear hcz4_1
    try clear hcz4_2
    try clear hcz4_3
    try clear hcz4_4
    try clear hcz4_5
    try clear hcz6_0
    try clear hcz6_1
    try clear hcz6_2
    try clear hcz6_3
    try clear hcz6_4
    try clear hcz6_5
    try clear hfz4_0
    try clear hfz4_1
    try clear hfz4_2
    try clear hfz4_3
    try clear hfz4_4
    try clear hfz4_5
    try clear hfz6_0
    try clear hfz6_1
    try clear hfz6_2
    try clear hfz6_3
    try clear hfz6_4
    try clear hfz6_5
    obtain ⟨kq, x3_1, rfl, HA, HJ1, BK200, HB⟩ := hcut
    cases kq with
    | zero => exact absurd HA.out (by simp [clavierref03_body.j0])
    | succ kj1 =>
      have H := HA.out
      clear HA
      simp only [clavierref03_body.j0] at H
      have H' := Aside0.mk H
      clear H
      go_wp2
      go_loopg [3, 4] kj1 (fun kq v3 v4 w' => ∃ (x3_2 : ByteArray) (x4_2 : Int), v3 = .string x3_2 ∧ v4 = .int .i64 x4_2 ∧ Aside0 (clavierref03_body.l0 kq x3_2 x4_2 a0_0 a0_1 l0_2 a0_3 a0_4 a0_5 = some r) ∧ Aside0 (kq ≤ kj1) ∧ Aside0 (w'.heap[gb200]? = some (.cells #[.int .i64 a0_0, .int .u8 a0_1, (.slice A0_2 l0_2.length c0_2), .string a0_3, .int .u8 a0_4, .string a0_5] 30 (0, 0))) ∧ Aside0 (Below w.heap.size w w'))
      case atStart => exact ⟨(x3_1), (0), (by first | rfl | (simp; done) | (simp [*]; done)), (by first | rfl | (simp; done) | (simp [*]; done)), H', ⟨Nat.le_refl _⟩, ⟨by (with_reducible repeat (first | refine blk_drewN ?_ _ | refine blk_drew ?_ | refine blk_alloc ?_ _)); exact BK200.out⟩, ⟨by repeat (first | (with_reducible first | exact HB.out | apply below_alloc | apply pw_below_drewN | apply below_drew1 | refine below_set ?_ GE200.out) | exact HB.out)⟩⟩
      case round =>
        clear H'
        try clear p2
        try clear c5
        try clear c5b0
        try clear c5b1
        try clear hcv9
        try clear hcz4_0
        try clear hcz4_1
        try clear hcz4_2
        try clear hcz4_3
        try clear hcz4_4
        try clear hcz4_5
        try clear hcz6_0
        try clear hcz6_1
        try clear hcz6_2
        try clear hcz6_3
        try clear hcz6_4
        try clear hcz6_5
        try clear hfz4_0
        try clear hfz4_1
        try clear hfz4_2
        try clear hfz4_3
        try clear hfz4_4
        try clear hfz4_5
        try clear hfz6_0
        try clear hfz6_1
        try clear hfz6_2
        try clear hfz6_3
        try clear hfz6_4
        try clear hfz6_5
        try clear p2
        obtain ⟨x3_2, x4_2, rfl, rfl, HA, HK2, BK200, HB⟩ := hrel
        cases gk with
        | zero => exact absurd HA.out (by simp [clavierref03_body.l0])
        | succ k2 =>
          have H := HA.out
          clear HA
          simp only [clavierref03_body.l0] at H
          by_cases c10 : x4_2 < (l0_2.length : Int)
          · rw [if_pos c10] at H
            have c10b0 : decide (x4_2 < (l0_2.length : Int)) = true := decide_eq_true c10
            clear c10
            have HC11 := Aside0.mk H
            clear H
            have hcz12_0 : wr.cell? ⟨gb200, 0, none⟩ = some (.int .i64 a0_0) := (blk_cell BK200.out 0).trans rfl
            have hcz12_1 : wr.cell? ⟨gb200, 1, none⟩ = some (.int .u8 a0_1) := (blk_cell BK200.out 1).trans rfl
            have hcz12_2 : wr.cell? ⟨gb200, 2, none⟩ = some (.slice A0_2 l0_2.length c0_2) := (blk_cell BK200.out 2).trans rfl
            have hcz12_3 : wr.cell? ⟨gb200, 3, none⟩ = some (.string a0_3) := (blk_cell BK200.out 3).trans rfl
            have hcz12_4 : wr.cell? ⟨gb200, 4, none⟩ = some (.int .u8 a0_4) := (blk_cell BK200.out 4).trans rfl
            have hcz12_5 : wr.cell? ⟨gb200, 5, none⟩ = some (.string a0_5) := (blk_cell BK200.out 5).trans rfl
            have hfz12_0 := blk_frozen BK200.out 0
            have hfz12_1 := blk_frozen BK200.out 1
            have hfz12_2 := blk_frozen BK200.out 2
            have hfz12_3 := blk_frozen BK200.out 3
            have hfz12_4 := blk_frozen BK200.out 4
            have hfz12_5 := blk_frozen BK200.out 5
            go_upto_if 21 with (fail)
            go_cut [3] (fun v3 wc => ∃ (kq : Nat) (x3_10 : ByteArray), v3 = .string x3_10 ∧ Aside0 (clavierref03_body.j2 kq x3_10 x4_2 a0_0 a0_1 l0_2 a0_3 a0_4 a0_5 = some r) ∧ Aside0 (kq ≤ k2) ∧ Aside0 (wc.heap[gb200]? = some (.cells #[.int .i64 a0_0, .int .u8 a0_1, (.slice A0_2 l0_2.length c0_2), .string a0_3, .int .u8 a0_4, .string a0_5] 30 (0, 0))) ∧ Aside0 (Below w.heap.size w wc))
            case first =>
              have H := HC11.out
              clear HC11
              by_cases c13 : x4_2 > 0
              · rw [if_pos c13] at H
                have c13b0 : decide (0 < x4_2) = true := decide_eq_true c13
                clear c13
                (first | rw [c13b0] | (simp only [i64_w, i32_w]; rw [c13b0]) | skip)
                by_cases c14 : x3_2.size + 1 ≤ 9223372036854775807
                · rw [if_pos c14] at H
                  have c14b0 := eq_true c14
                  have c14b1 : decide (x3_2.size + 1 ≤ 9223372036854775807) = true := decide_eq_true c14
                  try have c14b2 : (9223372036854775807 < x3_2.size + 1) = False := eq_false (Nat.not_lt.2 c14)
                  have H' := Aside0.mk H
                  clear H
                  go_wp2
                  go_meet
                  case rel => exact ⟨_, (x3_2 ++ (⟨#[59]⟩ : ByteArray)), (by first | rfl | (simp; done) | (simp [*]; done)), H', ⟨by have := HJ1.out; have := HK2.out; first | omega | exact Nat.le_refl _⟩, ⟨by (with_reducible repeat (first | refine blk_drewN ?_ _ | refine blk_drew ?_ | refine blk_alloc ?_ _)); exact BK200.out⟩, ⟨by repeat (first | (with_reducible first | exact HB.out | apply below_alloc | apply pw_below_drewN | apply below_drew1 | refine below_set ?_ GE200.out) | exact HB.out)⟩⟩
                · rw [if_neg c14] at H
                  exact absurd H (by simp)
              · rw [if_neg c13] at H
                have c13b0 : decide (0 < x4_2) = false := decide_eq_false c13
                clear c13
                (first | rw [c13b0] | (simp only [i64_w, i32_w]; rw [c13b0]) | skip)
                have H' := Aside0.mk H
                clear H
                go_wp2
                go_meet
                case rel => exact ⟨_, (x3_2), (by first | rfl | (simp; done) | (simp [*]; done)), H', ⟨by have := HJ1.out; have := HK2.out; first | omega | exact Nat.le_refl _⟩, ⟨by (with_reducible repeat (first | refine blk_drewN ?_ _ | refine blk_drew ?_ | refine blk_alloc ?_ _)); exact BK200.out⟩, ⟨by repeat (first | (with_reducible first | exact HB.out | apply below_alloc | apply pw_below_drewN | apply below_drew1 | refine below_set ?_ GE200.out) | exact HB.out)⟩⟩
            case rest =>
              clear HC11
              try clear c1
              try clear p2
              try clear c5
              try clear c5b0
              try clear c5b1
              try clear hcv9
              try clear c10
              try clear c10b0
              try clear c13
              try clear c13b0
              try clear c14
              try clear c14b0
              try clear c14b1
              try clear c14b2
              try clear hcz12_0
              try clear hcz12_1
              try clear hcz12_2
              try clear hcz12_3
              try clear hcz12_4
              try clear hcz12_5
              try clear hcz4_0
              try clear hcz4_1
              try clear hcz4_2
              try clear hcz4_3
              try clear hcz4_4
              try clear hcz4_5
              try clear hcz6_0
              try clear hcz6_1
              try clear hcz6_2
              try clear hcz6_3
              try clear hcz6_4
              try clear hcz6_5
              try clear hfz12_0
              try clear hfz12_1
              try clear hfz12_2
              try clear hfz12_3
              try clear hfz12_4
              try clear hfz12_5
              try clear hfz4_0
              try clear hfz4_1
              try clear hfz4_2
              try clear hfz4_3
              try clear hfz4_4
              try clear hfz4_5
              try clear hfz6_0
              try clear hfz6_1
              try clear hfz6_2
              try clear hfz6_3
              try clear hfz6_4
              try clear hfz6_5
              try clear p2
              obtain ⟨kq, x3_10, rfl, HA, HJ10, BK200, HB⟩ := hcut
              cases kq with
              | zero => exact absurd HA.out (by simp [clavierref03_body.j2])
              | succ kj10 =>
                have H := HA.out
                clear HA
                simp only [clavierref03_body.j2] at H
                have H' := Aside0.mk H
                clear H
                go_wp2
                go_loopg [3, 5] kj10 (fun kq v3 v5 w' => ∃ (x3_4 : ByteArray) (x5_4 : Int), v3 = .string x3_4 ∧ v5 = .int .i64 x5_4 ∧ Aside0 (clavierref03_body.l1 kq x3_4 x4_2 x5_4 a0_0 a0_1 l0_2 a0_3 a0_4 a0_5 = some r) ∧ Aside0 (kq ≤ kj10) ∧ Aside0 (w'.heap[gb200]? = some (.cells #[.int .i64 a0_0, .int .u8 a0_1, (.slice A0_2 l0_2.length c0_2), .string a0_3, .int .u8 a0_4, .string a0_5] 30 (0, 0))) ∧ Aside0 (Below w.heap.size w w'))
                case atStart => exact ⟨(x3_10), (0), (by first | rfl | (simp; done) | (simp [*]; done)), (by first | rfl | (simp; done) | (simp [*]; done)), H', ⟨Nat.le_refl _⟩, ⟨by (with_reducible repeat (first | refine blk_drewN ?_ _ | refine blk_drew ?_ | refine blk_alloc ?_ _)); exact BK200.out⟩, ⟨by repeat (first | (with_reducible first | exact HB.out | apply below_alloc | apply pw_below_drewN | apply below_drew1 | refine below_set ?_ GE200.out) | exact HB.out)⟩⟩
                case round =>
                  clear H'
                  try clear c1
                  try clear p2
                  try clear c5
                  try clear c5b0
                  try clear c5b1
                  try clear hcv9
                  try clear c10
                  try clear c10b0
                  try clear c13
                  try clear c13b0
                  try clear c14
                  try clear c14b0
                  try clear c14b1
                  try clear c14b2
                  try clear hcz12_0
                  try clear hcz12_1
                  try clear hcz12_2
                  try clear hcz12_3
                  try clear hcz12_4
                  try clear hcz12_5
                  try clear hcz4_0
                  try clear hcz4_1
                  try clear hcz4_2
                  try clear hcz4_3
                  try clear hcz4_4
                  try clear hcz4_5
                  try clear hcz6_0
                  try clear hcz6_1
                  try clear hcz6_2
                  try clear hcz6_3
                  try clear hcz6_4
                  try clear hcz6_5
                  try clear hfz12_0
                  try clear hfz12_1
                  try clear hfz12_2
                  try clear hfz12_3
                  try clear hfz12_4
                  try clear hfz12_5
                  try clear hfz4_0
                  try clear hfz4_1
                  try clear hfz4_2
                  try clear hfz4_3
                  try clear hfz4_4
                  try clear hfz4_5
                  try clear hfz6_0
                  try clear hfz6_1
                  try clear hfz6_2
                  try clear hfz6_3
                  try clear hfz6_4
                  try clear hfz6_5
                  try clear p2
                  obtain ⟨x3_4, x5_4, rfl, rfl, HA, HK4, BK200, HB⟩ := hrel
                  cases gk with
                  | zero => exact absurd HA.out (by simp [clavierref03_body.l1])
                  | succ k4 =>
                    have H := HA.out
                    clear HA
                    simp only [clavierref03_body.l1] at H
                    by_cases c15 : 0 ≤ x4_2
                    · rw [if_pos c15] at H
                      have c15b0 : decide (0 ≤ x4_2) = true := decide_eq_true c15
                      clear c15
                      by_cases c16 : x4_2 < (l0_2.length : Int)
                      · rw [if_pos c16] at H
                        have c16b0 : decide (x4_2 < (l0_2.length : Int)) = true := decide_eq_true c16
                        clear c16
                        by_cases c17 : x5_4 < ((rd_L1 l0_2 x4_2).length : Int)
                        · rw [if_pos c17] at H
                          have c17b0 : decide (x5_4 < ((rd_L1 l0_2 x4_2).length : Int)) = true := decide_eq_true c17
                          clear c17
                          by_cases c18 : x5_4 > 0
                          · rw [if_pos c18] at H
                            have c18b0 : decide (0 < x5_4) = true := decide_eq_true c18
                            clear c18
                            by_cases c19 : x3_4.size + 1 ≤ 9223372036854775807
                            · rw [if_pos c19] at H
                              have c19b0 := eq_true c19
                              have c19b1 : decide (x3_4.size + 1 ≤ 9223372036854775807) = true := decide_eq_true c19
                              try have c19b2 : (9223372036854775807 < x3_4.size + 1) = False := eq_false (Nat.not_lt.2 c19)
                              by_cases c20 : 0 ≤ x5_4
                              · rw [if_pos c20] at H
                                have c20b0 : decide (0 ≤ x5_4) = true := decide_eq_true c20
                                clear c20
                                replace H := Option.bind_eq_some_iff.mp H
                                obtain ⟨t207, A210, H⟩ := H
                                replace H : (if (x3_4 ++ (⟨#[58]⟩ : ByteArray)).size + t207.size ≤ 9223372036854775807 then (clavierref03_body.l1 k4 ((x3_4 ++ (⟨#[58]⟩ : ByteArray)) ++ t207) x4_2 (wrap64 (x5_4 + 1)) a0_0 a0_1 l0_2 a0_3 a0_4 a0_5) else (none)) = some r := H
                                have A21 := Aside0.mk A210
                                clear A210
                                by_cases c22 : (x3_4 ++ (⟨#[58]⟩ : ByteArray)).size + t207.size ≤ 9223372036854775807
                                · rw [if_pos c22] at H
                                  have c22b0 := eq_true c22
                                  have c22b1 : decide ((x3_4 ++ (⟨#[58]⟩ : ByteArray)).size + t207.size ≤ 9223372036854775807) = true := decide_eq_true c22
                                  try (have c22s := c22; simp only [ByteArray.size_append, show (⟨#[58]⟩ : ByteArray).size = 1 from rfl] at c22s; have c22b3 := eq_true c22s)
                                  try (have c22t := c22; simp only [ByteArray.size_append, Nat.add_assoc] at c22t; have c22b4 := eq_true c22t)
                                  try have c22b2 : (9223372036854775807 < (x3_4 ++ (⟨#[58]⟩ : ByteArray)).size + t207.size) = False := eq_false (Nat.not_lt.2 c22)
                                  have H' := Aside0.mk H
                                  clear H
                                  have hcz23_0 : wr.cell? ⟨gb200, 0, none⟩ = some (.int .i64 a0_0) := (blk_cell BK200.out 0).trans rfl
                                  have hcz23_1 : wr.cell? ⟨gb200, 1, none⟩ = some (.int .u8 a0_1) := (blk_cell BK200.out 1).trans rfl
                                  have hcz23_2 : wr.cell? ⟨gb200, 2, none⟩ = some (.slice A0_2 l0_2.length c0_2) := (blk_cell BK200.out 2).trans rfl
                                  have hcz23_3 : wr.cell? ⟨gb200, 3, none⟩ = some (.string a0_3) := (blk_cell BK200.out 3).trans rfl
                                  have hcz23_4 : wr.cell? ⟨gb200, 4, none⟩ = some (.int .u8 a0_4) := (blk_cell BK200.out 4).trans rfl
                                  have hcz23_5 : wr.cell? ⟨gb200, 5, none⟩ = some (.string a0_5) := (blk_cell BK200.out 5).trans rfl
                                  have hfz23_0 := blk_frozen BK200.out 0
                                  have hfz23_1 := blk_frozen BK200.out 1
                                  have hfz23_2 := blk_frozen BK200.out 2
                                  have hfz23_3 := blk_frozen BK200.out 3
                                  have hfz23_4 := blk_frozen BK200.out 4
                                  have hfz23_5 := blk_frozen BK200.out 5
                                  have p204 : 0 ≤ (x4_2 : Int) := of_decide_eq_true (by first | (with_reducible assumption) | assumption)
                                  have q204 : x4_2 < (l0_2.length : Int) := of_decide_eq_true (by first | (with_reducible assumption) | assumption)
                                  obtain ⟨ad204, A204_0, c204_0, e204, hx204_0, hl204_0, hi204_0⟩ := at_L1 HR0_2.out x4_2 p204 q204
                                  cases e204
                                  replace hx204_0 := (HB.out.cell (World.block_lt_of_cell? w _ hx204_0)).trans hx204_0
                                  have HR204_0 := Aside0.mk hi204_0
                                  have HC204_0 := Aside0.mk hl204_0
                                  clear hi204_0 hl204_0
                                  replace p204 := eq_true p204
                                  replace q204 := eq_true q204
                                  have p205 : 0 ≤ (x4_2 : Int) := of_decide_eq_true (by first | (with_reducible assumption) | assumption)
                                  have q205 : x4_2 < (l0_2.length : Int) := of_decide_eq_true (by first | (with_reducible assumption) | assumption)
                                  obtain ⟨ad205, A205_0, c205_0, e205, hx205_0, hl205_0, hi205_0⟩ := at_L1 HR0_2.out x4_2 p205 q205
                                  obtain rfl : ad204 = ad205 := (by injection e205)
                                  replace hx205_0 := (HB.out.cell (World.block_lt_of_cell? w _ hx205_0)).trans hx205_0
                                  have HR205_0 := Aside0.mk hi205_0
                                  have HC205_0 := Aside0.mk hl205_0
                                  clear hi205_0 hl205_0
                                  replace p205 := eq_true p205
                                  replace q205 := eq_true q205
                                  have ea_ := Option.some.inj (hx204_0.symm.trans hx205_0)
                                  injection ea_ with ea_ en_ ec_
                                  subst ea_
                                  subst ec_
                                  clear en_
                                  have p206 : 0 ≤ (x5_4 : Int) := of_decide_eq_true (by first | (with_reducible assumption) | assumption)
                                  have q206 : x5_4 < ((rd_L1 l0_2 x4_2).length : Int) := of_decide_eq_true (by first | (with_reducible assumption) | assumption)
                                  obtain ⟨ad206, e206, hx206_0⟩ := Kd.at_int HR205_0.out x5_4 p206 q206
                                  cases e206
                                  replace hx206_0 := (HB.out.cell (World.block_lt_of_cell? w _ hx206_0)).trans hx206_0
                                  replace p206 := eq_true p206
                                  replace q206 := eq_true q206
                                  go_wp2_with (first | ((with_reducible refine gate_callee (f := 63) rfl ?_); refine goesL_ (some 47) rfl rfl Tryd.func63 (by kernel_rfl) rfl #[.int .i64 (rd (rd_L1 l0_2 x4_2) x5_4)] rfl (by (try simp only [List.map_toArray, List.map_cons, List.map_nil]); first | done | rfl | (simp only [List.length_drop, List.length_take]; rfl)) ?_; (with_reducible refine (clavierref01_Text.calls (rd (rd_L1 l0_2 x4_2) x5_4) t207 _ A21.out).mono ?_); rintro e w24 ⟨rfl, hb⟩; refine ⟨_, rfl, ?_⟩; have n0_ := Aside0.mk (blk_below (g := gb200) (o := .cells #[.int .i64 a0_0, .int .u8 a0_1, .slice (some ad204) l0_2.length c0_2, .string a0_3, .int .u8 a0_4, .string a0_5] 30 (0, 0)) (by (with_reducible repeat (first | refine blk_drewN ?_ _ | refine blk_drew ?_ | refine blk_alloc ?_ _)); exact BK200.out) hb); have n1_ := Aside0.mk (below_step (by repeat (first | (with_reducible first | exact HB.out | apply below_alloc | apply pw_below_drewN | apply below_drew1 | refine below_set ?_ GE200.out) | exact HB.out)) hb); clear BK200; clear HB; have BK200 := n0_; have HB := n1_; clear n0_ n1_; (try clear hb); (try clear hb2); (try clear hk); (try clear hi)))
                                  go_roundg k4
                                  case measure => have := HJ1.out; have := HK2.out; have := HJ10.out; have := HK4.out; omega
                                  case rel => exact ⟨((x3_4 ++ (⟨#[58]⟩ : ByteArray)) ++ t207), (wrap64 (x5_4 + 1)), (by first | rfl | (simp; done) | (simp [*]; done)), (by first | rfl | (simp; done) | (simp [*]; done)), H', ⟨by have := HJ1.out; have := HK2.out; have := HJ10.out; have := HK4.out; omega⟩, ⟨by (with_reducible repeat (first | refine blk_drewN ?_ _ | refine blk_drew ?_ | refine blk_alloc ?_ _)); exact BK200.out⟩, ⟨by repeat (first | (with_reducible first | exact HB.out | apply below_alloc | apply pw_below_drewN | apply below_drew1 | refine below_set ?_ GE200.out) | exact HB.out)⟩⟩
                                · rw [if_neg c22] at H
                                  exact absurd H (by simp)
                              · rw [if_neg c20] at H
                                exact absurd H (by simp)
                            · rw [if_neg c19] at H
                              exact absurd H (by simp)
                          · rw [if_neg c18] at H
                            have c18b0 : decide (0 < x5_4) = false := decide_eq_false c18
                            clear c18
                            by_cases c25 : 0 ≤ x5_4
                            · rw [if_pos c25] at H
                              have c25b0 : decide (0 ≤ x5_4) = true := decide_eq_true c25
                              clear c25
                              replace H := Option.bind_eq_some_iff.mp H
                              obtain ⟨t210, A260, H⟩ := H
                              replace H : (if x3_4.size + t210.size ≤ 9223372036854775807 then (clavierref03_body.l1 k4 (x3_4 ++ t210) x4_2 (wrap64 (x5_4 + 1)) a0_0 a0_1 l0_2 a0_3 a0_4 a0_5) else (none)) = some r := H
                              have A26 := Aside0.mk A260
                              clear A260
                              by_cases c27 : x3_4.size + t210.size ≤ 9223372036854775807
                              · rw [if_pos c27] at H
                                have c27b0 := eq_true c27
                                have c27b1 : decide (x3_4.size + t210.size ≤ 9223372036854775807) = true := decide_eq_true c27
                                try have c27b2 : (9223372036854775807 < x3_4.size + t210.size) = False := eq_false (Nat.not_lt.2 c27)
                                have H' := Aside0.mk H
                                clear H
                                have hcz28_0 : wr.cell? ⟨gb200, 0, none⟩ = some (.int .i64 a0_0) := (blk_cell BK200.out 0).trans rfl
                                have hcz28_1 : wr.cell? ⟨gb200, 1, none⟩ = some (.int .u8 a0_1) := (blk_cell BK200.out 1).trans rfl
                                have hcz28_2 : wr.cell? ⟨gb200, 2, none⟩ = some (.slice A0_2 l0_2.length c0_2) := (blk_cell BK200.out 2).trans rfl
                                have hcz28_3 : wr.cell? ⟨gb200, 3, none⟩ = some (.string a0_3) := (blk_cell BK200.out 3).trans rfl
                                have hcz28_4 : wr.cell? ⟨gb200, 4, none⟩ = some (.int .u8 a0_4) := (blk_cell BK200.out 4).trans rfl
                                have hcz28_5 : wr.cell? ⟨gb200, 5, none⟩ = some (.string a0_5) := (blk_cell BK200.out 5).trans rfl
                                have hfz28_0 := blk_frozen BK200.out 0
                                have hfz28_1 := blk_frozen BK200.out 1
                                have hfz28_2 := blk_frozen BK200.out 2
                                have hfz28_3 := blk_frozen BK200.out 3
                                have hfz28_4 := blk_frozen BK200.out 4
                                have hfz28_5 := blk_frozen BK200.out 5
                                have p204 : 0 ≤ (x4_2 : Int) := of_decide_eq_true (by first | (with_reducible assumption) | assumption)
                                have q204 : x4_2 < (l0_2.length : Int) := of_decide_eq_true (by first | (with_reducible assumption) | assumption)
                                obtain ⟨ad204, A204_0, c204_0, e204, hx204_0, hl204_0, hi204_0⟩ := at_L1 HR0_2.out x4_2 p204 q204
                                cases e204
                                replace hx204_0 := (HB.out.cell (World.block_lt_of_cell? w _ hx204_0)).trans hx204_0
                                have HR204_0 := Aside0.mk hi204_0
                                have HC204_0 := Aside0.mk hl204_0
                                clear hi204_0 hl204_0
                                replace p204 := eq_true p204
                                replace q204 := eq_true q204
                                have p208 : 0 ≤ (x4_2 : Int) := of_decide_eq_true (by first | (with_reducible assumption) | assumption)
                                have q208 : x4_2 < (l0_2.length : Int) := of_decide_eq_true (by first | (with_reducible assumption) | assumption)
                                obtain ⟨ad208, A208_0, c208_0, e208, hx208_0, hl208_0, hi208_0⟩ := at_L1 HR0_2.out x4_2 p208 q208
                                obtain rfl : ad204 = ad208 := (by injection e208)
                                replace hx208_0 := (HB.out.cell (World.block_lt_of_cell? w _ hx208_0)).trans hx208_0
                                have HR208_0 := Aside0.mk hi208_0
                                have HC208_0 := Aside0.mk hl208_0
                                clear hi208_0 hl208_0
                                replace p208 := eq_true p208
                                replace q208 := eq_true q208
                                have ea_ := Option.some.inj (hx204_0.symm.trans hx208_0)
                                injection ea_ with ea_ en_ ec_
                                subst ea_
                                subst ec_
                                clear en_
                                have p209 : 0 ≤ (x5_4 : Int) := of_decide_eq_true (by first | (with_reducible assumption) | assumption)
                                have q209 : x5_4 < ((rd_L1 l0_2 x4_2).length : Int) := of_decide_eq_true (by first | (with_reducible assumption) | assumption)
                                obtain ⟨ad209, e209, hx209_0⟩ := Kd.at_int HR208_0.out x5_4 p209 q209
                                cases e209
                                replace hx209_0 := (HB.out.cell (World.block_lt_of_cell? w _ hx209_0)).trans hx209_0
                                replace p209 := eq_true p209
                                replace q209 := eq_true q209
                                go_wp2_with (first | ((with_reducible refine gate_callee (f := 63) rfl ?_); refine goesL_ (some 47) rfl rfl Tryd.func63 (by kernel_rfl) rfl #[.int .i64 (rd (rd_L1 l0_2 x4_2) x5_4)] rfl (by (try simp only [List.map_toArray, List.map_cons, List.map_nil]); first | done | rfl | (simp only [List.length_drop, List.length_take]; rfl)) ?_; (with_reducible refine (clavierref01_Text.calls (rd (rd_L1 l0_2 x4_2) x5_4) t210 _ A26.out).mono ?_); rintro e w29 ⟨rfl, hb⟩; refine ⟨_, rfl, ?_⟩; have n0_ := Aside0.mk (blk_below (g := gb200) (o := .cells #[.int .i64 a0_0, .int .u8 a0_1, .slice (some ad204) l0_2.length c0_2, .string a0_3, .int .u8 a0_4, .string a0_5] 30 (0, 0)) (by (with_reducible repeat (first | refine blk_drewN ?_ _ | refine blk_drew ?_ | refine blk_alloc ?_ _)); exact BK200.out) hb); have n1_ := Aside0.mk (below_step (by repeat (first | (with_reducible first | exact HB.out | apply below_alloc | apply pw_below_drewN | apply below_drew1 | refine below_set ?_ GE200.out) | exact HB.out)) hb); clear BK200; clear HB; have BK200 := n0_; have HB := n1_; clear n0_ n1_; (try clear hb); (try clear hb2); (try clear hk); (try clear hi)))
                                go_roundg k4
                                case measure => have := HJ1.out; have := HK2.out; have := HJ10.out; have := HK4.out; omega
                                case rel => exact ⟨(x3_4 ++ t210), (wrap64 (x5_4 + 1)), (by first | rfl | (simp; done) | (simp [*]; done)), (by first | rfl | (simp; done) | (simp [*]; done)), H', ⟨by have := HJ1.out; have := HK2.out; have := HJ10.out; have := HK4.out; omega⟩, ⟨by (with_reducible repeat (first | refine blk_drewN ?_ _ | refine blk_drew ?_ | refine blk_alloc ?_ _)); exact BK200.out⟩, ⟨by repeat (first | (with_reducible first | exact HB.out | apply below_alloc | apply pw_below_drewN | apply below_drew1 | refine below_set ?_ GE200.out) | exact HB.out)⟩⟩
                              · rw [if_neg c27] at H
                                exact absurd H (by simp)
                            · rw [if_neg c25] at H
                              exact absurd H (by simp)
                        · rw [if_neg c17] at H
                          have c17b0 : decide (x5_4 < ((rd_L1 l0_2 x4_2).length : Int)) = false := decide_eq_false c17
                          clear c17
                          have H' := Aside0.mk H
                          clear H
                          have hcz30_0 : wr.cell? ⟨gb200, 0, none⟩ = some (.int .i64 a0_0) := (blk_cell BK200.out 0).trans rfl
                          have hcz30_1 : wr.cell? ⟨gb200, 1, none⟩ = some (.int .u8 a0_1) := (blk_cell BK200.out 1).trans rfl
                          have hcz30_2 : wr.cell? ⟨gb200, 2, none⟩ = some (.slice A0_2 l0_2.length c0_2) := (blk_cell BK200.out 2).trans rfl
                          have hcz30_3 : wr.cell? ⟨gb200, 3, none⟩ = some (.string a0_3) := (blk_cell BK200.out 3).trans rfl
                          have hcz30_4 : wr.cell? ⟨gb200, 4, none⟩ = some (.int .u8 a0_4) := (blk_cell BK200.out 4).trans rfl
                          have hcz30_5 : wr.cell? ⟨gb200, 5, none⟩ = some (.string a0_5) := (blk_cell BK200.out 5).trans rfl
                          have hfz30_0 := blk_frozen BK200.out 0
                          have hfz30_1 := blk_frozen BK200.out 1
                          have hfz30_2 := blk_frozen BK200.out 2
                          have hfz30_3 := blk_frozen BK200.out 3
                          have hfz30_4 := blk_frozen BK200.out 4
                          have hfz30_5 := blk_frozen BK200.out 5
                          have p204 : 0 ≤ (x4_2 : Int) := of_decide_eq_true (by first | (with_reducible assumption) | assumption)
                          have q204 : x4_2 < (l0_2.length : Int) := of_decide_eq_true (by first | (with_reducible assumption) | assumption)
                          obtain ⟨ad204, A204_0, c204_0, e204, hx204_0, hl204_0, hi204_0⟩ := at_L1 HR0_2.out x4_2 p204 q204
                          cases e204
                          replace hx204_0 := (HB.out.cell (World.block_lt_of_cell? w _ hx204_0)).trans hx204_0
                          have HR204_0 := Aside0.mk hi204_0
                          have HC204_0 := Aside0.mk hl204_0
                          clear hi204_0 hl204_0
                          replace p204 := eq_true p204
                          replace q204 := eq_true q204
                          go_wp2
                          go_roundg k4
                          case measure => have := HJ1.out; have := HK2.out; have := HJ10.out; have := HK4.out; omega
                          case rel => exact ⟨(x3_4), (wrap64 (x4_2 + 1)), (by first | rfl | (simp; done) | (simp [*]; done)), (by first | rfl | (simp; done) | (simp [*]; done)), H', ⟨by have := HJ1.out; have := HK2.out; have := HJ10.out; have := HK4.out; omega⟩, ⟨by (with_reducible repeat (first | refine blk_drewN ?_ _ | refine blk_drew ?_ | refine blk_alloc ?_ _)); exact BK200.out⟩, ⟨by repeat (first | (with_reducible first | exact HB.out | apply below_alloc | apply pw_below_drewN | apply below_drew1 | refine below_set ?_ GE200.out) | exact HB.out)⟩⟩
                      · rw [if_neg c16] at H
                        exact absurd H (by simp)
                    · rw [if_neg c15] at H
                      exact absurd H (by simp)
          · rw [if_neg c10] at H
            have c10b0 : decide (x4_2 < (l0_2.length : Int)) = false := decide_eq_false c10
            clear c10
            by_cases c31 : x3_2.size + a0_3.size ≤ 9223372036854775807
            · rw [if_pos c31] at H
              have c31b0 := eq_true c31
              have c31b1 : decide (x3_2.size + a0_3.size ≤ 9223372036854775807) = true := decide_eq_true c31
              try have c31b2 : (9223372036854775807 < x3_2.size + a0_3.size) = False := eq_false (Nat.not_lt.2 c31)
              obtain rfl := Option.some.inj H
              have hcz32_0 : wr.cell? ⟨gb200, 0, none⟩ = some (.int .i64 a0_0) := (blk_cell BK200.out 0).trans rfl
              have hcz32_1 : wr.cell? ⟨gb200, 1, none⟩ = some (.int .u8 a0_1) := (blk_cell BK200.out 1).trans rfl
              have hcz32_2 : wr.cell? ⟨gb200, 2, none⟩ = some (.slice A0_2 l0_2.length c0_2) := (blk_cell BK200.out 2).trans rfl
              have hcz32_3 : wr.cell? ⟨gb200, 3, none⟩ = some (.string a0_3) := (blk_cell BK200.out 3).trans rfl
              have hcz32_4 : wr.cell? ⟨gb200, 4, none⟩ = some (.int .u8 a0_4) := (blk_cell BK200.out 4).trans rfl
              have hcz32_5 : wr.cell? ⟨gb200, 5, none⟩ = some (.string a0_5) := (blk_cell BK200.out 5).trans rfl
              have hfz32_0 := blk_frozen BK200.out 0
              have hfz32_1 := blk_frozen BK200.out 1
              have hfz32_2 := blk_frozen BK200.out 2
              have hfz32_3 := blk_frozen BK200.out 3
              have hfz32_4 := blk_frozen BK200.out 4
              have hfz32_5 := blk_frozen BK200.out 5
              go_wp2
              go_ret
              exact ⟨by first | rfl | (simp [errW_none, errW_some] <;> rfl) | (simp [*, errW_none, errW_some] <;> rfl), by repeat (first | (with_reducible first | exact HB.out | apply below_alloc | apply pw_below_drewN | apply below_drew1 | refine below_set ?_ GE200.out) | exact HB.out)⟩
            · rw [if_neg c31] at H
              exact absurd H (by simp)
end Go.Proofs.YtopcleljecdkkaaDoor.G
end
