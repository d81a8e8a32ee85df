/- R: texts run together by shake.py: PuQ Gstylea GgstyleParams PuSd Gclavierref19b Ggclavierref19Setting Gwirea Greporta Greportb GgreportSetting PuRa. -/
import Derived.ArgAppend
import Derived.Below
import Derived.BigQuiet
import Derived.ChangeOld
import Derived.ChangeSlices
import Derived.Deep.AppendLies
import Derived.Deep.CutBlock
import Derived.Deep.DeepCutAuto
import Derived.Deep.Draws
import Derived.Deep.LoopGhost
import Derived.Deep.Matrix
import Derived.Deep.OwnRows
import Derived.Deep.Quiet
import Derived.Deep.QuietTactic
import Derived.Deep.RegionHeld3
import Derived.Ground.Names2Prog
import Derived.Ground.SlgnProg
import Derived.KernelRfl
import Derived.Laws.AppendOwn
import Derived.Laws.AppendOwnNone
import Derived.Laws.BitsLemmas
import Derived.Laws.BytesArg
import Derived.Laws.Concat
import Derived.Laws.CopyRow
import Derived.Laws.IdiomCopy
import Derived.Laws.IdiomStrings
import Derived.Laws.MakeOwn
import Derived.Laws.OwnMore
import Derived.Laws.Rows
import Derived.Laws.Slices
import Derived.Laws.StructEq
import Derived.Laws.Tables
import Derived.Lib.AppendIntMem
import Derived.Lib.AppendStr
import Derived.Lib.ConvBytes
import Derived.Lib.Hide
import Derived.Lib.ItoaLen
import Derived.Lib.ItoaNum
import Derived.Lib.Join
import Derived.Lib.LaidTab
import Derived.Lib.Strings
import Derived.MapKept
import Derived.Maps.AppendAt
import Derived.OpenShut
import Derived.Orders
import Derived.OrdersHeld
import Derived.Outline
import Derived.OwnWalk
import Derived.ProofKit
import Derived.RowKit
import Derived.RowKit3
import Derived.Shelf.LaysM
import Derived.Shelf.Slices.Clone
import Derived.Shelf.SlicesE.Clone
import Derived.Shelf.Strconv.Itoa0
import Derived.Shelf.Strconv.Itoa1
import Derived.Shelf.Strconv.Itoa2
import Derived.Shelf.Strconv.Itoa3
import Derived.Shelf.Strings.Builder1
import Derived.Shelf.Strings.Builder2
import Derived.Shelf.Strings.Builder2Cap
import Derived.Shelf.Strings.BuilderCap
import Derived.Shelf.Strings.BuilderF
import Derived.Shelf.Strings.BuilderK
import Derived.Shelf.Strings.OnBuilder
import Derived.ShutString
import Derived.SizedLaws
import Derived.Still
import Derived.Tactics
import Derived.Test.YtopcleljecdkkaaDoorProg
import Derived.WalkKit
import Derived.WalkLawsBesides
import Derived.WalkSpells
import Derived.WideLaws
import Derived.Test.YtopcleljecdkkaaDoorZR1
import Derived.Test.YtopcleljecdkkaaDoorZR2
import Derived.Test.YtopcleljecdkkaaDoorZR3
import Derived.Test.YtopcleljecdkkaaDoorZR4
import Derived.Test.YtopcleljecdkkaaDoorZR5
import Derived.Test.YtopcleljecdkkaaDoorZR7
import Derived.Test.YtopcleljecdkkaaDoorZR8
section
namespace Go.Proofs.YtopcleljecdkkaaDoor.G
set_option linter.unusedVariables false
set_option linter.unusedSimpArgs false
open Go.RowKit Go.Proofs.YtopcleljecdkkaaDoorW.PrintWords
theorem rd_int (l : List Int) (i : Nat) (h : i < l.length) : rd l (i : Int) = l[i] := by
  unfold rd
  simp [List.getD, h]
theorem rd_rowQ (l : List (List Int)) (i : Nat) (h : i < l.length) : rd_L1 l (i : Int) = l[i] := by
  unfold rd_L1
  simp [List.getD, h]
theorem drop_head {α : Type} (l : List α) (i : Nat) (h : i < l.length) : l.drop i = l[i] :: l.drop (i + 1) := List.drop_eq_getElem_cons h
theorem Ints_loop (a b : List Int) (hl : a.length = b.length) (ha : a.length ≤ 4611686018427387904) : ∀ d i k, i + d = a.length → d < k → clavierref02_Ints.l0 k a b (i : Int) = some (decide (a.drop i = b.drop i)) := by
  intro d
  induction d with
  | zero =>
    intro i k hi hk
    obtain ⟨k, rfl⟩ : ∃ m, k = m + 1 := ⟨k - 1, by omega⟩
    rw [clavierref02_Ints.l0, if_neg (by omega), List.drop_eq_nil_of_le (by omega), List.drop_eq_nil_of_le (by omega)]
    simp
  | succ d ih =>
    intro i k hi hk
    obtain ⟨k, rfl⟩ : ∃ m, k = m + 1 := ⟨k - 1, by omega⟩
    have hia : i < a.length := by omega
    have hib : i < b.length := by omega
    have hw : wrap64 ((i : Int) + 1) = ((i + 1 : Nat) : Int) := by unfold wrap64; omega
    rw [clavierref02_Ints.l0, if_pos (by omega), if_pos (by omega), if_pos (by omega), rd_int a i hia, rd_int b i hib, drop_head a i hia, drop_head b i hib]
    by_cases he : a[i] = b[i]
    · rw [if_pos he, hw, ih (i + 1) k (by omega) (by omega), he]
      simp only [List.cons.injEq, true_and]
    · rw [if_neg he]
      simp only [List.cons.injEq, he, false_and, decide_false]
theorem Ints_is (a b : List Int) (ha : a.length ≤ 4611686018427387904) (k : Nat) (hk : a.length < k) : clavierref02_Ints.f k a b = some (decide (a = b)) := by
  unfold clavierref02_Ints.f
  by_cases hl : a.length = b.length
  · rw [if_pos (by omega)]
    have := Ints_loop a b hl ha a.length 0 k (by omega) hk
    simpa using this
  · rw [if_neg (by omega)]
    have : a ≠ b := fun h => hl (by rw [h])
    simp [this]
def wide (l : List (List Int)) (m : Nat) : Prop := ∀ r ∈ l, r.length ≤ m
theorem Same_loop (k1 k2 : Int) (a b : List (List Int)) (x1 x2 x3 y1 y2 y3 : ByteArray) (p1 p2 q1 q2 f1 f2 : Int) (m : Nat) (hm : m ≤ 4611686018427387904) (hw : wide a m) (hl : a.length = b.length) (ha : a.length ≤ 4611686018427387904) : ∀ d i k, i + d = a.length → d + m + 1 < k →
    clavierref03_Same.l0 k (i : Int) k1 p1 a x1 f1 x2 k2 p2 b y1 f2 y2 = some (decide (a.drop i = b.drop i)) := by
  intro d
  induction d with
  | zero =>
    intro i k hi hk
    obtain ⟨k, rfl⟩ : ∃ m, k = m + 1 := ⟨k - 1, by omega⟩
    rw [clavierref03_Same.l0, if_neg (by omega), List.drop_eq_nil_of_le (by omega), List.drop_eq_nil_of_le (by omega)]
    simp
  | succ d ih =>
    intro i k hi hk
    obtain ⟨k, rfl⟩ : ∃ m, k = m + 1 := ⟨k - 1, by omega⟩
    have hia : i < a.length := by omega
    have hib : i < b.length := by omega
    have hwi : wrap64 ((i : Int) + 1) = ((i + 1 : Nat) : Int) := by unfold wrap64; omega
    have hr := hw _ (List.getElem_mem hia)
    rw [clavierref03_Same.l0, if_pos (by omega), if_pos (by omega), if_pos (by omega), rd_rowQ a i hia, rd_rowQ b i hib, Ints_is _ _ (by omega) k (by omega), Option.bind_some, drop_head a i hia, drop_head b i hib]
    by_cases he : a[i] = b[i]
    · rw [if_pos (by simp [he]), hwi, ih (i + 1) k (by omega) (by omega), he]
      simp only [List.cons.injEq, true_and]
    · rw [if_neg (by simp [he])]
      simp only [List.cons.injEq, he, false_and, decide_false]
theorem bytes_eq (a b : ByteArray) : (a.toList = b.toList) = (a = b) := by
  rw [Lib.toList_data, Lib.toList_data, eq_iff_iff]
  constructor
  · intro h
    cases a; cases b
    simp only [ByteArray.mk.injEq]
    exact Array.ext' h
  · intro h; rw [h]
theorem Same_is (k1 p1 f1 k2 p2 f2 : Int) (a b : List (List Int)) (i1 d1 i2 d2 : ByteArray) (m : Nat) (hm : m ≤ 4611686018427387904) (hw : wide a m) (ha : a.length ≤ 4611686018427387904) (hb : b.length ≤ 4611686018427387904) (k : Nat) (hk : a.length + m + 3 ≤ k) :
    clavierref03_Same.f k k1 p1 a i1 f1 d1 k2 p2 b i2 f2 d2 = some (decide (k1 = k2 ∧ p1 = p2 ∧ i1 = i2 ∧ f1 = f2 ∧ d1 = d2 ∧ a = b)) := by
  obtain ⟨k, rfl⟩ : ∃ m, k = m + 1 := ⟨k - 1, by omega⟩
  have hj : ∀ c : Bool, c = true → clavierref03_Same.j0 (k + 1) c k1 p1 a i1 f1 d1 k2 p2 b i2 f2 d2 = some false := by
    intro c hc; rw [clavierref03_Same.j0, if_pos hc]
  unfold clavierref03_Same.f
  by_cases h1 : k1 = k2
  · rw [if_pos h1]
    by_cases h2 : p1 = p2
    · rw [if_pos h2]
      by_cases h3 : i1 = i2
      · rw [if_pos (by rw [bytes_eq]; exact h3)]
        by_cases h4 : f1 = f2
        · rw [if_pos h4]
          by_cases h5 : d1 = d2
          · rw [if_pos (by rw [bytes_eq]; exact h5)]
            by_cases hl : a.length = b.length
            · rw [clavierref03_Same.j0, if_neg (by simp [hl])]
              have := Same_loop k1 k2 a b i1 d1 d1 i2 d2 d2 p1 p2 0 0 f1 f2 m hm hw hl ha a.length 0 k (by omega) (by omega)
              rw [show (0 : Int) = ((0 : Nat) : Int) from rfl, this]
              simp [h1, h2, h3, h4, h5]
            · rw [hj _ (by simp; omega)]
              have : a ≠ b := fun h => hl (by rw [h])
              simp [this]
          · rw [if_neg (by rw [bytes_eq]; exact h5), hj _ rfl]
            simp [h5]
        · rw [if_neg h4, hj _ rfl]
          simp [h4]
      · rw [if_neg (by rw [bytes_eq]; exact h3), hj _ rfl]
        simp [h3]
    · rw [if_neg h2, hj _ rfl]
      simp [h2]
  · rw [if_neg h1, hj _ rfl]
    simp [h1]
end Go.Proofs.YtopcleljecdkkaaDoor.G
end
section
namespace Go.Proofs.YtopcleljecdkkaaDoor.G
open Go.RowKit Go.Proofs.YtopcleljecdkkaaDoorW.PrintWords Go.Proofs.YtopcleljecdkkaaDoorW.PrintLast Go.Proofs.YtopcleljecdkkaaDoorW.PrintMore
attribute [local go_sem] max2_int min2_int max_two min_two max_three min_three max_four min_four
set_option linter.unusedVariables false
set_option linter.unusedSimpArgs false
def style_May_1.f (a0 : Int) : Option (Bool) := if a0 ≥ (-1) then (some (decide (a0 < 16777472))) else (some false)
set_option maxHeartbeats 8000000 in
set_option maxRecDepth 100000 in
theorem style_May_1.calls (a0 : Int) (r : Bool) (w : World) (h : style_May_1.f a0 = some r) :
    Calls Tryd.prog 59 #[.int .i64 a0] w fun e w' => e = .returned (.bool r) ∧ Drawn0 w w' := by
  have H : (if a0 ≥ (-1) then (some (decide (a0 < 16777472))) else (some false)) = some r := h
  clear h
  by_cases c2 : a0 ≥ (-1)
  · rw [if_pos c2] at H
    have c2b0 : decide ((-1) ≤ a0) = true := decide_eq_true c2
    clear c2
    obtain rfl := Option.some.inj H
    go_enter Tryd.func59, Tryd.ntmps59
    go_wp2
    go_ret
    exact ⟨by first | rfl | (simp; done) | (simp [*]; done), by repeat (first | exact Drawn0.refl _ | apply Drawn0.step)⟩
  · rw [if_neg c2] at H
    have c2b0 : decide ((-1) ≤ a0) = false := decide_eq_false c2
    clear c2
    obtain rfl := Option.some.inj H
    go_enter Tryd.func59, Tryd.ntmps59
    go_wp2
    go_ret
    exact ⟨by first | rfl | (simp; done) | (simp [*]; done), by repeat (first | exact Drawn0.refl _ | apply Drawn0.step)⟩
def style_May.f (a0_0 : Bool) (a0_1 : Bool) (a0_2 : Bool) (a0_3 : Bool) (a0_4 : Bool) (a0_5 : Bool) (a0_6 : Bool) (a0_7 : Int) (a0_8 : Int) (a0_9 : Int) : Option (Bool) := if a0_7 ≥ 0 then (if a0_7 ≤ 5 then ((style_May_1.f a0_8).bind fun t150 => (if t150 = true then ((style_May_1.f a0_9).bind fun t151 => (some t151)) else (some false))) else (some false)) else (some false)
set_option maxHeartbeats 8000000 in
set_option maxRecDepth 100000 in
theorem style_May.calls (a0_0 : Bool) (a0_1 : Bool) (a0_2 : Bool) (a0_3 : Bool) (a0_4 : Bool) (a0_5 : Bool) (a0_6 : Bool) (a0_7 : Int) (a0_8 : Int) (a0_9 : Int) (r : Bool) (w : World) (h : style_May.f a0_0 a0_1 a0_2 a0_3 a0_4 a0_5 a0_6 a0_7 a0_8 a0_9 = some r) :
    Calls Tryd.prog 42 #[.agg #[.bool a0_0, .bool a0_1, .bool a0_2, .bool a0_3, .bool a0_4, .bool a0_5, .bool a0_6, .int .i64 a0_7, .int .i64 a0_8, .int .i64 a0_9]] w fun e w' => e = .returned (.bool r) ∧ Below w.heap.size w w' := by
  have hu23 := Tryd.underlying23
  have HB := Aside0.mk (Below.refl w.heap.size w)
  have H : (if a0_7 ≥ 0 then (if a0_7 ≤ 5 then ((style_May_1.f a0_8).bind fun t150 => (if t150 = true then ((style_May_1.f a0_9).bind fun t151 => (some t151)) else (some false))) else (some false)) else (some false)) = some r := h
  clear h
  by_cases c2 : a0_7 ≥ 0
  · rw [if_pos c2] at H
    have c2b0 : decide (0 ≤ a0_7) = true := decide_eq_true c2
    clear c2
    by_cases c3 : a0_7 ≤ 5
    · rw [if_pos c3] at H
      have c3b0 : decide (a0_7 ≤ 5) = true := decide_eq_true c3
      clear c3
      replace H := Option.bind_eq_some_iff.mp H
      obtain ⟨t150, A40, H⟩ := H
      replace H : (if t150 = true then ((style_May_1.f a0_9).bind fun t151 => (some t151)) else (some false)) = some r := H
      have A4 := Aside0.mk A40
      clear A40
      by_cases c5 : t150 = true
      · subst c5
        have H1 : ((style_May_1.f a0_9).bind fun t151 => (some t151)) = some r := by rw [if_pos rfl] at H; exact H
        clear H
        have H := H1
        clear H1
        replace H := Option.bind_eq_some_iff.mp H
        obtain ⟨t151, A60, H⟩ := H
        replace H : (some t151) = some r := H
        have A6 := Aside0.mk A60
        clear A60
        obtain rfl := Option.some.inj H
        go_enter Tryd.func42, Tryd.ntmps42
        go_wp2_with (first | ((with_reducible refine gate_dst (N := 1) rfl ?_); refine box_event ?hg (N := 1) ?hd (cs := #[.bool a0_0, .bool a0_1, .bool a0_2, .bool a0_3, .bool a0_4, .bool a0_5, .bool a0_6, .int .i64 a0_7, .int .i64 a0_8, .int .i64 a0_9]) (t := 23) ?hr ?_; (case hd => rfl); (case hg => rfl); (case hr => first | (go_simp; done) | (go_simp; rfl)); intro gb149 hg w7 hbox hb; have n0_ := Aside0.mk (below_step (by repeat (first | (with_reducible first | exact HB.out | apply la1 | apply ln1 | apply ld1) | exact HB.out)) hb); have n1_ := Aside0.mk (hbox); have n2_ := Aside0.mk ((by rw [hg]; exact (below_size (by repeat (first | (with_reducible first | exact HB.out | apply la1 | apply ln1 | apply ld1) | exact HB.out))) : w.heap.size ≤ gb149)); have n3_ := Aside0.mk ((by rw [hg]; exact (below_size (by repeat (first | (with_reducible first | exact HB.out | apply la1 | apply ln1 | apply ld1) | exact HB.out))) : w.heap.size ≤ gb149)); clear HB; have HB := n0_; have BK149 := n1_; have GW149 := n2_; have GE149 := n3_; clear n0_ n1_ n2_ n3_; clear hb hbox hg; have hcz8_0 : w7.cell? ⟨gb149, 0, none⟩ = some (.bool a0_0) := (bc1 BK149.out 0).trans rfl; have hcz8_1 : w7.cell? ⟨gb149, 1, none⟩ = some (.bool a0_1) := (bc1 BK149.out 1).trans rfl; have hcz8_2 : w7.cell? ⟨gb149, 2, none⟩ = some (.bool a0_2) := (bc1 BK149.out 2).trans rfl; have hcz8_3 : w7.cell? ⟨gb149, 3, none⟩ = some (.bool a0_3) := (bc1 BK149.out 3).trans rfl; have hcz8_4 : w7.cell? ⟨gb149, 4, none⟩ = some (.bool a0_4) := (bc1 BK149.out 4).trans rfl; have hcz8_5 : w7.cell? ⟨gb149, 5, none⟩ = some (.bool a0_5) := (bc1 BK149.out 5).trans rfl; have hcz8_6 : w7.cell? ⟨gb149, 6, none⟩ = some (.bool a0_6) := (bc1 BK149.out 6).trans rfl; have hcz8_7 : w7.cell? ⟨gb149, 7, none⟩ = some (.int .i64 a0_7) := (bc1 BK149.out 7).trans rfl; have hcz8_8 : w7.cell? ⟨gb149, 8, none⟩ = some (.int .i64 a0_8) := (bc1 BK149.out 8).trans rfl; have hcz8_9 : w7.cell? ⟨gb149, 9, none⟩ = some (.int .i64 a0_9) := (bc1 BK149.out 9).trans rfl; have hfz8_0 := bz1 BK149.out 0; have hfz8_1 := bz1 BK149.out 1; have hfz8_2 := bz1 BK149.out 2; have hfz8_3 := bz1 BK149.out 3; have hfz8_4 := bz1 BK149.out 4; have hfz8_5 := bz1 BK149.out 5; have hfz8_6 := bz1 BK149.out 6; have hfz8_7 := bz1 BK149.out 7; have hfz8_8 := bz1 BK149.out 8; have hfz8_9 := bz1 BK149.out 9) | (go_at_call 59; refine calls_of_args (args' := #[.int .i64 a0_8]) (by first | rfl | (simp only [List.length_drop, List.length_take]; done) | (simp only [List.length_drop, List.length_take]; rfl)) ?_; (with_reducible refine (style_May_1.calls a0_8 true _ A4.out).mono ?_); rintro e w' ⟨rfl, ⟨nd, rfl⟩⟩) | (go_at_call 59; refine calls_of_args (args' := #[.int .i64 a0_9]) (by first | rfl | (simp only [List.length_drop, List.length_take]; done) | (simp only [List.length_drop, List.length_take]; rfl)) ?_; (with_reducible refine (style_May_1.calls a0_9 t151 _ A6.out).mono ?_); rintro e w' ⟨rfl, ⟨nd, rfl⟩⟩))
        go_ret
        exact ⟨by first | rfl | (simp [errW_none, errW_some] <;> rfl) | (simp [*, errW_none, errW_some] <;> rfl), by repeat (first | (with_reducible first | exact HB.out | apply la1 | apply ln1 | apply ld1 | refine ls1 ?_ GE149.out) | exact HB.out)⟩
      · replace c5 := Bool.eq_false_iff.mpr c5
        subst c5
        have H1 : (some false) = some r := by rw [if_neg (show ¬ (false = true) by decide)] at H; exact H
        clear H
        have H := H1
        clear H1
        obtain rfl := Option.some.inj H
        go_enter Tryd.func42, Tryd.ntmps42
        go_wp2_with (first | ((with_reducible refine gate_dst (N := 1) rfl ?_); refine box_event ?hg (N := 1) ?hd (cs := #[.bool a0_0, .bool a0_1, .bool a0_2, .bool a0_3, .bool a0_4, .bool a0_5, .bool a0_6, .int .i64 a0_7, .int .i64 a0_8, .int .i64 a0_9]) (t := 23) ?hr ?_; (case hd => rfl); (case hg => rfl); (case hr => first | (go_simp; done) | (go_simp; rfl)); intro gb149 hg w9 hbox hb; have n0_ := Aside0.mk (below_step (by repeat (first | (with_reducible first | exact HB.out | apply la1 | apply ln1 | apply ld1) | exact HB.out)) hb); have n1_ := Aside0.mk (hbox); have n2_ := Aside0.mk ((by rw [hg]; exact (below_size (by repeat (first | (with_reducible first | exact HB.out | apply la1 | apply ln1 | apply ld1) | exact HB.out))) : w.heap.size ≤ gb149)); have n3_ := Aside0.mk ((by rw [hg]; exact (below_size (by repeat (first | (with_reducible first | exact HB.out | apply la1 | apply ln1 | apply ld1) | exact HB.out))) : w.heap.size ≤ gb149)); clear HB; have HB := n0_; have BK149 := n1_; have GW149 := n2_; have GE149 := n3_; clear n0_ n1_ n2_ n3_; clear hb hbox hg; have hcz10_0 : w9.cell? ⟨gb149, 0, none⟩ = some (.bool a0_0) := (bc1 BK149.out 0).trans rfl; have hcz10_1 : w9.cell? ⟨gb149, 1, none⟩ = some (.bool a0_1) := (bc1 BK149.out 1).trans rfl; have hcz10_2 : w9.cell? ⟨gb149, 2, none⟩ = some (.bool a0_2) := (bc1 BK149.out 2).trans rfl; have hcz10_3 : w9.cell? ⟨gb149, 3, none⟩ = some (.bool a0_3) := (bc1 BK149.out 3).trans rfl; have hcz10_4 : w9.cell? ⟨gb149, 4, none⟩ = some (.bool a0_4) := (bc1 BK149.out 4).trans rfl; have hcz10_5 : w9.cell? ⟨gb149, 5, none⟩ = some (.bool a0_5) := (bc1 BK149.out 5).trans rfl; have hcz10_6 : w9.cell? ⟨gb149, 6, none⟩ = some (.bool a0_6) := (bc1 BK149.out 6).trans rfl; have hcz10_7 : w9.cell? ⟨gb149, 7, none⟩ = some (.int .i64 a0_7) := (bc1 BK149.out 7).trans rfl; have hcz10_8 : w9.cell? ⟨gb149, 8, none⟩ = some (.int .i64 a0_8) := (bc1 BK149.out 8).trans rfl; have hcz10_9 : w9.cell? ⟨gb149, 9, none⟩ = some (.int .i64 a0_9) := (bc1 BK149.out 9).trans rfl; have hfz10_0 := bz1 BK149.out 0; have hfz10_1 := bz1 BK149.out 1; have hfz10_2 := bz1 BK149.out 2; have hfz10_3 := bz1 BK149.out 3; have hfz10_4 := bz1 BK149.out 4; have hfz10_5 := bz1 BK149.out 5; have hfz10_6 := bz1 BK149.out 6; have hfz10_7 := bz1 BK149.out 7; have hfz10_8 := bz1 BK149.out 8; have hfz10_9 := bz1 BK149.out 9) | (go_at_call 59; refine calls_of_args (args' := #[.int .i64 a0_8]) (by first | rfl | (simp only [List.length_drop, List.length_take]; done) | (simp only [List.length_drop, List.length_take]; rfl)) ?_; (with_reducible refine (style_May_1.calls a0_8 false _ A4.out).mono ?_); rintro e w' ⟨rfl, ⟨nd, rfl⟩⟩))
        go_ret
        exact ⟨by first | rfl | (simp [errW_none, errW_some] <;> rfl) | (simp [*, errW_none, errW_some] <;> rfl), by repeat (first | (with_reducible first | exact HB.out | apply la1 | apply ln1 | apply ld1 | refine ls1 ?_ GE149.out) | exact HB.out)⟩
    · rw [if_neg c3] at H
      have c3b0 : decide (a0_7 ≤ 5) = false := decide_eq_false c3
      clear c3
      obtain rfl := Option.some.inj H
      go_enter Tryd.func42, Tryd.ntmps42
      go_wp2_with (first | ((with_reducible refine gate_dst (N := 1) rfl ?_); refine box_event ?hg (N := 1) ?hd (cs := #[.bool a0_0, .bool a0_1, .bool a0_2, .bool a0_3, .bool a0_4, .bool a0_5, .bool a0_6, .int .i64 a0_7, .int .i64 a0_8, .int .i64 a0_9]) (t := 23) ?hr ?_; (case hd => rfl); (case hg => rfl); (case hr => first | (go_simp; done) | (go_simp; rfl)); intro gb149 hg w11 hbox hb; have n0_ := Aside0.mk (below_step (by repeat (first | (with_reducible first | exact HB.out | apply la1 | apply ln1 | apply ld1) | exact HB.out)) hb); have n1_ := Aside0.mk (hbox); have n2_ := Aside0.mk ((by rw [hg]; exact (below_size (by repeat (first | (with_reducible first | exact HB.out | apply la1 | apply ln1 | apply ld1) | exact HB.out))) : w.heap.size ≤ gb149)); have n3_ := Aside0.mk ((by rw [hg]; exact (below_size (by repeat (first | (with_reducible first | exact HB.out | apply la1 | apply ln1 | apply ld1) | exact HB.out))) : w.heap.size ≤ gb149)); clear HB; have HB := n0_; have BK149 := n1_; have GW149 := n2_; have GE149 := n3_; clear n0_ n1_ n2_ n3_; clear hb hbox hg; have hcz12_0 : w11.cell? ⟨gb149, 0, none⟩ = some (.bool a0_0) := (bc1 BK149.out 0).trans rfl; have hcz12_1 : w11.cell? ⟨gb149, 1, none⟩ = some (.bool a0_1) := (bc1 BK149.out 1).trans rfl; have hcz12_2 : w11.cell? ⟨gb149, 2, none⟩ = some (.bool a0_2) := (bc1 BK149.out 2).trans rfl; have hcz12_3 : w11.cell? ⟨gb149, 3, none⟩ = some (.bool a0_3) := (bc1 BK149.out 3).trans rfl; have hcz12_4 : w11.cell? ⟨gb149, 4, none⟩ = some (.bool a0_4) := (bc1 BK149.out 4).trans rfl; have hcz12_5 : w11.cell? ⟨gb149, 5, none⟩ = some (.bool a0_5) := (bc1 BK149.out 5).trans rfl; have hcz12_6 : w11.cell? ⟨gb149, 6, none⟩ = some (.bool a0_6) := (bc1 BK149.out 6).trans rfl; have hcz12_7 : w11.cell? ⟨gb149, 7, none⟩ = some (.int .i64 a0_7) := (bc1 BK149.out 7).trans rfl; have hcz12_8 : w11.cell? ⟨gb149, 8, none⟩ = some (.int .i64 a0_8) := (bc1 BK149.out 8).trans rfl; have hcz12_9 : w11.cell? ⟨gb149, 9, none⟩ = some (.int .i64 a0_9) := (bc1 BK149.out 9).trans rfl; have hfz12_0 := bz1 BK149.out 0; have hfz12_1 := bz1 BK149.out 1; have hfz12_2 := bz1 BK149.out 2; have hfz12_3 := bz1 BK149.out 3; have hfz12_4 := bz1 BK149.out 4; have hfz12_5 := bz1 BK149.out 5; have hfz12_6 := bz1 BK149.out 6; have hfz12_7 := bz1 BK149.out 7; have hfz12_8 := bz1 BK149.out 8; have hfz12_9 := bz1 BK149.out 9))
      go_ret
      exact ⟨by first | rfl | (simp [errW_none, errW_some] <;> rfl) | (simp [*, errW_none, errW_some] <;> rfl), by repeat (first | (with_reducible first | exact HB.out | apply la1 | apply ln1 | apply ld1 | refine ls1 ?_ GE149.out) | exact HB.out)⟩
  · rw [if_neg c2] at H
    have c2b0 : decide (0 ≤ a0_7) = false := decide_eq_false c2
    clear c2
    obtain rfl := Option.some.inj H
    go_enter Tryd.func42, Tryd.ntmps42
    go_wp2_with (first | ((with_reducible refine gate_dst (N := 1) rfl ?_); refine box_event ?hg (N := 1) ?hd (cs := #[.bool a0_0, .bool a0_1, .bool a0_2, .bool a0_3, .bool a0_4, .bool a0_5, .bool a0_6, .int .i64 a0_7, .int .i64 a0_8, .int .i64 a0_9]) (t := 23) ?hr ?_; (case hd => rfl); (case hg => rfl); (case hr => first | (go_simp; done) | (go_simp; rfl)); intro gb149 hg w13 hbox hb; have n0_ := Aside0.mk (below_step (by repeat (first | (with_reducible first | exact HB.out | apply la1 | apply ln1 | apply ld1) | exact HB.out)) hb); have n1_ := Aside0.mk (hbox); have n2_ := Aside0.mk ((by rw [hg]; exact (below_size (by repeat (first | (with_reducible first | exact HB.out | apply la1 | apply ln1 | apply ld1) | exact HB.out))) : w.heap.size ≤ gb149)); have n3_ := Aside0.mk ((by rw [hg]; exact (below_size (by repeat (first | (with_reducible first | exact HB.out | apply la1 | apply ln1 | apply ld1) | exact HB.out))) : w.heap.size ≤ gb149)); clear HB; have HB := n0_; have BK149 := n1_; have GW149 := n2_; have GE149 := n3_; clear n0_ n1_ n2_ n3_; clear hb hbox hg; have hcz14_0 : w13.cell? ⟨gb149, 0, none⟩ = some (.bool a0_0) := (bc1 BK149.out 0).trans rfl; have hcz14_1 : w13.cell? ⟨gb149, 1, none⟩ = some (.bool a0_1) := (bc1 BK149.out 1).trans rfl; have hcz14_2 : w13.cell? ⟨gb149, 2, none⟩ = some (.bool a0_2) := (bc1 BK149.out 2).trans rfl; have hcz14_3 : w13.cell? ⟨gb149, 3, none⟩ = some (.bool a0_3) := (bc1 BK149.out 3).trans rfl; have hcz14_4 : w13.cell? ⟨gb149, 4, none⟩ = some (.bool a0_4) := (bc1 BK149.out 4).trans rfl; have hcz14_5 : w13.cell? ⟨gb149, 5, none⟩ = some (.bool a0_5) := (bc1 BK149.out 5).trans rfl; have hcz14_6 : w13.cell? ⟨gb149, 6, none⟩ = some (.bool a0_6) := (bc1 BK149.out 6).trans rfl; have hcz14_7 : w13.cell? ⟨gb149, 7, none⟩ = some (.int .i64 a0_7) := (bc1 BK149.out 7).trans rfl; have hcz14_8 : w13.cell? ⟨gb149, 8, none⟩ = some (.int .i64 a0_8) := (bc1 BK149.out 8).trans rfl; have hcz14_9 : w13.cell? ⟨gb149, 9, none⟩ = some (.int .i64 a0_9) := (bc1 BK149.out 9).trans rfl; have hfz14_0 := bz1 BK149.out 0; have hfz14_1 := bz1 BK149.out 1; have hfz14_2 := bz1 BK149.out 2; have hfz14_3 := bz1 BK149.out 3; have hfz14_4 := bz1 BK149.out 4; have hfz14_5 := bz1 BK149.out 5; have hfz14_6 := bz1 BK149.out 6; have hfz14_7 := bz1 BK149.out 7; have hfz14_8 := bz1 BK149.out 8; have hfz14_9 := bz1 BK149.out 9))
    go_ret
    exact ⟨by first | rfl | (simp [errW_none, errW_some] <;> rfl) | (simp [*, errW_none, errW_some] <;> rfl), by repeat (first | (with_reducible first | exact HB.out | apply la1 | apply ln1 | apply ld1 | refine ls1 ?_ GE149.out) | exact HB.out)⟩
def style_parts.f (l0 : List Int) : Option (List Int) := some l0
set_option maxHeartbeats 8000000 in
set_option maxRecDepth 100000 in
theorem style_parts.calls (P0_ : Nat → Prop) (u9000_ : Value) (l0 : List Int) (r : List Int) (w0 w : World) (hB : Below w0.heap.size w0 w) (ho0 : Kd.R (Kd.int .i64) 3 w w0.heap.size P0_ u9000_ l0) (h : style_parts.f l0 = some r) :
    Calls Tryd.prog 57 #[u9000_] w fun e w' => ∃ v0_ : Value, e = .returned (v0_) ∧ Kd.R (Kd.int .i64) 3 w' w0.heap.size (fun k_ => (P0_ k_ ∨ w.heap.size ≤ k_)) v0_ r ∧ Below w0.heap.size w0 w' ∧ Kept w w' (fun k_ => P0_ k_) := by
  have HO0 := Aside0.mk (show Kd.R (Kd.int .i64) 3 w w0.heap.size (fun k_ => (P0_ k_ ∨ w.heap.size ≤ k_)) u9000_ l0 from Kd.R_mono ho0 (fun k_ hk => (.inl hk)))
  have HK := Aside0.mk (Kept.refl w (fun k_ => P0_ k_))
  have HW0 := Aside0.mk hB.size
  have HB := Aside0.mk hB
  clear hB
  have H : (some l0) = some r := h
  clear h
  obtain rfl := Option.some.inj H
  go_enter Tryd.func57, Tryd.ntmps57
  go_wp2
  go_ret
  exact ⟨_, by first | rfl | (simp [errW_none, errW_some] <;> rfl) | (simp [*, errW_none, errW_some] <;> rfl), by (with_reducible repeat (first | apply Kd.R_alloc | apply Kd.R_drewN | apply Kd.R_drew)); exact HO0.out, by repeat (first | (with_reducible first | exact HB.out | apply la1 | apply ln1 | apply ld1) | exact HB.out), by repeat (first | (with_reducible first | exact HK.out | apply Kept.alloc | apply Kept.drewN | apply Kept.drew) | exact HK.out)⟩
def style_tint.f (a0 : Int) (a1 : Int) : Option (List Int) := if a0 < 8 then ((style_parts.f (([wrap64 (a1 + a0)] : List Int))).bind fun t155 => (some t155)) else (if a0 < 16 then ((style_parts.f (([wrap64 ((wrap64 (a1 + 52)) + a0)] : List Int))).bind fun t161 => (some t161)) else (if a0 < 256 then ((style_parts.f (([wrap64 (a1 + 8), 5, a0] : List Int))).bind fun t167 => (some t167)) else ((style_parts.f (([wrap64 (a1 + 8), 2, (-1), wrap64 (Int.tdiv (wrap64 (a0 - 256)) 65536), Int.tmod (wrap64 (Int.tdiv (wrap64 (a0 - 256)) 256)) 256, Int.tmod (wrap64 (a0 - 256)) 256] : List Int))).bind fun t173 => (some t173))))
set_option maxHeartbeats 8000000 in
set_option maxRecDepth 100000 in
theorem style_tint.calls (a0 : Int) (a1 : Int) (r : List Int) (w : World) (h : style_tint.f a0 a1 = some r) :
    Calls Tryd.prog 58 #[.int .i64 a0, .int .i64 a1] w fun e w' => ∃ v0_ : Value, e = .returned (v0_) ∧ Kd.R (Kd.int .i64) 3 w' w.heap.size (fun _ => True) v0_ r ∧ Below w.heap.size w w' := by
  have HB := Aside0.mk (Below.refl w.heap.size w)
  have H : (if a0 < 8 then ((style_parts.f (([wrap64 (a1 + a0)] : List Int))).bind fun t155 => (some t155)) else (if a0 < 16 then ((style_parts.f (([wrap64 ((wrap64 (a1 + 52)) + a0)] : List Int))).bind fun t161 => (some t161)) else (if a0 < 256 then ((style_parts.f (([wrap64 (a1 + 8), 5, a0] : List Int))).bind fun t167 => (some t167)) else ((style_parts.f (([wrap64 (a1 + 8), 2, (-1), wrap64 (Int.tdiv (wrap64 (a0 - 256)) 65536), Int.tmod (wrap64 (Int.tdiv (wrap64 (a0 - 256)) 256)) 256, Int.tmod (wrap64 (a0 - 256)) 256] : List Int))).bind fun t173 => (some t173))))) = some r := h
  clear h
  by_cases c3 : a0 < 8
  · rw [if_pos c3] at H
    have c3b0 : decide (a0 < 8) = true := decide_eq_true c3
    clear c3
    obtain ⟨y152, hy152⟩ : ∃ y_ : List Int, y_ = (([wrap64 (a1 + a0)] : List Int)) := ⟨_, rfl⟩
    replace H : ((style_parts.f y152).bind fun t155 => (some t155)) = some r := by first | (rw [hy152]; with_reducible exact H) | (have H2_ := (Option.bind_some _ _).symm.trans H; rw [hy152]; with_reducible exact H2_) | (have H2_ := (Option.bind_some _ _).symm.trans H; with_reducible exact H2_) | with_reducible exact H | (rw [hy152]; exact H) | exact H
    have Ny152 := Aside0.mk hy152
    clear hy152
    replace H := Option.bind_eq_some_iff.mp H
    obtain ⟨t155, A40, H⟩ := H
    replace H : (some t155) = some r := H
    have A4 := Aside0.mk A40
    clear A40
    obtain rfl := Option.some.inj H
    go_enter Tryd.func58, Tryd.ntmps58
    go_wp2_with (first | ((with_reducible refine gate_dst (N := 12) rfl ?_); refine Kd.R_lit (Kd.int .i64) _ 3 ?hg (N := 12) ?hd (xs := ([wrap64 (a1 + a0)] : List Int)) (inner := [.int .i64 (wrap64 (a1 + a0))]) (ok := fun _ => True) (okp := fun _ => True) ?hr ?hp (fun _ hk => hk) trivial (Below.refl _ _) (Nat.le_refl _) (by simp) ?_; (case hd => rfl); (case hg => rfl); (case hr => first | (go_simp; done) | (go_simp; rfl)); (case hp => exact (Reps.one (show Kd.M (Kd.int .i64) _ _ _ (wrap64 (a1 + a0)) [.int .i64 (wrap64 (a1 + a0))] from rfl) (Reps.none _ _))); intro v153 w5 ho6 hb hg_ hnew_; clear hg_ hnew_; (first | rw [← Ny152.out] at ho6 | (simp only [Int.reduceToNat] at ho6; rw [← Ny152.out] at ho6)); have n0_ := Aside0.mk (Kd.R_lower ho6 (below_size (by repeat (first | (with_reducible first | exact HB.out | apply la1 | apply ln1 | apply ld1) | exact HB.out)))); have n1_ := Aside0.mk (below_step (by repeat (first | (with_reducible first | exact HB.out | apply la1 | apply ln1 | apply ld1) | exact HB.out)) hb); clear HB; have HO154 := n0_; have HB := n1_; clear n0_ n1_; clear hb ho6; obtain ⟨Ao7, co7, eo7⟩ := Kd.R_slice HO154.out; subst eo7) | ((with_reducible refine gate_callee (f := 57) rfl ?_); refine goesL_ (some 13) rfl rfl Tryd.func57 (by kernel_rfl) rfl #[.slice Ao7 y152.length co7] rfl (by (try simp only [List.map_toArray, List.map_cons, List.map_nil]); first | done | rfl | (simp only [List.length_drop, List.length_take]; rfl)) ?_; (with_reducible refine (style_parts.calls (fun k_ => some k_ = (.slice Ao7 y152.length co7 : Value).ownBlock) (.slice Ao7 y152.length co7) y152 t155 w _ ?side1 ?side2 A4.out).mono ?_); (case side1 => repeat (first | (with_reducible first | exact HB.out | apply la1 | apply ln1 | apply ld1) | exact HB.out)); (case side2 => exact Kd.R_tight rfl HO154.out); rintro e w8 ⟨v156, rfl, ho0, hb, hkp⟩; refine ⟨_, rfl, ?_⟩; have n0_ := Aside0.mk (Kd.R_mono (ok' := fun k_ => True) ho0 (fun k_ hk_ => trivial)); have n1_ := Aside0.mk (hb); clear HB; clear HO154; have HO157 := n0_; have HB := n1_; clear n0_ n1_; (try clear hb); (try clear hkp); (try clear ho0)))
    go_ret
    exact ⟨_, by first | rfl | (simp [errW_none, errW_some] <;> rfl) | (simp [*, errW_none, errW_some] <;> rfl), by (with_reducible repeat (first | apply Kd.R_alloc | apply Kd.R_drewN | apply Kd.R_drew)); exact HO157.out, by repeat (first | (with_reducible first | exact HB.out | apply la1 | apply ln1 | apply ld1) | exact HB.out)⟩
  · rw [if_neg c3] at H
    have c3b0 : decide (a0 < 8) = false := decide_eq_false c3
    clear c3
    by_cases c9 : a0 < 16
    · rw [if_pos c9] at H
      have c9b0 : decide (a0 < 16) = true := decide_eq_true c9
      clear c9
      obtain ⟨y158, hy158⟩ : ∃ y_ : List Int, y_ = (([wrap64 ((wrap64 (a1 + 52)) + a0)] : List Int)) := ⟨_, rfl⟩
      replace H : ((style_parts.f y158).bind fun t161 => (some t161)) = some r := by first | (rw [hy158]; with_reducible exact H) | (have H2_ := (Option.bind_some _ _).symm.trans H; rw [hy158]; with_reducible exact H2_) | (have H2_ := (Option.bind_some _ _).symm.trans H; with_reducible exact H2_) | with_reducible exact H | (rw [hy158]; exact H) | exact H
      have Ny158 := Aside0.mk hy158
      clear hy158
      replace H := Option.bind_eq_some_iff.mp H
      obtain ⟨t161, A100, H⟩ := H
      replace H : (some t161) = some r := H
      have A10 := Aside0.mk A100
      clear A100
      obtain rfl := Option.some.inj H
      go_enter Tryd.func58, Tryd.ntmps58
      go_wp2_with (first | ((with_reducible refine gate_dst (N := 21) rfl ?_); refine Kd.R_lit (Kd.int .i64) _ 3 ?hg (N := 21) ?hd (xs := ([wrap64 ((wrap64 (a1 + 52)) + a0)] : List Int)) (inner := [.int .i64 (wrap64 ((wrap64 (a1 + 52)) + a0))]) (ok := fun _ => True) (okp := fun _ => True) ?hr ?hp (fun _ hk => hk) trivial (Below.refl _ _) (Nat.le_refl _) (by simp) ?_; (case hd => rfl); (case hg => rfl); (case hr => first | (go_simp; done) | (go_simp; rfl)); (case hp => exact (Reps.one (show Kd.M (Kd.int .i64) _ _ _ (wrap64 ((wrap64 (a1 + 52)) + a0)) [.int .i64 (wrap64 ((wrap64 (a1 + 52)) + a0))] from rfl) (Reps.none _ _))); intro v159 w11 ho12 hb hg_ hnew_; clear hg_ hnew_; (first | rw [← Ny158.out] at ho12 | (simp only [Int.reduceToNat] at ho12; rw [← Ny158.out] at ho12)); have n0_ := Aside0.mk (Kd.R_lower ho12 (below_size (by repeat (first | (with_reducible first | exact HB.out | apply la1 | apply ln1 | apply ld1) | exact HB.out)))); have n1_ := Aside0.mk (below_step (by repeat (first | (with_reducible first | exact HB.out | apply la1 | apply ln1 | apply ld1) | exact HB.out)) hb); clear HB; have HO160 := n0_; have HB := n1_; clear n0_ n1_; clear hb ho12; obtain ⟨Ao13, co13, eo13⟩ := Kd.R_slice HO160.out; subst eo13) | ((with_reducible refine gate_callee (f := 57) rfl ?_); refine goesL_ (some 22) rfl rfl Tryd.func57 (by kernel_rfl) rfl #[.slice Ao13 y158.length co13] rfl (by (try simp only [List.map_toArray, List.map_cons, List.map_nil]); first | done | rfl | (simp only [List.length_drop, List.length_take]; rfl)) ?_; (with_reducible refine (style_parts.calls (fun k_ => some k_ = (.slice Ao13 y158.length co13 : Value).ownBlock) (.slice Ao13 y158.length co13) y158 t161 w _ ?side1 ?side2 A10.out).mono ?_); (case side1 => repeat (first | (with_reducible first | exact HB.out | apply la1 | apply ln1 | apply ld1) | exact HB.out)); (case side2 => exact Kd.R_tight rfl HO160.out); rintro e w14 ⟨v162, rfl, ho0, hb, hkp⟩; refine ⟨_, rfl, ?_⟩; have n0_ := Aside0.mk (Kd.R_mono (ok' := fun k_ => True) ho0 (fun k_ hk_ => trivial)); have n1_ := Aside0.mk (hb); clear HB; clear HO160; have HO163 := n0_; have HB := n1_; clear n0_ n1_; (try clear hb); (try clear hkp); (try clear ho0)))
      go_ret
      exact ⟨_, by first | rfl | (simp [errW_none, errW_some] <;> rfl) | (simp [*, errW_none, errW_some] <;> rfl), by (with_reducible repeat (first | apply Kd.R_alloc | apply Kd.R_drewN | apply Kd.R_drew)); exact HO163.out, by repeat (first | (with_reducible first | exact HB.out | apply la1 | apply ln1 | apply ld1) | exact HB.out)⟩
    · rw [if_neg c9] at H
      have c9b0 : decide (a0 < 16) = false := decide_eq_false c9
      clear c9
      by_cases c15 : a0 < 256
      · rw [if_pos c15] at H
        have c15b0 : decide (a0 < 256) = true := decide_eq_true c15
        clear c15
        obtain ⟨y164, hy164⟩ : ∃ y_ : List Int, y_ = (([wrap64 (a1 + 8), 5, a0] : List Int)) := ⟨_, rfl⟩
        replace H : ((style_parts.f y164).bind fun t167 => (some t167)) = some r := by first | (rw [hy164]; with_reducible exact H) | (have H2_ := (Option.bind_some _ _).symm.trans H; rw [hy164]; with_reducible exact H2_) | (have H2_ := (Option.bind_some _ _).symm.trans H; with_reducible exact H2_) | with_reducible exact H | (rw [hy164]; exact H) | exact H
        have Ny164 := Aside0.mk hy164
        clear hy164
        replace H := Option.bind_eq_some_iff.mp H
        obtain ⟨t167, A160, H⟩ := H
        replace H : (some t167) = some r := H
        have A16 := Aside0.mk A160
        clear A160
        obtain rfl := Option.some.inj H
        go_enter Tryd.func58, Tryd.ntmps58
        go_wp2_with (first | ((with_reducible refine gate_dst (N := 29) rfl ?_); refine Kd.R_lit (Kd.int .i64) _ 3 ?hg (N := 29) ?hd (xs := ([wrap64 (a1 + 8), 5, a0] : List Int)) (inner := [.int .i64 (wrap64 (a1 + 8)), .int .i64 5, .int .i64 a0]) (ok := fun _ => True) (okp := fun _ => True) ?hr ?hp (fun _ hk => hk) trivial (Below.refl _ _) (Nat.le_refl _) (by simp) ?_; (case hd => rfl); (case hg => rfl); (case hr => first | (go_simp; done) | (go_simp; rfl)); (case hp => exact (Reps.one (show Kd.M (Kd.int .i64) _ _ _ (wrap64 (a1 + 8)) [.int .i64 (wrap64 (a1 + 8))] from rfl) (Reps.one (show Kd.M (Kd.int .i64) _ _ _ 5 [.int .i64 5] from rfl) (Reps.one (show Kd.M (Kd.int .i64) _ _ _ a0 [.int .i64 a0] from rfl) (Reps.none _ _))))); intro v165 w17 ho18 hb hg_ hnew_; clear hg_ hnew_; (first | rw [← Ny164.out] at ho18 | (simp only [Int.reduceToNat] at ho18; rw [← Ny164.out] at ho18)); have n0_ := Aside0.mk (Kd.R_lower ho18 (below_size (by repeat (first | (with_reducible first | exact HB.out | apply la1 | apply ln1 | apply ld1) | exact HB.out)))); have n1_ := Aside0.mk (below_step (by repeat (first | (with_reducible first | exact HB.out | apply la1 | apply ln1 | apply ld1) | exact HB.out)) hb); clear HB; have HO166 := n0_; have HB := n1_; clear n0_ n1_; clear hb ho18; obtain ⟨Ao19, co19, eo19⟩ := Kd.R_slice HO166.out; subst eo19) | ((with_reducible refine gate_callee (f := 57) rfl ?_); refine goesL_ (some 30) rfl rfl Tryd.func57 (by kernel_rfl) rfl #[.slice Ao19 y164.length co19] rfl (by (try simp only [List.map_toArray, List.map_cons, List.map_nil]); first | done | rfl | (simp only [List.length_drop, List.length_take]; rfl)) ?_; (with_reducible refine (style_parts.calls (fun k_ => some k_ = (.slice Ao19 y164.length co19 : Value).ownBlock) (.slice Ao19 y164.length co19) y164 t167 w _ ?side1 ?side2 A16.out).mono ?_); (case side1 => repeat (first | (with_reducible first | exact HB.out | apply la1 | apply ln1 | apply ld1) | exact HB.out)); (case side2 => exact Kd.R_tight rfl HO166.out); rintro e w20 ⟨v168, rfl, ho0, hb, hkp⟩; refine ⟨_, rfl, ?_⟩; have n0_ := Aside0.mk (Kd.R_mono (ok' := fun k_ => True) ho0 (fun k_ hk_ => trivial)); have n1_ := Aside0.mk (hb); clear HB; clear HO166; have HO169 := n0_; have HB := n1_; clear n0_ n1_; (try clear hb); (try clear hkp); (try clear ho0)))
        go_ret
        exact ⟨_, by first | rfl | (simp [errW_none, errW_some] <;> rfl) | (simp [*, errW_none, errW_some] <;> rfl), by (with_reducible repeat (first | apply Kd.R_alloc | apply Kd.R_drewN | apply Kd.R_drew)); exact HO169.out, by repeat (first | (with_reducible first | exact HB.out | apply la1 | apply ln1 | apply ld1) | exact HB.out)⟩
      · rw [if_neg c15] at H
        have c15b0 : decide (a0 < 256) = false := decide_eq_false c15
        clear c15
        obtain ⟨y170, hy170⟩ : ∃ y_ : List Int, y_ = (([wrap64 (a1 + 8), 2, (-1), wrap64 (Int.tdiv (wrap64 (a0 - 256)) 65536), Int.tmod (wrap64 (Int.tdiv (wrap64 (a0 - 256)) 256)) 256, Int.tmod (wrap64 (a0 - 256)) 256] : List Int)) := ⟨_, rfl⟩
        replace H : ((style_parts.f y170).bind fun t173 => (some t173)) = some r := by first | (rw [hy170]; with_reducible exact H) | (have H2_ := (Option.bind_some _ _).symm.trans H; rw [hy170]; with_reducible exact H2_) | (have H2_ := (Option.bind_some _ _).symm.trans H; with_reducible exact H2_) | with_reducible exact H | (rw [hy170]; exact H) | exact H
        have Ny170 := Aside0.mk hy170
        clear hy170
        replace H := Option.bind_eq_some_iff.mp H
        obtain ⟨t173, A210, H⟩ := H
        replace H : (some t173) = some r := H
        have A21 := Aside0.mk A210
        clear A210
        obtain rfl := Option.some.inj H
        go_enter Tryd.func58, Tryd.ntmps58
        go_wp2_with (first | ((with_reducible refine gate_dst (N := 42) rfl ?_); refine Kd.R_lit (Kd.int .i64) _ 3 ?hg (N := 42) ?hd (xs := ([wrap64 (a1 + 8), 2, (-1), wrap64 (Int.tdiv (wrap64 (a0 - 256)) 65536), Int.tmod (wrap64 (Int.tdiv (wrap64 (a0 - 256)) 256)) 256, Int.tmod (wrap64 (a0 - 256)) 256] : List Int)) (inner := [.int .i64 (wrap64 (a1 + 8)), .int .i64 2, .int .i64 (-1), .int .i64 (wrap64 (Int.tdiv (wrap64 (a0 - 256)) 65536)), .int .i64 (Int.tmod (wrap64 (Int.tdiv (wrap64 (a0 - 256)) 256)) 256), .int .i64 (Int.tmod (wrap64 (a0 - 256)) 256)]) (ok := fun _ => True) (okp := fun _ => True) ?hr ?hp (fun _ hk => hk) trivial (Below.refl _ _) (Nat.le_refl _) (by simp) ?_; (case hd => rfl); (case hg => rfl); (case hr => first | (go_simp; done) | (go_simp; rfl)); (case hp => exact (Reps.one (show Kd.M (Kd.int .i64) _ _ _ (wrap64 (a1 + 8)) [.int .i64 (wrap64 (a1 + 8))] from rfl) (Reps.one (show Kd.M (Kd.int .i64) _ _ _ 2 [.int .i64 2] from rfl) (Reps.one (show Kd.M (Kd.int .i64) _ _ _ (-1) [.int .i64 (-1)] from rfl) (Reps.one (show Kd.M (Kd.int .i64) _ _ _ (wrap64 (Int.tdiv (wrap64 (a0 - 256)) 65536)) [.int .i64 (wrap64 (Int.tdiv (wrap64 (a0 - 256)) 65536))] from rfl) (Reps.one (show Kd.M (Kd.int .i64) _ _ _ (Int.tmod (wrap64 (Int.tdiv (wrap64 (a0 - 256)) 256)) 256) [.int .i64 (Int.tmod (wrap64 (Int.tdiv (wrap64 (a0 - 256)) 256)) 256)] from rfl) (Reps.one (show Kd.M (Kd.int .i64) _ _ _ (Int.tmod (wrap64 (a0 - 256)) 256) [.int .i64 (Int.tmod (wrap64 (a0 - 256)) 256)] from rfl) (Reps.none _ _)))))))); intro v171 w22 ho23 hb hg_ hnew_; clear hg_ hnew_; (first | rw [← Ny170.out] at ho23 | (simp only [Int.reduceToNat] at ho23; rw [← Ny170.out] at ho23)); have n0_ := Aside0.mk (Kd.R_lower ho23 (below_size (by repeat (first | (with_reducible first | exact HB.out | apply la1 | apply ln1 | apply ld1) | exact HB.out)))); have n1_ := Aside0.mk (below_step (by repeat (first | (with_reducible first | exact HB.out | apply la1 | apply ln1 | apply ld1) | exact HB.out)) hb); clear HB; have HO172 := n0_; have HB := n1_; clear n0_ n1_; clear hb ho23; obtain ⟨Ao24, co24, eo24⟩ := Kd.R_slice HO172.out; subst eo24) | ((with_reducible refine gate_callee (f := 57) rfl ?_); refine goesL_ (some 43) rfl rfl Tryd.func57 (by kernel_rfl) rfl #[.slice Ao24 y170.length co24] rfl (by (try simp only [List.map_toArray, List.map_cons, List.map_nil]); first | done | rfl | (simp only [List.length_drop, List.length_take]; rfl)) ?_; (with_reducible refine (style_parts.calls (fun k_ => some k_ = (.slice Ao24 y170.length co24 : Value).ownBlock) (.slice Ao24 y170.length co24) y170 t173 w _ ?side1 ?side2 A21.out).mono ?_); (case side1 => repeat (first | (with_reducible first | exact HB.out | apply la1 | apply ln1 | apply ld1) | exact HB.out)); (case side2 => exact Kd.R_tight rfl HO172.out); rintro e w25 ⟨v174, rfl, ho0, hb, hkp⟩; refine ⟨_, rfl, ?_⟩; have n0_ := Aside0.mk (Kd.R_mono (ok' := fun k_ => True) ho0 (fun k_ hk_ => trivial)); have n1_ := Aside0.mk (hb); clear HB; clear HO172; have HO175 := n0_; have HB := n1_; clear n0_ n1_; (try clear hb); (try clear hkp); (try clear ho0)))
        go_ret
        exact ⟨_, by first | rfl | (simp [errW_none, errW_some] <;> rfl) | (simp [*, errW_none, errW_some] <;> rfl), by (with_reducible repeat (first | apply Kd.R_alloc | apply Kd.R_drewN | apply Kd.R_drew)); exact HO175.out, by repeat (first | (with_reducible first | exact HB.out | apply la1 | apply ln1 | apply ld1) | exact HB.out)⟩
end Go.Proofs.YtopcleljecdkkaaDoor.G
end
section
namespace Go.Proofs.YtopcleljecdkkaaDoor.G
open Go.RowKit Go.Proofs.YtopcleljecdkkaaDoorW.PrintWords Go.Proofs.YtopcleljecdkkaaDoorW.PrintLast Go.Proofs.YtopcleljecdkkaaDoorW.PrintMore
attribute [local go_sem] max2_int min2_int max_two min_two max_three min_three max_four min_four
set_option linter.unusedVariables false
set_option linter.unusedSimpArgs false
def style_Params.f (a0_0 : Bool) (a0_1 : Bool) (a0_2 : Bool) (a0_3 : Bool) (a0_4 : Bool) (a0_5 : Bool) (a0_6 : Bool) (a0_7 : Int) (a0_8 : Int) (a0_9 : Int) : Option ((List (List Int))) := if style_May.f a0_0 a0_1 a0_2 a0_3 a0_4 a0_5 a0_6 a0_7 a0_8 a0_9 = some true then (if -9223372036854775808 ≤ a0_8 ∧ -9223372036854775808 ≤ a0_9 then some (paramsL a0_0 a0_1 a0_2 a0_3 a0_4 a0_5 a0_6 a0_7 a0_8 a0_9) else none) else if style_May.f a0_0 a0_1 a0_2 a0_3 a0_4 a0_5 a0_6 a0_7 a0_8 a0_9 = some false then some [] else none
theorem tint_is (n base : Int) (h0 : -2 ≤ n) (h1 : n < 16777472) (hb : 0 ≤ base) (hb1 : base ≤ 1000) : style_tint.f n base = some (tintL n base) := by
  have w1 : wrap64 (base + n) = base + n := by unfold wrap64; omega
  have w2 : wrap64 (base + 52) = base + 52 := by unfold wrap64; omega
  have w3 : wrap64 (base + 52 + n) = base + 52 + n := by unfold wrap64; omega
  have w4 : wrap64 (base + 8) = base + 8 := by unfold wrap64; omega
  unfold style_tint.f tintL style_parts.f
  by_cases g1 : n < 8
  · rw [if_pos g1, if_pos g1, w1]; rfl
  · rw [if_neg g1, if_neg g1]
    by_cases g2 : n < 16
    · rw [if_pos g2, if_pos g2, w2, w3]; rfl
    · rw [if_neg g2, if_neg g2]
      by_cases g3 : n < 256
      · rw [if_pos g3, if_pos g3, w4]; rfl
      · have w5 : wrap64 (n - 256) = n - 256 := by unfold wrap64; omega
        have t1 : Int.tdiv (n - 256) 65536 = (n - 256) / 65536 := Int.tdiv_eq_ediv_of_nonneg (by omega)
        have t2 : Int.tdiv (n - 256) 256 = (n - 256) / 256 := Int.tdiv_eq_ediv_of_nonneg (by omega)
        have w6 : wrap64 ((n - 256) / 65536) = (n - 256) / 65536 := by unfold wrap64; omega
        have w7 : wrap64 ((n - 256) / 256) = (n - 256) / 256 := by unfold wrap64; omega
        have t3 : Int.tmod ((n - 256) / 256) 256 = (n - 256) / 256 % 256 := Int.tmod_eq_emod_of_nonneg (by omega)
        have t4 : Int.tmod (n - 256) 256 = (n - 256) % 256 := Int.tmod_eq_emod_of_nonneg (by omega)
        rw [if_neg g3, if_neg g3, w4, w5, t1, t2, w6, w7, t3, t4]; rfl
theorem may_is (b0 b1 b2 b3 b4 b5 b6 : Bool) (u f b : Int) : style_May.f b0 b1 b2 b3 b4 b5 b6 u f b = some (mayL u f b) := by
  unfold style_May.f style_May_1.f mayL colL
  by_cases h0 : 0 ≤ u <;> by_cases h1 : u ≤ 5 <;> by_cases h2 : -1 ≤ f <;> by_cases h3 : f < 16777472 <;> by_cases h4 : -1 ≤ b <;> simp [h0, h1, h2, h3, h4, ge_iff_le]
set_option maxHeartbeats 1000000 in
theorem style_Params.calls (a0_0 : Bool) (a0_1 : Bool) (a0_2 : Bool) (a0_3 : Bool) (a0_4 : Bool) (a0_5 : Bool) (a0_6 : Bool) (a0_7 : Int) (a0_8 : Int) (a0_9 : Int) (r : List (List Int)) (w : World) (h : style_Params.f a0_0 a0_1 a0_2 a0_3 a0_4 a0_5 a0_6 a0_7 a0_8 a0_9 = some r) :
    Calls Tryd.prog 37 #[.agg #[.bool a0_0, .bool a0_1, .bool a0_2, .bool a0_3, .bool a0_4, .bool a0_5, .bool a0_6, .int .i64 a0_7, .int .i64 a0_8, .int .i64 a0_9]] w fun e w' => ∃ v0_ : Value, e = .returned (v0_) ∧ Kd.S (Kd.slice 3 (Kd.int .i64)) 52 w' w.heap.size (fun _ => True) v0_ r ∧ Below w.heap.size w w' := by
  unfold style_Params.f at h
  rw [may_is] at h
  have HM : ∀ r, mayL a0_7 a0_8 a0_9 = r → MayAt a0_0 a0_1 a0_2 a0_3 a0_4 a0_5 a0_6 a0_7 a0_8 a0_9 r := fun r hr W => by
    refine (style_May.calls a0_0 a0_1 a0_2 a0_3 a0_4 a0_5 a0_6 a0_7 a0_8 a0_9 r W (by rw [may_is, hr])).mono fun e w' h => ⟨h.1, ?_⟩
    first | exact h.2 | exact h.2.below
  cases hm : mayL a0_7 a0_8 a0_9 with
  | false =>
    rw [hm, if_neg (by decide), if_pos rfl] at h
    obtain rfl := Option.some.inj h
    exact params_not a0_0 a0_1 a0_2 a0_3 a0_4 a0_5 a0_6 a0_7 a0_8 a0_9 (HM false hm) w
  | true =>
    rw [hm, if_pos rfl] at h
    by_cases hlo : -9223372036854775808 ≤ a0_8 ∧ -9223372036854775808 ≤ a0_9
    · rw [if_pos hlo] at h
      obtain rfl := Option.some.inj h
      have hm' := hm
      simp only [mayL, colL, Bool.and_eq_true, decide_eq_true_eq] at hm'
      exact params_yes a0_0 a0_1 a0_2 a0_3 a0_4 a0_5 a0_6 a0_7 a0_8 a0_9 hm'.1 (HM true hm)
        (fun _ W => style_tint.calls a0_8 30 _ W (tint_is a0_8 30 (by omega) (by omega) (by decide) (by decide))) (fun _ W => style_tint.calls a0_9 40 _ W (tint_is a0_9 40 (by omega) (by omega) (by decide) (by decide))) w
    · rw [if_neg hlo] at h; cases h
end Go.Proofs.YtopcleljecdkkaaDoor.G
end
section
namespace Go.Proofs.YtopcleljecdkkaaDoor.G
set_option linter.unusedVariables false
set_option linter.unusedSimpArgs false
open Go.RowKit Kit Go.Proofs.YtopcleljecdkkaaDoorW.PrintWords
def paramsV (s : St) : List (List Int) :=
  if mayL s.2.2.2.2.2.2.2.1 s.2.2.2.2.2.2.2.2.1 s.2.2.2.2.2.2.2.2.2 then paramsL s.1 s.2.1 s.2.2.1 s.2.2.2.1 s.2.2.2.2.1 s.2.2.2.2.2.1 s.2.2.2.2.2.2.1 s.2.2.2.2.2.2.2.1 s.2.2.2.2.2.2.2.2.1 s.2.2.2.2.2.2.2.2.2 else []
theorem Params_is (b0 b1 b2 b3 b4 b5 b6 : Bool) (u f b : Int) (hf : -9223372036854775808 ≤ f) (hb : -9223372036854775808 ≤ b) : style_Params.f b0 b1 b2 b3 b4 b5 b6 u f b = some (paramsV (b0, b1, b2, b3, b4, b5, b6, u, f, b)) := by
  unfold style_Params.f paramsV
  rw [may_is]
  cases h : mayL u f b with
  | true => rw [if_pos rfl, if_pos ⟨hf, hb⟩, if_pos rfl]
  | false => rw [if_neg (by decide), if_pos rfl, if_neg (by simp [h])]
theorem refMay_is (b0 b1 b2 b3 b4 b5 b6 : Bool) (u f b : Int) : clavierref18_May.f b0 b1 b2 b3 b4 b5 b6 u f b = some (mayL u f b) := by
  unfold clavierref18_May.f clavierref18_colour.f mayL colL
  by_cases h0 : 0 ≤ u <;> by_cases h1 : u ≤ 5 <;> by_cases h2 : -1 ≤ f <;> by_cases h3 : f < 16777472 <;> by_cases h4 : -1 ≤ b <;> simp [h0, h1, h2, h3, h4, ge_iff_le]
theorem refOne_is (l : List (List Int)) (c : Bool) (n : Int) (hl : l.length ≤ 1000000) : clavierref18_one.f l c n = some (l ++ markL c n) := by
  unfold clavierref18_one.f markL
  cases c with
  | true => rw [if_pos rfl, Option.bind_some, if_pos (by simp; omega), Option.bind_some, if_pos (by simp; omega), List.nil_append]; rfl
  | false => rw [if_neg (by decide)]; simp
theorem refTint_is (l : List (List Int)) (n base : Int) (h0 : -1 ≤ n) (h1 : n < 16777472) (hb : 0 ≤ base) (hb1 : base ≤ 1000) (hl : l.length ≤ 1000) : clavierref18_tint.f l n base = some (l ++ colourL n base) := by
  have w1 : wrap64 (base + n) = base + n := by unfold wrap64; omega
  have w2 : wrap64 (base + 52) = base + 52 := by unfold wrap64; omega
  have w3 : wrap64 (base + 52 + n) = base + 52 + n := by unfold wrap64; omega
  have w4 : wrap64 (base + 8) = base + 8 := by unfold wrap64; omega
  unfold clavierref18_tint.f colourL
  by_cases g0 : n < 0
  · rw [if_pos g0, if_pos (by omega)]; simp
  · rw [if_neg g0, if_neg (show ¬ n = -1 by omega)]
    unfold tintL
    by_cases g1 : n < 8
    · rw [if_pos g1, if_pos g1, w1, refOne_is _ _ _ (by omega)]; rfl
    · rw [if_neg g1, if_neg g1]
      by_cases g2 : n < 16
      · rw [if_pos g2, if_pos g2, w2, w3, refOne_is _ _ _ (by omega)]; rfl
      · rw [if_neg g2, if_neg g2, Option.bind_some, if_pos (by simp; omega), Option.bind_some]
        by_cases g3 : n < 256
        · rw [if_pos g3, if_pos g3, if_pos (by simp; omega), w4, List.nil_append]
        · have w5 : wrap64 (n - 256) = n - 256 := by unfold wrap64; omega
          have t1 : Int.tdiv (n - 256) 65536 = (n - 256) / 65536 := Int.tdiv_eq_ediv_of_nonneg (by omega)
          have t2 : Int.tdiv (n - 256) 256 = (n - 256) / 256 := Int.tdiv_eq_ediv_of_nonneg (by omega)
          have w6 : wrap64 ((n - 256) / 65536) = (n - 256) / 65536 := by unfold wrap64; omega
          have w7 : wrap64 ((n - 256) / 256) = (n - 256) / 256 := by unfold wrap64; omega
          have t3 : Int.tmod ((n - 256) / 256) 256 = (n - 256) / 256 % 256 := Int.tmod_eq_emod_of_nonneg (by omega)
          have t4 : Int.tmod (n - 256) 256 = (n - 256) % 256 := Int.tmod_eq_emod_of_nonneg (by omega)
          rw [if_neg g3, if_neg g3, if_pos (by simp; omega), w4, w5, t1, t2, w6, w7, t3, t4, List.nil_append]
theorem mark_len (c : Bool) (n : Int) : (markL c n).length ≤ 1 := by cases c <;> simp [markL]
theorem refParams_is (b0 b1 b2 b3 b4 b5 b6 : Bool) (u f b : Int) (k : Nat) (hk : 5 ≤ k) : clavierref18_Params.f k b0 b1 b2 b3 b4 b5 b6 u f b = some (paramsV (b0, b1, b2, b3, b4, b5, b6, u, f, b)) := by
  obtain ⟨k, rfl⟩ : ∃ m, k = m + 1 := ⟨k - 1, by omega⟩
  unfold clavierref18_Params.f paramsV
  rw [refMay_is, Option.bind_some]
  cases h : mayL u f b with
  | false => rw [if_neg (by decide), if_neg (by simp [h])]
  | true =>
    rw [if_pos rfl, if_pos rfl]
    have hm := h
    simp only [mayL, colL, Bool.and_eq_true, decide_eq_true_eq] at hm
    have m0 := mark_len b0 1
    have m1 := mark_len b1 2
    have m2 := mark_len b2 3
    have m3 := mark_len b3 5
    have m4 := mark_len b4 7
    have m5 := mark_len b5 8
    have m6 := mark_len b6 9
    have m7 := mark_len (u == 1) 4
    have hc : (colourL f 30).length ≤ 1 := by unfold colourL; split <;> simp
    have hj : ∀ x : List (List Int), x.length ≤ 100 → clavierref18_Params.j0 (k + 1) x b0 b1 b2 b3 b4 b5 b6 u f b = some (x ++ markL b3 5 ++ markL b4 7 ++ markL b5 8 ++ markL b6 9 ++ colourL f 30 ++ colourL b 40) := by
      intro x hx
      rw [clavierref18_Params.j0, refOne_is _ _ _ (by omega), Option.bind_some, refOne_is _ _ _ (by simp; omega), Option.bind_some, refOne_is _ _ _ (by simp; omega), Option.bind_some, refOne_is _ _ _ (by simp; omega), Option.bind_some, refTint_is _ _ _ (by omega) (by omega) (by decide) (by decide) (by simp; omega), Option.bind_some, refTint_is _ _ _ (by omega) (by omega) (by decide) (by decide) (by simp; omega)]
      rfl
    rw [refOne_is _ _ _ (by simp), Option.bind_some, refOne_is _ _ _ (by simp; omega), Option.bind_some, refOne_is _ _ _ (by simp; omega), Option.bind_some, refOne_is _ _ _ (by simp; omega), Option.bind_some]
    by_cases h1 : u = 1
    · subst h1
      have m8 := mark_len true 4
      rw [if_neg (by decide), hj _ (by simp; omega)]
      rfl
    · have e1 : (u == 1) = false := beq_eq_false_iff_ne.2 h1
      by_cases h2 : u > 1
      · rw [if_pos h2, Option.bind_some, if_pos (by simp; omega), Option.bind_some, if_pos (by simp; omega), hj _ (by simp; omega), e1]
        simp [paramsL, underL, markL, h1, show 1 < u from h2]
      · rw [if_neg h2, hj _ (by simp; omega), e1]
        simp [paramsL, underL, markL, h1, show ¬ 1 < u from h2]
theorem tint_len (n base : Int) : (tintL n base).length ≤ 6 := by
  unfold tintL
  repeat' split
  all_goals simp
theorem mem_mark {c : Bool} {n : Int} {r : List Int} (h : r ∈ markL c n) : r = [n] := by cases c <;> simp [markL] at h; exact h
theorem paramsV_rows (s : St) : ∀ r ∈ paramsV s, r.length ≤ 6 := by
  intro r hr
  unfold paramsV at hr
  split at hr
  · simp only [paramsL, List.mem_append] at hr
    rcases hr with (((((((((h | h) | h) | h) | h) | h) | h) | h) | h) | h) | h
    · simp at h; subst h; simp
    · rw [mem_mark h]; simp
    · rw [mem_mark h]; simp
    · rw [mem_mark h]; simp
    · unfold underL at h; repeat' split at h
      all_goals simp at h; try (subst h; simp)
    · rw [mem_mark h]; simp
    · rw [mem_mark h]; simp
    · rw [mem_mark h]; simp
    · rw [mem_mark h]; simp
    · unfold colourL at h; split at h <;> simp at h; subst h; exact tint_len _ _
    · unfold colourL at h; split at h <;> simp at h; subst h; exact tint_len _ _
  · cases hr
theorem paramsV_len (s : St) : (paramsV s).length ≤ 11 := by
  unfold paramsV
  split
  · have hu : (underL s.2.2.2.2.2.2.2.1).length ≤ 1 := by unfold underL; repeat' split
                                                          all_goals simp
    have hc : ∀ n b, (colourL n b).length ≤ 1 := fun n b => by unfold colourL; split <;> simp
    have h1 := hc s.2.2.2.2.2.2.2.2.1 30
    have h2 := hc s.2.2.2.2.2.2.2.2.2 40
    have m0 := mark_len s.1 1
    have m1 := mark_len s.2.1 2
    have m2 := mark_len s.2.2.1 3
    have m3 := mark_len s.2.2.2.1 5
    have m4 := mark_len s.2.2.2.2.1 7
    have m5 := mark_len s.2.2.2.2.2.1 8
    have m6 := mark_len s.2.2.2.2.2.2.1 9
    simp only [paramsL, List.length_append, List.length_singleton]
    omega
  · simp
theorem paramsV_small (s : St) : Small (paramsV s) := ⟨by have := paramsV_len s; omega, fun r hr => by have := paramsV_rows s r hr; omega⟩
theorem paramsV_in (s : St) : AllI (paramsV s) := by
  intro r hr z hz
  unfold paramsV at hr
  split at hr
  · rename_i hm
    simp only [mayL, colL, Bool.and_eq_true, decide_eq_true_eq] at hm
    have ht : ∀ n base : Int, -1 ≤ n → n < 16777472 → 0 ≤ base → base ≤ 100 → ∀ z ∈ tintL n base, -9223372036854775808 ≤ z ∧ z ≤ 9223372036854775807 := by
      intro n base h0 h1 h2 h3 z hz
      unfold tintL at hz
      repeat' split at hz
      all_goals simp at hz
      all_goals omega
    simp only [paramsL, List.mem_append] at hr
    rcases hr with (((((((((h | h) | h) | h) | h) | h) | h) | h) | h) | h) | h
    · simp at h; subst h; simp at hz; omega
    · rw [mem_mark h] at hz; simp at hz; omega
    · rw [mem_mark h] at hz; simp at hz; omega
    · rw [mem_mark h] at hz; simp at hz; omega
    · unfold underL at h
      repeat' split at h
      all_goals simp at h
      all_goals (subst h; simp at hz; omega)
    · rw [mem_mark h] at hz; simp at hz; omega
    · rw [mem_mark h] at hz; simp at hz; omega
    · rw [mem_mark h] at hz; simp at hz; omega
    · rw [mem_mark h] at hz; simp at hz; omega
    · unfold colourL at h; split at h <;> simp at h; subst h; exact ht _ _ (by omega) (by omega) (by decide) (by decide) z hz
    · unfold colourL at h; split at h <;> simp at h; subst h; exact ht _ _ (by omega) (by omega) (by decide) (by decide) z hz
  · cases hr
end Go.Proofs.YtopcleljecdkkaaDoor.G
end
section
namespace Go.Proofs.YtopcleljecdkkaaDoor.G
open Go.RowKit Go.Proofs.YtopcleljecdkkaaDoorW.PrintWords Go.Proofs.YtopcleljecdkkaaDoorW.PrintLast Go.Proofs.YtopcleljecdkkaaDoorW.PrintMore
attribute [local go_sem] max2_int min2_int max_two min_two max_three min_three max_four min_four
set_option linter.unusedVariables false
set_option linter.unusedSimpArgs false
def clavierref19_two.f (a0 : Int) (a1 : Int) : Option (ByteArray) := (clavierref19_fact.f a0).bind fun t351 => ((clavierref01_Text.f t351).bind fun t352 => (if t352.size + 1 ≤ 9223372036854775807 then ((clavierref19_fact.f a1).bind fun t353 => ((clavierref01_Text.f t353).bind fun t354 => (if (t352 ++ (⟨#[59]⟩ : ByteArray)).size + t354.size ≤ 9223372036854775807 then (some ((t352 ++ (⟨#[59]⟩ : ByteArray)) ++ t354)) else (none)))) else (none)))
set_option maxHeartbeats 8000000 in
set_option maxRecDepth 100000 in
theorem clavierref19_two.calls (a0 : Int) (a1 : Int) (r : ByteArray) (w : World) (h : clavierref19_two.f a0 a1 = some r) :
    Calls Tryd.prog 62 #[.int .i64 a0, .int .i64 a1] w fun e w' => e = .returned (.string r) ∧ Below w.heap.size w w' := by
  have HB := Aside0.mk (Below.refl w.heap.size w)
  have H : ((clavierref19_fact.f a0).bind fun t351 => ((clavierref01_Text.f t351).bind fun t352 => (if t352.size + 1 ≤ 9223372036854775807 then ((clavierref19_fact.f a1).bind fun t353 => ((clavierref01_Text.f t353).bind fun t354 => (if (t352 ++ (⟨#[59]⟩ : ByteArray)).size + t354.size ≤ 9223372036854775807 then (some ((t352 ++ (⟨#[59]⟩ : ByteArray)) ++ t354)) else (none)))) else (none)))) = some r := h
  clear h
  replace H := Option.bind_eq_some_iff.mp H
  obtain ⟨t351, A30, H⟩ := H
  replace H : ((clavierref01_Text.f t351).bind fun t352 => (if t352.size + 1 ≤ 9223372036854775807 then ((clavierref19_fact.f a1).bind fun t353 => ((clavierref01_Text.f t353).bind fun t354 => (if (t352 ++ (⟨#[59]⟩ : ByteArray)).size + t354.size ≤ 9223372036854775807 then (some ((t352 ++ (⟨#[59]⟩ : ByteArray)) ++ t354)) else (none)))) else (none))) = some r := H
  have A3 := Aside0.mk A30
  clear A30
  replace H := Option.bind_eq_some_iff.mp H
  obtain ⟨t352, A40, H⟩ := H
  replace H : (if t352.size + 1 ≤ 9223372036854775807 then ((clavierref19_fact.f a1).bind fun t353 => ((clavierref01_Text.f t353).bind fun t354 => (if (t352 ++ (⟨#[59]⟩ : ByteArray)).size + t354.size ≤ 9223372036854775807 then (some ((t352 ++ (⟨#[59]⟩ : ByteArray)) ++ t354)) else (none)))) else (none)) = some r := H
  have A4 := Aside0.mk A40
  clear A40
  by_cases c5 : t352.size + 1 ≤ 9223372036854775807
  · rw [if_pos c5] at H
    have c5b0 := eq_true c5
    have c5b1 : decide (t352.size + 1 ≤ 9223372036854775807) = true := decide_eq_true c5
    try have c5b2 : (9223372036854775807 < t352.size + 1) = False := eq_false (Nat.not_lt.2 c5)
    replace H := Option.bind_eq_some_iff.mp H
    obtain ⟨t353, A60, H⟩ := H
    replace H : ((clavierref01_Text.f t353).bind fun t354 => (if (t352 ++ (⟨#[59]⟩ : ByteArray)).size + t354.size ≤ 9223372036854775807 then (some ((t352 ++ (⟨#[59]⟩ : ByteArray)) ++ t354)) else (none))) = some r := H
    have A6 := Aside0.mk A60
    clear A60
    replace H := Option.bind_eq_some_iff.mp H
    obtain ⟨t354, A70, H⟩ := H
    replace H : (if (t352 ++ (⟨#[59]⟩ : ByteArray)).size + t354.size ≤ 9223372036854775807 then (some ((t352 ++ (⟨#[59]⟩ : ByteArray)) ++ t354)) else (none)) = some r := H
    have A7 := Aside0.mk A70
    clear A70
    by_cases c8 : (t352 ++ (⟨#[59]⟩ : ByteArray)).size + t354.size ≤ 9223372036854775807
    · rw [if_pos c8] at H
      have c8b0 := eq_true c8
      have c8b1 : decide ((t352 ++ (⟨#[59]⟩ : ByteArray)).size + t354.size ≤ 9223372036854775807) = true := decide_eq_true c8
      try (have c8s := c8; simp only [ByteArray.size_append, show (⟨#[59]⟩ : ByteArray).size = 1 from rfl] at c8s; have c8b3 := eq_true c8s)
      try (have c8t := c8; simp only [ByteArray.size_append, Nat.add_assoc] at c8t; have c8b4 := eq_true c8t)
      try have c8b2 : (9223372036854775807 < (t352 ++ (⟨#[59]⟩ : ByteArray)).size + t354.size) = False := eq_false (Nat.not_lt.2 c8)
      obtain rfl := Option.some.inj H
      go_enter Tryd.func62, Tryd.ntmps62
      go_wp2_with (first | ((with_reducible refine gate_callee (f := 32) rfl ?_); refine goesL_ (some 6) rfl rfl Tryd.func32 (by kernel_rfl) rfl #[.int .i64 a0] rfl (by (try simp only [List.map_toArray, List.map_cons, List.map_nil]); first | done | rfl | (simp only [List.length_drop, List.length_take]; rfl)) ?_; (with_reducible refine (clavierref19_fact.calls a0 t351 _ A3.out).mono ?_); rintro e w9 ⟨rfl, hb⟩; refine ⟨_, rfl, ?_⟩; have n0_ := Aside0.mk (below_step (by repeat (first | (with_reducible first | exact HB.out | apply la1 | apply ln1 | apply ld1) | exact HB.out)) hb); clear HB; have HB := n0_; clear n0_; (try clear hb); (try clear hb2); (try clear hk); (try clear hi)) | ((with_reducible refine gate_callee (f := 63) rfl ?_); refine goesL_ (some 7) rfl rfl Tryd.func63 (by kernel_rfl) rfl #[.int .i64 t351] rfl (by (try simp only [List.map_toArray, List.map_cons, List.map_nil]); first | done | rfl | (simp only [List.length_drop, List.length_take]; rfl)) ?_; (with_reducible refine (clavierref01_Text.calls t351 t352 _ A4.out).mono ?_); rintro e w10 ⟨rfl, hb⟩; refine ⟨_, rfl, ?_⟩; have n0_ := Aside0.mk (below_step (by repeat (first | (with_reducible first | exact HB.out | apply la1 | apply ln1 | apply ld1) | exact HB.out)) hb); clear HB; have HB := n0_; clear n0_; (try clear hb); (try clear hb2); (try clear hk); (try clear hi)) | ((with_reducible refine gate_callee (f := 32) rfl ?_); refine goesL_ (some 10) rfl rfl Tryd.func32 (by kernel_rfl) rfl #[.int .i64 a1] rfl (by (try simp only [List.map_toArray, List.map_cons, List.map_nil]); first | done | rfl | (simp only [List.length_drop, List.length_take]; rfl)) ?_; (with_reducible refine (clavierref19_fact.calls a1 t353 _ A6.out).mono ?_); rintro e w11 ⟨rfl, hb⟩; refine ⟨_, rfl, ?_⟩; have n0_ := Aside0.mk (below_step (by repeat (first | (with_reducible first | exact HB.out | apply la1 | apply ln1 | apply ld1) | exact HB.out)) hb); clear HB; have HB := n0_; clear n0_; (try clear hb); (try clear hb2); (try clear hk); (try clear hi)) | ((with_reducible refine gate_callee (f := 63) rfl ?_); refine goesL_ (some 11) rfl rfl Tryd.func63 (by kernel_rfl) rfl #[.int .i64 t353] rfl (by (try simp only [List.map_toArray, List.map_cons, List.map_nil]); first | done | rfl | (simp only [List.length_drop, List.length_take]; rfl)) ?_; (with_reducible refine (clavierref01_Text.calls t353 t354 _ A7.out).mono ?_); rintro e w12 ⟨rfl, hb⟩; refine ⟨_, rfl, ?_⟩; have n0_ := Aside0.mk (below_step (by repeat (first | (with_reducible first | exact HB.out | apply la1 | apply ln1 | apply ld1) | exact HB.out)) hb); clear HB; have HB := n0_; clear n0_; (try clear hb); (try clear hb2); (try clear hk); (try clear hi)))
      go_ret
      exact ⟨by first | rfl | (simp [errW_none, errW_some] <;> rfl) | (simp [*, errW_none, errW_some] <;> rfl), by repeat (first | (with_reducible first | exact HB.out | apply la1 | apply ln1 | apply ld1) | exact HB.out)⟩
    · rw [if_neg c8] at H
      exact absurd H (by simp)
  · rw [if_neg c5] at H
    exact absurd H (by simp)
def clavierref19_said.f (k : Nat) (a0_0 : Int) (a0_1 : Int) (a0_2 : Int) (a0_3 : Int) (a0_4 : Int) (a0_5 : Int) (a0_6 : Int) (a0_7 : Int) (a0_8 : Int) (a0_9 : Bool) (a0_10 : Bool) (a0_11 : Bool) (a0_12 : Bool) (a0_13 : Bool) (a0_14 : Bool) (a0_15 : Bool) (a0_16 : Int) (a0_17 : Int) (a0_18 : Int) (a1 : ByteArray) : Option (ByteArray) := if a1.toList = ([109] : List UInt8) then ((clavierref18_May.f a0_9 a0_10 a0_11 a0_12 a0_13 a0_14 a0_15 a0_16 a0_17 a0_18).bind fun t356 => (if t356 = true then ((clavierref18_Params.f k a0_9 a0_10 a0_11 a0_12 a0_13 a0_14 a0_15 a0_16 a0_17 a0_18).bind fun t357 => ((clavierref18_Text.f k t357).bind fun t360 => (if t360.size + 1 ≤ 9223372036854775807 then (some (t360 ++ (⟨#[109]⟩ : ByteArray))) else (none)))) else (some (⟨#[]⟩ : ByteArray)))) else (if a1.toList = ([114] : List UInt8) then ((clavierref19_two.f a0_4 a0_5).bind fun t361 => (if t361.size + 1 ≤ 9223372036854775807 then (some (t361 ++ (⟨#[114]⟩ : ByteArray))) else (none))) else (if a1.toList = ([115] : List UInt8) then ((clavierref19_two.f a0_6 a0_7).bind fun t362 => (if t362.size + 1 ≤ 9223372036854775807 then (some (t362 ++ (⟨#[115]⟩ : ByteArray))) else (none))) else (if a1.toList = ([32, 113] : List UInt8) then ((clavierref19_fact.f a0_8).bind fun t363 => ((clavierref01_Text.f t363).bind fun t364 => (if t364.size + 2 ≤ 9223372036854775807 then (some (t364 ++ (⟨#[32, 113]⟩ : ByteArray))) else (none)))) else (if a1.toList = ([34, 112] : List UInt8) then (some (⟨#[54, 50, 59, 49, 34, 112]⟩ : ByteArray)) else (some (⟨#[]⟩ : ByteArray))))))
theorem clavierref19_said.mono : ∀ a0 a1 a2 a3 a4 a5 a6 a7 a8 a9 a10 a11 a12 a13 a14 a15 a16 a17 a18 a19 k, LeO (clavierref19_said.f k a0 a1 a2 a3 a4 a5 a6 a7 a8 a9 a10 a11 a12 a13 a14 a15 a16 a17 a18 a19) (clavierref19_said.f (k + 1) a0 a1 a2 a3 a4 a5 a6 a7 a8 a9 a10 a11 a12 a13 a14 a15 a16 a17 a18 a19) := by
  intro a0 a1 a2 a3 a4 a5 a6 a7 a8 a9 a10 a11 a12 a13 a14 a15 a16 a17 a18 a19 k
  unfold clavierref19_said.f
  repeat' first
      | (with_reducible exact clavierref18_Params.mono _ _ _ _ _ _ _ _ _ _ _)
      | (with_reducible exact clavierref18_Text.mono _ _)
      | (with_reducible exact LeO.refl _)
      | (with_reducible exact LeO.none _)
      | (with_reducible refine LeO.ite ?_ ?_)
      | (with_reducible refine LeO.bind ?_ (fun _ => ?_))
      | exact clavierref18_Params.mono _ _ _ _ _ _ _ _ _ _ _
      | exact clavierref18_Text.mono _ _
      | exact LeO.none _
      | refine LeO.ite ?_ ?_
      | refine LeO.bind ?_ (fun _ => ?_)
set_option maxHeartbeats 8000000 in
set_option maxRecDepth 100000 in
theorem clavierref19_said.calls (k : Nat) (a0_0 : Int) (a0_1 : Int) (a0_2 : Int) (a0_3 : Int) (a0_4 : Int) (a0_5 : Int) (a0_6 : Int) (a0_7 : Int) (a0_8 : Int) (a0_9 : Bool) (a0_10 : Bool) (a0_11 : Bool) (a0_12 : Bool) (a0_13 : Bool) (a0_14 : Bool) (a0_15 : Bool) (a0_16 : Int) (a0_17 : Int) (a0_18 : Int) (a1 : ByteArray) (r : ByteArray) (w : World) (h : clavierref19_said.f k a0_0 a0_1 a0_2 a0_3 a0_4 a0_5 a0_6 a0_7 a0_8 a0_9 a0_10 a0_11 a0_12 a0_13 a0_14 a0_15 a0_16 a0_17 a0_18 a1 = some r) :
    Calls Tryd.prog 43 #[.agg #[.int .i64 a0_0, .int .i64 a0_1, .int .i64 a0_2, .int .i64 a0_3, .int .i64 a0_4, .int .i64 a0_5, .int .i64 a0_6, .int .i64 a0_7, .int .i64 a0_8, .bool a0_9, .bool a0_10, .bool a0_11, .bool a0_12, .bool a0_13, .bool a0_14, .bool a0_15, .int .i64 a0_16, .int .i64 a0_17, .int .i64 a0_18], .string a1] w fun e w' => e = .returned (.string r) ∧ Below w.heap.size w w' := by
  have hu25 := Tryd.underlying25
  have hu23 := Tryd.underlying23
  have HB := Aside0.mk (Below.refl w.heap.size w)
  have H : (if a1.toList = ([109] : List UInt8) then ((clavierref18_May.f a0_9 a0_10 a0_11 a0_12 a0_13 a0_14 a0_15 a0_16 a0_17 a0_18).bind fun t356 => (if t356 = true then ((clavierref18_Params.f k a0_9 a0_10 a0_11 a0_12 a0_13 a0_14 a0_15 a0_16 a0_17 a0_18).bind fun t357 => ((clavierref18_Text.f k t357).bind fun t360 => (if t360.size + 1 ≤ 9223372036854775807 then (some (t360 ++ (⟨#[109]⟩ : ByteArray))) else (none)))) else (some (⟨#[]⟩ : ByteArray)))) else (if a1.toList = ([114] : List UInt8) then ((clavierref19_two.f a0_4 a0_5).bind fun t361 => (if t361.size + 1 ≤ 9223372036854775807 then (some (t361 ++ (⟨#[114]⟩ : ByteArray))) else (none))) else (if a1.toList = ([115] : List UInt8) then ((clavierref19_two.f a0_6 a0_7).bind fun t362 => (if t362.size + 1 ≤ 9223372036854775807 then (some (t362 ++ (⟨#[115]⟩ : ByteArray))) else (none))) else (if a1.toList = ([32, 113] : List UInt8) then ((clavierref19_fact.f a0_8).bind fun t363 => ((clavierref01_Text.f t363).bind fun t364 => (if t364.size + 2 ≤ 9223372036854775807 then (some (t364 ++ (⟨#[32, 113]⟩ : ByteArray))) else (none)))) else (if a1.toList = ([34, 112] : List UInt8) then (some (⟨#[54, 50, 59, 49, 34, 112]⟩ : ByteArray)) else (some (⟨#[]⟩ : ByteArray))))))) = some r := h
  clear h
  by_cases c3 : a1.toList = ([109] : List UInt8)
  · rw [if_pos c3] at H
    have c3b0 : (a1.toList == ([109] : List UInt8)) = true := beq_iff_eq.mpr c3
    have c3b1 : (a1.toList != ([109] : List UInt8)) = false := bne_eq_false_iff_eq.mpr c3
    clear c3
    replace H := Option.bind_eq_some_iff.mp H
    obtain ⟨t356, A40, H⟩ := H
    replace H : (if t356 = true then ((clavierref18_Params.f k a0_9 a0_10 a0_11 a0_12 a0_13 a0_14 a0_15 a0_16 a0_17 a0_18).bind fun t357 => ((clavierref18_Text.f k t357).bind fun t360 => (if t360.size + 1 ≤ 9223372036854775807 then (some (t360 ++ (⟨#[109]⟩ : ByteArray))) else (none)))) else (some (⟨#[]⟩ : ByteArray))) = some r := H
    have A4 := Aside0.mk A40
    clear A40
    by_cases c5 : t356 = true
    · subst c5
      have H1 : ((clavierref18_Params.f k a0_9 a0_10 a0_11 a0_12 a0_13 a0_14 a0_15 a0_16 a0_17 a0_18).bind fun t357 => ((clavierref18_Text.f k t357).bind fun t360 => (if t360.size + 1 ≤ 9223372036854775807 then (some (t360 ++ (⟨#[109]⟩ : ByteArray))) else (none)))) = some r := by rw [if_pos rfl] at H; exact H
      clear H
      have H := H1
      clear H1
      replace H := Option.bind_eq_some_iff.mp H
      obtain ⟨t357, A60, H⟩ := H
      replace H : ((clavierref18_Text.f k t357).bind fun t360 => (if t360.size + 1 ≤ 9223372036854775807 then (some (t360 ++ (⟨#[109]⟩ : ByteArray))) else (none))) = some r := H
      have A6 := Aside0.mk A60
      clear A60
      replace H := Option.bind_eq_some_iff.mp H
      obtain ⟨t360, A70, H⟩ := H
      replace H : (if t360.size + 1 ≤ 9223372036854775807 then (some (t360 ++ (⟨#[109]⟩ : ByteArray))) else (none)) = some r := H
      have A7 := Aside0.mk A70
      clear A70
      by_cases c8 : t360.size + 1 ≤ 9223372036854775807
      · rw [if_pos c8] at H
        have c8b0 := eq_true c8
        have c8b1 : decide (t360.size + 1 ≤ 9223372036854775807) = true := decide_eq_true c8
        try have c8b2 : (9223372036854775807 < t360.size + 1) = False := eq_false (Nat.not_lt.2 c8)
        obtain rfl := Option.some.inj H
        go_enter Tryd.func43, Tryd.ntmps43
        go_wp2_with (first | ((with_reducible refine gate_dst (N := 2) rfl ?_); refine box_event ?hg (N := 2) ?hd (cs := #[.int .i64 a0_0, .int .i64 a0_1, .int .i64 a0_2, .int .i64 a0_3, .int .i64 a0_4, .int .i64 a0_5, .int .i64 a0_6, .int .i64 a0_7, .int .i64 a0_8, .bool a0_9, .bool a0_10, .bool a0_11, .bool a0_12, .bool a0_13, .bool a0_14, .bool a0_15, .int .i64 a0_16, .int .i64 a0_17, .int .i64 a0_18]) (t := 25) ?hr ?_; (case hd => rfl); (case hg => rfl); (case hr => first | (go_simp; done) | (go_simp; rfl)); intro gb355 hg w9 hbox hb; have n0_ := Aside0.mk (below_step (by repeat (first | (with_reducible first | exact HB.out | apply la1 | apply ln1 | apply ld1) | exact HB.out)) hb); have n1_ := Aside0.mk (hbox); have n2_ := Aside0.mk ((by rw [hg]; exact (below_size (by repeat (first | (with_reducible first | exact HB.out | apply la1 | apply ln1 | apply ld1) | exact HB.out))) : w.heap.size ≤ gb355)); have n3_ := Aside0.mk ((by rw [hg]; exact (below_size (by repeat (first | (with_reducible first | exact HB.out | apply la1 | apply ln1 | apply ld1) | exact HB.out))) : w.heap.size ≤ gb355)); clear HB; have HB := n0_; have BK355 := n1_; have GW355 := n2_; have GE355 := n3_; clear n0_ n1_ n2_ n3_; clear hb hbox hg; have hcz10_0 : w9.cell? ⟨gb355, 0, none⟩ = some (.int .i64 a0_0) := (bc1 BK355.out 0).trans rfl; have hcz10_1 : w9.cell? ⟨gb355, 1, none⟩ = some (.int .i64 a0_1) := (bc1 BK355.out 1).trans rfl; have hcz10_2 : w9.cell? ⟨gb355, 2, none⟩ = some (.int .i64 a0_2) := (bc1 BK355.out 2).trans rfl; have hcz10_3 : w9.cell? ⟨gb355, 3, none⟩ = some (.int .i64 a0_3) := (bc1 BK355.out 3).trans rfl; have hcz10_4 : w9.cell? ⟨gb355, 4, none⟩ = some (.int .i64 a0_4) := (bc1 BK355.out 4).trans rfl; have hcz10_5 : w9.cell? ⟨gb355, 5, none⟩ = some (.int .i64 a0_5) := (bc1 BK355.out 5).trans rfl; have hcz10_6 : w9.cell? ⟨gb355, 6, none⟩ = some (.int .i64 a0_6) := (bc1 BK355.out 6).trans rfl; have hcz10_7 : w9.cell? ⟨gb355, 7, none⟩ = some (.int .i64 a0_7) := (bc1 BK355.out 7).trans rfl; have hcz10_8 : w9.cell? ⟨gb355, 8, none⟩ = some (.int .i64 a0_8) := (bc1 BK355.out 8).trans rfl; have hcz10_9 : w9.cell? ⟨gb355, 9, none⟩ = some (.bool a0_9) := (bc1 BK355.out 9).trans rfl; have hcz10_10 : w9.cell? ⟨gb355, 10, none⟩ = some (.bool a0_10) := (bc1 BK355.out 10).trans rfl; have hcz10_11 : w9.cell? ⟨gb355, 11, none⟩ = some (.bool a0_11) := (bc1 BK355.out 11).trans rfl; have hcz10_12 : w9.cell? ⟨gb355, 12, none⟩ = some (.bool a0_12) := (bc1 BK355.out 12).trans rfl; have hcz10_13 : w9.cell? ⟨gb355, 13, none⟩ = some (.bool a0_13) := (bc1 BK355.out 13).trans rfl; have hcz10_14 : w9.cell? ⟨gb355, 14, none⟩ = some (.bool a0_14) := (bc1 BK355.out 14).trans rfl; have hcz10_15 : w9.cell? ⟨gb355, 15, none⟩ = some (.bool a0_15) := (bc1 BK355.out 15).trans rfl; have hcz10_16 : w9.cell? ⟨gb355, 16, none⟩ = some (.int .i64 a0_16) := (bc1 BK355.out 16).trans rfl; have hcz10_17 : w9.cell? ⟨gb355, 17, none⟩ = some (.int .i64 a0_17) := (bc1 BK355.out 17).trans rfl; have hcz10_18 : w9.cell? ⟨gb355, 18, none⟩ = some (.int .i64 a0_18) := (bc1 BK355.out 18).trans rfl; have hfz10_0 := bz1 BK355.out 0; have hfz10_1 := bz1 BK355.out 1; have hfz10_2 := bz1 BK355.out 2; have hfz10_3 := bz1 BK355.out 3; have hfz10_4 := bz1 BK355.out 4; have hfz10_5 := bz1 BK355.out 5; have hfz10_6 := bz1 BK355.out 6; have hfz10_7 := bz1 BK355.out 7; have hfz10_8 := bz1 BK355.out 8; have hfz10_9 := bz1 BK355.out 9; have hfz10_10 := bz1 BK355.out 10; have hfz10_11 := bz1 BK355.out 11; have hfz10_12 := bz1 BK355.out 12; have hfz10_13 := bz1 BK355.out 13; have hfz10_14 := bz1 BK355.out 14; have hfz10_15 := bz1 BK355.out 15; have hfz10_16 := bz1 BK355.out 16; have hfz10_17 := bz1 BK355.out 17; have hfz10_18 := bz1 BK355.out 18) | ((with_reducible refine gate_callee (f := 15) rfl ?_); refine goesL_ (some 10) rfl rfl Tryd.func15 (by kernel_rfl) rfl #[.agg #[.bool a0_9, .bool a0_10, .bool a0_11, .bool a0_12, .bool a0_13, .bool a0_14, .bool a0_15, .int .i64 a0_16, .int .i64 a0_17, .int .i64 a0_18]] rfl (by (try simp only [List.map_toArray, List.map_cons, List.map_nil]); first | done | rfl | (simp only [List.length_drop, List.length_take]; rfl)) ?_; (with_reducible refine (clavierref18_May.calls a0_9 a0_10 a0_11 a0_12 a0_13 a0_14 a0_15 a0_16 a0_17 a0_18 true _ A4.out).mono ?_); rintro e w11 ⟨rfl, hb⟩; refine ⟨_, rfl, ?_⟩; have n0_ := Aside0.mk (bb1 (g := gb355) (o := .cells #[.int .i64 a0_0, .int .i64 a0_1, .int .i64 a0_2, .int .i64 a0_3, .int .i64 a0_4, .int .i64 a0_5, .int .i64 a0_6, .int .i64 a0_7, .int .i64 a0_8, .bool a0_9, .bool a0_10, .bool a0_11, .bool a0_12, .bool a0_13, .bool a0_14, .bool a0_15, .int .i64 a0_16, .int .i64 a0_17, .int .i64 a0_18] 25 (0, 0)) (by (with_reducible repeat (first | refine bn1 ?_ _ | refine bd1 ?_ | refine ba1 ?_ _)); exact BK355.out) hb); have n1_ := Aside0.mk (below_step (by repeat (first | (with_reducible first | exact HB.out | apply la1 | apply ln1 | apply ld1 | refine ls1 ?_ GE355.out) | exact HB.out)) hb); clear BK355; clear HB; have BK355 := n0_; have HB := n1_; clear n0_ n1_; (try clear hb); (try clear hb2); (try clear hk); (try clear hi); have hcz12_0 : w11.cell? ⟨gb355, 0, none⟩ = some (.int .i64 a0_0) := (bc1 BK355.out 0).trans rfl; have hcz12_1 : w11.cell? ⟨gb355, 1, none⟩ = some (.int .i64 a0_1) := (bc1 BK355.out 1).trans rfl; have hcz12_2 : w11.cell? ⟨gb355, 2, none⟩ = some (.int .i64 a0_2) := (bc1 BK355.out 2).trans rfl; have hcz12_3 : w11.cell? ⟨gb355, 3, none⟩ = some (.int .i64 a0_3) := (bc1 BK355.out 3).trans rfl; have hcz12_4 : w11.cell? ⟨gb355, 4, none⟩ = some (.int .i64 a0_4) := (bc1 BK355.out 4).trans rfl; have hcz12_5 : w11.cell? ⟨gb355, 5, none⟩ = some (.int .i64 a0_5) := (bc1 BK355.out 5).trans rfl; have hcz12_6 : w11.cell? ⟨gb355, 6, none⟩ = some (.int .i64 a0_6) := (bc1 BK355.out 6).trans rfl; have hcz12_7 : w11.cell? ⟨gb355, 7, none⟩ = some (.int .i64 a0_7) := (bc1 BK355.out 7).trans rfl; have hcz12_8 : w11.cell? ⟨gb355, 8, none⟩ = some (.int .i64 a0_8) := (bc1 BK355.out 8).trans rfl; have hcz12_9 : w11.cell? ⟨gb355, 9, none⟩ = some (.bool a0_9) := (bc1 BK355.out 9).trans rfl; have hcz12_10 : w11.cell? ⟨gb355, 10, none⟩ = some (.bool a0_10) := (bc1 BK355.out 10).trans rfl; have hcz12_11 : w11.cell? ⟨gb355, 11, none⟩ = some (.bool a0_11) := (bc1 BK355.out 11).trans rfl; have hcz12_12 : w11.cell? ⟨gb355, 12, none⟩ = some (.bool a0_12) := (bc1 BK355.out 12).trans rfl; have hcz12_13 : w11.cell? ⟨gb355, 13, none⟩ = some (.bool a0_13) := (bc1 BK355.out 13).trans rfl; have hcz12_14 : w11.cell? ⟨gb355, 14, none⟩ = some (.bool a0_14) := (bc1 BK355.out 14).trans rfl; have hcz12_15 : w11.cell? ⟨gb355, 15, none⟩ = some (.bool a0_15) := (bc1 BK355.out 15).trans rfl; have hcz12_16 : w11.cell? ⟨gb355, 16, none⟩ = some (.int .i64 a0_16) := (bc1 BK355.out 16).trans rfl; have hcz12_17 : w11.cell? ⟨gb355, 17, none⟩ = some (.int .i64 a0_17) := (bc1 BK355.out 17).trans rfl; have hcz12_18 : w11.cell? ⟨gb355, 18, none⟩ = some (.int .i64 a0_18) := (bc1 BK355.out 18).trans rfl; have hfz12_0 := bz1 BK355.out 0; have hfz12_1 := bz1 BK355.out 1; have hfz12_2 := bz1 BK355.out 2; have hfz12_3 := bz1 BK355.out 3; have hfz12_4 := bz1 BK355.out 4; have hfz12_5 := bz1 BK355.out 5; have hfz12_6 := bz1 BK355.out 6; have hfz12_7 := bz1 BK355.out 7; have hfz12_8 := bz1 BK355.out 8; have hfz12_9 := bz1 BK355.out 9; have hfz12_10 := bz1 BK355.out 10; have hfz12_11 := bz1 BK355.out 11; have hfz12_12 := bz1 BK355.out 12; have hfz12_13 := bz1 BK355.out 13; have hfz12_14 := bz1 BK355.out 14; have hfz12_15 := bz1 BK355.out 15; have hfz12_16 := bz1 BK355.out 16; have hfz12_17 := bz1 BK355.out 17; have hfz12_18 := bz1 BK355.out 18) | ((with_reducible refine gate_callee (f := 61) rfl ?_); refine goesL_ (some 13) rfl rfl Tryd.func61 (by kernel_rfl) rfl #[.agg #[.bool a0_9, .bool a0_10, .bool a0_11, .bool a0_12, .bool a0_13, .bool a0_14, .bool a0_15, .int .i64 a0_16, .int .i64 a0_17, .int .i64 a0_18]] rfl (by (try simp only [List.map_toArray, List.map_cons, List.map_nil]); first | done | rfl | (simp only [List.length_drop, List.length_take]; rfl)) ?_; (with_reducible refine (clavierref18_Params.calls k a0_9 a0_10 a0_11 a0_12 a0_13 a0_14 a0_15 a0_16 a0_17 a0_18 t357 _ A6.out).mono ?_); rintro e w13 ⟨v358, rfl, ho0, hb⟩; refine ⟨_, rfl, ?_⟩; have n0_ := Aside0.mk (Kd.V_lower (Kd.V_mono (ok' := fun k_ => k_ ≠ gb355) ho0 (fun k_ hk_ => (Kd.freshB (g := gb355) (o := .cells #[.int .i64 a0_0, .int .i64 a0_1, .int .i64 a0_2, .int .i64 a0_3, .int .i64 a0_4, .int .i64 a0_5, .int .i64 a0_6, .int .i64 a0_7, .int .i64 a0_8, .bool a0_9, .bool a0_10, .bool a0_11, .bool a0_12, .bool a0_13, .bool a0_14, .bool a0_15, .int .i64 a0_16, .int .i64 a0_17, .int .i64 a0_18] 25 (0, 0)) (by (with_reducible repeat (first | refine bn1 ?_ _ | refine bd1 ?_ | refine ba1 ?_ _)); exact BK355.out) k_ hk_))) (below_size (by repeat (first | (with_reducible first | exact HB.out | apply la1 | apply ln1 | apply ld1 | refine ls1 ?_ GE355.out) | exact HB.out)))); have n1_ := Aside0.mk (bb1 (g := gb355) (o := .cells #[.int .i64 a0_0, .int .i64 a0_1, .int .i64 a0_2, .int .i64 a0_3, .int .i64 a0_4, .int .i64 a0_5, .int .i64 a0_6, .int .i64 a0_7, .int .i64 a0_8, .bool a0_9, .bool a0_10, .bool a0_11, .bool a0_12, .bool a0_13, .bool a0_14, .bool a0_15, .int .i64 a0_16, .int .i64 a0_17, .int .i64 a0_18] 25 (0, 0)) (by (with_reducible repeat (first | refine bn1 ?_ _ | refine bd1 ?_ | refine ba1 ?_ _)); exact BK355.out) hb); have n2_ := Aside0.mk (below_step (by repeat (first | (with_reducible first | exact HB.out | apply la1 | apply ln1 | apply ld1 | refine ls1 ?_ GE355.out) | exact HB.out)) hb); clear BK355; clear HB; have HO359 := n0_; have BK355 := n1_; have HB := n2_; clear n0_ n1_ n2_; (try clear hb); (try clear hb2); (try clear hk); (try clear hi); (try clear ho0); obtain ⟨Ao14, co14, eo14⟩ := Kd.V_slice HO359.out; subst eo14) | ((with_reducible refine gate_callee (f := 60) rfl ?_); refine goesL_ (some 14) rfl rfl Tryd.func60 (by kernel_rfl) rfl #[.slice Ao14 t357.length co14] rfl (by (try simp only [List.map_toArray, List.map_cons, List.map_nil]); first | done | rfl | (simp only [List.length_drop, List.length_take]; rfl)) ?_; (with_reducible refine (clavierref18_Text.calls k _ _ t357 t360 _ ?side1 ?side2 A7.out).mono ?_); (case side1 => repeat (first | exact (Kd.V_reads' HO359.out).2.2 | (with_reducible refine Kd.C_alloc ?_ _) | (with_reducible refine Kd.C_drewN ?_ _) | (with_reducible refine Kd.C_drew ?_))); (case side2 => exact (Kd.V_reads' HO359.out).2.1); rintro e w15 ⟨rfl, hb⟩; refine ⟨_, rfl, ?_⟩; have n0_ := Aside0.mk (Kd.V_below (by (with_reducible repeat (first | apply Kd.V_alloc | apply Kd.V_drewN | apply Kd.V_drew)); exact HO359.out) hb); have n1_ := Aside0.mk (bb1 (g := gb355) (o := .cells #[.int .i64 a0_0, .int .i64 a0_1, .int .i64 a0_2, .int .i64 a0_3, .int .i64 a0_4, .int .i64 a0_5, .int .i64 a0_6, .int .i64 a0_7, .int .i64 a0_8, .bool a0_9, .bool a0_10, .bool a0_11, .bool a0_12, .bool a0_13, .bool a0_14, .bool a0_15, .int .i64 a0_16, .int .i64 a0_17, .int .i64 a0_18] 25 (0, 0)) (by (with_reducible repeat (first | refine bn1 ?_ _ | refine bd1 ?_ | refine ba1 ?_ _)); exact BK355.out) hb); have n2_ := Aside0.mk (below_step (by repeat (first | (with_reducible first | exact HB.out | apply la1 | apply ln1 | apply ld1 | refine ls1 ?_ GE355.out) | exact HB.out)) hb); clear HO359; clear BK355; clear HB; have HO359 := n0_; have BK355 := n1_; have HB := n2_; clear n0_ n1_ n2_; (try clear hb); (try clear hb2); (try clear hk); (try clear hi)))
        go_ret
        exact ⟨by first | rfl | (simp [errW_none, errW_some] <;> rfl) | (simp [*, errW_none, errW_some] <;> rfl), by repeat (first | (with_reducible first | exact HB.out | apply la1 | apply ln1 | apply ld1 | refine ls1 ?_ GE355.out) | exact HB.out)⟩
      · rw [if_neg c8] at H
        exact absurd H (by simp)
    · replace c5 := Bool.eq_false_iff.mpr c5
      subst c5
      have H1 : (some (⟨#[]⟩ : ByteArray)) = some r := by rw [if_neg (show ¬ (false = true) by decide)] at H; exact H
      clear H
      have H := H1
      clear H1
      obtain rfl := Option.some.inj H
      go_enter Tryd.func43, Tryd.ntmps43
      go_wp2_with (first | ((with_reducible refine gate_dst (N := 2) rfl ?_); refine box_event ?hg (N := 2) ?hd (cs := #[.int .i64 a0_0, .int .i64 a0_1, .int .i64 a0_2, .int .i64 a0_3, .int .i64 a0_4, .int .i64 a0_5, .int .i64 a0_6, .int .i64 a0_7, .int .i64 a0_8, .bool a0_9, .bool a0_10, .bool a0_11, .bool a0_12, .bool a0_13, .bool a0_14, .bool a0_15, .int .i64 a0_16, .int .i64 a0_17, .int .i64 a0_18]) (t := 25) ?hr ?_; (case hd => rfl); (case hg => rfl); (case hr => first | (go_simp; done) | (go_simp; rfl)); intro gb355 hg w16 hbox hb; have n0_ := Aside0.mk (below_step (by repeat (first | (with_reducible first | exact HB.out | apply la1 | apply ln1 | apply ld1) | exact HB.out)) hb); have n1_ := Aside0.mk (hbox); have n2_ := Aside0.mk ((by rw [hg]; exact (below_size (by repeat (first | (with_reducible first | exact HB.out | apply la1 | apply ln1 | apply ld1) | exact HB.out))) : w.heap.size ≤ gb355)); have n3_ := Aside0.mk ((by rw [hg]; exact (below_size (by repeat (first | (with_reducible first | exact HB.out | apply la1 | apply ln1 | apply ld1) | exact HB.out))) : w.heap.size ≤ gb355)); clear HB; have HB := n0_; have BK355 := n1_; have GW355 := n2_; have GE355 := n3_; clear n0_ n1_ n2_ n3_; clear hb hbox hg; have hcz17_0 : w16.cell? ⟨gb355, 0, none⟩ = some (.int .i64 a0_0) := (bc1 BK355.out 0).trans rfl; have hcz17_1 : w16.cell? ⟨gb355, 1, none⟩ = some (.int .i64 a0_1) := (bc1 BK355.out 1).trans rfl; have hcz17_2 : w16.cell? ⟨gb355, 2, none⟩ = some (.int .i64 a0_2) := (bc1 BK355.out 2).trans rfl; have hcz17_3 : w16.cell? ⟨gb355, 3, none⟩ = some (.int .i64 a0_3) := (bc1 BK355.out 3).trans rfl; have hcz17_4 : w16.cell? ⟨gb355, 4, none⟩ = some (.int .i64 a0_4) := (bc1 BK355.out 4).trans rfl; have hcz17_5 : w16.cell? ⟨gb355, 5, none⟩ = some (.int .i64 a0_5) := (bc1 BK355.out 5).trans rfl; have hcz17_6 : w16.cell? ⟨gb355, 6, none⟩ = some (.int .i64 a0_6) := (bc1 BK355.out 6).trans rfl; have hcz17_7 : w16.cell? ⟨gb355, 7, none⟩ = some (.int .i64 a0_7) := (bc1 BK355.out 7).trans rfl; have hcz17_8 : w16.cell? ⟨gb355, 8, none⟩ = some (.int .i64 a0_8) := (bc1 BK355.out 8).trans rfl; have hcz17_9 : w16.cell? ⟨gb355, 9, none⟩ = some (.bool a0_9) := (bc1 BK355.out 9).trans rfl; have hcz17_10 : w16.cell? ⟨gb355, 10, none⟩ = some (.bool a0_10) := (bc1 BK355.out 10).trans rfl; have hcz17_11 : w16.cell? ⟨gb355, 11, none⟩ = some (.bool a0_11) := (bc1 BK355.out 11).trans rfl; have hcz17_12 : w16.cell? ⟨gb355, 12, none⟩ = some (.bool a0_12) := (bc1 BK355.out 12).trans rfl; have hcz17_13 : w16.cell? ⟨gb355, 13, none⟩ = some (.bool a0_13) := (bc1 BK355.out 13).trans rfl; have hcz17_14 : w16.cell? ⟨gb355, 14, none⟩ = some (.bool a0_14) := (bc1 BK355.out 14).trans rfl; have hcz17_15 : w16.cell? ⟨gb355, 15, none⟩ = some (.bool a0_15) := (bc1 BK355.out 15).trans rfl; have hcz17_16 : w16.cell? ⟨gb355, 16, none⟩ = some (.int .i64 a0_16) := (bc1 BK355.out 16).trans rfl; have hcz17_17 : w16.cell? ⟨gb355, 17, none⟩ = some (.int .i64 a0_17) := (bc1 BK355.out 17).trans rfl; have hcz17_18 : w16.cell? ⟨gb355, 18, none⟩ = some (.int .i64 a0_18) := (bc1 BK355.out 18).trans rfl; have hfz17_0 := bz1 BK355.out 0; have hfz17_1 := bz1 BK355.out 1; have hfz17_2 := bz1 BK355.out 2; have hfz17_3 := bz1 BK355.out 3; have hfz17_4 := bz1 BK355.out 4; have hfz17_5 := bz1 BK355.out 5; have hfz17_6 := bz1 BK355.out 6; have hfz17_7 := bz1 BK355.out 7; have hfz17_8 := bz1 BK355.out 8; have hfz17_9 := bz1 BK355.out 9; have hfz17_10 := bz1 BK355.out 10; have hfz17_11 := bz1 BK355.out 11; have hfz17_12 := bz1 BK355.out 12; have hfz17_13 := bz1 BK355.out 13; have hfz17_14 := bz1 BK355.out 14; have hfz17_15 := bz1 BK355.out 15; have hfz17_16 := bz1 BK355.out 16; have hfz17_17 := bz1 BK355.out 17; have hfz17_18 := bz1 BK355.out 18) | ((with_reducible refine gate_callee (f := 15) rfl ?_); refine goesL_ (some 10) rfl rfl Tryd.func15 (by kernel_rfl) rfl #[.agg #[.bool a0_9, .bool a0_10, .bool a0_11, .bool a0_12, .bool a0_13, .bool a0_14, .bool a0_15, .int .i64 a0_16, .int .i64 a0_17, .int .i64 a0_18]] rfl (by (try simp only [List.map_toArray, List.map_cons, List.map_nil]); first | done | rfl | (simp only [List.length_drop, List.length_take]; rfl)) ?_; (with_reducible refine (clavierref18_May.calls a0_9 a0_10 a0_11 a0_12 a0_13 a0_14 a0_15 a0_16 a0_17 a0_18 false _ A4.out).mono ?_); rintro e w18 ⟨rfl, hb⟩; refine ⟨_, rfl, ?_⟩; have n0_ := Aside0.mk (bb1 (g := gb355) (o := .cells #[.int .i64 a0_0, .int .i64 a0_1, .int .i64 a0_2, .int .i64 a0_3, .int .i64 a0_4, .int .i64 a0_5, .int .i64 a0_6, .int .i64 a0_7, .int .i64 a0_8, .bool a0_9, .bool a0_10, .bool a0_11, .bool a0_12, .bool a0_13, .bool a0_14, .bool a0_15, .int .i64 a0_16, .int .i64 a0_17, .int .i64 a0_18] 25 (0, 0)) (by (with_reducible repeat (first | refine bn1 ?_ _ | refine bd1 ?_ | refine ba1 ?_ _)); exact BK355.out) hb); have n1_ := Aside0.mk (below_step (by repeat (first | (with_reducible first | exact HB.out | apply la1 | apply ln1 | apply ld1 | refine ls1 ?_ GE355.out) | exact HB.out)) hb); clear BK355; clear HB; have BK355 := n0_; have HB := n1_; clear n0_ n1_; (try clear hb); (try clear hb2); (try clear hk); (try clear hi)))
      go_ret
      exact ⟨by first | rfl | (simp [errW_none, errW_some] <;> rfl) | (simp [*, errW_none, errW_some] <;> rfl), by repeat (first | (with_reducible first | exact HB.out | apply la1 | apply ln1 | apply ld1 | refine ls1 ?_ GE355.out) | exact HB.out)⟩
  · rw [if_neg c3] at H
    have c3b0 : (a1.toList == ([109] : List UInt8)) = false := beq_eq_false_iff_ne.mpr c3
    have c3b1 : (a1.toList != ([109] : List UInt8)) = true := bne_iff_ne.mpr c3
    by_cases c19 : a1.toList = ([114] : List UInt8)
    · rw [if_pos c19] at H
      have c19b0 : (a1.toList == ([114] : List UInt8)) = true := beq_iff_eq.mpr c19
      have c19b1 : (a1.toList != ([114] : List UInt8)) = false := bne_eq_false_iff_eq.mpr c19
      clear c19
      replace H := Option.bind_eq_some_iff.mp H
      obtain ⟨t361, A200, H⟩ := H
      replace H : (if t361.size + 1 ≤ 9223372036854775807 then (some (t361 ++ (⟨#[114]⟩ : ByteArray))) else (none)) = some r := H
      have A20 := Aside0.mk A200
      clear A200
      by_cases c21 : t361.size + 1 ≤ 9223372036854775807
      · rw [if_pos c21] at H
        have c21b0 := eq_true c21
        have c21b1 : decide (t361.size + 1 ≤ 9223372036854775807) = true := decide_eq_true c21
        try have c21b2 : (9223372036854775807 < t361.size + 1) = False := eq_false (Nat.not_lt.2 c21)
        obtain rfl := Option.some.inj H
        go_enter Tryd.func43, Tryd.ntmps43
        go_wp2_with (first | ((with_reducible refine gate_dst (N := 2) rfl ?_); refine box_event ?hg (N := 2) ?hd (cs := #[.int .i64 a0_0, .int .i64 a0_1, .int .i64 a0_2, .int .i64 a0_3, .int .i64 a0_4, .int .i64 a0_5, .int .i64 a0_6, .int .i64 a0_7, .int .i64 a0_8, .bool a0_9, .bool a0_10, .bool a0_11, .bool a0_12, .bool a0_13, .bool a0_14, .bool a0_15, .int .i64 a0_16, .int .i64 a0_17, .int .i64 a0_18]) (t := 25) ?hr ?_; (case hd => rfl); (case hg => rfl); (case hr => first | (go_simp; done) | (go_simp; rfl)); intro gb355 hg w22 hbox hb; have n0_ := Aside0.mk (below_step (by repeat (first | (with_reducible first | exact HB.out | apply la1 | apply ln1 | apply ld1) | exact HB.out)) hb); have n1_ := Aside0.mk (hbox); have n2_ := Aside0.mk ((by rw [hg]; exact (below_size (by repeat (first | (with_reducible first | exact HB.out | apply la1 | apply ln1 | apply ld1) | exact HB.out))) : w.heap.size ≤ gb355)); have n3_ := Aside0.mk ((by rw [hg]; exact (below_size (by repeat (first | (with_reducible first | exact HB.out | apply la1 | apply ln1 | apply ld1) | exact HB.out))) : w.heap.size ≤ gb355)); clear HB; have HB := n0_; have BK355 := n1_; have GW355 := n2_; have GE355 := n3_; clear n0_ n1_ n2_ n3_; clear hb hbox hg; have hcz23_0 : w22.cell? ⟨gb355, 0, none⟩ = some (.int .i64 a0_0) := (bc1 BK355.out 0).trans rfl; have hcz23_1 : w22.cell? ⟨gb355, 1, none⟩ = some (.int .i64 a0_1) := (bc1 BK355.out 1).trans rfl; have hcz23_2 : w22.cell? ⟨gb355, 2, none⟩ = some (.int .i64 a0_2) := (bc1 BK355.out 2).trans rfl; have hcz23_3 : w22.cell? ⟨gb355, 3, none⟩ = some (.int .i64 a0_3) := (bc1 BK355.out 3).trans rfl; have hcz23_4 : w22.cell? ⟨gb355, 4, none⟩ = some (.int .i64 a0_4) := (bc1 BK355.out 4).trans rfl; have hcz23_5 : w22.cell? ⟨gb355, 5, none⟩ = some (.int .i64 a0_5) := (bc1 BK355.out 5).trans rfl; have hcz23_6 : w22.cell? ⟨gb355, 6, none⟩ = some (.int .i64 a0_6) := (bc1 BK355.out 6).trans rfl; have hcz23_7 : w22.cell? ⟨gb355, 7, none⟩ = some (.int .i64 a0_7) := (bc1 BK355.out 7).trans rfl; have hcz23_8 : w22.cell? ⟨gb355, 8, none⟩ = some (.int .i64 a0_8) := (bc1 BK355.out 8).trans rfl; have hcz23_9 : w22.cell? ⟨gb355, 9, none⟩ = some (.bool a0_9) := (bc1 BK355.out 9).trans rfl; have hcz23_10 : w22.cell? ⟨gb355, 10, none⟩ = some (.bool a0_10) := (bc1 BK355.out 10).trans rfl; have hcz23_11 : w22.cell? ⟨gb355, 11, none⟩ = some (.bool a0_11) := (bc1 BK355.out 11).trans rfl; have hcz23_12 : w22.cell? ⟨gb355, 12, none⟩ = some (.bool a0_12) := (bc1 BK355.out 12).trans rfl; have hcz23_13 : w22.cell? ⟨gb355, 13, none⟩ = some (.bool a0_13) := (bc1 BK355.out 13).trans rfl; have hcz23_14 : w22.cell? ⟨gb355, 14, none⟩ = some (.bool a0_14) := (bc1 BK355.out 14).trans rfl; have hcz23_15 : w22.cell? ⟨gb355, 15, none⟩ = some (.bool a0_15) := (bc1 BK355.out 15).trans rfl; have hcz23_16 : w22.cell? ⟨gb355, 16, none⟩ = some (.int .i64 a0_16) := (bc1 BK355.out 16).trans rfl; have hcz23_17 : w22.cell? ⟨gb355, 17, none⟩ = some (.int .i64 a0_17) := (bc1 BK355.out 17).trans rfl; have hcz23_18 : w22.cell? ⟨gb355, 18, none⟩ = some (.int .i64 a0_18) := (bc1 BK355.out 18).trans rfl; have hfz23_0 := bz1 BK355.out 0; have hfz23_1 := bz1 BK355.out 1; have hfz23_2 := bz1 BK355.out 2; have hfz23_3 := bz1 BK355.out 3; have hfz23_4 := bz1 BK355.out 4; have hfz23_5 := bz1 BK355.out 5; have hfz23_6 := bz1 BK355.out 6; have hfz23_7 := bz1 BK355.out 7; have hfz23_8 := bz1 BK355.out 8; have hfz23_9 := bz1 BK355.out 9; have hfz23_10 := bz1 BK355.out 10; have hfz23_11 := bz1 BK355.out 11; have hfz23_12 := bz1 BK355.out 12; have hfz23_13 := bz1 BK355.out 13; have hfz23_14 := bz1 BK355.out 14; have hfz23_15 := bz1 BK355.out 15; have hfz23_16 := bz1 BK355.out 16; have hfz23_17 := bz1 BK355.out 17; have hfz23_18 := bz1 BK355.out 18) | ((with_reducible refine gate_callee (f := 62) rfl ?_); refine goesL_ (some 22) rfl rfl Tryd.func62 (by kernel_rfl) rfl #[.int .i64 a0_4, .int .i64 a0_5] rfl (by (try simp only [List.map_toArray, List.map_cons, List.map_nil]); first | done | rfl | (simp only [List.length_drop, List.length_take]; rfl)) ?_; (with_reducible refine (clavierref19_two.calls a0_4 a0_5 t361 _ A20.out).mono ?_); rintro e w24 ⟨rfl, hb⟩; refine ⟨_, rfl, ?_⟩; have n0_ := Aside0.mk (bb1 (g := gb355) (o := .cells #[.int .i64 a0_0, .int .i64 a0_1, .int .i64 a0_2, .int .i64 a0_3, .int .i64 a0_4, .int .i64 a0_5, .int .i64 a0_6, .int .i64 a0_7, .int .i64 a0_8, .bool a0_9, .bool a0_10, .bool a0_11, .bool a0_12, .bool a0_13, .bool a0_14, .bool a0_15, .int .i64 a0_16, .int .i64 a0_17, .int .i64 a0_18] 25 (0, 0)) (by (with_reducible repeat (first | refine bn1 ?_ _ | refine bd1 ?_ | refine ba1 ?_ _)); exact BK355.out) hb); have n1_ := Aside0.mk (below_step (by repeat (first | (with_reducible first | exact HB.out | apply la1 | apply ln1 | apply ld1 | refine ls1 ?_ GE355.out) | exact HB.out)) hb); clear BK355; clear HB; have BK355 := n0_; have HB := n1_; clear n0_ n1_; (try clear hb); (try clear hb2); (try clear hk); (try clear hi)))
        go_ret
        exact ⟨by first | rfl | (simp [errW_none, errW_some] <;> rfl) | (simp [*, errW_none, errW_some] <;> rfl), by repeat (first | (with_reducible first | exact HB.out | apply la1 | apply ln1 | apply ld1 | refine ls1 ?_ GE355.out) | exact HB.out)⟩
      · rw [if_neg c21] at H
        exact absurd H (by simp)
    · rw [if_neg c19] at H
      have c19b0 : (a1.toList == ([114] : List UInt8)) = false := beq_eq_false_iff_ne.mpr c19
      have c19b1 : (a1.toList != ([114] : List UInt8)) = true := bne_iff_ne.mpr c19
      by_cases c25 : a1.toList = ([115] : List UInt8)
      · rw [if_pos c25] at H
        have c25b0 : (a1.toList == ([115] : List UInt8)) = true := beq_iff_eq.mpr c25
        have c25b1 : (a1.toList != ([115] : List UInt8)) = false := bne_eq_false_iff_eq.mpr c25
        clear c25
        replace H := Option.bind_eq_some_iff.mp H
        obtain ⟨t362, A260, H⟩ := H
        replace H : (if t362.size + 1 ≤ 9223372036854775807 then (some (t362 ++ (⟨#[115]⟩ : ByteArray))) else (none)) = some r := H
        have A26 := Aside0.mk A260
        clear A260
        by_cases c27 : t362.size + 1 ≤ 9223372036854775807
        · rw [if_pos c27] at H
          have c27b0 := eq_true c27
          have c27b1 : decide (t362.size + 1 ≤ 9223372036854775807) = true := decide_eq_true c27
          try have c27b2 : (9223372036854775807 < t362.size + 1) = False := eq_false (Nat.not_lt.2 c27)
          obtain rfl := Option.some.inj H
          go_enter Tryd.func43, Tryd.ntmps43
          go_wp2_with (first | ((with_reducible refine gate_dst (N := 2) rfl ?_); refine box_event ?hg (N := 2) ?hd (cs := #[.int .i64 a0_0, .int .i64 a0_1, .int .i64 a0_2, .int .i64 a0_3, .int .i64 a0_4, .int .i64 a0_5, .int .i64 a0_6, .int .i64 a0_7, .int .i64 a0_8, .bool a0_9, .bool a0_10, .bool a0_11, .bool a0_12, .bool a0_13, .bool a0_14, .bool a0_15, .int .i64 a0_16, .int .i64 a0_17, .int .i64 a0_18]) (t := 25) ?hr ?_; (case hd => rfl); (case hg => rfl); (case hr => first | (go_simp; done) | (go_simp; rfl)); intro gb355 hg w28 hbox hb; have n0_ := Aside0.mk (below_step (by repeat (first | (with_reducible first | exact HB.out | apply la1 | apply ln1 | apply ld1) | exact HB.out)) hb); have n1_ := Aside0.mk (hbox); have n2_ := Aside0.mk ((by rw [hg]; exact (below_size (by repeat (first | (with_reducible first | exact HB.out | apply la1 | apply ln1 | apply ld1) | exact HB.out))) : w.heap.size ≤ gb355)); have n3_ := Aside0.mk ((by rw [hg]; exact (below_size (by repeat (first | (with_reducible first | exact HB.out | apply la1 | apply ln1 | apply ld1) | exact HB.out))) : w.heap.size ≤ gb355)); clear HB; have HB := n0_; have BK355 := n1_; have GW355 := n2_; have GE355 := n3_; clear n0_ n1_ n2_ n3_; clear hb hbox hg; have hcz29_0 : w28.cell? ⟨gb355, 0, none⟩ = some (.int .i64 a0_0) := (bc1 BK355.out 0).trans rfl; have hcz29_1 : w28.cell? ⟨gb355, 1, none⟩ = some (.int .i64 a0_1) := (bc1 BK355.out 1).trans rfl; have hcz29_2 : w28.cell? ⟨gb355, 2, none⟩ = some (.int .i64 a0_2) := (bc1 BK355.out 2).trans rfl; have hcz29_3 : w28.cell? ⟨gb355, 3, none⟩ = some (.int .i64 a0_3) := (bc1 BK355.out 3).trans rfl; have hcz29_4 : w28.cell? ⟨gb355, 4, none⟩ = some (.int .i64 a0_4) := (bc1 BK355.out 4).trans rfl; have hcz29_5 : w28.cell? ⟨gb355, 5, none⟩ = some (.int .i64 a0_5) := (bc1 BK355.out 5).trans rfl; have hcz29_6 : w28.cell? ⟨gb355, 6, none⟩ = some (.int .i64 a0_6) := (bc1 BK355.out 6).trans rfl; have hcz29_7 : w28.cell? ⟨gb355, 7, none⟩ = some (.int .i64 a0_7) := (bc1 BK355.out 7).trans rfl; have hcz29_8 : w28.cell? ⟨gb355, 8, none⟩ = some (.int .i64 a0_8) := (bc1 BK355.out 8).trans rfl; have hcz29_9 : w28.cell? ⟨gb355, 9, none⟩ = some (.bool a0_9) := (bc1 BK355.out 9).trans rfl; have hcz29_10 : w28.cell? ⟨gb355, 10, none⟩ = some (.bool a0_10) := (bc1 BK355.out 10).trans rfl; have hcz29_11 : w28.cell? ⟨gb355, 11, none⟩ = some (.bool a0_11) := (bc1 BK355.out 11).trans rfl; have hcz29_12 : w28.cell? ⟨gb355, 12, none⟩ = some (.bool a0_12) := (bc1 BK355.out 12).trans rfl; have hcz29_13 : w28.cell? ⟨gb355, 13, none⟩ = some (.bool a0_13) := (bc1 BK355.out 13).trans rfl; have hcz29_14 : w28.cell? ⟨gb355, 14, none⟩ = some (.bool a0_14) := (bc1 BK355.out 14).trans rfl; have hcz29_15 : w28.cell? ⟨gb355, 15, none⟩ = some (.bool a0_15) := (bc1 BK355.out 15).trans rfl; have hcz29_16 : w28.cell? ⟨gb355, 16, none⟩ = some (.int .i64 a0_16) := (bc1 BK355.out 16).trans rfl; have hcz29_17 : w28.cell? ⟨gb355, 17, none⟩ = some (.int .i64 a0_17) := (bc1 BK355.out 17).trans rfl; have hcz29_18 : w28.cell? ⟨gb355, 18, none⟩ = some (.int .i64 a0_18) := (bc1 BK355.out 18).trans rfl; have hfz29_0 := bz1 BK355.out 0; have hfz29_1 := bz1 BK355.out 1; have hfz29_2 := bz1 BK355.out 2; have hfz29_3 := bz1 BK355.out 3; have hfz29_4 := bz1 BK355.out 4; have hfz29_5 := bz1 BK355.out 5; have hfz29_6 := bz1 BK355.out 6; have hfz29_7 := bz1 BK355.out 7; have hfz29_8 := bz1 BK355.out 8; have hfz29_9 := bz1 BK355.out 9; have hfz29_10 := bz1 BK355.out 10; have hfz29_11 := bz1 BK355.out 11; have hfz29_12 := bz1 BK355.out 12; have hfz29_13 := bz1 BK355.out 13; have hfz29_14 := bz1 BK355.out 14; have hfz29_15 := bz1 BK355.out 15; have hfz29_16 := bz1 BK355.out 16; have hfz29_17 := bz1 BK355.out 17; have hfz29_18 := bz1 BK355.out 18) | ((with_reducible refine gate_callee (f := 62) rfl ?_); refine goesL_ (some 30) rfl rfl Tryd.func62 (by kernel_rfl) rfl #[.int .i64 a0_6, .int .i64 a0_7] rfl (by (try simp only [List.map_toArray, List.map_cons, List.map_nil]); first | done | rfl | (simp only [List.length_drop, List.length_take]; rfl)) ?_; (with_reducible refine (clavierref19_two.calls a0_6 a0_7 t362 _ A26.out).mono ?_); rintro e w30 ⟨rfl, hb⟩; refine ⟨_, rfl, ?_⟩; have n0_ := Aside0.mk (bb1 (g := gb355) (o := .cells #[.int .i64 a0_0, .int .i64 a0_1, .int .i64 a0_2, .int .i64 a0_3, .int .i64 a0_4, .int .i64 a0_5, .int .i64 a0_6, .int .i64 a0_7, .int .i64 a0_8, .bool a0_9, .bool a0_10, .bool a0_11, .bool a0_12, .bool a0_13, .bool a0_14, .bool a0_15, .int .i64 a0_16, .int .i64 a0_17, .int .i64 a0_18] 25 (0, 0)) (by (with_reducible repeat (first | refine bn1 ?_ _ | refine bd1 ?_ | refine ba1 ?_ _)); exact BK355.out) hb); have n1_ := Aside0.mk (below_step (by repeat (first | (with_reducible first | exact HB.out | apply la1 | apply ln1 | apply ld1 | refine ls1 ?_ GE355.out) | exact HB.out)) hb); clear BK355; clear HB; have BK355 := n0_; have HB := n1_; clear n0_ n1_; (try clear hb); (try clear hb2); (try clear hk); (try clear hi)))
          go_ret
          exact ⟨by first | rfl | (simp [errW_none, errW_some] <;> rfl) | (simp [*, errW_none, errW_some] <;> rfl), by repeat (first | (with_reducible first | exact HB.out | apply la1 | apply ln1 | apply ld1 | refine ls1 ?_ GE355.out) | exact HB.out)⟩
        · rw [if_neg c27] at H
          exact absurd H (by simp)
      · rw [if_neg c25] at H
        have c25b0 : (a1.toList == ([115] : List UInt8)) = false := beq_eq_false_iff_ne.mpr c25
        have c25b1 : (a1.toList != ([115] : List UInt8)) = true := bne_iff_ne.mpr c25
        by_cases c31 : a1.toList = ([32, 113] : List UInt8)
        · rw [if_pos c31] at H
          have c31b0 : (a1.toList == ([32, 113] : List UInt8)) = true := beq_iff_eq.mpr c31
          have c31b1 : (a1.toList != ([32, 113] : List UInt8)) = false := bne_eq_false_iff_eq.mpr c31
          clear c31
          replace H := Option.bind_eq_some_iff.mp H
          obtain ⟨t363, A320, H⟩ := H
          replace H : ((clavierref01_Text.f t363).bind fun t364 => (if t364.size + 2 ≤ 9223372036854775807 then (some (t364 ++ (⟨#[32, 113]⟩ : ByteArray))) else (none))) = some r := H
          have A32 := Aside0.mk A320
          clear A320
          replace H := Option.bind_eq_some_iff.mp H
          obtain ⟨t364, A330, H⟩ := H
          replace H : (if t364.size + 2 ≤ 9223372036854775807 then (some (t364 ++ (⟨#[32, 113]⟩ : ByteArray))) else (none)) = some r := H
          have A33 := Aside0.mk A330
          clear A330
          by_cases c34 : t364.size + 2 ≤ 9223372036854775807
          · rw [if_pos c34] at H
            have c34b0 := eq_true c34
            have c34b1 : decide (t364.size + 2 ≤ 9223372036854775807) = true := decide_eq_true c34
            try have c34b2 : (9223372036854775807 < t364.size + 2) = False := eq_false (Nat.not_lt.2 c34)
            obtain rfl := Option.some.inj H
            go_enter Tryd.func43, Tryd.ntmps43
            go_wp2_with (first | ((with_reducible refine gate_dst (N := 2) rfl ?_); refine box_event ?hg (N := 2) ?hd (cs := #[.int .i64 a0_0, .int .i64 a0_1, .int .i64 a0_2, .int .i64 a0_3, .int .i64 a0_4, .int .i64 a0_5, .int .i64 a0_6, .int .i64 a0_7, .int .i64 a0_8, .bool a0_9, .bool a0_10, .bool a0_11, .bool a0_12, .bool a0_13, .bool a0_14, .bool a0_15, .int .i64 a0_16, .int .i64 a0_17, .int .i64 a0_18]) (t := 25) ?hr ?_; (case hd => rfl); (case hg => rfl); (case hr => first | (go_simp; done) | (go_simp; rfl)); intro gb355 hg w35 hbox hb; have n0_ := Aside0.mk (below_step (by repeat (first | (with_reducible first | exact HB.out | apply la1 | apply ln1 | apply ld1) | exact HB.out)) hb); have n1_ := Aside0.mk (hbox); have n2_ := Aside0.mk ((by rw [hg]; exact (below_size (by repeat (first | (with_reducible first | exact HB.out | apply la1 | apply ln1 | apply ld1) | exact HB.out))) : w.heap.size ≤ gb355)); have n3_ := Aside0.mk ((by rw [hg]; exact (below_size (by repeat (first | (with_reducible first | exact HB.out | apply la1 | apply ln1 | apply ld1) | exact HB.out))) : w.heap.size ≤ gb355)); clear HB; have HB := n0_; have BK355 := n1_; have GW355 := n2_; have GE355 := n3_; clear n0_ n1_ n2_ n3_; clear hb hbox hg; have hcz36_0 : w35.cell? ⟨gb355, 0, none⟩ = some (.int .i64 a0_0) := (bc1 BK355.out 0).trans rfl; have hcz36_1 : w35.cell? ⟨gb355, 1, none⟩ = some (.int .i64 a0_1) := (bc1 BK355.out 1).trans rfl; have hcz36_2 : w35.cell? ⟨gb355, 2, none⟩ = some (.int .i64 a0_2) := (bc1 BK355.out 2).trans rfl; have hcz36_3 : w35.cell? ⟨gb355, 3, none⟩ = some (.int .i64 a0_3) := (bc1 BK355.out 3).trans rfl; have hcz36_4 : w35.cell? ⟨gb355, 4, none⟩ = some (.int .i64 a0_4) := (bc1 BK355.out 4).trans rfl; have hcz36_5 : w35.cell? ⟨gb355, 5, none⟩ = some (.int .i64 a0_5) := (bc1 BK355.out 5).trans rfl; have hcz36_6 : w35.cell? ⟨gb355, 6, none⟩ = some (.int .i64 a0_6) := (bc1 BK355.out 6).trans rfl; have hcz36_7 : w35.cell? ⟨gb355, 7, none⟩ = some (.int .i64 a0_7) := (bc1 BK355.out 7).trans rfl; have hcz36_8 : w35.cell? ⟨gb355, 8, none⟩ = some (.int .i64 a0_8) := (bc1 BK355.out 8).trans rfl; have hcz36_9 : w35.cell? ⟨gb355, 9, none⟩ = some (.bool a0_9) := (bc1 BK355.out 9).trans rfl; have hcz36_10 : w35.cell? ⟨gb355, 10, none⟩ = some (.bool a0_10) := (bc1 BK355.out 10).trans rfl; have hcz36_11 : w35.cell? ⟨gb355, 11, none⟩ = some (.bool a0_11) := (bc1 BK355.out 11).trans rfl; have hcz36_12 : w35.cell? ⟨gb355, 12, none⟩ = some (.bool a0_12) := (bc1 BK355.out 12).trans rfl; have hcz36_13 : w35.cell? ⟨gb355, 13, none⟩ = some (.bool a0_13) := (bc1 BK355.out 13).trans rfl; have hcz36_14 : w35.cell? ⟨gb355, 14, none⟩ = some (.bool a0_14) := (bc1 BK355.out 14).trans rfl; have hcz36_15 : w35.cell? ⟨gb355, 15, none⟩ = some (.bool a0_15) := (bc1 BK355.out 15).trans rfl; have hcz36_16 : w35.cell? ⟨gb355, 16, none⟩ = some (.int .i64 a0_16) := (bc1 BK355.out 16).trans rfl; have hcz36_17 : w35.cell? ⟨gb355, 17, none⟩ = some (.int .i64 a0_17) := (bc1 BK355.out 17).trans rfl; have hcz36_18 : w35.cell? ⟨gb355, 18, none⟩ = some (.int .i64 a0_18) := (bc1 BK355.out 18).trans rfl; have hfz36_0 := bz1 BK355.out 0; have hfz36_1 := bz1 BK355.out 1; have hfz36_2 := bz1 BK355.out 2; have hfz36_3 := bz1 BK355.out 3; have hfz36_4 := bz1 BK355.out 4; have hfz36_5 := bz1 BK355.out 5; have hfz36_6 := bz1 BK355.out 6; have hfz36_7 := bz1 BK355.out 7; have hfz36_8 := bz1 BK355.out 8; have hfz36_9 := bz1 BK355.out 9; have hfz36_10 := bz1 BK355.out 10; have hfz36_11 := bz1 BK355.out 11; have hfz36_12 := bz1 BK355.out 12; have hfz36_13 := bz1 BK355.out 13; have hfz36_14 := bz1 BK355.out 14; have hfz36_15 := bz1 BK355.out 15; have hfz36_16 := bz1 BK355.out 16; have hfz36_17 := bz1 BK355.out 17; have hfz36_18 := bz1 BK355.out 18) | ((with_reducible refine gate_callee (f := 32) rfl ?_); refine goesL_ (some 36) rfl rfl Tryd.func32 (by kernel_rfl) rfl #[.int .i64 a0_8] rfl (by (try simp only [List.map_toArray, List.map_cons, List.map_nil]); first | done | rfl | (simp only [List.length_drop, List.length_take]; rfl)) ?_; (with_reducible refine (clavierref19_fact.calls a0_8 t363 _ A32.out).mono ?_); rintro e w37 ⟨rfl, hb⟩; refine ⟨_, rfl, ?_⟩; have n0_ := Aside0.mk (bb1 (g := gb355) (o := .cells #[.int .i64 a0_0, .int .i64 a0_1, .int .i64 a0_2, .int .i64 a0_3, .int .i64 a0_4, .int .i64 a0_5, .int .i64 a0_6, .int .i64 a0_7, .int .i64 a0_8, .bool a0_9, .bool a0_10, .bool a0_11, .bool a0_12, .bool a0_13, .bool a0_14, .bool a0_15, .int .i64 a0_16, .int .i64 a0_17, .int .i64 a0_18] 25 (0, 0)) (by (with_reducible repeat (first | refine bn1 ?_ _ | refine bd1 ?_ | refine ba1 ?_ _)); exact BK355.out) hb); have n1_ := Aside0.mk (below_step (by repeat (first | (with_reducible first | exact HB.out | apply la1 | apply ln1 | apply ld1 | refine ls1 ?_ GE355.out) | exact HB.out)) hb); clear BK355; clear HB; have BK355 := n0_; have HB := n1_; clear n0_ n1_; (try clear hb); (try clear hb2); (try clear hk); (try clear hi)) | ((with_reducible refine gate_callee (f := 63) rfl ?_); refine goesL_ (some 37) rfl rfl Tryd.func63 (by kernel_rfl) rfl #[.int .i64 t363] rfl (by (try simp only [List.map_toArray, List.map_cons, List.map_nil]); first | done | rfl | (simp only [List.length_drop, List.length_take]; rfl)) ?_; (with_reducible refine (clavierref01_Text.calls t363 t364 _ A33.out).mono ?_); rintro e w38 ⟨rfl, hb⟩; refine ⟨_, rfl, ?_⟩; have n0_ := Aside0.mk (bb1 (g := gb355) (o := .cells #[.int .i64 a0_0, .int .i64 a0_1, .int .i64 a0_2, .int .i64 a0_3, .int .i64 a0_4, .int .i64 a0_5, .int .i64 a0_6, .int .i64 a0_7, .int .i64 a0_8, .bool a0_9, .bool a0_10, .bool a0_11, .bool a0_12, .bool a0_13, .bool a0_14, .bool a0_15, .int .i64 a0_16, .int .i64 a0_17, .int .i64 a0_18] 25 (0, 0)) (by (with_reducible repeat (first | refine bn1 ?_ _ | refine bd1 ?_ | refine ba1 ?_ _)); exact BK355.out) hb); have n1_ := Aside0.mk (below_step (by repeat (first | (with_reducible first | exact HB.out | apply la1 | apply ln1 | apply ld1 | refine ls1 ?_ GE355.out) | exact HB.out)) hb); clear BK355; clear HB; have BK355 := n0_; have HB := n1_; clear n0_ n1_; (try clear hb); (try clear hb2); (try clear hk); (try clear hi)))
            go_ret
            exact ⟨by first | rfl | (simp [errW_none, errW_some] <;> rfl) | (simp [*, errW_none, errW_some] <;> rfl), by repeat (first | (with_reducible first | exact HB.out | apply la1 | apply ln1 | apply ld1 | refine ls1 ?_ GE355.out) | exact HB.out)⟩
          · rw [if_neg c34] at H
            exact absurd H (by simp)
        · rw [if_neg c31] at H
          have c31b0 : (a1.toList == ([32, 113] : List UInt8)) = false := beq_eq_false_iff_ne.mpr c31
          have c31b1 : (a1.toList != ([32, 113] : List UInt8)) = true := bne_iff_ne.mpr c31
          by_cases c39 : a1.toList = ([34, 112] : List UInt8)
          · rw [if_pos c39] at H
            have c39b0 : (a1.toList == ([34, 112] : List UInt8)) = true := beq_iff_eq.mpr c39
            have c39b1 : (a1.toList != ([34, 112] : List UInt8)) = false := bne_eq_false_iff_eq.mpr c39
            clear c39
            obtain rfl := Option.some.inj H
            go_enter Tryd.func43, Tryd.ntmps43
            go_wp2_with (first | ((with_reducible refine gate_dst (N := 2) rfl ?_); refine box_event ?hg (N := 2) ?hd (cs := #[.int .i64 a0_0, .int .i64 a0_1, .int .i64 a0_2, .int .i64 a0_3, .int .i64 a0_4, .int .i64 a0_5, .int .i64 a0_6, .int .i64 a0_7, .int .i64 a0_8, .bool a0_9, .bool a0_10, .bool a0_11, .bool a0_12, .bool a0_13, .bool a0_14, .bool a0_15, .int .i64 a0_16, .int .i64 a0_17, .int .i64 a0_18]) (t := 25) ?hr ?_; (case hd => rfl); (case hg => rfl); (case hr => first | (go_simp; done) | (go_simp; rfl)); intro gb355 hg w40 hbox hb; have n0_ := Aside0.mk (below_step (by repeat (first | (with_reducible first | exact HB.out | apply la1 | apply ln1 | apply ld1) | exact HB.out)) hb); have n1_ := Aside0.mk (hbox); have n2_ := Aside0.mk ((by rw [hg]; exact (below_size (by repeat (first | (with_reducible first | exact HB.out | apply la1 | apply ln1 | apply ld1) | exact HB.out))) : w.heap.size ≤ gb355)); have n3_ := Aside0.mk ((by rw [hg]; exact (below_size (by repeat (first | (with_reducible first | exact HB.out | apply la1 | apply ln1 | apply ld1) | exact HB.out))) : w.heap.size ≤ gb355)); clear HB; have HB := n0_; have BK355 := n1_; have GW355 := n2_; have GE355 := n3_; clear n0_ n1_ n2_ n3_; clear hb hbox hg))
            go_ret
            exact ⟨by first | rfl | (simp [errW_none, errW_some] <;> rfl) | (simp [*, errW_none, errW_some] <;> rfl), by repeat (first | (with_reducible first | exact HB.out | apply la1 | apply ln1 | apply ld1 | refine ls1 ?_ GE355.out) | exact HB.out)⟩
          · rw [if_neg c39] at H
            have c39b0 : (a1.toList == ([34, 112] : List UInt8)) = false := beq_eq_false_iff_ne.mpr c39
            have c39b1 : (a1.toList != ([34, 112] : List UInt8)) = true := bne_iff_ne.mpr c39
            obtain rfl := Option.some.inj H
            go_enter Tryd.func43, Tryd.ntmps43
            go_wp2_with (first | ((with_reducible refine gate_dst (N := 2) rfl ?_); refine box_event ?hg (N := 2) ?hd (cs := #[.int .i64 a0_0, .int .i64 a0_1, .int .i64 a0_2, .int .i64 a0_3, .int .i64 a0_4, .int .i64 a0_5, .int .i64 a0_6, .int .i64 a0_7, .int .i64 a0_8, .bool a0_9, .bool a0_10, .bool a0_11, .bool a0_12, .bool a0_13, .bool a0_14, .bool a0_15, .int .i64 a0_16, .int .i64 a0_17, .int .i64 a0_18]) (t := 25) ?hr ?_; (case hd => rfl); (case hg => rfl); (case hr => first | (go_simp; done) | (go_simp; rfl)); intro gb355 hg w41 hbox hb; have n0_ := Aside0.mk (below_step (by repeat (first | (with_reducible first | exact HB.out | apply la1 | apply ln1 | apply ld1) | exact HB.out)) hb); have n1_ := Aside0.mk (hbox); have n2_ := Aside0.mk ((by rw [hg]; exact (below_size (by repeat (first | (with_reducible first | exact HB.out | apply la1 | apply ln1 | apply ld1) | exact HB.out))) : w.heap.size ≤ gb355)); have n3_ := Aside0.mk ((by rw [hg]; exact (below_size (by repeat (first | (with_reducible first | exact HB.out | apply la1 | apply ln1 | apply ld1) | exact HB.out))) : w.heap.size ≤ gb355)); clear HB; have HB := n0_; have BK355 := n1_; have GW355 := n2_; have GE355 := n3_; clear n0_ n1_ n2_ n3_; clear hb hbox hg))
            go_ret
            exact ⟨by first | rfl | (simp [errW_none, errW_some] <;> rfl) | (simp [*, errW_none, errW_some] <;> rfl), by repeat (first | (with_reducible first | exact HB.out | apply la1 | apply ln1 | apply ld1 | refine ls1 ?_ GE355.out) | exact HB.out)⟩
end Go.Proofs.YtopcleljecdkkaaDoor.G
end
section
namespace Go.Proofs.YtopcleljecdkkaaDoor.G
open Go.RowKit Go.Proofs.YtopcleljecdkkaaDoorW.PrintWords Go.Proofs.YtopcleljecdkkaaDoorW.PrintLast Go.Proofs.YtopcleljecdkkaaDoorW.PrintMore
attribute [local go_sem] max2_int min2_int max_two min_two max_three min_three max_four min_four
set_option linter.unusedVariables false
set_option linter.unusedSimpArgs false
def clavierref19_Setting.f (k : Nat) (a0_0 : Int) (a0_1 : Int) (a0_2 : Int) (a0_3 : Int) (a0_4 : Int) (a0_5 : Int) (a0_6 : Int) (a0_7 : Int) (a0_8 : Int) (a0_9 : Bool) (a0_10 : Bool) (a0_11 : Bool) (a0_12 : Bool) (a0_13 : Bool) (a0_14 : Bool) (a0_15 : Bool) (a0_16 : Int) (a0_17 : Int) (a0_18 : Int) (a1 : ByteArray) : Option (Int × Int × (List (List Int)) × ByteArray × Int × ByteArray) := (clavierref19_said.f k a0_0 a0_1 a0_2 a0_3 a0_4 a0_5 a0_6 a0_7 a0_8 a0_9 a0_10 a0_11 a0_12 a0_13 a0_14 a0_15 a0_16 a0_17 a0_18 a1).bind fun d => if d.toList = ([] : List UInt8) then some (3, 0, [[0]], ⟨#[36]⟩, 114, d) else some (3, 0, [[1]], ⟨#[36]⟩, 114, d)
theorem clavierref19_Setting.mono : ∀ a0 a1 a2 a3 a4 a5 a6 a7 a8 a9 a10 a11 a12 a13 a14 a15 a16 a17 a18 a19 k, LeO (clavierref19_Setting.f k a0 a1 a2 a3 a4 a5 a6 a7 a8 a9 a10 a11 a12 a13 a14 a15 a16 a17 a18 a19) (clavierref19_Setting.f (k + 1) a0 a1 a2 a3 a4 a5 a6 a7 a8 a9 a10 a11 a12 a13 a14 a15 a16 a17 a18 a19) := by
  intro a0 a1 a2 a3 a4 a5 a6 a7 a8 a9 a10 a11 a12 a13 a14 a15 a16 a17 a18 a19 k
  unfold clavierref19_Setting.f
  refine LeO.bind ?_ (fun _ => LeO.refl _)
  exact clavierref19_said.mono _ _ _ _ _ _ _ _ _ _ _ _ _ _ _ _ _ _ _ _ _
theorem rset_ans {n kd pv fi : Int} {rows : List (List Int)} {inter data d : ByteArray} {w : World} {e : Ending} {w' : World} (hh : SetAns n d w e w') (h : some ((3 : Int), (0 : Int), [[n]], (⟨#[36]⟩ : ByteArray), (114 : Int), d) = some (kd, pv, rows, inter, fi, data)) :
    ∃ v : Value, e = .returned (.agg #[.int .i64 kd, .int .u8 pv, v, .string inter, .int .u8 fi, .string data]) ∧ Kd.S (Kd.slice 3 (Kd.int .i64)) 52 w' w.heap.size (fun _ => True) v rows ∧ Below w.heap.size w w' := by
  simp only [Option.some.injEq, Prod.mk.injEq] at h
  obtain ⟨rfl, rfl, rfl, rfl, rfl, rfl⟩ := h
  exact hh
theorem clavierref19_Setting.calls (k : Nat) (a0_0 : Int) (a0_1 : Int) (a0_2 : Int) (a0_3 : Int) (a0_4 : Int) (a0_5 : Int) (a0_6 : Int) (a0_7 : Int) (a0_8 : Int) (a0_9 : Bool) (a0_10 : Bool) (a0_11 : Bool) (a0_12 : Bool) (a0_13 : Bool) (a0_14 : Bool) (a0_15 : Bool) (a0_16 : Int) (a0_17 : Int) (a0_18 : Int) (a1 : ByteArray) (r1 : Int) (r2 : Int) (r3 : List (List Int)) (r4 : ByteArray) (r5 : Int) (r6 : ByteArray) (w : World) (h : clavierref19_Setting.f k a0_0 a0_1 a0_2 a0_3 a0_4 a0_5 a0_6 a0_7 a0_8 a0_9 a0_10 a0_11 a0_12 a0_13 a0_14 a0_15 a0_16 a0_17 a0_18 a1 = some (r1, r2, r3, r4, r5, r6)) :
    Calls Tryd.prog 14 #[.agg #[.int .i64 a0_0, .int .i64 a0_1, .int .i64 a0_2, .int .i64 a0_3, .int .i64 a0_4, .int .i64 a0_5, .int .i64 a0_6, .int .i64 a0_7, .int .i64 a0_8, .bool a0_9, .bool a0_10, .bool a0_11, .bool a0_12, .bool a0_13, .bool a0_14, .bool a0_15, .int .i64 a0_16, .int .i64 a0_17, .int .i64 a0_18], .string a1] w fun e w' => ∃ v2_ : Value, e = .returned (.agg #[.int .i64 r1, .int .u8 r2, v2_, .string r4, .int .u8 r5, .string r6]) ∧ Kd.S (Kd.slice 3 (Kd.int .i64)) 52 w' w.heap.size (fun _ => True) v2_ r3 ∧ Below w.heap.size w w' := by
  unfold clavierref19_Setting.f at h
  obtain ⟨d, hd, h⟩ := Option.bind_eq_some_iff.1 h
  have HD : Gives 43 #[scrV a0_0 a0_1 a0_2 a0_3 a0_4 a0_5 a0_6 a0_7 a0_8 a0_9 a0_10 a0_11 a0_12 a0_13 a0_14 a0_15 a0_16 a0_17 a0_18, .string a1] (.string d) w := fun W _ => (clavierref19_said.calls k a0_0 a0_1 a0_2 a0_3 a0_4 a0_5 a0_6 a0_7 a0_8 a0_9 a0_10 a0_11 a0_12 a0_13 a0_14 a0_15 a0_16 a0_17 a0_18 a1 d W hd).mono fun e w' h => ⟨h.1, by first | exact h.2 | exact h.2.below⟩
  by_cases c : d.toList = ([] : List UInt8)
  · rw [if_pos c] at h
    have e : d = ⟨#[]⟩ := by
      rw [Lib.toList_data] at c
      cases d
      exact congrArg ByteArray.mk (Array.toList_eq_nil_iff.1 c)
    subst e
    exact (rsetting_no a0_0 a0_1 a0_2 a0_3 a0_4 a0_5 a0_6 a0_7 a0_8 a0_9 a0_10 a0_11 a0_12 a0_13 a0_14 a0_15 a0_16 a0_17 a0_18 a1 w HD).mono fun e w' hh => rset_ans hh h
  · rw [if_neg c] at h
    exact (rsetting_yes a0_0 a0_1 a0_2 a0_3 a0_4 a0_5 a0_6 a0_7 a0_8 a0_9 a0_10 a0_11 a0_12 a0_13 a0_14 a0_15 a0_16 a0_17 a0_18 a1 d w c HD).mono fun e w' hh => rset_ans hh h
end Go.Proofs.YtopcleljecdkkaaDoor.G
end
section
namespace Go.Proofs.YtopcleljecdkkaaDoor.G
open Go.RowKit Go.Proofs.YtopcleljecdkkaaDoorW.PrintWords Go.Proofs.YtopcleljecdkkaaDoorW.PrintLast Go.Proofs.YtopcleljecdkkaaDoorW.PrintMore
attribute [local go_sem] max2_int min2_int max_two min_two max_three min_three max_four min_four
set_option linter.unusedVariables false
set_option linter.unusedSimpArgs false
def wire_Num.l0 : Nat → List Int → Int → Int → Int → Int → List (List Int) → ByteArray → Int → ByteArray → Option (Int × Int × (List (List Int)) × ByteArray × Int × ByteArray)
  | 0, _, _, _, _, _, _, _, _, _ => none
  | k + 1, x13, x14, x15, x103000, x103001, x103002, x103003, x103004, x103005 => if x15 < x14 then (if 0 ≤ x15 then (if x15 < (x13.length : Int) then (if x103002.length < 5864062014805 then (wire_Num.l0 k x13 x14 (wrap64 (x15 + 1)) x103000 x103001 (x103002 ++ [(([rd x13 x15] : List Int))]) x103003 x103004 x103005) else (none)) else (none)) else (none)) else (some (x103000, x103001, x103002, x103003, x103004, x103005))
def wire_Num.f (k : Nat) (a0 : Int) (a1 : Int) (l2 : List Int) : Option (Int × Int × (List (List Int)) × ByteArray × Int × ByteArray) := wire_Num.l0 k l2 (l2.length : Int) 0 1 a0 ([] : List (List Int)) (⟨#[]⟩ : ByteArray) a1 (⟨#[]⟩ : ByteArray)
theorem wire_Num.mono_l : ∀ k, (∀ y0 y1 y2 y3 y4 y5 y6 y7 y8, LeO (wire_Num.l0 k y0 y1 y2 y3 y4 y5 y6 y7 y8) (wire_Num.l0 (k + 1) y0 y1 y2 y3 y4 y5 y6 y7 y8))
  | 0 => fun _ _ _ _ _ _ _ _ _ r h => by simp [wire_Num.l0] at h
  | k + 1 => by
    have ih0 := wire_Num.mono_l k
    · intro y0 y1 y2 y3 y4 y5 y6 y7 y8
      unfold wire_Num.l0
      repeat' first
      | (with_reducible exact ih0 _ _ _ _ _ _ _ _ _)
      | (with_reducible exact LeO.refl _)
      | (with_reducible exact LeO.none _)
      | (with_reducible refine LeO.ite ?_ ?_)
      | (with_reducible refine LeO.bind ?_ (fun _ => ?_))
      | exact ih0 _ _ _ _ _ _ _ _ _
      | exact LeO.none _
      | refine LeO.ite ?_ ?_
      | refine LeO.bind ?_ (fun _ => ?_)
theorem wire_Num.mono : ∀ a0 a1 a2 k, LeO (wire_Num.f k a0 a1 a2) (wire_Num.f (k + 1) a0 a1 a2) := by
  intro a0 a1 a2 k
  have ih0 := wire_Num.mono_l k
  unfold wire_Num.f
  repeat' first
      | (with_reducible exact ih0 _ _ _ _ _ _ _ _ _)
      | (with_reducible exact LeO.refl _)
      | (with_reducible exact LeO.none _)
      | (with_reducible refine LeO.ite ?_ ?_)
      | (with_reducible refine LeO.bind ?_ (fun _ => ?_))
      | exact ih0 _ _ _ _ _ _ _ _ _
      | exact LeO.none _
      | refine LeO.ite ?_ ?_
      | refine LeO.bind ?_ (fun _ => ?_)
set_option maxHeartbeats 8000000 in
set_option maxRecDepth 100000 in
theorem wire_Num.calls (k : Nat) (a0 : Int) (a1 : Int) (A2 : Option Addr) (c2 : Nat) (l2 : List Int) (r1 : Int) (r2 : Int) (r3 : List (List Int)) (r4 : ByteArray) (r5 : Int) (r6 : ByteArray) (w : World) (hr2 : Kd.C (Kd.int .i64) w A2 l2.length l2) (hc2 : l2.length ≤ c2) (h : wire_Num.f k a0 a1 l2 = some (r1, r2, r3, r4, r5, r6)) :
    Calls Tryd.prog 30 #[.int .u8 a0, .int .u8 a1, .slice A2 l2.length c2] w fun e w' => ∃ v2_ : Value, e = .returned (.agg #[.int .i64 r1, .int .u8 r2, v2_, .string r4, .int .u8 r5, .string r6]) ∧ Kd.S (Kd.slice 3 (Kd.int .i64)) 52 w' w.heap.size (fun _ => True) v2_ r3 ∧ Below w.heap.size w w' := by
  have hu30 := Tryd.underlying30
  have HR2 := Aside0.mk hr2
  have HC2 := Aside0.mk hc2
  clear hr2 hc2
  have HB := Aside0.mk (Below.refl w.heap.size w)
  have H : (wire_Num.l0 k l2 (l2.length : Int) 0 1 a0 ([] : List (List Int)) (⟨#[]⟩ : ByteArray) a1 (⟨#[]⟩ : ByteArray)) = some (r1, r2, r3, r4, r5, r6) := h
  clear h
  have H' := Aside0.mk H
  clear H
  go_enter Tryd.func30, Tryd.ntmps30
  go_wp2_with (first | ((with_reducible refine gate_dst (N := 6) rfl ?_); refine box_event ?hg (N := 6) ?hd (cs := #[.int .i64 0, .int .u8 0, .slice none 0 0, .string (⟨#[]⟩ : ByteArray), .int .u8 0, .string (⟨#[]⟩ : ByteArray)]) (t := 30) ?hr ?_; (case hd => rfl); (case hg => rfl); (case hr => first | (go_simp; done) | (go_simp; rfl)); intro gb101 hg w4 hbox hb; have n0_ := Aside0.mk (below_step (by repeat (first | (with_reducible first | exact HB.out | apply la1 | apply ln1 | apply ld1) | exact HB.out)) hb); have n1_ := Aside0.mk (hbox); have n2_ := Aside0.mk ((by rw [hg]; exact (below_size (by repeat (first | (with_reducible first | exact HB.out | apply la1 | apply ln1 | apply ld1) | exact HB.out))) : w.heap.size ≤ gb101)); have n3_ := Aside0.mk ((by rw [hg]; exact (below_size (by repeat (first | (with_reducible first | exact HB.out | apply la1 | apply ln1 | apply ld1) | exact HB.out))) : w.heap.size ≤ gb101)); clear HB; have HB := n0_; have BK101 := n1_; have GW101 := n2_; have GE101 := n3_; clear n0_ n1_ n2_ n3_; clear hb hbox hg) | ((with_reducible refine gate_dst (N := 7) rfl ?_); refine box_event ?hg (N := 7) ?hd (cs := #[.int .i64 0, .int .u8 0, .slice none 0 0, .string (⟨#[]⟩ : ByteArray), .int .u8 0, .string (⟨#[]⟩ : ByteArray)]) (t := 30) ?hr ?_; (case hd => rfl); (case hg => rfl); (case hr => first | (go_simp; done) | (go_simp; rfl)); intro gb102 hg w5 hbox hb; have n0_ := Aside0.mk (bb1 (g := gb101) (o := .cells #[.int .i64 0, .int .u8 0, .slice none 0 0, .string (⟨#[]⟩ : ByteArray), .int .u8 0, .string (⟨#[]⟩ : ByteArray)] 30 (0, 0)) (by (with_reducible repeat (first | refine bn1 ?_ _ | refine bd1 ?_ | refine ba1 ?_ _)); exact BK101.out) hb); have n1_ := Aside0.mk (below_step (by repeat (first | (with_reducible first | exact HB.out | apply la1 | apply ln1 | apply ld1 | refine ls1 ?_ GE101.out) | exact HB.out)) hb); have n2_ := Aside0.mk (hbox); have n3_ := Aside0.mk ((by rw [hg]; exact (below_size (by repeat (first | (with_reducible first | exact HB.out | apply la1 | apply ln1 | apply ld1 | refine ls1 ?_ GE101.out) | exact HB.out))) : w.heap.size ≤ gb102)); have n4_ := Aside0.mk ((by rw [hg]; exact (below_size (by repeat (first | (with_reducible first | exact HB.out | apply la1 | apply ln1 | apply ld1 | refine ls1 ?_ GE101.out) | exact HB.out))) : w.heap.size ≤ gb102)); have n5_ := Aside0.mk ((by rw [hg]; exact Nat.ne_of_lt (blk_lt (g := gb101) (o := .cells #[.int .i64 0, .int .u8 0, .slice none 0 0, .string (⟨#[]⟩ : ByteArray), .int .u8 0, .string (⟨#[]⟩ : ByteArray)] 30 (0, 0)) (by (with_reducible repeat (first | refine bn1 ?_ _ | refine bd1 ?_ | refine ba1 ?_ _)); exact BK101.out)) : gb101 ≠ gb102)); have n6_ := Aside0.mk ((by rw [hg]; exact Nat.ne_of_gt (blk_lt (g := gb101) (o := .cells #[.int .i64 0, .int .u8 0, .slice none 0 0, .string (⟨#[]⟩ : ByteArray), .int .u8 0, .string (⟨#[]⟩ : ByteArray)] 30 (0, 0)) (by (with_reducible repeat (first | refine bn1 ?_ _ | refine bd1 ?_ | refine ba1 ?_ _)); exact BK101.out)) : gb102 ≠ gb101)); clear BK101; clear HB; have BK101 := n0_; have HB := n1_; have BK102 := n2_; have GW102 := n3_; have GE102 := n4_; have NB101_102 := n5_; have NB102_101 := n6_; clear n0_ n1_ n2_ n3_ n4_ n5_ n6_; clear hb hbox hg; have hnb6 := NB102_101.out; have hnc6 := NB101_102.out; have hcz7_0 : w5.cell? ⟨gb102, 0, none⟩ = some (.int .i64 0) := (bc1 BK102.out 0).trans rfl; have hcz7_1 : w5.cell? ⟨gb102, 1, none⟩ = some (.int .u8 0) := (bc1 BK102.out 1).trans rfl; have hcz7_2 : w5.cell? ⟨gb102, 2, none⟩ = some (.slice none 0 0) := (bc1 BK102.out 2).trans rfl; have hcz7_3 : w5.cell? ⟨gb102, 3, none⟩ = some (.string (⟨#[]⟩ : ByteArray)) := (bc1 BK102.out 3).trans rfl; have hcz7_4 : w5.cell? ⟨gb102, 4, none⟩ = some (.int .u8 0) := (bc1 BK102.out 4).trans rfl; have hcz7_5 : w5.cell? ⟨gb102, 5, none⟩ = some (.string (⟨#[]⟩ : ByteArray)) := (bc1 BK102.out 5).trans rfl; have hfz7_0 := bz1 BK102.out 0; have hfz7_1 := bz1 BK102.out 1; have hfz7_2 := bz1 BK102.out 2; have hfz7_3 := bz1 BK102.out 3; have hfz7_4 := bz1 BK102.out 4; have hfz7_5 := bz1 BK102.out 5))
  go_loopg [15] k (fun kq v15 w' => ∃ (x15_1 : Int) (x103002_1 : List (List Int)) (u103002 : Value), v15 = .int .i64 x15_1 ∧ Aside0 (wire_Num.l0 kq l2 (l2.length : Int) x15_1 1 a0 x103002_1 (⟨#[]⟩ : ByteArray) a1 (⟨#[]⟩ : ByteArray) = some (r1, r2, r3, r4, r5, r6)) ∧ Aside0 (kq ≤ k) ∧ Aside0 (Kd.S (Kd.slice 3 (Kd.int .i64)) 52 w' w.heap.size (fun _ => True) u103002 x103002_1) ∧ Aside0 (w'.heap[gb101]? = some (.cells #[.int .i64 0, .int .u8 0, (.slice none 0 0), .string (⟨#[]⟩ : ByteArray), .int .u8 0, .string (⟨#[]⟩ : ByteArray)] 30 (0, 0))) ∧ Aside0 (w'.heap[gb102]? = some (.cells #[.int .i64 1, .int .u8 a0, u103002, .string (⟨#[]⟩ : ByteArray), .int .u8 a1, .string (⟨#[]⟩ : ByteArray)] 30 (0, 0))) ∧ Aside0 (Below w.heap.size w w'))
  case atStart => exact ⟨(0), (([] : List (List Int))), (.slice none 0 0), (by first | rfl | (simp; done) | (simp [*]; done)), H', ⟨Nat.le_refl _⟩, ⟨by first | exact Kd.S_nil _ _ _ _ _ | exact Kd.N_nil _ _ _ _ _ | exact Kd.V_nil _ _ _ _ _ | exact Kd.Q_nil _ _ _ _ _ | exact Kd.R_nil _ _ _ _ _⟩, ⟨by (with_reducible repeat (first | refine bn1 ?_ _ | refine bd1 ?_ | refine ba1 ?_ _)); refine bf1 ?_ NB101_102.out _; (with_reducible repeat (first | refine bn1 ?_ _ | refine bd1 ?_ | refine ba1 ?_ _)); refine bf1 ?_ NB101_102.out _; (with_reducible repeat (first | refine bn1 ?_ _ | refine bd1 ?_ | refine ba1 ?_ _)); refine bf1 ?_ NB101_102.out _; (with_reducible repeat (first | refine bn1 ?_ _ | refine bd1 ?_ | refine ba1 ?_ _)); refine bf1 ?_ NB101_102.out _; (with_reducible repeat (first | refine bn1 ?_ _ | refine bd1 ?_ | refine ba1 ?_ _)); refine bf1 ?_ NB101_102.out _; (with_reducible repeat (first | refine bn1 ?_ _ | refine bd1 ?_ | refine ba1 ?_ _)); refine bf1 ?_ NB101_102.out _; (with_reducible repeat (first | refine bn1 ?_ _ | refine bd1 ?_ | refine ba1 ?_ _)); exact BK101.out⟩, ⟨by (with_reducible repeat (first | refine bn1 ?_ _ | refine bd1 ?_ | refine ba1 ?_ _)); refine bp1 (cs := #[.int .i64 1, .int .u8 a0, .slice none 0 0, .string (⟨#[]⟩ : ByteArray), .int .u8 a1, .string (⟨#[]⟩ : ByteArray)]) ?_ 5 _ rfl; (with_reducible repeat (first | refine bn1 ?_ _ | refine bd1 ?_ | refine ba1 ?_ _)); refine bp1 (cs := #[.int .i64 1, .int .u8 a0, .slice none 0 0, .string (⟨#[]⟩ : ByteArray), .int .u8 0, .string (⟨#[]⟩ : ByteArray)]) ?_ 4 _ rfl; (with_reducible repeat (first | refine bn1 ?_ _ | refine bd1 ?_ | refine ba1 ?_ _)); refine bp1 (cs := #[.int .i64 1, .int .u8 a0, .slice none 0 0, .string (⟨#[]⟩ : ByteArray), .int .u8 0, .string (⟨#[]⟩ : ByteArray)]) ?_ 3 _ rfl; (with_reducible repeat (first | refine bn1 ?_ _ | refine bd1 ?_ | refine ba1 ?_ _)); refine bp1 (cs := #[.int .i64 1, .int .u8 a0, .slice none 0 0, .string (⟨#[]⟩ : ByteArray), .int .u8 0, .string (⟨#[]⟩ : ByteArray)]) ?_ 2 _ rfl; (with_reducible repeat (first | refine bn1 ?_ _ | refine bd1 ?_ | refine ba1 ?_ _)); refine bp1 (cs := #[.int .i64 1, .int .u8 0, .slice none 0 0, .string (⟨#[]⟩ : ByteArray), .int .u8 0, .string (⟨#[]⟩ : ByteArray)]) ?_ 1 _ rfl; (with_reducible repeat (first | refine bn1 ?_ _ | refine bd1 ?_ | refine ba1 ?_ _)); refine bp1 (cs := #[.int .i64 0, .int .u8 0, .slice none 0 0, .string (⟨#[]⟩ : ByteArray), .int .u8 0, .string (⟨#[]⟩ : ByteArray)]) ?_ 0 _ rfl; (with_reducible repeat (first | refine bn1 ?_ _ | refine bd1 ?_ | refine ba1 ?_ _)); exact BK102.out⟩, ⟨by repeat (first | (with_reducible first | exact HB.out | apply la1 | apply ln1 | apply ld1 | refine ls1 ?_ GE101.out | refine ls1 ?_ GE102.out) | exact HB.out)⟩⟩
  case round =>
    clear H'
    try clear c2
    try clear p2
    try clear c3
    try clear c6
    try clear hcz7_0
    try clear hcz7_1
    try clear hcz7_2
    try clear hcz7_3
    try clear hcz7_4
    try clear hcz7_5
    try clear hfz7_0
    try clear hfz7_1
    try clear hfz7_2
    try clear hfz7_3
    try clear hfz7_4
    try clear hfz7_5
    obtain ⟨x15_1, x103002_1, u103002, rfl, HA, HK1, HO_103002, BK101, BK102, HB⟩ := hrel
    cases gk with
    | zero => exact absurd HA.out (by simp [wire_Num.l0])
    | succ k1 =>
      have H := HA.out
      clear HA
      simp only [wire_Num.l0] at H
      by_cases c8 : x15_1 < (l2.length : Int)
      · rw [if_pos c8] at H
        have c8b0 : decide (x15_1 < (l2.length : Int)) = true := decide_eq_true c8
        clear c8
        by_cases c9 : 0 ≤ x15_1
        · rw [if_pos c9] at H
          have c9b0 : decide (0 ≤ x15_1) = true := decide_eq_true c9
          clear c9
          by_cases c10 : x15_1 < (l2.length : Int)
          · rw [if_pos c10] at H
            have c10b0 : decide (x15_1 < (l2.length : Int)) = true := decide_eq_true c10
            clear c10
            obtain ⟨y104, hy104⟩ : ∃ y_ : List Int, y_ = (([rd l2 x15_1] : List Int)) := ⟨_, rfl⟩
            replace H : (if x103002_1.length < 5864062014805 then (wire_Num.l0 k1 l2 (l2.length : Int) (wrap64 (x15_1 + 1)) 1 a0 (x103002_1 ++ [y104]) (⟨#[]⟩ : ByteArray) a1 (⟨#[]⟩ : ByteArray)) else (none)) = some (r1, r2, r3, r4, r5, r6) := by first | (rw [hy104]; with_reducible exact H) | (have H2_ := (Option.bind_some _ _).symm.trans H; rw [hy104]; with_reducible exact H2_) | (have H2_ := (Option.bind_some _ _).symm.trans H; with_reducible exact H2_) | with_reducible exact H | (rw [hy104]; exact H) | exact H
            have Ny104 := Aside0.mk hy104
            clear hy104
            by_cases c11 : x103002_1.length < 5864062014805
            · rw [if_pos c11] at H
              have LMc11 := Aside0.mk c11
              clear c11
              obtain ⟨y107, hy107⟩ : ∃ y_ : List (List Int), y_ = (x103002_1 ++ [y104]) := ⟨_, rfl⟩
              replace H : (wire_Num.l0 k1 l2 (l2.length : Int) (wrap64 (x15_1 + 1)) 1 a0 y107 (⟨#[]⟩ : ByteArray) a1 (⟨#[]⟩ : ByteArray)) = some (r1, r2, r3, r4, r5, r6) := by first | (rw [hy107]; with_reducible exact H) | (have H2_ := (Option.bind_some _ _).symm.trans H; rw [hy107]; with_reducible exact H2_) | (have H2_ := (Option.bind_some _ _).symm.trans H; with_reducible exact H2_) | with_reducible exact H | (rw [hy107]; exact H) | exact H
              have Ny107 := Aside0.mk hy107
              clear hy107
              have H' := Aside0.mk H
              clear H
              have p103 : 0 ≤ (x15_1 : Int) := of_decide_eq_true (by first | (with_reducible assumption) | assumption)
              have q103 : x15_1 < (l2.length : Int) := of_decide_eq_true (by first | (with_reducible assumption) | assumption)
              obtain ⟨ad103, e103, hx103_0⟩ := Kd.at_int HR2.out x15_1 p103 q103
              cases e103
              replace hx103_0 := (HB.out.cell (World.block_lt_of_cell? w _ hx103_0)).trans hx103_0
              replace p103 := eq_true p103
              replace q103 := eq_true q103
              have hnb12 := NB102_101.out
              have hnc12 := NB101_102.out
              have hcz13_0 : wr.cell? ⟨gb102, 0, none⟩ = some (.int .i64 1) := (bc1 BK102.out 0).trans rfl
              have hcz13_1 : wr.cell? ⟨gb102, 1, none⟩ = some (.int .u8 a0) := (bc1 BK102.out 1).trans rfl
              have hcz13_2 : wr.cell? ⟨gb102, 2, none⟩ = some (u103002) := (bc1 BK102.out 2).trans rfl
              have hcz13_3 : wr.cell? ⟨gb102, 3, none⟩ = some (.string (⟨#[]⟩ : ByteArray)) := (bc1 BK102.out 3).trans rfl
              have hcz13_4 : wr.cell? ⟨gb102, 4, none⟩ = some (.int .u8 a1) := (bc1 BK102.out 4).trans rfl
              have hcz13_5 : wr.cell? ⟨gb102, 5, none⟩ = some (.string (⟨#[]⟩ : ByteArray)) := (bc1 BK102.out 5).trans rfl
              have hfz13_0 := bz1 BK102.out 0
              have hfz13_1 := bz1 BK102.out 1
              have hfz13_2 := bz1 BK102.out 2
              have hfz13_3 := bz1 BK102.out 3
              have hfz13_4 := bz1 BK102.out 4
              have hfz13_5 := bz1 BK102.out 5
              go_wp2_with (first | ((with_reducible refine gate_dst (N := 22) rfl ?_); refine Kd.R_lit (Kd.int .i64) _ 3 ?hg (N := 22) ?hd (xs := ([rd l2 x15_1] : List Int)) (inner := [.int .i64 (rd l2 x15_1)]) (ok := fun _ => True) (okp := fun _ => True) ?hr ?hp (fun _ hk => hk) trivial (Below.refl _ _) (Nat.le_refl _) (by simp) ?_; (case hd => rfl); (case hg => rfl); (case hr => first | (go_simp; done) | (go_simp; rfl)); (case hp => exact (Reps.one (show Kd.M (Kd.int .i64) _ _ _ (rd l2 x15_1) [.int .i64 (rd l2 x15_1)] from rfl) (Reps.none _ _))); intro v105 w14 ho15 hb hg_ hnew_; clear hg_ hnew_; (first | rw [← Ny104.out] at ho15 | (simp only [Int.reduceToNat] at ho15; rw [← Ny104.out] at ho15)); have n0_ := Aside0.mk (Kd.S_elder' (by (with_reducible repeat (first | apply Kd.S_alloc | apply Kd.S_drewN | apply Kd.S_drew)); exact HO_103002.out) (Kd.R_base ho15) hb); have n1_ := Aside0.mk (Kd.R_lower ho15 (below_size (by repeat (first | (with_reducible first | exact HB.out | apply la1 | apply ln1 | apply ld1 | refine ls1 ?_ GE101.out | refine ls1 ?_ GE102.out) | exact HB.out)))); have n2_ := Aside0.mk (bb1 (g := gb101) (o := .cells #[.int .i64 0, .int .u8 0, .slice none 0 0, .string (⟨#[]⟩ : ByteArray), .int .u8 0, .string (⟨#[]⟩ : ByteArray)] 30 (0, 0)) (by (with_reducible repeat (first | refine bn1 ?_ _ | refine bd1 ?_ | refine ba1 ?_ _)); exact BK101.out) hb); have n3_ := Aside0.mk (bb1 (g := gb102) (o := .cells #[.int .i64 1, .int .u8 a0, u103002, .string (⟨#[]⟩ : ByteArray), .int .u8 a1, .string (⟨#[]⟩ : ByteArray)] 30 (0, 0)) (by (with_reducible repeat (first | refine bn1 ?_ _ | refine bd1 ?_ | refine ba1 ?_ _)); exact BK102.out) hb); have n4_ := Aside0.mk (below_step (by repeat (first | (with_reducible first | exact HB.out | apply la1 | apply ln1 | apply ld1 | refine ls1 ?_ GE101.out | refine ls1 ?_ GE102.out) | exact HB.out)) hb); clear HO_103002; clear BK101; clear BK102; clear HB; have HO_103002 := n0_; have HO106 := n1_; have BK101 := n2_; have BK102 := n3_; have HB := n4_; clear n0_ n1_ n2_ n3_ n4_; clear hb ho15; obtain ⟨Ao17, co17, eo17⟩ := Kd.R_slice HO106.out; subst eo17) | ((with_reducible refine gate_builtin (b := .append) (xs := #[.tmp 20, .tmp 23]) rfl ?_); at_builtin; refine Kd.S_append (Kd.slice 3 (Kd.int .i64)) (w0 := w) w.heap.size rfl (.tmp 20) (.tmp 23) 28 52 (.slice none 0 0) 24 rfl Tryd.underlying28 info52 rfl (by decide) (by omega) u103002 x103002_1 y104 [.slice Ao17 y104.length co17] (fun _ => True) (fun k_ => some k_ = (.slice Ao17 y104.length co17 : Value).ownBlock) rfl rfl ?aP (fun k_ hk_ => ((Kd.R_mono (ok' := fun k_ => ((fun _ => True)) k_ ∧ some k_ ≠ (u103002 : Value).ownBlock) (Kd.R_apart' (HO106.out) (Kd.S_typed HO_103002.out) (by decide)) (fun k_ hk => ⟨trivial, hk.2⟩))).1 k_ hk_.symm) ?aF ?aO ?aB ?aS ?aL ?_; (case aP => exact Kd.M_row (Kd.R_mono (Kd.R_tight rfl (Kd.R_mono (ok' := fun k_ => ((fun _ => True)) k_ ∧ some k_ ≠ (u103002 : Value).ownBlock) (Kd.R_apart' (HO106.out) (Kd.S_typed HO_103002.out) (by decide)) (fun k_ hk => ⟨trivial, hk.2⟩))) (fun _ h_ => h_))); (case aB => exact (by repeat (first | (with_reducible first | exact HB.out | apply la1 | apply ln1 | apply ld1 | refine ls1 ?_ GE101.out | refine ls1 ?_ GE102.out) | exact HB.out))); (case aF => exact (fun _ _ => trivial)); (case aO => exact (by (with_reducible repeat (first | apply Kd.S_alloc | apply Kd.S_drewN | apply Kd.S_drew)); exact Kd.S_mono HO_103002.out (fun k_ hk => ⟨trivial, fun e_ => hk.2 e_⟩))); (case aS => exact (below_size (by repeat (first | (with_reducible first | exact HB.out | apply la1 | apply ln1 | apply ld1 | refine ls1 ?_ GE101.out | refine ls1 ?_ GE102.out) | exact HB.out)))); (case aL => have := LMc11.out; omega); intro v108 w16 ho hb hg hat; rw [← Ny107.out] at ho; have n0_ := Aside0.mk (blk_grown (g := gb101) (o := .cells #[.int .i64 0, .int .u8 0, .slice none 0 0, .string (⟨#[]⟩ : ByteArray), .int .u8 0, .string (⟨#[]⟩ : ByteArray)] 30 (0, 0)) (by (with_reducible repeat (first | refine bn1 ?_ _ | refine bd1 ?_ | refine ba1 ?_ _)); exact BK101.out) hg (Kd.S_ne HO_103002.out BK101.out (by decide))); have n1_ := Aside0.mk (blk_grown (g := gb102) (o := .cells #[.int .i64 1, .int .u8 a0, u103002, .string (⟨#[]⟩ : ByteArray), .int .u8 a1, .string (⟨#[]⟩ : ByteArray)] 30 (0, 0)) (by (with_reducible repeat (first | refine bn1 ?_ _ | refine bd1 ?_ | refine ba1 ?_ _)); exact BK102.out) hg (Kd.S_ne HO_103002.out BK102.out (by decide))); have n2_ := Aside0.mk (hb); have n3_ := Aside0.mk (ho); clear BK101; clear BK102; clear HB; clear HO_103002; clear HO106; have BK101 := n0_; have BK102 := n1_; have HB := n2_; have HO109 := n3_; clear n0_ n1_ n2_ n3_; clear ho hb hg hat; obtain ⟨Ao18, co18, eo18⟩ := Kd.S_slice HO109.out; subst eo18; have hcz19_0 : w16.cell? ⟨gb102, 0, none⟩ = some (.int .i64 1) := (bc1 BK102.out 0).trans rfl; have hcz19_1 : w16.cell? ⟨gb102, 1, none⟩ = some (.int .u8 a0) := (bc1 BK102.out 1).trans rfl; have hcz19_2 : w16.cell? ⟨gb102, 2, none⟩ = some (u103002) := (bc1 BK102.out 2).trans rfl; have hcz19_3 : w16.cell? ⟨gb102, 3, none⟩ = some (.string (⟨#[]⟩ : ByteArray)) := (bc1 BK102.out 3).trans rfl; have hcz19_4 : w16.cell? ⟨gb102, 4, none⟩ = some (.int .u8 a1) := (bc1 BK102.out 4).trans rfl; have hcz19_5 : w16.cell? ⟨gb102, 5, none⟩ = some (.string (⟨#[]⟩ : ByteArray)) := (bc1 BK102.out 5).trans rfl; have hfz19_0 := bz1 BK102.out 0; have hfz19_1 := bz1 BK102.out 1; have hfz19_2 := bz1 BK102.out 2; have hfz19_3 := bz1 BK102.out 3; have hfz19_4 := bz1 BK102.out 4; have hfz19_5 := bz1 BK102.out 5))
              go_roundg k1
              case measure => have := HK1.out; omega
              case rel => exact ⟨(wrap64 (x15_1 + 1)), (y107), (.slice Ao18 y107.length co18), (by first | rfl | (simp; done) | (simp [*]; done)), H', ⟨by have := HK1.out; omega⟩, ⟨by (with_reducible repeat (first | apply Kd.S_alloc | apply Kd.S_drewN | apply Kd.S_drew)); exact Kd.S_mono (Kd.S_far (p := ⟨gb102, 2, none⟩) (Kd.S_types HO109.out BK102.out (by decide)) (fun _ hk => hk.2) (.slice Ao18 y107.length co18)) (fun _ hk => trivial)⟩, ⟨by (with_reducible repeat (first | refine bn1 ?_ _ | refine bd1 ?_ | refine ba1 ?_ _)); refine bf1 ?_ NB101_102.out _; (with_reducible repeat (first | refine bn1 ?_ _ | refine bd1 ?_ | refine ba1 ?_ _)); exact BK101.out⟩, ⟨by (with_reducible repeat (first | refine bn1 ?_ _ | refine bd1 ?_ | refine ba1 ?_ _)); refine bp1 (cs := #[.int .i64 1, .int .u8 a0, u103002, .string (⟨#[]⟩ : ByteArray), .int .u8 a1, .string (⟨#[]⟩ : ByteArray)]) ?_ 2 _ rfl; (with_reducible repeat (first | refine bn1 ?_ _ | refine bd1 ?_ | refine ba1 ?_ _)); exact BK102.out⟩, ⟨by repeat (first | (with_reducible first | exact HB.out | apply la1 | apply ln1 | apply ld1 | refine ls1 ?_ GE101.out | refine ls1 ?_ GE102.out) | exact HB.out)⟩⟩
            · rw [if_neg c11] at H
              exact absurd H (by simp)
          · rw [if_neg c10] at H
            exact absurd H (by simp)
        · rw [if_neg c9] at H
          exact absurd H (by simp)
      · rw [if_neg c8] at H
        have c8b0 : decide (x15_1 < (l2.length : Int)) = false := decide_eq_false c8
        clear c8
        simp only [Option.some.injEq, Prod.mk.injEq] at H
        obtain ⟨rfl, rfl, rfl, rfl, rfl, rfl⟩ := H
        have hnb20 := NB102_101.out
        have hnc20 := NB101_102.out
        have hcz21_0 : wr.cell? ⟨gb102, 0, none⟩ = some (.int .i64 1) := (bc1 BK102.out 0).trans rfl
        have hcz21_1 : wr.cell? ⟨gb102, 1, none⟩ = some (.int .u8 a0) := (bc1 BK102.out 1).trans rfl
        have hcz21_2 : wr.cell? ⟨gb102, 2, none⟩ = some (u103002) := (bc1 BK102.out 2).trans rfl
        have hcz21_3 : wr.cell? ⟨gb102, 3, none⟩ = some (.string (⟨#[]⟩ : ByteArray)) := (bc1 BK102.out 3).trans rfl
        have hcz21_4 : wr.cell? ⟨gb102, 4, none⟩ = some (.int .u8 a1) := (bc1 BK102.out 4).trans rfl
        have hcz21_5 : wr.cell? ⟨gb102, 5, none⟩ = some (.string (⟨#[]⟩ : ByteArray)) := (bc1 BK102.out 5).trans rfl
        have hfz21_0 := bz1 BK102.out 0
        have hfz21_1 := bz1 BK102.out 1
        have hfz21_2 := bz1 BK102.out 2
        have hfz21_3 := bz1 BK102.out 3
        have hfz21_4 := bz1 BK102.out 4
        have hfz21_5 := bz1 BK102.out 5
        have hcz22_0 : wr.cell? ⟨gb101, 0, none⟩ = some (.int .i64 0) := (bc1 BK101.out 0).trans rfl
        have hcz22_1 : wr.cell? ⟨gb101, 1, none⟩ = some (.int .u8 0) := (bc1 BK101.out 1).trans rfl
        have hcz22_2 : wr.cell? ⟨gb101, 2, none⟩ = some (.slice none 0 0) := (bc1 BK101.out 2).trans rfl
        have hcz22_3 : wr.cell? ⟨gb101, 3, none⟩ = some (.string (⟨#[]⟩ : ByteArray)) := (bc1 BK101.out 3).trans rfl
        have hcz22_4 : wr.cell? ⟨gb101, 4, none⟩ = some (.int .u8 0) := (bc1 BK101.out 4).trans rfl
        have hcz22_5 : wr.cell? ⟨gb101, 5, none⟩ = some (.string (⟨#[]⟩ : ByteArray)) := (bc1 BK101.out 5).trans rfl
        have hfz22_0 := bz1 BK101.out 0
        have hfz22_1 := bz1 BK101.out 1
        have hfz22_2 := bz1 BK101.out 2
        have hfz22_3 := bz1 BK101.out 3
        have hfz22_4 := bz1 BK101.out 4
        have hfz22_5 := bz1 BK101.out 5
        obtain ⟨Ao23, co23, eo23⟩ := Kd.S_slice HO_103002.out
        subst eo23
        go_wp2
        refine bodyPost_ret (results_cell_row rfl _ _ gb101 30 #[.int .i64 1, .int .u8 a0, .slice Ao23 x103002_1.length co23, .string (⟨#[]⟩ : ByteArray), .int .u8 a1, .string (⟨#[]⟩ : ByteArray)] (0, 0) _ rfl (by (with_reducible repeat (first | refine bn1 ?_ _ | refine bd1 ?_ | refine ba1 ?_ _)); refine bp1 (cs := #[.int .i64 1, .int .u8 a0, .slice Ao23 x103002_1.length co23, .string (⟨#[]⟩ : ByteArray), .int .u8 a1, .string (⟨#[]⟩ : ByteArray)]) ?_ 5 _ rfl; (with_reducible repeat (first | refine bn1 ?_ _ | refine bd1 ?_ | refine ba1 ?_ _)); refine bp1 (cs := #[.int .i64 1, .int .u8 a0, .slice Ao23 x103002_1.length co23, .string (⟨#[]⟩ : ByteArray), .int .u8 0, .string (⟨#[]⟩ : ByteArray)]) ?_ 4 _ rfl; (with_reducible repeat (first | refine bn1 ?_ _ | refine bd1 ?_ | refine ba1 ?_ _)); refine bp1 (cs := #[.int .i64 1, .int .u8 a0, .slice Ao23 x103002_1.length co23, .string (⟨#[]⟩ : ByteArray), .int .u8 0, .string (⟨#[]⟩ : ByteArray)]) ?_ 3 _ rfl; (with_reducible repeat (first | refine bn1 ?_ _ | refine bd1 ?_ | refine ba1 ?_ _)); refine bp1 (cs := #[.int .i64 1, .int .u8 a0, .slice none 0 0, .string (⟨#[]⟩ : ByteArray), .int .u8 0, .string (⟨#[]⟩ : ByteArray)]) ?_ 2 _ rfl; (with_reducible repeat (first | refine bn1 ?_ _ | refine bd1 ?_ | refine ba1 ?_ _)); refine bp1 (cs := #[.int .i64 1, .int .u8 0, .slice none 0 0, .string (⟨#[]⟩ : ByteArray), .int .u8 0, .string (⟨#[]⟩ : ByteArray)]) ?_ 1 _ rfl; (with_reducible repeat (first | refine bn1 ?_ _ | refine bd1 ?_ | refine ba1 ?_ _)); refine bp1 (cs := #[.int .i64 0, .int .u8 0, .slice none 0 0, .string (⟨#[]⟩ : ByteArray), .int .u8 0, .string (⟨#[]⟩ : ByteArray)]) ?_ 0 _ rfl; (with_reducible repeat (first | refine bn1 ?_ _ | refine bd1 ?_ | refine ba1 ?_ _)); exact BK101.out) Tryd.underlying30 rfl (by kernel_rfl)) rfl ?_
        exact ⟨_, by first | rfl | (simp [errW_none, errW_some] <;> rfl) | (simp [*, errW_none, errW_some] <;> rfl), by (with_reducible repeat (first | apply Kd.S_alloc | apply Kd.S_drewN | apply Kd.S_drew)); exact Kd.S_mono (Kd.S_far (p := ⟨gb101, 5, none⟩) (Kd.S_far (p := ⟨gb101, 4, none⟩) (Kd.S_far (p := ⟨gb101, 3, none⟩) (Kd.S_far (p := ⟨gb101, 2, none⟩) (Kd.S_far (p := ⟨gb101, 1, none⟩) (Kd.S_far (p := ⟨gb101, 0, none⟩) (Kd.S_types HO_103002.out BK101.out (by decide)) (fun _ hk => hk.2) (.int .i64 1)) (fun _ hk => hk.2) (.int .u8 a0)) (fun _ hk => hk.2) (.slice Ao23 x103002_1.length co23)) (fun _ hk => hk.2) (.string (⟨#[]⟩ : ByteArray))) (fun _ hk => hk.2) (.int .u8 a1)) (fun _ hk => hk.2) (.string (⟨#[]⟩ : ByteArray))) (fun _ hk => trivial), by repeat (first | (with_reducible first | exact HB.out | apply la1 | apply ln1 | apply ld1 | refine ls1 ?_ GE101.out | refine ls1 ?_ GE102.out) | exact HB.out)⟩
end Go.Proofs.YtopcleljecdkkaaDoor.G
end
section
namespace Go.Proofs.YtopcleljecdkkaaDoor.G
open Go.RowKit Go.Proofs.YtopcleljecdkkaaDoorW.PrintWords Go.Proofs.YtopcleljecdkkaaDoorW.PrintLast Go.Proofs.YtopcleljecdkkaaDoorW.PrintMore
attribute [local go_sem] max2_int min2_int max_two min_two max_three min_three max_four min_four
set_option linter.unusedVariables false
set_option linter.unusedSimpArgs false
def report_fact.f (a0 : Int) : Option (Int) := some (mn (mx a0 0) 65535)
set_option maxHeartbeats 8000000 in
set_option maxRecDepth 100000 in
theorem report_fact.calls (a0 : Int) (r : Int) (w : World) (h : report_fact.f a0 = some r) :
    Calls Tryd.prog 29 #[.int .i64 a0] w fun e w' => e = .returned (.int .i64 r) ∧ Below w.heap.size w w' := by
  have HB := Aside0.mk (Below.refl w.heap.size w)
  have H : (some (mn (mx a0 0) 65535)) = some r := h
  clear h
  obtain ⟨ji2, hji2⟩ : ∃ j_ : Int, (mx a0 0) = j_ := ⟨_, rfl⟩
  replace H : (some (mn (ji2) 65535)) = some r := by first | (rw [hji2] at H; exact H) | (simp only [hji2] at H ⊢; exact H)
  (try (have hji2l : 0 ≤ ji2 := by (rw [← hji2]; unfold mx; (repeat' split) <;> omega)))
  (try (have hji2m : 0 ≤ ji2 := by omega))
  have hji2_ : (if a0 < 0 then 0 else a0) = ji2 := hji2
  obtain ⟨ji3, hji3⟩ : ∃ j_ : Int, (mn (ji2) 65535) = j_ := ⟨_, rfl⟩
  replace H : (some ji3) = some r := by first | (rw [hji3] at H; exact H) | (simp only [hji3] at H ⊢; exact H)
  have hji3_ : (if 65535 < (ji2) then 65535 else (ji2)) = ji3 := hji3
  obtain rfl := Option.some.inj H
  go_enter Tryd.func29, Tryd.ntmps29
  go_wp2
  go_ret
  exact ⟨by first | rfl | (simp [errW_none, errW_some] <;> rfl) | (simp only [← hji2, ← hji3]; first | rfl | (simp [errW_none, errW_some] <;> rfl)) | (simp [*, errW_none, errW_some] <;> rfl), by repeat (first | (with_reducible first | exact HB.out | apply la1 | apply ln1 | apply ld1) | exact HB.out)⟩
def report_Place.f (k : Nat) (a0_0 : Int) (a0_1 : Int) (a0_2 : Int) (a0_3 : Int) (a0_4 : Int) (a0_5 : Int) (a0_6 : Int) (a0_7 : Int) (a0_8 : Int) (a0_9 : Bool) (a0_10 : Bool) (a0_11 : Bool) (a0_12 : Bool) (a0_13 : Bool) (a0_14 : Bool) (a0_15 : Bool) (a0_16 : Int) (a0_17 : Int) (a0_18 : Int) (a1 : Bool) : Option (Int × Int × (List (List Int)) × ByteArray × Int × ByteArray) := (report_fact.f a0_2).bind fun t112 => ((report_fact.f a0_3).bind fun t113 => (if a1 = true then ((wire_Num.f k 63 82 (([t112, t113, 1] : List Int))).bind fun bt117 => (some (bt117.1, bt117.2.1, bt117.2.2.1, bt117.2.2.2.1, bt117.2.2.2.2.1, bt117.2.2.2.2.2))) else ((wire_Num.f k 0 82 (([t112, t113] : List Int))).bind fun bt128 => (some (bt128.1, bt128.2.1, bt128.2.2.1, bt128.2.2.2.1, bt128.2.2.2.2.1, bt128.2.2.2.2.2)))))
theorem report_Place.mono : ∀ a0 a1 a2 a3 a4 a5 a6 a7 a8 a9 a10 a11 a12 a13 a14 a15 a16 a17 a18 a19 k, LeO (report_Place.f k a0 a1 a2 a3 a4 a5 a6 a7 a8 a9 a10 a11 a12 a13 a14 a15 a16 a17 a18 a19) (report_Place.f (k + 1) a0 a1 a2 a3 a4 a5 a6 a7 a8 a9 a10 a11 a12 a13 a14 a15 a16 a17 a18 a19) := by
  intro a0 a1 a2 a3 a4 a5 a6 a7 a8 a9 a10 a11 a12 a13 a14 a15 a16 a17 a18 a19 k
  unfold report_Place.f
  repeat' first
      | (with_reducible exact wire_Num.mono _ _ _ _)
      | (with_reducible exact LeO.refl _)
      | (with_reducible exact LeO.none _)
      | (with_reducible refine LeO.ite ?_ ?_)
      | (with_reducible refine LeO.bind ?_ (fun _ => ?_))
      | exact wire_Num.mono _ _ _ _
      | exact LeO.none _
      | refine LeO.ite ?_ ?_
      | refine LeO.bind ?_ (fun _ => ?_)
def report_Place.T1 : Bool × List (List Nat × List Nat) := (true, [([], []), ([0], [0]), ([1], [1]), ([], []), ([3], [3]), ([4, 2], [4]), ([2, 5, 0, 1, 2], [2]), ([5, 6, 0, 1, 2, 3, 4, 5, 6], [5])])
def report_Place.B1 : List Nat := [0, 1, 3, 0, 8, 31, 63, 127]
theorem report_Place.tab1 : rtab .any (opsOf Tryd.f11 1) = report_Place.T1 := by kernel_rfl
theorem report_Place.bits1 : waitsOk report_Place.T1.2 report_Place.B1 = true := by kernel_rfl
set_option maxHeartbeats 8000000 in
set_option maxRecDepth 100000 in
theorem report_Place.calls (k : Nat) (a0_0 : Int) (a0_1 : Int) (a0_2 : Int) (a0_3 : Int) (a0_4 : Int) (a0_5 : Int) (a0_6 : Int) (a0_7 : Int) (a0_8 : Int) (a0_9 : Bool) (a0_10 : Bool) (a0_11 : Bool) (a0_12 : Bool) (a0_13 : Bool) (a0_14 : Bool) (a0_15 : Bool) (a0_16 : Int) (a0_17 : Int) (a0_18 : Int) (a1 : Bool) (r1 : Int) (r2 : Int) (r3 : List (List Int)) (r4 : ByteArray) (r5 : Int) (r6 : ByteArray) (w : World) (h : report_Place.f k a0_0 a0_1 a0_2 a0_3 a0_4 a0_5 a0_6 a0_7 a0_8 a0_9 a0_10 a0_11 a0_12 a0_13 a0_14 a0_15 a0_16 a0_17 a0_18 a1 = some (r1, r2, r3, r4, r5, r6)) :
    Calls Tryd.prog 11 #[.agg #[.int .i64 a0_0, .int .i64 a0_1, .int .i64 a0_2, .int .i64 a0_3, .int .i64 a0_4, .int .i64 a0_5, .int .i64 a0_6, .int .i64 a0_7, .int .i64 a0_8, .bool a0_9, .bool a0_10, .bool a0_11, .bool a0_12, .bool a0_13, .bool a0_14, .bool a0_15, .int .i64 a0_16, .int .i64 a0_17, .int .i64 a0_18], .bool a1] w fun e w' => ∃ v2_ : Value, e = .returned (.agg #[.int .i64 r1, .int .u8 r2, v2_, .string r4, .int .u8 r5, .string r6]) ∧ Kd.S (Kd.slice 3 (Kd.int .i64)) 52 w' w.heap.size (fun _ => True) v2_ r3 ∧ Below w.heap.size w w' := by
  have hu25 := Tryd.underlying25
  have hu30 := Tryd.underlying30
  have HB := Aside0.mk (Below.refl w.heap.size w)
  have H : ((report_fact.f a0_2).bind fun t112 => ((report_fact.f a0_3).bind fun t113 => (if a1 = true then ((wire_Num.f k 63 82 (([t112, t113, 1] : List Int))).bind fun bt117 => (some (bt117.1, bt117.2.1, bt117.2.2.1, bt117.2.2.2.1, bt117.2.2.2.2.1, bt117.2.2.2.2.2))) else ((wire_Num.f k 0 82 (([t112, t113] : List Int))).bind fun bt128 => (some (bt128.1, bt128.2.1, bt128.2.2.1, bt128.2.2.2.1, bt128.2.2.2.2.1, bt128.2.2.2.2.2)))))) = some (r1, r2, r3, r4, r5, r6) := h
  clear h
  replace H := Option.bind_eq_some_iff.mp H
  obtain ⟨t112, A30, H⟩ := H
  replace H : ((report_fact.f a0_3).bind fun t113 => (if a1 = true then ((wire_Num.f k 63 82 (([t112, t113, 1] : List Int))).bind fun bt117 => (some (bt117.1, bt117.2.1, bt117.2.2.1, bt117.2.2.2.1, bt117.2.2.2.2.1, bt117.2.2.2.2.2))) else ((wire_Num.f k 0 82 (([t112, t113] : List Int))).bind fun bt128 => (some (bt128.1, bt128.2.1, bt128.2.2.1, bt128.2.2.2.1, bt128.2.2.2.2.1, bt128.2.2.2.2.2))))) = some (r1, r2, r3, r4, r5, r6) := H
  have A3 := Aside0.mk A30
  clear A30
  replace H := Option.bind_eq_some_iff.mp H
  obtain ⟨t113, A40, H⟩ := H
  replace H : (if a1 = true then ((wire_Num.f k 63 82 (([t112, t113, 1] : List Int))).bind fun bt117 => (some (bt117.1, bt117.2.1, bt117.2.2.1, bt117.2.2.2.1, bt117.2.2.2.2.1, bt117.2.2.2.2.2))) else ((wire_Num.f k 0 82 (([t112, t113] : List Int))).bind fun bt128 => (some (bt128.1, bt128.2.1, bt128.2.2.1, bt128.2.2.2.1, bt128.2.2.2.2.1, bt128.2.2.2.2.2)))) = some (r1, r2, r3, r4, r5, r6) := H
  have A4 := Aside0.mk A40
  clear A40
  by_cases c5 : a1 = true
  · subst c5
    have H1 : ((wire_Num.f k 63 82 (([t112, t113, 1] : List Int))).bind fun bt117 => (some (bt117.1, bt117.2.1, bt117.2.2.1, bt117.2.2.2.1, bt117.2.2.2.2.1, bt117.2.2.2.2.2))) = some (r1, r2, r3, r4, r5, r6) := by rw [if_pos rfl] at H; exact H
    clear H
    have H := H1
    clear H1
    obtain ⟨y114, hy114⟩ : ∃ y_ : List Int, y_ = (([t112, t113, 1] : List Int)) := ⟨_, rfl⟩
    replace H : ((wire_Num.f k 63 82 y114).bind fun bt117 => (some (bt117.1, bt117.2.1, bt117.2.2.1, bt117.2.2.2.1, bt117.2.2.2.2.1, bt117.2.2.2.2.2))) = some (r1, r2, r3, r4, r5, r6) := by first | (rw [hy114]; with_reducible exact H) | (have H2_ := (Option.bind_some _ _).symm.trans H; rw [hy114]; with_reducible exact H2_) | (have H2_ := (Option.bind_some _ _).symm.trans H; with_reducible exact H2_) | with_reducible exact H | (rw [hy114]; exact H) | exact H
    have Ny114 := Aside0.mk hy114
    clear hy114
    replace H := Option.bind_eq_some_iff.mp H
    obtain ⟨⟨t117, t118, t119, t122, t123, t124⟩, A60, H⟩ := H
    replace H : (some (t117, t118, t119, t122, t123, t124)) = some (r1, r2, r3, r4, r5, r6) := H
    have A6 := Aside0.mk A60
    clear A60
    simp only [Option.some.injEq, Prod.mk.injEq] at H
    obtain ⟨rfl, rfl, rfl, rfl, rfl, rfl⟩ := H
    go_enter Tryd.func11, Tryd.ntmps11
    try go_wp2_with (first | ((with_reducible refine gate_dst (N := 2) rfl ?_); refine box_event ?hg (N := 2) ?hd (cs := #[.int .i64 a0_0, .int .i64 a0_1, .int .i64 a0_2, .int .i64 a0_3, .int .i64 a0_4, .int .i64 a0_5, .int .i64 a0_6, .int .i64 a0_7, .int .i64 a0_8, .bool a0_9, .bool a0_10, .bool a0_11, .bool a0_12, .bool a0_13, .bool a0_14, .bool a0_15, .int .i64 a0_16, .int .i64 a0_17, .int .i64 a0_18]) (t := 25) ?hr ?_; (case hd => rfl); (case hg => rfl); (case hr => first | (go_simp; done) | (go_simp; rfl)); intro gb110 hg w7 hbox hb; have n0_ := Aside0.mk (below_step (by repeat (first | (with_reducible first | exact HB.out | apply la1 | apply ln1 | apply ld1) | exact HB.out)) hb); have n1_ := Aside0.mk (hbox); have n2_ := Aside0.mk ((by rw [hg]; exact (below_size (by repeat (first | (with_reducible first | exact HB.out | apply la1 | apply ln1 | apply ld1) | exact HB.out))) : w.heap.size ≤ gb110)); have n3_ := Aside0.mk ((by rw [hg]; exact (below_size (by repeat (first | (with_reducible first | exact HB.out | apply la1 | apply ln1 | apply ld1) | exact HB.out))) : w.heap.size ≤ gb110)); clear HB; have HB := n0_; have BK110 := n1_; have GW110 := n2_; have GE110 := n3_; clear n0_ n1_ n2_ n3_; clear hb hbox hg) | ((with_reducible refine gate_dst (N := 4) rfl ?_); refine box_event ?hg (N := 4) ?hd (cs := #[.int .i64 0, .int .u8 0, .slice none 0 0, .string (⟨#[]⟩ : ByteArray), .int .u8 0, .string (⟨#[]⟩ : ByteArray)]) (t := 30) ?hr ?_; (case hd => rfl); (case hg => rfl); (case hr => first | (go_simp; done) | (go_simp; rfl)); intro gb111 hg w8 hbox hb; have n0_ := Aside0.mk (bb1 (g := gb110) (o := .cells #[.int .i64 a0_0, .int .i64 a0_1, .int .i64 a0_2, .int .i64 a0_3, .int .i64 a0_4, .int .i64 a0_5, .int .i64 a0_6, .int .i64 a0_7, .int .i64 a0_8, .bool a0_9, .bool a0_10, .bool a0_11, .bool a0_12, .bool a0_13, .bool a0_14, .bool a0_15, .int .i64 a0_16, .int .i64 a0_17, .int .i64 a0_18] 25 (0, 0)) (by (with_reducible repeat (first | refine bn1 ?_ _ | refine bd1 ?_ | refine ba1 ?_ _)); exact BK110.out) hb); have n1_ := Aside0.mk (below_step (by repeat (first | (with_reducible first | exact HB.out | apply la1 | apply ln1 | apply ld1 | refine ls1 ?_ GE110.out) | exact HB.out)) hb); have n2_ := Aside0.mk (hbox); have n3_ := Aside0.mk ((by rw [hg]; exact (below_size (by repeat (first | (with_reducible first | exact HB.out | apply la1 | apply ln1 | apply ld1 | refine ls1 ?_ GE110.out) | exact HB.out))) : w.heap.size ≤ gb111)); have n4_ := Aside0.mk ((by rw [hg]; exact (below_size (by repeat (first | (with_reducible first | exact HB.out | apply la1 | apply ln1 | apply ld1 | refine ls1 ?_ GE110.out) | exact HB.out))) : w.heap.size ≤ gb111)); have n5_ := Aside0.mk ((by rw [hg]; exact Nat.ne_of_lt (blk_lt (g := gb110) (o := .cells #[.int .i64 a0_0, .int .i64 a0_1, .int .i64 a0_2, .int .i64 a0_3, .int .i64 a0_4, .int .i64 a0_5, .int .i64 a0_6, .int .i64 a0_7, .int .i64 a0_8, .bool a0_9, .bool a0_10, .bool a0_11, .bool a0_12, .bool a0_13, .bool a0_14, .bool a0_15, .int .i64 a0_16, .int .i64 a0_17, .int .i64 a0_18] 25 (0, 0)) (by (with_reducible repeat (first | refine bn1 ?_ _ | refine bd1 ?_ | refine ba1 ?_ _)); exact BK110.out)) : gb110 ≠ gb111)); have n6_ := Aside0.mk ((by rw [hg]; exact Nat.ne_of_gt (blk_lt (g := gb110) (o := .cells #[.int .i64 a0_0, .int .i64 a0_1, .int .i64 a0_2, .int .i64 a0_3, .int .i64 a0_4, .int .i64 a0_5, .int .i64 a0_6, .int .i64 a0_7, .int .i64 a0_8, .bool a0_9, .bool a0_10, .bool a0_11, .bool a0_12, .bool a0_13, .bool a0_14, .bool a0_15, .int .i64 a0_16, .int .i64 a0_17, .int .i64 a0_18] 25 (0, 0)) (by (with_reducible repeat (first | refine bn1 ?_ _ | refine bd1 ?_ | refine ba1 ?_ _)); exact BK110.out)) : gb111 ≠ gb110)); clear BK110; clear HB; have BK110 := n0_; have HB := n1_; have BK111 := n2_; have GW111 := n3_; have GE111 := n4_; have NB110_111 := n5_; have NB111_110 := n6_; clear n0_ n1_ n2_ n3_ n4_ n5_ n6_; clear hb hbox hg))
    have n0_ := Aside0.mk (bd1 BK110.out)
    have n1_ := Aside0.mk (bd1 BK111.out)
    have n2_ := Aside0.mk (ld1 HB.out)
    clear BK110
    clear BK111
    clear HB
    have BK110 := n0_
    have BK111 := n1_
    have HB := n2_
    clear n0_ n1_ n2_
    refine start_ (n := 8) (S := fun w' => w'.cell? ⟨gb110, 0, none⟩ = some (.int .i64 a0_0) ∧ w'.cell? ⟨gb110, 1, none⟩ = some (.int .i64 a0_1) ∧ w'.cell? ⟨gb110, 2, none⟩ = some (.int .i64 a0_2) ∧ w'.cell? ⟨gb110, 3, none⟩ = some (.int .i64 a0_3) ∧ w'.cell? ⟨gb110, 4, none⟩ = some (.int .i64 a0_4) ∧ w'.cell? ⟨gb110, 5, none⟩ = some (.int .i64 a0_5) ∧ w'.cell? ⟨gb110, 6, none⟩ = some (.int .i64 a0_6) ∧ w'.cell? ⟨gb110, 7, none⟩ = some (.int .i64 a0_7) ∧ w'.cell? ⟨gb110, 8, none⟩ = some (.int .i64 a0_8) ∧ w'.cell? ⟨gb110, 9, none⟩ = some (.bool a0_9) ∧ w'.cell? ⟨gb110, 10, none⟩ = some (.bool a0_10) ∧ w'.cell? ⟨gb110, 11, none⟩ = some (.bool a0_11) ∧ w'.cell? ⟨gb110, 12, none⟩ = some (.bool a0_12) ∧ w'.cell? ⟨gb110, 13, none⟩ = some (.bool a0_13) ∧ w'.cell? ⟨gb110, 14, none⟩ = some (.bool a0_14) ∧ w'.cell? ⟨gb110, 15, none⟩ = some (.bool a0_15) ∧ w'.cell? ⟨gb110, 16, none⟩ = some (.int .i64 a0_16) ∧ w'.cell? ⟨gb110, 17, none⟩ = some (.int .i64 a0_17) ∧ w'.cell? ⟨gb110, 18, none⟩ = some (.int .i64 a0_18)) (ds := []) #[false, false, false, false, false, false, false, false] (by kernel_rfl) rfl rfl ⟨(bc1 BK110.out 0).trans rfl, (bc1 BK110.out 1).trans rfl, (bc1 BK110.out 2).trans rfl, (bc1 BK110.out 3).trans rfl, (bc1 BK110.out 4).trans rfl, (bc1 BK110.out 5).trans rfl, (bc1 BK110.out 6).trans rfl, (bc1 BK110.out 7).trans rfl, (bc1 BK110.out 8).trans rfl, (bc1 BK110.out 9).trans rfl, (bc1 BK110.out 10).trans rfl, (bc1 BK110.out 11).trans rfl, (bc1 BK110.out 12).trans rfl, (bc1 BK110.out 13).trans rfl, (bc1 BK110.out 14).trans rfl, (bc1 BK110.out 15).trans rfl, (bc1 BK110.out 16).trans rfl, (bc1 BK110.out 17).trans rfl, (bc1 BK110.out 18).trans rfl⟩ (fun hHeld => ?_); refine with_tabW report_Place.tab1 report_Place.bits1 (fun HT_ HW_ => ?_)
    generalize w8.drew = w9 at BK110 BK111 HB hHeld ⊢
    refine pure_ (i := 0) (N := some 7) (v := ?_) (a' := ?_) #[true, false, false, false, false, false, false, false] rfl rfl (any_of HT_.out (by kernel_rfl)) (fun _ _ _ h => h) (Or.inl ⟨by rfl, ?_⟩) ?_ ?_
    rotate_left
    · intro w'
      go_simp
      with_reducible rfl
    rotate_left
    · simp only [Act.put, List.setIfInBounds_toArray, List.set_cons_zero, List.set_cons_succ, i64_w, i32_w]
      rfl
    refine pure_ (i := 3) (N := some 10) (v := ?_) (a' := ?_) #[true, false, false, true, false, false, false, false] rfl rfl (any_of HT_.out (by kernel_rfl)) (fun _ _ _ h => h) (Or.inl ⟨by rfl, ?_⟩) ?_ ?_
    rotate_left
    · intro w'
      go_simp
      with_reducible rfl
    rotate_left
    · simp only [Act.put, List.setIfInBounds_toArray, List.set_cons_zero, List.set_cons_succ, i64_w, i32_w]
      rfl
    refine take_ (i := 1) (N := some 8) (v := ?_) (a' := ?_) #[true, true, false, true, false, false, false, false] rfl rfl (take_ofW HT_.out HW_.out (by kernel_rfl)) (fun _ _ _ h => h) (Or.inl ⟨by rfl, ?_⟩) hHeld ?_ ?_
    rotate_left
    · rintro w' ⟨s0, s1, s2, s3, s4, s5, s6, s7, s8, s9, s10, s11, s12, s13, s14, s15, s16, s17, s18⟩
      go_simp
      with_reducible rfl
    rotate_left
    · simp only [Act.put, List.setIfInBounds_toArray, List.set_cons_zero, List.set_cons_succ, i64_w, i32_w]
      rfl
    refine take_ (i := 4) (N := some 11) (v := ?_) (a' := ?_) #[true, true, false, true, true, false, false, false] rfl rfl (take_ofW HT_.out HW_.out (by kernel_rfl)) (fun _ _ _ h => h) (Or.inl ⟨by rfl, ?_⟩) hHeld ?_ ?_
    rotate_left
    · rintro w' ⟨s0, s1, s2, s3, s4, s5, s6, s7, s8, s9, s10, s11, s12, s13, s14, s15, s16, s17, s18⟩
      go_simp
      with_reducible rfl
    rotate_left
    · simp only [Act.put, List.setIfInBounds_toArray, List.set_cons_zero, List.set_cons_succ, i64_w, i32_w]
      rfl
    refine one_ (i := 2) (N := some 9) #[true, true, true, true, true, false, false, false] rfl rfl (one_of HT_.out (by kernel_rfl)) (by decide) (fun K hK => ?_)
    refine goes_ Tryd.func29 (by kernel_rfl) rfl #[.int .i64 a0_2] (by rfl) rfl rfl (by (try simp only [List.map_toArray, List.map_cons, List.map_nil]); first | done | rfl | (simp only [List.length_drop, List.length_take]; rfl)) ?_
    with_reducible refine (report_fact.calls a0_2 t112 _ A3.out).mono ?_
    rintro e w10 ⟨rfl, hb⟩
    refine ⟨_, rfl, ?_⟩
    have n0_ := Aside0.mk (bb1 (g := gb110) (o := .cells #[.int .i64 a0_0, .int .i64 a0_1, .int .i64 a0_2, .int .i64 a0_3, .int .i64 a0_4, .int .i64 a0_5, .int .i64 a0_6, .int .i64 a0_7, .int .i64 a0_8, .bool a0_9, .bool a0_10, .bool a0_11, .bool a0_12, .bool a0_13, .bool a0_14, .bool a0_15, .int .i64 a0_16, .int .i64 a0_17, .int .i64 a0_18] 25 (0, 0)) (by (with_reducible repeat (first | refine bn1 ?_ _ | refine bd1 ?_ | refine ba1 ?_ _)); exact BK110.out) hb)
    have n1_ := Aside0.mk (bb1 (g := gb111) (o := .cells #[.int .i64 0, .int .u8 0, .slice none 0 0, .string (⟨#[]⟩ : ByteArray), .int .u8 0, .string (⟨#[]⟩ : ByteArray)] 30 (0, 0)) (by (with_reducible repeat (first | refine bn1 ?_ _ | refine bd1 ?_ | refine ba1 ?_ _)); exact BK111.out) hb)
    have n2_ := Aside0.mk (below_step (by repeat (first | (with_reducible first | exact HB.out | apply la1 | apply ln1 | apply ld1 | refine ls1 ?_ GE110.out | refine ls1 ?_ GE111.out) | exact HB.out)) hb)
    clear BK110
    clear BK111
    clear HB
    have BK110 := n0_
    have BK111 := n1_
    have HB := n2_
    clear n0_ n1_ n2_
    (try clear hb)
    (try clear hb2)
    (try clear hk)
    (try clear hi)
    refine hK.out _ _ ⟨(bc1 BK110.out 0).trans rfl, (bc1 BK110.out 1).trans rfl, (bc1 BK110.out 2).trans rfl, (bc1 BK110.out 3).trans rfl, (bc1 BK110.out 4).trans rfl, (bc1 BK110.out 5).trans rfl, (bc1 BK110.out 6).trans rfl, (bc1 BK110.out 7).trans rfl, (bc1 BK110.out 8).trans rfl, (bc1 BK110.out 9).trans rfl, (bc1 BK110.out 10).trans rfl, (bc1 BK110.out 11).trans rfl, (bc1 BK110.out 12).trans rfl, (bc1 BK110.out 13).trans rfl, (bc1 BK110.out 14).trans rfl, (bc1 BK110.out 15).trans rfl, (bc1 BK110.out 16).trans rfl, (bc1 BK110.out 17).trans rfl, (bc1 BK110.out 18).trans rfl⟩ (fun hHeld => ?_)
    clear hK K
    refine norm_ (a' := ?_) ?_ ?_
    rotate_left
    · show Act.put _ (some 9) _ = _
      simp only [Act.put, List.setIfInBounds_toArray, List.set_cons_zero, List.set_cons_succ, i64_w, i32_w]
      rfl
    refine one_ (i := 5) (N := some 12) #[true, true, true, true, true, true, false, false] rfl rfl (one_of HT_.out (by kernel_rfl)) (by decide) (fun K hK => ?_)
    refine goes_ Tryd.func29 (by kernel_rfl) rfl #[.int .i64 a0_3] (by rfl) rfl rfl (by (try simp only [List.map_toArray, List.map_cons, List.map_nil]); first | done | rfl | (simp only [List.length_drop, List.length_take]; rfl)) ?_
    with_reducible refine (report_fact.calls a0_3 t113 _ A4.out).mono ?_
    rintro e w11 ⟨rfl, hb⟩
    refine ⟨_, rfl, ?_⟩
    have n0_ := Aside0.mk (bb1 (g := gb110) (o := .cells #[.int .i64 a0_0, .int .i64 a0_1, .int .i64 a0_2, .int .i64 a0_3, .int .i64 a0_4, .int .i64 a0_5, .int .i64 a0_6, .int .i64 a0_7, .int .i64 a0_8, .bool a0_9, .bool a0_10, .bool a0_11, .bool a0_12, .bool a0_13, .bool a0_14, .bool a0_15, .int .i64 a0_16, .int .i64 a0_17, .int .i64 a0_18] 25 (0, 0)) (by (with_reducible repeat (first | refine bn1 ?_ _ | refine bd1 ?_ | refine ba1 ?_ _)); exact BK110.out) hb)
    have n1_ := Aside0.mk (bb1 (g := gb111) (o := .cells #[.int .i64 0, .int .u8 0, .slice none 0 0, .string (⟨#[]⟩ : ByteArray), .int .u8 0, .string (⟨#[]⟩ : ByteArray)] 30 (0, 0)) (by (with_reducible repeat (first | refine bn1 ?_ _ | refine bd1 ?_ | refine ba1 ?_ _)); exact BK111.out) hb)
    have n2_ := Aside0.mk (below_step (by repeat (first | (with_reducible first | exact HB.out | apply la1 | apply ln1 | apply ld1 | refine ls1 ?_ GE110.out | refine ls1 ?_ GE111.out) | exact HB.out)) hb)
    clear BK110
    clear BK111
    clear HB
    have BK110 := n0_
    have BK111 := n1_
    have HB := n2_
    clear n0_ n1_ n2_
    (try clear hb)
    (try clear hb2)
    (try clear hk)
    (try clear hi)
    refine hK.out _ _ ⟨(bc1 BK110.out 0).trans rfl, (bc1 BK110.out 1).trans rfl, (bc1 BK110.out 2).trans rfl, (bc1 BK110.out 3).trans rfl, (bc1 BK110.out 4).trans rfl, (bc1 BK110.out 5).trans rfl, (bc1 BK110.out 6).trans rfl, (bc1 BK110.out 7).trans rfl, (bc1 BK110.out 8).trans rfl, (bc1 BK110.out 9).trans rfl, (bc1 BK110.out 10).trans rfl, (bc1 BK110.out 11).trans rfl, (bc1 BK110.out 12).trans rfl, (bc1 BK110.out 13).trans rfl, (bc1 BK110.out 14).trans rfl, (bc1 BK110.out 15).trans rfl, (bc1 BK110.out 16).trans rfl, (bc1 BK110.out 17).trans rfl, (bc1 BK110.out 18).trans rfl⟩ (fun hHeld => ?_)
    clear hK K
    refine norm_ (a' := ?_) ?_ ?_
    rotate_left
    · show Act.put _ (some 12) _ = _
      simp only [Act.put, List.setIfInBounds_toArray, List.set_cons_zero, List.set_cons_succ, i64_w, i32_w]
      rfl
    refine pure_ (i := 6) (N := some 5) (v := ?_) (a' := ?_) #[true, true, true, true, true, true, true, false] rfl rfl (any_of HT_.out (by kernel_rfl)) (fun _ _ _ h => h) (Or.inl ⟨by rfl, ?_⟩) ?_ ?_
    rotate_left
    · intro w'
      go_simp
      with_reducible rfl
    rotate_left
    · simp only [Act.put, List.setIfInBounds_toArray, List.set_cons_zero, List.set_cons_succ, i64_w, i32_w]
      rfl
    refine pure_ (i := 7) (N := some 6) (v := ?_) (a' := ?_) #[true, true, true, true, true, true, true, true] rfl rfl (any_of HT_.out (by kernel_rfl)) (fun _ _ _ h => h) (Or.inl ⟨by rfl, ?_⟩) ?_ ?_
    rotate_left
    · intro w'
      go_simp
      with_reducible rfl
    rotate_left
    · simp only [Act.put, List.setIfInBounds_toArray, List.set_cons_zero, List.set_cons_succ, i64_w, i32_w]
      rfl
    refine done_ (done_of HT_.out (by kernel_rfl)) ?_
    try go_wp2_with (first | ((with_reducible refine gate_dst (N := 16) rfl ?_); refine Kd.R_lit (Kd.int .i64) _ 3 ?hg (N := 16) ?hd (xs := ([t112, t113, 1] : List Int)) (inner := [.int .i64 t112, .int .i64 t113, .int .i64 1]) (ok := fun _ => True) (okp := fun _ => True) ?hr ?hp (fun _ hk => hk) trivial (Below.refl _ _) (Nat.le_refl _) (by simp) ?_; (case hd => rfl); (case hg => rfl); (case hr => first | (go_simp; done) | (go_simp; rfl)); (case hp => exact (Reps.one (show Kd.M (Kd.int .i64) _ _ _ t112 [.int .i64 t112] from rfl) (Reps.one (show Kd.M (Kd.int .i64) _ _ _ t113 [.int .i64 t113] from rfl) (Reps.one (show Kd.M (Kd.int .i64) _ _ _ 1 [.int .i64 1] from rfl) (Reps.none _ _))))); intro v115 w12 ho13 hb hg_ hnew_; clear hg_ hnew_; (first | rw [← Ny114.out] at ho13 | (simp only [Int.reduceToNat] at ho13; rw [← Ny114.out] at ho13)); have n0_ := Aside0.mk (Kd.R_lower ho13 (below_size (by repeat (first | (with_reducible first | exact HB.out | apply la1 | apply ln1 | apply ld1 | refine ls1 ?_ GE110.out | refine ls1 ?_ GE111.out) | exact HB.out)))); have n1_ := Aside0.mk (bb1 (g := gb110) (o := .cells #[.int .i64 a0_0, .int .i64 a0_1, .int .i64 a0_2, .int .i64 a0_3, .int .i64 a0_4, .int .i64 a0_5, .int .i64 a0_6, .int .i64 a0_7, .int .i64 a0_8, .bool a0_9, .bool a0_10, .bool a0_11, .bool a0_12, .bool a0_13, .bool a0_14, .bool a0_15, .int .i64 a0_16, .int .i64 a0_17, .int .i64 a0_18] 25 (0, 0)) (by (with_reducible repeat (first | refine bn1 ?_ _ | refine bd1 ?_ | refine ba1 ?_ _)); exact BK110.out) hb); have n2_ := Aside0.mk (bb1 (g := gb111) (o := .cells #[.int .i64 0, .int .u8 0, .slice none 0 0, .string (⟨#[]⟩ : ByteArray), .int .u8 0, .string (⟨#[]⟩ : ByteArray)] 30 (0, 0)) (by (with_reducible repeat (first | refine bn1 ?_ _ | refine bd1 ?_ | refine ba1 ?_ _)); exact BK111.out) hb); have n3_ := Aside0.mk (below_step (by repeat (first | (with_reducible first | exact HB.out | apply la1 | apply ln1 | apply ld1 | refine ls1 ?_ GE110.out | refine ls1 ?_ GE111.out) | exact HB.out)) hb); clear BK110; clear BK111; clear HB; have HO116 := n0_; have BK110 := n1_; have BK111 := n2_; have HB := n3_; clear n0_ n1_ n2_ n3_; clear hb ho13; obtain ⟨Ao14, co14, eo14⟩ := Kd.R_slice HO116.out; subst eo14) | ((with_reducible refine gate_callee (f := 30) rfl ?_); refine goesL_ (some 17) rfl rfl Tryd.func30 (by kernel_rfl) rfl #[.int .u8 63, .int .u8 82, .slice Ao14 y114.length co14] rfl (by (try simp only [List.map_toArray, List.map_cons, List.map_nil]); first | done | rfl | (simp only [List.length_drop, List.length_take]; rfl)) ?_; (with_reducible refine (wire_Num.calls k 63 82 _ _ y114 t117 t118 t119 t122 t123 t124 _ ?side1 ?side2 A6.out).mono ?_); (case side1 => repeat (first | exact (Kd.R_reads' HO116.out).2.2 | (with_reducible refine Kd.C_alloc ?_ _) | (with_reducible refine Kd.C_drewN ?_ _) | (with_reducible refine Kd.C_drew ?_))); (case side2 => exact (Kd.R_reads' HO116.out).2.1); rintro e w15 ⟨v120, rfl, ho0, hb⟩; refine ⟨_, rfl, ?_⟩; have n0_ := Aside0.mk (Kd.R_below (by (with_reducible repeat (first | apply Kd.R_alloc | apply Kd.R_drewN | apply Kd.R_drew)); exact HO116.out) hb); have n1_ := Aside0.mk (Kd.S_lower (Kd.S_new' ho0 (Kd.R_lt (by (with_reducible repeat (first | apply Kd.R_alloc | apply Kd.R_drewN | apply Kd.R_drew)); exact HO116.out))) (below_size (by repeat (first | (with_reducible first | exact HB.out | apply la1 | apply ln1 | apply ld1 | refine ls1 ?_ GE110.out | refine ls1 ?_ GE111.out) | exact HB.out)))); have n2_ := Aside0.mk (bb1 (g := gb110) (o := .cells #[.int .i64 a0_0, .int .i64 a0_1, .int .i64 a0_2, .int .i64 a0_3, .int .i64 a0_4, .int .i64 a0_5, .int .i64 a0_6, .int .i64 a0_7, .int .i64 a0_8, .bool a0_9, .bool a0_10, .bool a0_11, .bool a0_12, .bool a0_13, .bool a0_14, .bool a0_15, .int .i64 a0_16, .int .i64 a0_17, .int .i64 a0_18] 25 (0, 0)) (by (with_reducible repeat (first | refine bn1 ?_ _ | refine bd1 ?_ | refine ba1 ?_ _)); exact BK110.out) hb); have n3_ := Aside0.mk (bb1 (g := gb111) (o := .cells #[.int .i64 0, .int .u8 0, .slice none 0 0, .string (⟨#[]⟩ : ByteArray), .int .u8 0, .string (⟨#[]⟩ : ByteArray)] 30 (0, 0)) (by (with_reducible repeat (first | refine bn1 ?_ _ | refine bd1 ?_ | refine ba1 ?_ _)); exact BK111.out) hb); have n4_ := Aside0.mk (below_step (by repeat (first | (with_reducible first | exact HB.out | apply la1 | apply ln1 | apply ld1 | refine ls1 ?_ GE110.out | refine ls1 ?_ GE111.out) | exact HB.out)) hb); clear HO116; clear BK110; clear BK111; clear HB; have HO116 := n0_; have HO121 := n1_; have BK110 := n2_; have BK111 := n3_; have HB := n4_; clear n0_ n1_ n2_ n3_ n4_; (try clear hb); (try clear hb2); (try clear hk); (try clear hi); (try clear ho0); have hnb16 := NB111_110.out; have hnc16 := NB110_111.out; have hcz17_0 : w15.cell? ⟨gb111, 0, none⟩ = some (.int .i64 0) := (bc1 BK111.out 0).trans rfl; have hcz17_1 : w15.cell? ⟨gb111, 1, none⟩ = some (.int .u8 0) := (bc1 BK111.out 1).trans rfl; have hcz17_2 : w15.cell? ⟨gb111, 2, none⟩ = some (.slice none 0 0) := (bc1 BK111.out 2).trans rfl; have hcz17_3 : w15.cell? ⟨gb111, 3, none⟩ = some (.string (⟨#[]⟩ : ByteArray)) := (bc1 BK111.out 3).trans rfl; have hcz17_4 : w15.cell? ⟨gb111, 4, none⟩ = some (.int .u8 0) := (bc1 BK111.out 4).trans rfl; have hcz17_5 : w15.cell? ⟨gb111, 5, none⟩ = some (.string (⟨#[]⟩ : ByteArray)) := (bc1 BK111.out 5).trans rfl; have hfz17_0 := bz1 BK111.out 0; have hfz17_1 := bz1 BK111.out 1; have hfz17_2 := bz1 BK111.out 2; have hfz17_3 := bz1 BK111.out 3; have hfz17_4 := bz1 BK111.out 4; have hfz17_5 := bz1 BK111.out 5; obtain ⟨Ao18, co18, eo18⟩ := Kd.S_slice HO121.out; subst eo18))
    refine bodyPost_ret (results_cell_row rfl _ _ gb111 30 #[.int .i64 t117, .int .u8 t118, .slice Ao18 t119.length co18, .string t122, .int .u8 t123, .string t124] (0, 0) _ rfl (by (with_reducible repeat (first | refine bn1 ?_ _ | refine bd1 ?_ | refine ba1 ?_ _)); refine bp1 (cs := #[.int .i64 t117, .int .u8 t118, .slice Ao18 t119.length co18, .string t122, .int .u8 t123, .string (⟨#[]⟩ : ByteArray)]) ?_ 5 _ rfl; (with_reducible repeat (first | refine bn1 ?_ _ | refine bd1 ?_ | refine ba1 ?_ _)); refine bp1 (cs := #[.int .i64 t117, .int .u8 t118, .slice Ao18 t119.length co18, .string t122, .int .u8 0, .string (⟨#[]⟩ : ByteArray)]) ?_ 4 _ rfl; (with_reducible repeat (first | refine bn1 ?_ _ | refine bd1 ?_ | refine ba1 ?_ _)); refine bp1 (cs := #[.int .i64 t117, .int .u8 t118, .slice Ao18 t119.length co18, .string (⟨#[]⟩ : ByteArray), .int .u8 0, .string (⟨#[]⟩ : ByteArray)]) ?_ 3 _ rfl; (with_reducible repeat (first | refine bn1 ?_ _ | refine bd1 ?_ | refine ba1 ?_ _)); refine bp1 (cs := #[.int .i64 t117, .int .u8 t118, .slice none 0 0, .string (⟨#[]⟩ : ByteArray), .int .u8 0, .string (⟨#[]⟩ : ByteArray)]) ?_ 2 _ rfl; (with_reducible repeat (first | refine bn1 ?_ _ | refine bd1 ?_ | refine ba1 ?_ _)); refine bp1 (cs := #[.int .i64 t117, .int .u8 0, .slice none 0 0, .string (⟨#[]⟩ : ByteArray), .int .u8 0, .string (⟨#[]⟩ : ByteArray)]) ?_ 1 _ rfl; (with_reducible repeat (first | refine bn1 ?_ _ | refine bd1 ?_ | refine ba1 ?_ _)); refine bp1 (cs := #[.int .i64 0, .int .u8 0, .slice none 0 0, .string (⟨#[]⟩ : ByteArray), .int .u8 0, .string (⟨#[]⟩ : ByteArray)]) ?_ 0 _ rfl; (with_reducible repeat (first | refine bn1 ?_ _ | refine bd1 ?_ | refine ba1 ?_ _)); exact BK111.out) Tryd.underlying30 rfl (by kernel_rfl)) rfl ?_
    exact ⟨_, by first | rfl | (simp [errW_none, errW_some] <;> rfl) | (simp [*, errW_none, errW_some] <;> rfl), by (with_reducible repeat (first | apply Kd.S_alloc | apply Kd.S_drewN | apply Kd.S_drew)); exact Kd.S_mono (Kd.S_far (p := ⟨gb111, 5, none⟩) (Kd.S_far (p := ⟨gb111, 4, none⟩) (Kd.S_far (p := ⟨gb111, 3, none⟩) (Kd.S_far (p := ⟨gb111, 2, none⟩) (Kd.S_far (p := ⟨gb111, 1, none⟩) (Kd.S_far (p := ⟨gb111, 0, none⟩) (Kd.S_types HO121.out BK111.out (by decide)) (fun _ hk => hk.2) (.int .i64 t117)) (fun _ hk => hk.2) (.int .u8 t118)) (fun _ hk => hk.2) (.slice Ao18 t119.length co18)) (fun _ hk => hk.2) (.string t122)) (fun _ hk => hk.2) (.int .u8 t123)) (fun _ hk => hk.2) (.string t124)) (fun _ hk => trivial), by repeat (first | (with_reducible first | exact HB.out | apply la1 | apply ln1 | apply ld1 | refine ls1 ?_ GE110.out | refine ls1 ?_ GE111.out) | exact HB.out)⟩
  · replace c5 := Bool.eq_false_iff.mpr c5
    subst c5
    have H1 : ((wire_Num.f k 0 82 (([t112, t113] : List Int))).bind fun bt128 => (some (bt128.1, bt128.2.1, bt128.2.2.1, bt128.2.2.2.1, bt128.2.2.2.2.1, bt128.2.2.2.2.2))) = some (r1, r2, r3, r4, r5, r6) := by rw [if_neg (show ¬ (false = true) by decide)] at H; exact H
    clear H
    have H := H1
    clear H1
    obtain ⟨y125, hy125⟩ : ∃ y_ : List Int, y_ = (([t112, t113] : List Int)) := ⟨_, rfl⟩
    replace H : ((wire_Num.f k 0 82 y125).bind fun bt128 => (some (bt128.1, bt128.2.1, bt128.2.2.1, bt128.2.2.2.1, bt128.2.2.2.2.1, bt128.2.2.2.2.2))) = some (r1, r2, r3, r4, r5, r6) := by first | (rw [hy125]; with_reducible exact H) | (have H2_ := (Option.bind_some _ _).symm.trans H; rw [hy125]; with_reducible exact H2_) | (have H2_ := (Option.bind_some _ _).symm.trans H; with_reducible exact H2_) | with_reducible exact H | (rw [hy125]; exact H) | exact H
    have Ny125 := Aside0.mk hy125
    clear hy125
    replace H := Option.bind_eq_some_iff.mp H
    obtain ⟨⟨t128, t129, t130, t133, t134, t135⟩, A190, H⟩ := H
    replace H : (some (t128, t129, t130, t133, t134, t135)) = some (r1, r2, r3, r4, r5, r6) := H
    have A19 := Aside0.mk A190
    clear A190
    simp only [Option.some.injEq, Prod.mk.injEq] at H
    obtain ⟨rfl, rfl, rfl, rfl, rfl, rfl⟩ := H
    go_enter Tryd.func11, Tryd.ntmps11
    try go_wp2_with (first | ((with_reducible refine gate_dst (N := 2) rfl ?_); refine box_event ?hg (N := 2) ?hd (cs := #[.int .i64 a0_0, .int .i64 a0_1, .int .i64 a0_2, .int .i64 a0_3, .int .i64 a0_4, .int .i64 a0_5, .int .i64 a0_6, .int .i64 a0_7, .int .i64 a0_8, .bool a0_9, .bool a0_10, .bool a0_11, .bool a0_12, .bool a0_13, .bool a0_14, .bool a0_15, .int .i64 a0_16, .int .i64 a0_17, .int .i64 a0_18]) (t := 25) ?hr ?_; (case hd => rfl); (case hg => rfl); (case hr => first | (go_simp; done) | (go_simp; rfl)); intro gb110 hg w20 hbox hb; have n0_ := Aside0.mk (below_step (by repeat (first | (with_reducible first | exact HB.out | apply la1 | apply ln1 | apply ld1) | exact HB.out)) hb); have n1_ := Aside0.mk (hbox); have n2_ := Aside0.mk ((by rw [hg]; exact (below_size (by repeat (first | (with_reducible first | exact HB.out | apply la1 | apply ln1 | apply ld1) | exact HB.out))) : w.heap.size ≤ gb110)); have n3_ := Aside0.mk ((by rw [hg]; exact (below_size (by repeat (first | (with_reducible first | exact HB.out | apply la1 | apply ln1 | apply ld1) | exact HB.out))) : w.heap.size ≤ gb110)); clear HB; have HB := n0_; have BK110 := n1_; have GW110 := n2_; have GE110 := n3_; clear n0_ n1_ n2_ n3_; clear hb hbox hg) | ((with_reducible refine gate_dst (N := 4) rfl ?_); refine box_event ?hg (N := 4) ?hd (cs := #[.int .i64 0, .int .u8 0, .slice none 0 0, .string (⟨#[]⟩ : ByteArray), .int .u8 0, .string (⟨#[]⟩ : ByteArray)]) (t := 30) ?hr ?_; (case hd => rfl); (case hg => rfl); (case hr => first | (go_simp; done) | (go_simp; rfl)); intro gb111 hg w21 hbox hb; have n0_ := Aside0.mk (bb1 (g := gb110) (o := .cells #[.int .i64 a0_0, .int .i64 a0_1, .int .i64 a0_2, .int .i64 a0_3, .int .i64 a0_4, .int .i64 a0_5, .int .i64 a0_6, .int .i64 a0_7, .int .i64 a0_8, .bool a0_9, .bool a0_10, .bool a0_11, .bool a0_12, .bool a0_13, .bool a0_14, .bool a0_15, .int .i64 a0_16, .int .i64 a0_17, .int .i64 a0_18] 25 (0, 0)) (by (with_reducible repeat (first | refine bn1 ?_ _ | refine bd1 ?_ | refine ba1 ?_ _)); exact BK110.out) hb); have n1_ := Aside0.mk (below_step (by repeat (first | (with_reducible first | exact HB.out | apply la1 | apply ln1 | apply ld1 | refine ls1 ?_ GE110.out) | exact HB.out)) hb); have n2_ := Aside0.mk (hbox); have n3_ := Aside0.mk ((by rw [hg]; exact (below_size (by repeat (first | (with_reducible first | exact HB.out | apply la1 | apply ln1 | apply ld1 | refine ls1 ?_ GE110.out) | exact HB.out))) : w.heap.size ≤ gb111)); have n4_ := Aside0.mk ((by rw [hg]; exact (below_size (by repeat (first | (with_reducible first | exact HB.out | apply la1 | apply ln1 | apply ld1 | refine ls1 ?_ GE110.out) | exact HB.out))) : w.heap.size ≤ gb111)); have n5_ := Aside0.mk ((by rw [hg]; exact Nat.ne_of_lt (blk_lt (g := gb110) (o := .cells #[.int .i64 a0_0, .int .i64 a0_1, .int .i64 a0_2, .int .i64 a0_3, .int .i64 a0_4, .int .i64 a0_5, .int .i64 a0_6, .int .i64 a0_7, .int .i64 a0_8, .bool a0_9, .bool a0_10, .bool a0_11, .bool a0_12, .bool a0_13, .bool a0_14, .bool a0_15, .int .i64 a0_16, .int .i64 a0_17, .int .i64 a0_18] 25 (0, 0)) (by (with_reducible repeat (first | refine bn1 ?_ _ | refine bd1 ?_ | refine ba1 ?_ _)); exact BK110.out)) : gb110 ≠ gb111)); have n6_ := Aside0.mk ((by rw [hg]; exact Nat.ne_of_gt (blk_lt (g := gb110) (o := .cells #[.int .i64 a0_0, .int .i64 a0_1, .int .i64 a0_2, .int .i64 a0_3, .int .i64 a0_4, .int .i64 a0_5, .int .i64 a0_6, .int .i64 a0_7, .int .i64 a0_8, .bool a0_9, .bool a0_10, .bool a0_11, .bool a0_12, .bool a0_13, .bool a0_14, .bool a0_15, .int .i64 a0_16, .int .i64 a0_17, .int .i64 a0_18] 25 (0, 0)) (by (with_reducible repeat (first | refine bn1 ?_ _ | refine bd1 ?_ | refine ba1 ?_ _)); exact BK110.out)) : gb111 ≠ gb110)); clear BK110; clear HB; have BK110 := n0_; have HB := n1_; have BK111 := n2_; have GW111 := n3_; have GE111 := n4_; have NB110_111 := n5_; have NB111_110 := n6_; clear n0_ n1_ n2_ n3_ n4_ n5_ n6_; clear hb hbox hg))
    have n0_ := Aside0.mk (bd1 BK110.out)
    have n1_ := Aside0.mk (bd1 BK111.out)
    have n2_ := Aside0.mk (ld1 HB.out)
    clear BK110
    clear BK111
    clear HB
    have BK110 := n0_
    have BK111 := n1_
    have HB := n2_
    clear n0_ n1_ n2_
    refine start_ (n := 8) (S := fun w' => w'.cell? ⟨gb110, 0, none⟩ = some (.int .i64 a0_0) ∧ w'.cell? ⟨gb110, 1, none⟩ = some (.int .i64 a0_1) ∧ w'.cell? ⟨gb110, 2, none⟩ = some (.int .i64 a0_2) ∧ w'.cell? ⟨gb110, 3, none⟩ = some (.int .i64 a0_3) ∧ w'.cell? ⟨gb110, 4, none⟩ = some (.int .i64 a0_4) ∧ w'.cell? ⟨gb110, 5, none⟩ = some (.int .i64 a0_5) ∧ w'.cell? ⟨gb110, 6, none⟩ = some (.int .i64 a0_6) ∧ w'.cell? ⟨gb110, 7, none⟩ = some (.int .i64 a0_7) ∧ w'.cell? ⟨gb110, 8, none⟩ = some (.int .i64 a0_8) ∧ w'.cell? ⟨gb110, 9, none⟩ = some (.bool a0_9) ∧ w'.cell? ⟨gb110, 10, none⟩ = some (.bool a0_10) ∧ w'.cell? ⟨gb110, 11, none⟩ = some (.bool a0_11) ∧ w'.cell? ⟨gb110, 12, none⟩ = some (.bool a0_12) ∧ w'.cell? ⟨gb110, 13, none⟩ = some (.bool a0_13) ∧ w'.cell? ⟨gb110, 14, none⟩ = some (.bool a0_14) ∧ w'.cell? ⟨gb110, 15, none⟩ = some (.bool a0_15) ∧ w'.cell? ⟨gb110, 16, none⟩ = some (.int .i64 a0_16) ∧ w'.cell? ⟨gb110, 17, none⟩ = some (.int .i64 a0_17) ∧ w'.cell? ⟨gb110, 18, none⟩ = some (.int .i64 a0_18)) (ds := []) #[false, false, false, false, false, false, false, false] (by kernel_rfl) rfl rfl ⟨(bc1 BK110.out 0).trans rfl, (bc1 BK110.out 1).trans rfl, (bc1 BK110.out 2).trans rfl, (bc1 BK110.out 3).trans rfl, (bc1 BK110.out 4).trans rfl, (bc1 BK110.out 5).trans rfl, (bc1 BK110.out 6).trans rfl, (bc1 BK110.out 7).trans rfl, (bc1 BK110.out 8).trans rfl, (bc1 BK110.out 9).trans rfl, (bc1 BK110.out 10).trans rfl, (bc1 BK110.out 11).trans rfl, (bc1 BK110.out 12).trans rfl, (bc1 BK110.out 13).trans rfl, (bc1 BK110.out 14).trans rfl, (bc1 BK110.out 15).trans rfl, (bc1 BK110.out 16).trans rfl, (bc1 BK110.out 17).trans rfl, (bc1 BK110.out 18).trans rfl⟩ (fun hHeld => ?_); refine with_tabW report_Place.tab1 report_Place.bits1 (fun HT_ HW_ => ?_)
    generalize w21.drew = w22 at BK110 BK111 HB hHeld ⊢
    refine pure_ (i := 0) (N := some 7) (v := ?_) (a' := ?_) #[true, false, false, false, false, false, false, false] rfl rfl (any_of HT_.out (by kernel_rfl)) (fun _ _ _ h => h) (Or.inl ⟨by rfl, ?_⟩) ?_ ?_
    rotate_left
    · intro w'
      go_simp
      with_reducible rfl
    rotate_left
    · simp only [Act.put, List.setIfInBounds_toArray, List.set_cons_zero, List.set_cons_succ, i64_w, i32_w]
      rfl
    refine pure_ (i := 3) (N := some 10) (v := ?_) (a' := ?_) #[true, false, false, true, false, false, false, false] rfl rfl (any_of HT_.out (by kernel_rfl)) (fun _ _ _ h => h) (Or.inl ⟨by rfl, ?_⟩) ?_ ?_
    rotate_left
    · intro w'
      go_simp
      with_reducible rfl
    rotate_left
    · simp only [Act.put, List.setIfInBounds_toArray, List.set_cons_zero, List.set_cons_succ, i64_w, i32_w]
      rfl
    refine take_ (i := 1) (N := some 8) (v := ?_) (a' := ?_) #[true, true, false, true, false, false, false, false] rfl rfl (take_ofW HT_.out HW_.out (by kernel_rfl)) (fun _ _ _ h => h) (Or.inl ⟨by rfl, ?_⟩) hHeld ?_ ?_
    rotate_left
    · rintro w' ⟨s0, s1, s2, s3, s4, s5, s6, s7, s8, s9, s10, s11, s12, s13, s14, s15, s16, s17, s18⟩
      go_simp
      with_reducible rfl
    rotate_left
    · simp only [Act.put, List.setIfInBounds_toArray, List.set_cons_zero, List.set_cons_succ, i64_w, i32_w]
      rfl
    refine take_ (i := 4) (N := some 11) (v := ?_) (a' := ?_) #[true, true, false, true, true, false, false, false] rfl rfl (take_ofW HT_.out HW_.out (by kernel_rfl)) (fun _ _ _ h => h) (Or.inl ⟨by rfl, ?_⟩) hHeld ?_ ?_
    rotate_left
    · rintro w' ⟨s0, s1, s2, s3, s4, s5, s6, s7, s8, s9, s10, s11, s12, s13, s14, s15, s16, s17, s18⟩
      go_simp
      with_reducible rfl
    rotate_left
    · simp only [Act.put, List.setIfInBounds_toArray, List.set_cons_zero, List.set_cons_succ, i64_w, i32_w]
      rfl
    refine one_ (i := 2) (N := some 9) #[true, true, true, true, true, false, false, false] rfl rfl (one_of HT_.out (by kernel_rfl)) (by decide) (fun K hK => ?_)
    refine goes_ Tryd.func29 (by kernel_rfl) rfl #[.int .i64 a0_2] (by rfl) rfl rfl (by (try simp only [List.map_toArray, List.map_cons, List.map_nil]); first | done | rfl | (simp only [List.length_drop, List.length_take]; rfl)) ?_
    with_reducible refine (report_fact.calls a0_2 t112 _ A3.out).mono ?_
    rintro e w23 ⟨rfl, hb⟩
    refine ⟨_, rfl, ?_⟩
    have n0_ := Aside0.mk (bb1 (g := gb110) (o := .cells #[.int .i64 a0_0, .int .i64 a0_1, .int .i64 a0_2, .int .i64 a0_3, .int .i64 a0_4, .int .i64 a0_5, .int .i64 a0_6, .int .i64 a0_7, .int .i64 a0_8, .bool a0_9, .bool a0_10, .bool a0_11, .bool a0_12, .bool a0_13, .bool a0_14, .bool a0_15, .int .i64 a0_16, .int .i64 a0_17, .int .i64 a0_18] 25 (0, 0)) (by (with_reducible repeat (first | refine bn1 ?_ _ | refine bd1 ?_ | refine ba1 ?_ _)); exact BK110.out) hb)
    have n1_ := Aside0.mk (bb1 (g := gb111) (o := .cells #[.int .i64 0, .int .u8 0, .slice none 0 0, .string (⟨#[]⟩ : ByteArray), .int .u8 0, .string (⟨#[]⟩ : ByteArray)] 30 (0, 0)) (by (with_reducible repeat (first | refine bn1 ?_ _ | refine bd1 ?_ | refine ba1 ?_ _)); exact BK111.out) hb)
    have n2_ := Aside0.mk (below_step (by repeat (first | (with_reducible first | exact HB.out | apply la1 | apply ln1 | apply ld1 | refine ls1 ?_ GE110.out | refine ls1 ?_ GE111.out) | exact HB.out)) hb)
    clear BK110
    clear BK111
    clear HB
    have BK110 := n0_
    have BK111 := n1_
    have HB := n2_
    clear n0_ n1_ n2_
    (try clear hb)
    (try clear hb2)
    (try clear hk)
    (try clear hi)
    refine hK.out _ _ ⟨(bc1 BK110.out 0).trans rfl, (bc1 BK110.out 1).trans rfl, (bc1 BK110.out 2).trans rfl, (bc1 BK110.out 3).trans rfl, (bc1 BK110.out 4).trans rfl, (bc1 BK110.out 5).trans rfl, (bc1 BK110.out 6).trans rfl, (bc1 BK110.out 7).trans rfl, (bc1 BK110.out 8).trans rfl, (bc1 BK110.out 9).trans rfl, (bc1 BK110.out 10).trans rfl, (bc1 BK110.out 11).trans rfl, (bc1 BK110.out 12).trans rfl, (bc1 BK110.out 13).trans rfl, (bc1 BK110.out 14).trans rfl, (bc1 BK110.out 15).trans rfl, (bc1 BK110.out 16).trans rfl, (bc1 BK110.out 17).trans rfl, (bc1 BK110.out 18).trans rfl⟩ (fun hHeld => ?_)
    clear hK K
    refine norm_ (a' := ?_) ?_ ?_
    rotate_left
    · show Act.put _ (some 9) _ = _
      simp only [Act.put, List.setIfInBounds_toArray, List.set_cons_zero, List.set_cons_succ, i64_w, i32_w]
      rfl
    refine one_ (i := 5) (N := some 12) #[true, true, true, true, true, true, false, false] rfl rfl (one_of HT_.out (by kernel_rfl)) (by decide) (fun K hK => ?_)
    refine goes_ Tryd.func29 (by kernel_rfl) rfl #[.int .i64 a0_3] (by rfl) rfl rfl (by (try simp only [List.map_toArray, List.map_cons, List.map_nil]); first | done | rfl | (simp only [List.length_drop, List.length_take]; rfl)) ?_
    with_reducible refine (report_fact.calls a0_3 t113 _ A4.out).mono ?_
    rintro e w24 ⟨rfl, hb⟩
    refine ⟨_, rfl, ?_⟩
    have n0_ := Aside0.mk (bb1 (g := gb110) (o := .cells #[.int .i64 a0_0, .int .i64 a0_1, .int .i64 a0_2, .int .i64 a0_3, .int .i64 a0_4, .int .i64 a0_5, .int .i64 a0_6, .int .i64 a0_7, .int .i64 a0_8, .bool a0_9, .bool a0_10, .bool a0_11, .bool a0_12, .bool a0_13, .bool a0_14, .bool a0_15, .int .i64 a0_16, .int .i64 a0_17, .int .i64 a0_18] 25 (0, 0)) (by (with_reducible repeat (first | refine bn1 ?_ _ | refine bd1 ?_ | refine ba1 ?_ _)); exact BK110.out) hb)
    have n1_ := Aside0.mk (bb1 (g := gb111) (o := .cells #[.int .i64 0, .int .u8 0, .slice none 0 0, .string (⟨#[]⟩ : ByteArray), .int .u8 0, .string (⟨#[]⟩ : ByteArray)] 30 (0, 0)) (by (with_reducible repeat (first | refine bn1 ?_ _ | refine bd1 ?_ | refine ba1 ?_ _)); exact BK111.out) hb)
    have n2_ := Aside0.mk (below_step (by repeat (first | (with_reducible first | exact HB.out | apply la1 | apply ln1 | apply ld1 | refine ls1 ?_ GE110.out | refine ls1 ?_ GE111.out) | exact HB.out)) hb)
    clear BK110
    clear BK111
    clear HB
    have BK110 := n0_
    have BK111 := n1_
    have HB := n2_
    clear n0_ n1_ n2_
    (try clear hb)
    (try clear hb2)
    (try clear hk)
    (try clear hi)
    refine hK.out _ _ ⟨(bc1 BK110.out 0).trans rfl, (bc1 BK110.out 1).trans rfl, (bc1 BK110.out 2).trans rfl, (bc1 BK110.out 3).trans rfl, (bc1 BK110.out 4).trans rfl, (bc1 BK110.out 5).trans rfl, (bc1 BK110.out 6).trans rfl, (bc1 BK110.out 7).trans rfl, (bc1 BK110.out 8).trans rfl, (bc1 BK110.out 9).trans rfl, (bc1 BK110.out 10).trans rfl, (bc1 BK110.out 11).trans rfl, (bc1 BK110.out 12).trans rfl, (bc1 BK110.out 13).trans rfl, (bc1 BK110.out 14).trans rfl, (bc1 BK110.out 15).trans rfl, (bc1 BK110.out 16).trans rfl, (bc1 BK110.out 17).trans rfl, (bc1 BK110.out 18).trans rfl⟩ (fun hHeld => ?_)
    clear hK K
    refine norm_ (a' := ?_) ?_ ?_
    rotate_left
    · show Act.put _ (some 12) _ = _
      simp only [Act.put, List.setIfInBounds_toArray, List.set_cons_zero, List.set_cons_succ, i64_w, i32_w]
      rfl
    refine pure_ (i := 6) (N := some 5) (v := ?_) (a' := ?_) #[true, true, true, true, true, true, true, false] rfl rfl (any_of HT_.out (by kernel_rfl)) (fun _ _ _ h => h) (Or.inl ⟨by rfl, ?_⟩) ?_ ?_
    rotate_left
    · intro w'
      go_simp
      with_reducible rfl
    rotate_left
    · simp only [Act.put, List.setIfInBounds_toArray, List.set_cons_zero, List.set_cons_succ, i64_w, i32_w]
      rfl
    refine pure_ (i := 7) (N := some 6) (v := ?_) (a' := ?_) #[true, true, true, true, true, true, true, true] rfl rfl (any_of HT_.out (by kernel_rfl)) (fun _ _ _ h => h) (Or.inl ⟨by rfl, ?_⟩) ?_ ?_
    rotate_left
    · intro w'
      go_simp
      with_reducible rfl
    rotate_left
    · simp only [Act.put, List.setIfInBounds_toArray, List.set_cons_zero, List.set_cons_succ, i64_w, i32_w]
      rfl
    refine done_ (done_of HT_.out (by kernel_rfl)) ?_
    try go_wp2_with (first | ((with_reducible refine gate_dst (N := 20) rfl ?_); refine Kd.R_lit (Kd.int .i64) _ 3 ?hg (N := 20) ?hd (xs := ([t112, t113] : List Int)) (inner := [.int .i64 t112, .int .i64 t113]) (ok := fun _ => True) (okp := fun _ => True) ?hr ?hp (fun _ hk => hk) trivial (Below.refl _ _) (Nat.le_refl _) (by simp) ?_; (case hd => rfl); (case hg => rfl); (case hr => first | (go_simp; done) | (go_simp; rfl)); (case hp => exact (Reps.one (show Kd.M (Kd.int .i64) _ _ _ t112 [.int .i64 t112] from rfl) (Reps.one (show Kd.M (Kd.int .i64) _ _ _ t113 [.int .i64 t113] from rfl) (Reps.none _ _)))); intro v126 w25 ho26 hb hg_ hnew_; clear hg_ hnew_; (first | rw [← Ny125.out] at ho26 | (simp only [Int.reduceToNat] at ho26; rw [← Ny125.out] at ho26)); have n0_ := Aside0.mk (Kd.R_lower ho26 (below_size (by repeat (first | (with_reducible first | exact HB.out | apply la1 | apply ln1 | apply ld1 | refine ls1 ?_ GE110.out | refine ls1 ?_ GE111.out) | exact HB.out)))); have n1_ := Aside0.mk (bb1 (g := gb110) (o := .cells #[.int .i64 a0_0, .int .i64 a0_1, .int .i64 a0_2, .int .i64 a0_3, .int .i64 a0_4, .int .i64 a0_5, .int .i64 a0_6, .int .i64 a0_7, .int .i64 a0_8, .bool a0_9, .bool a0_10, .bool a0_11, .bool a0_12, .bool a0_13, .bool a0_14, .bool a0_15, .int .i64 a0_16, .int .i64 a0_17, .int .i64 a0_18] 25 (0, 0)) (by (with_reducible repeat (first | refine bn1 ?_ _ | refine bd1 ?_ | refine ba1 ?_ _)); exact BK110.out) hb); have n2_ := Aside0.mk (bb1 (g := gb111) (o := .cells #[.int .i64 0, .int .u8 0, .slice none 0 0, .string (⟨#[]⟩ : ByteArray), .int .u8 0, .string (⟨#[]⟩ : ByteArray)] 30 (0, 0)) (by (with_reducible repeat (first | refine bn1 ?_ _ | refine bd1 ?_ | refine ba1 ?_ _)); exact BK111.out) hb); have n3_ := Aside0.mk (below_step (by repeat (first | (with_reducible first | exact HB.out | apply la1 | apply ln1 | apply ld1 | refine ls1 ?_ GE110.out | refine ls1 ?_ GE111.out) | exact HB.out)) hb); clear BK110; clear BK111; clear HB; have HO127 := n0_; have BK110 := n1_; have BK111 := n2_; have HB := n3_; clear n0_ n1_ n2_ n3_; clear hb ho26; obtain ⟨Ao27, co27, eo27⟩ := Kd.R_slice HO127.out; subst eo27) | ((with_reducible refine gate_callee (f := 30) rfl ?_); refine goesL_ (some 21) rfl rfl Tryd.func30 (by kernel_rfl) rfl #[.int .u8 0, .int .u8 82, .slice Ao27 y125.length co27] rfl (by (try simp only [List.map_toArray, List.map_cons, List.map_nil]); first | done | rfl | (simp only [List.length_drop, List.length_take]; rfl)) ?_; (with_reducible refine (wire_Num.calls k 0 82 _ _ y125 t128 t129 t130 t133 t134 t135 _ ?side1 ?side2 A19.out).mono ?_); (case side1 => repeat (first | exact (Kd.R_reads' HO127.out).2.2 | (with_reducible refine Kd.C_alloc ?_ _) | (with_reducible refine Kd.C_drewN ?_ _) | (with_reducible refine Kd.C_drew ?_))); (case side2 => exact (Kd.R_reads' HO127.out).2.1); rintro e w28 ⟨v131, rfl, ho0, hb⟩; refine ⟨_, rfl, ?_⟩; have n0_ := Aside0.mk (Kd.R_below (by (with_reducible repeat (first | apply Kd.R_alloc | apply Kd.R_drewN | apply Kd.R_drew)); exact HO127.out) hb); have n1_ := Aside0.mk (Kd.S_lower (Kd.S_new' ho0 (Kd.R_lt (by (with_reducible repeat (first | apply Kd.R_alloc | apply Kd.R_drewN | apply Kd.R_drew)); exact HO127.out))) (below_size (by repeat (first | (with_reducible first | exact HB.out | apply la1 | apply ln1 | apply ld1 | refine ls1 ?_ GE110.out | refine ls1 ?_ GE111.out) | exact HB.out)))); have n2_ := Aside0.mk (bb1 (g := gb110) (o := .cells #[.int .i64 a0_0, .int .i64 a0_1, .int .i64 a0_2, .int .i64 a0_3, .int .i64 a0_4, .int .i64 a0_5, .int .i64 a0_6, .int .i64 a0_7, .int .i64 a0_8, .bool a0_9, .bool a0_10, .bool a0_11, .bool a0_12, .bool a0_13, .bool a0_14, .bool a0_15, .int .i64 a0_16, .int .i64 a0_17, .int .i64 a0_18] 25 (0, 0)) (by (with_reducible repeat (first | refine bn1 ?_ _ | refine bd1 ?_ | refine ba1 ?_ _)); exact BK110.out) hb); have n3_ := Aside0.mk (bb1 (g := gb111) (o := .cells #[.int .i64 0, .int .u8 0, .slice none 0 0, .string (⟨#[]⟩ : ByteArray), .int .u8 0, .string (⟨#[]⟩ : ByteArray)] 30 (0, 0)) (by (with_reducible repeat (first | refine bn1 ?_ _ | refine bd1 ?_ | refine ba1 ?_ _)); exact BK111.out) hb); have n4_ := Aside0.mk (below_step (by repeat (first | (with_reducible first | exact HB.out | apply la1 | apply ln1 | apply ld1 | refine ls1 ?_ GE110.out | refine ls1 ?_ GE111.out) | exact HB.out)) hb); clear HO127; clear BK110; clear BK111; clear HB; have HO127 := n0_; have HO132 := n1_; have BK110 := n2_; have BK111 := n3_; have HB := n4_; clear n0_ n1_ n2_ n3_ n4_; (try clear hb); (try clear hb2); (try clear hk); (try clear hi); (try clear ho0); have hnb29 := NB111_110.out; have hnc29 := NB110_111.out; have hcz30_0 : w28.cell? ⟨gb111, 0, none⟩ = some (.int .i64 0) := (bc1 BK111.out 0).trans rfl; have hcz30_1 : w28.cell? ⟨gb111, 1, none⟩ = some (.int .u8 0) := (bc1 BK111.out 1).trans rfl; have hcz30_2 : w28.cell? ⟨gb111, 2, none⟩ = some (.slice none 0 0) := (bc1 BK111.out 2).trans rfl; have hcz30_3 : w28.cell? ⟨gb111, 3, none⟩ = some (.string (⟨#[]⟩ : ByteArray)) := (bc1 BK111.out 3).trans rfl; have hcz30_4 : w28.cell? ⟨gb111, 4, none⟩ = some (.int .u8 0) := (bc1 BK111.out 4).trans rfl; have hcz30_5 : w28.cell? ⟨gb111, 5, none⟩ = some (.string (⟨#[]⟩ : ByteArray)) := (bc1 BK111.out 5).trans rfl; have hfz30_0 := bz1 BK111.out 0; have hfz30_1 := bz1 BK111.out 1; have hfz30_2 := bz1 BK111.out 2; have hfz30_3 := bz1 BK111.out 3; have hfz30_4 := bz1 BK111.out 4; have hfz30_5 := bz1 BK111.out 5; obtain ⟨Ao31, co31, eo31⟩ := Kd.S_slice HO132.out; subst eo31))
    refine bodyPost_ret (results_cell_row rfl _ _ gb111 30 #[.int .i64 t128, .int .u8 t129, .slice Ao31 t130.length co31, .string t133, .int .u8 t134, .string t135] (0, 0) _ rfl (by (with_reducible repeat (first | refine bn1 ?_ _ | refine bd1 ?_ | refine ba1 ?_ _)); refine bp1 (cs := #[.int .i64 t128, .int .u8 t129, .slice Ao31 t130.length co31, .string t133, .int .u8 t134, .string (⟨#[]⟩ : ByteArray)]) ?_ 5 _ rfl; (with_reducible repeat (first | refine bn1 ?_ _ | refine bd1 ?_ | refine ba1 ?_ _)); refine bp1 (cs := #[.int .i64 t128, .int .u8 t129, .slice Ao31 t130.length co31, .string t133, .int .u8 0, .string (⟨#[]⟩ : ByteArray)]) ?_ 4 _ rfl; (with_reducible repeat (first | refine bn1 ?_ _ | refine bd1 ?_ | refine ba1 ?_ _)); refine bp1 (cs := #[.int .i64 t128, .int .u8 t129, .slice Ao31 t130.length co31, .string (⟨#[]⟩ : ByteArray), .int .u8 0, .string (⟨#[]⟩ : ByteArray)]) ?_ 3 _ rfl; (with_reducible repeat (first | refine bn1 ?_ _ | refine bd1 ?_ | refine ba1 ?_ _)); refine bp1 (cs := #[.int .i64 t128, .int .u8 t129, .slice none 0 0, .string (⟨#[]⟩ : ByteArray), .int .u8 0, .string (⟨#[]⟩ : ByteArray)]) ?_ 2 _ rfl; (with_reducible repeat (first | refine bn1 ?_ _ | refine bd1 ?_ | refine ba1 ?_ _)); refine bp1 (cs := #[.int .i64 t128, .int .u8 0, .slice none 0 0, .string (⟨#[]⟩ : ByteArray), .int .u8 0, .string (⟨#[]⟩ : ByteArray)]) ?_ 1 _ rfl; (with_reducible repeat (first | refine bn1 ?_ _ | refine bd1 ?_ | refine ba1 ?_ _)); refine bp1 (cs := #[.int .i64 0, .int .u8 0, .slice none 0 0, .string (⟨#[]⟩ : ByteArray), .int .u8 0, .string (⟨#[]⟩ : ByteArray)]) ?_ 0 _ rfl; (with_reducible repeat (first | refine bn1 ?_ _ | refine bd1 ?_ | refine ba1 ?_ _)); exact BK111.out) Tryd.underlying30 rfl (by kernel_rfl)) rfl ?_
    exact ⟨_, by first | rfl | (simp [errW_none, errW_some] <;> rfl) | (simp [*, errW_none, errW_some] <;> rfl), by (with_reducible repeat (first | apply Kd.S_alloc | apply Kd.S_drewN | apply Kd.S_drew)); exact Kd.S_mono (Kd.S_far (p := ⟨gb111, 5, none⟩) (Kd.S_far (p := ⟨gb111, 4, none⟩) (Kd.S_far (p := ⟨gb111, 3, none⟩) (Kd.S_far (p := ⟨gb111, 2, none⟩) (Kd.S_far (p := ⟨gb111, 1, none⟩) (Kd.S_far (p := ⟨gb111, 0, none⟩) (Kd.S_types HO132.out BK111.out (by decide)) (fun _ hk => hk.2) (.int .i64 t128)) (fun _ hk => hk.2) (.int .u8 t129)) (fun _ hk => hk.2) (.slice Ao31 t130.length co31)) (fun _ hk => hk.2) (.string t133)) (fun _ hk => hk.2) (.int .u8 t134)) (fun _ hk => hk.2) (.string t135)) (fun _ hk => trivial), by repeat (first | (with_reducible first | exact HB.out | apply la1 | apply ln1 | apply ld1 | refine ls1 ?_ GE110.out | refine ls1 ?_ GE111.out) | exact HB.out)⟩
def report_Version.f  : Option (Int × Int × (List (List Int)) × ByteArray × Int × ByteArray) := some (3, 62, ([] : List (List Int)), (⟨#[]⟩ : ByteArray), 124, (⟨#[99, 108, 97, 118, 105, 101, 114, 40, 49, 41]⟩ : ByteArray))
set_option maxHeartbeats 8000000 in
set_option maxRecDepth 100000 in
theorem report_Version.calls  (r1 : Int) (r2 : Int) (r3 : List (List Int)) (r4 : ByteArray) (r5 : Int) (r6 : ByteArray) (w : World) (h : report_Version.f  = some (r1, r2, r3, r4, r5, r6)) :
    Calls Tryd.prog 24 #[] w fun e w' => ∃ v2_ : Value, e = .returned (.agg #[.int .i64 r1, .int .u8 r2, v2_, .string r4, .int .u8 r5, .string r6]) ∧ Kd.S (Kd.slice 3 (Kd.int .i64)) 52 w' w.heap.size (fun _ => True) v2_ r3 ∧ Below w.heap.size w w' := by
  have hu30 := Tryd.underlying30
  have HB := Aside0.mk (Below.refl w.heap.size w)
  have H : (some (3, 62, ([] : List (List Int)), (⟨#[]⟩ : ByteArray), 124, (⟨#[99, 108, 97, 118, 105, 101, 114, 40, 49, 41]⟩ : ByteArray))) = some (r1, r2, r3, r4, r5, r6) := h
  clear h
  simp only [Option.some.injEq, Prod.mk.injEq] at H
  obtain ⟨rfl, rfl, rfl, rfl, rfl, rfl⟩ := H
  go_enter Tryd.func24, Tryd.ntmps24
  go_wp2_with (first | ((with_reducible refine gate_dst (N := 0) rfl ?_); refine box_event ?hg (N := 0) ?hd (cs := #[.int .i64 0, .int .u8 0, .slice none 0 0, .string (⟨#[]⟩ : ByteArray), .int .u8 0, .string (⟨#[]⟩ : ByteArray)]) (t := 30) ?hr ?_; (case hd => rfl); (case hg => rfl); (case hr => first | (go_simp; done) | (go_simp; rfl)); intro gb176 hg w1 hbox hb; have n0_ := Aside0.mk (below_step (by repeat (first | (with_reducible first | exact HB.out | apply la1 | apply ln1 | apply ld1) | exact HB.out)) hb); have n1_ := Aside0.mk (hbox); have n2_ := Aside0.mk ((by rw [hg]; exact (below_size (by repeat (first | (with_reducible first | exact HB.out | apply la1 | apply ln1 | apply ld1) | exact HB.out))) : w.heap.size ≤ gb176)); have n3_ := Aside0.mk ((by rw [hg]; exact (below_size (by repeat (first | (with_reducible first | exact HB.out | apply la1 | apply ln1 | apply ld1) | exact HB.out))) : w.heap.size ≤ gb176)); clear HB; have HB := n0_; have BK176 := n1_; have GW176 := n2_; have GE176 := n3_; clear n0_ n1_ n2_ n3_; clear hb hbox hg; have hcz2_0 : w1.cell? ⟨gb176, 0, none⟩ = some (.int .i64 0) := (bc1 BK176.out 0).trans rfl; have hcz2_1 : w1.cell? ⟨gb176, 1, none⟩ = some (.int .u8 0) := (bc1 BK176.out 1).trans rfl; have hcz2_2 : w1.cell? ⟨gb176, 2, none⟩ = some (.slice none 0 0) := (bc1 BK176.out 2).trans rfl; have hcz2_3 : w1.cell? ⟨gb176, 3, none⟩ = some (.string (⟨#[]⟩ : ByteArray)) := (bc1 BK176.out 3).trans rfl; have hcz2_4 : w1.cell? ⟨gb176, 4, none⟩ = some (.int .u8 0) := (bc1 BK176.out 4).trans rfl; have hcz2_5 : w1.cell? ⟨gb176, 5, none⟩ = some (.string (⟨#[]⟩ : ByteArray)) := (bc1 BK176.out 5).trans rfl; have hfz2_0 := bz1 BK176.out 0; have hfz2_1 := bz1 BK176.out 1; have hfz2_2 := bz1 BK176.out 2; have hfz2_3 := bz1 BK176.out 3; have hfz2_4 := bz1 BK176.out 4; have hfz2_5 := bz1 BK176.out 5))
  refine bodyPost_ret (results_cell_row rfl _ _ gb176 30 #[.int .i64 3, .int .u8 62, .slice none 0 0, .string (⟨#[]⟩ : ByteArray), .int .u8 124, .string (⟨#[99, 108, 97, 118, 105, 101, 114, 40, 49, 41]⟩ : ByteArray)] (0, 0) _ rfl (by (with_reducible repeat (first | refine bn1 ?_ _ | refine bd1 ?_ | refine ba1 ?_ _)); refine bp1 (cs := #[.int .i64 3, .int .u8 62, .slice none 0 0, .string (⟨#[]⟩ : ByteArray), .int .u8 124, .string (⟨#[]⟩ : ByteArray)]) ?_ 5 _ rfl; (with_reducible repeat (first | refine bn1 ?_ _ | refine bd1 ?_ | refine ba1 ?_ _)); refine bp1 (cs := #[.int .i64 3, .int .u8 62, .slice none 0 0, .string (⟨#[]⟩ : ByteArray), .int .u8 0, .string (⟨#[]⟩ : ByteArray)]) ?_ 4 _ rfl; (with_reducible repeat (first | refine bn1 ?_ _ | refine bd1 ?_ | refine ba1 ?_ _)); refine bp1 (cs := #[.int .i64 3, .int .u8 62, .slice none 0 0, .string (⟨#[]⟩ : ByteArray), .int .u8 0, .string (⟨#[]⟩ : ByteArray)]) ?_ 3 _ rfl; (with_reducible repeat (first | refine bn1 ?_ _ | refine bd1 ?_ | refine ba1 ?_ _)); refine bp1 (cs := #[.int .i64 3, .int .u8 62, .slice none 0 0, .string (⟨#[]⟩ : ByteArray), .int .u8 0, .string (⟨#[]⟩ : ByteArray)]) ?_ 2 _ rfl; (with_reducible repeat (first | refine bn1 ?_ _ | refine bd1 ?_ | refine ba1 ?_ _)); refine bp1 (cs := #[.int .i64 3, .int .u8 0, .slice none 0 0, .string (⟨#[]⟩ : ByteArray), .int .u8 0, .string (⟨#[]⟩ : ByteArray)]) ?_ 1 _ rfl; (with_reducible repeat (first | refine bn1 ?_ _ | refine bd1 ?_ | refine ba1 ?_ _)); refine bp1 (cs := #[.int .i64 0, .int .u8 0, .slice none 0 0, .string (⟨#[]⟩ : ByteArray), .int .u8 0, .string (⟨#[]⟩ : ByteArray)]) ?_ 0 _ rfl; (with_reducible repeat (first | refine bn1 ?_ _ | refine bd1 ?_ | refine ba1 ?_ _)); exact BK176.out) Tryd.underlying30 rfl (by kernel_rfl)) rfl ?_
  exact ⟨_, by first | rfl | (simp [errW_none, errW_some] <;> rfl) | (simp [*, errW_none, errW_some] <;> rfl), by first | exact Kd.S_nil _ _ _ _ _ | exact Kd.N_nil _ _ _ _ _ | exact Kd.V_nil _ _ _ _ _ | exact Kd.Q_nil _ _ _ _ _ | exact Kd.R_nil _ _ _ _ _, by repeat (first | (with_reducible first | exact HB.out | apply la1 | apply ln1 | apply ld1 | refine ls1 ?_ GE176.out) | exact HB.out)⟩
end Go.Proofs.YtopcleljecdkkaaDoor.G
end
section
namespace Go.Proofs.YtopcleljecdkkaaDoor.G
open Go.RowKit Go.Proofs.YtopcleljecdkkaaDoorW.PrintWords Go.Proofs.YtopcleljecdkkaaDoorW.PrintLast Go.Proofs.YtopcleljecdkkaaDoorW.PrintMore
attribute [local go_sem] max2_int min2_int max_two min_two max_three min_three max_four min_four
set_option linter.unusedVariables false
set_option linter.unusedSimpArgs false
def report_Setting_1.f (a0 : Int) : Option (ByteArray) := (report_fact.f a0).bind fun t136 => ((num_Text.f t136).bind fun t137 => (some t137))
set_option maxHeartbeats 8000000 in
set_option maxRecDepth 100000 in
theorem report_Setting_1.calls (a0 : Int) (r : ByteArray) (w : World) (hT : Tab w) (h : report_Setting_1.f a0 = some r) :
    Calls Tryd.prog 33 #[.int .i64 a0] w fun e w' => e = .returned (.string r) ∧ Below w.heap.size w w' := by
  have HT := Aside0.mk hT
  clear hT
  have HB := Aside0.mk (Below.refl w.heap.size w)
  have H : ((report_fact.f a0).bind fun t136 => ((num_Text.f t136).bind fun t137 => (some t137))) = some r := h
  clear h
  replace H := Option.bind_eq_some_iff.mp H
  obtain ⟨t136, A20, H⟩ := H
  replace H : ((num_Text.f t136).bind fun t137 => (some t137)) = some r := H
  have A2 := Aside0.mk A20
  clear A20
  replace H := Option.bind_eq_some_iff.mp H
  obtain ⟨t137, A30, H⟩ := H
  replace H : (some t137) = some r := H
  have A3 := Aside0.mk A30
  clear A30
  obtain rfl := Option.some.inj H
  go_enter Tryd.func33, Tryd.ntmps33
  go_wp2_with (first | ((with_reducible refine gate_callee (f := 29) rfl ?_); refine goesL_ (some 4) rfl rfl Tryd.func29 (by kernel_rfl) rfl #[.int .i64 a0] rfl (by (try simp only [List.map_toArray, List.map_cons, List.map_nil]); first | done | rfl | (simp only [List.length_drop, List.length_take]; rfl)) ?_; (with_reducible refine (report_fact.calls a0 t136 _ A2.out).mono ?_); rintro e w4 ⟨rfl, hb⟩; refine ⟨_, rfl, ?_⟩; have n0_ := Aside0.mk (below_step (by repeat (first | (with_reducible first | exact HB.out | apply la1 | apply ln1 | apply ld1) | exact HB.out)) hb); clear HB; have HB := n0_; clear n0_; (try clear hb); (try clear hb2); (try clear hk); (try clear hi)) | ((with_reducible refine gate_callee (f := 34) rfl ?_); refine goesL_ (some 5) rfl rfl Tryd.func34 (by kernel_rfl) rfl #[.int .i64 t136] rfl (by (try simp only [List.map_toArray, List.map_cons, List.map_nil]); first | done | rfl | (simp only [List.length_drop, List.length_take]; rfl)) ?_; (with_reducible refine (num_Text.calls t136 t137 _ ?side1 A3.out).mono ?_); (case side1 => exact Tab.below HT.out (by repeat (first | (with_reducible first | exact HB.out | apply la1 | apply ln1 | apply ld1) | exact HB.out))); rintro e w5 ⟨rfl, hb⟩; refine ⟨_, rfl, ?_⟩; have n0_ := Aside0.mk (below_step (by repeat (first | (with_reducible first | exact HB.out | apply la1 | apply ln1 | apply ld1) | exact HB.out)) hb); clear HB; have HB := n0_; clear n0_; (try clear hb); (try clear hb2); (try clear hk); (try clear hi)))
  go_ret
  exact ⟨by first | rfl | (simp [errW_none, errW_some] <;> rfl) | (simp [*, errW_none, errW_some] <;> rfl), by repeat (first | (with_reducible first | exact HB.out | apply la1 | apply ln1 | apply ld1) | exact HB.out)⟩
end Go.Proofs.YtopcleljecdkkaaDoor.G
end
section
namespace Go.Proofs.YtopcleljecdkkaaDoor.G
open Go.RowKit Go.Proofs.YtopcleljecdkkaaDoorW.PrintWords Go.Proofs.YtopcleljecdkkaaDoorW.PrintLast Go.Proofs.YtopcleljecdkkaaDoorW.PrintMore
attribute [local go_sem] max2_int min2_int max_two min_two max_three min_three max_four min_four
set_option linter.unusedVariables false
set_option linter.unusedSimpArgs false
def report_Setting.f (k : Nat) (a0_0 : Int) (a0_1 : Int) (a0_2 : Int) (a0_3 : Int) (a0_4 : Int) (a0_5 : Int) (a0_6 : Int) (a0_7 : Int) (a0_8 : Int) (a0_9 : Bool) (a0_10 : Bool) (a0_11 : Bool) (a0_12 : Bool) (a0_13 : Bool) (a0_14 : Bool) (a0_15 : Bool) (a0_16 : Int) (a0_17 : Int) (a0_18 : Int) (a1 : ByteArray) : Option (Int × Int × (List (List Int)) × ByteArray × Int × ByteArray) :=
  if a1 = ⟨#[109]⟩ then (style_May.f a0_9 a0_10 a0_11 a0_12 a0_13 a0_14 a0_15 a0_16 a0_17 a0_18).bind fun b => if b = true then (style_Params.f a0_9 a0_10 a0_11 a0_12 a0_13 a0_14 a0_15 a0_16 a0_17 a0_18).bind fun l => (style_Text.f k l).bind fun s => if s.size ≤ 1000000 then some (3, 0, [[1]], ⟨#[36]⟩, 114, s ++ ⟨#[109]⟩) else none else some (3, 0, [[0]], ⟨#[36]⟩, 114, ⟨#[]⟩)
  else if a1 = ⟨#[114]⟩ then (report_Setting_1.f a0_4).bind fun s => (report_Setting_1.f a0_5).bind fun t => if s.size ≤ 1000 ∧ t.size ≤ 1000 then some (3, 0, [[1]], ⟨#[36]⟩, 114, s ++ ⟨#[59]⟩ ++ t ++ ⟨#[114]⟩) else none
  else if a1 = ⟨#[115]⟩ then (report_Setting_1.f a0_6).bind fun s => (report_Setting_1.f a0_7).bind fun t => if s.size ≤ 1000 ∧ t.size ≤ 1000 then some (3, 0, [[1]], ⟨#[36]⟩, 114, s ++ ⟨#[59]⟩ ++ t ++ ⟨#[115]⟩) else none
  else if a1 = ⟨#[32, 113]⟩ then (report_Setting_1.f a0_8).bind fun s => if s.size ≤ 1000 then some (3, 0, [[1]], ⟨#[36]⟩, 114, s ++ ⟨#[32, 113]⟩) else none
  else if a1 = ⟨#[34, 112]⟩ then some (3, 0, [[1]], ⟨#[36]⟩, 114, ⟨#[54, 50, 59, 49]⟩ ++ ⟨#[34, 112]⟩)
  else some (3, 0, [[0]], ⟨#[36]⟩, 114, ⟨#[]⟩)
theorem report_Setting.mono : ∀ a0 a1 a2 a3 a4 a5 a6 a7 a8 a9 a10 a11 a12 a13 a14 a15 a16 a17 a18 a19 k, LeO (report_Setting.f k a0 a1 a2 a3 a4 a5 a6 a7 a8 a9 a10 a11 a12 a13 a14 a15 a16 a17 a18 a19) (report_Setting.f (k + 1) a0 a1 a2 a3 a4 a5 a6 a7 a8 a9 a10 a11 a12 a13 a14 a15 a16 a17 a18 a19) := by
  intro a0 a1 a2 a3 a4 a5 a6 a7 a8 a9 a10 a11 a12 a13 a14 a15 a16 a17 a18 a19 k
  unfold report_Setting.f
  repeat' first
      | exact LeO.refl _
      | exact style_Text.mono _ _
      | refine LeO.ite ?_ ?_
      | refine LeO.bind ?_ (fun _ => ?_)
theorem set_ans {n kd pv fi : Int} {rows : List (List Int)} {inter data d : ByteArray} {w : World} {e : Ending} {w' : World} (hh : SetAns n d w e w') (h : some ((3 : Int), (0 : Int), [[n]], (⟨#[36]⟩ : ByteArray), (114 : Int), d) = some (kd, pv, rows, inter, fi, data)) :
    ∃ v : Value, e = .returned (.agg #[.int .i64 kd, .int .u8 pv, v, .string inter, .int .u8 fi, .string data]) ∧ Kd.S (Kd.slice 3 (Kd.int .i64)) 52 w' w.heap.size (fun _ => True) v rows ∧ Below w.heap.size w w' := by
  simp only [Option.some.injEq, Prod.mk.injEq] at h
  obtain ⟨rfl, rfl, rfl, rfl, rfl, rfl⟩ := h
  exact hh
set_option maxHeartbeats 1000000 in
theorem report_Setting.calls (k : Nat) (a0_0 : Int) (a0_1 : Int) (a0_2 : Int) (a0_3 : Int) (a0_4 : Int) (a0_5 : Int) (a0_6 : Int) (a0_7 : Int) (a0_8 : Int) (a0_9 : Bool) (a0_10 : Bool) (a0_11 : Bool) (a0_12 : Bool) (a0_13 : Bool) (a0_14 : Bool) (a0_15 : Bool) (a0_16 : Int) (a0_17 : Int) (a0_18 : Int) (a1 : ByteArray) (r1 : Int) (r2 : Int) (r3 : List (List Int)) (r4 : ByteArray) (r5 : Int) (r6 : ByteArray) (w : World) (hT : Tab w) (h : report_Setting.f k a0_0 a0_1 a0_2 a0_3 a0_4 a0_5 a0_6 a0_7 a0_8 a0_9 a0_10 a0_11 a0_12 a0_13 a0_14 a0_15 a0_16 a0_17 a0_18 a1 = some (r1, r2, r3, r4, r5, r6)) :
    Calls Tryd.prog 13 #[.agg #[.int .i64 a0_0, .int .i64 a0_1, .int .i64 a0_2, .int .i64 a0_3, .int .i64 a0_4, .int .i64 a0_5, .int .i64 a0_6, .int .i64 a0_7, .int .i64 a0_8, .bool a0_9, .bool a0_10, .bool a0_11, .bool a0_12, .bool a0_13, .bool a0_14, .bool a0_15, .int .i64 a0_16, .int .i64 a0_17, .int .i64 a0_18], .string a1] w fun e w' => ∃ v2_ : Value, e = .returned (.agg #[.int .i64 r1, .int .u8 r2, v2_, .string r4, .int .u8 r5, .string r6]) ∧ Kd.S (Kd.slice 3 (Kd.int .i64)) 52 w' w.heap.size (fun _ => True) v2_ r3 ∧ Below w.heap.size w w' := by
  unfold report_Setting.f at h
  by_cases c1 : a1 = ⟨#[109]⟩
  · rw [if_pos c1] at h
    subst c1
    obtain ⟨b, hb, h⟩ := Option.bind_eq_some_iff.1 h
    have HM : Gives 42 #[styV a0_9 a0_10 a0_11 a0_12 a0_13 a0_14 a0_15 a0_16 a0_17 a0_18] (.bool b) w := fun W _ => (style_May.calls a0_9 a0_10 a0_11 a0_12 a0_13 a0_14 a0_15 a0_16 a0_17 a0_18 b W hb).mono fun e w' h => ⟨h.1, by first | exact h.2 | exact h.2.below⟩
    cases b with
    | false =>
      rw [if_neg (by decide)] at h
      exact (setting_m_no a0_0 a0_1 a0_2 a0_3 a0_4 a0_5 a0_6 a0_7 a0_8 a0_9 a0_10 a0_11 a0_12 a0_13 a0_14 a0_15 a0_16 a0_17 a0_18 w HM).mono fun e w' hh => set_ans hh h
    | true =>
      rw [if_pos rfl] at h
      obtain ⟨l, hl, h⟩ := Option.bind_eq_some_iff.1 h
      obtain ⟨s, hs, h⟩ := Option.bind_eq_some_iff.1 h
      by_cases hz : s.size ≤ 1000000
      · rw [if_pos hz] at h
        exact (setting_m a0_0 a0_1 a0_2 a0_3 a0_4 a0_5 a0_6 a0_7 a0_8 a0_9 a0_10 a0_11 a0_12 a0_13 a0_14 a0_15 a0_16 a0_17 a0_18 w HM l s (fun W _ => style_Params.calls a0_9 a0_10 a0_11 a0_12 a0_13 a0_14 a0_15 a0_16 a0_17 a0_18 l W hl) (fun W A c hb hC hc => style_Text.calls k A c l s W hC hc (Tab.below hT hb) hs) hz).mono fun e w' hh => set_ans hh h
      · rw [if_neg hz] at h; cases h
  rw [if_neg c1] at h
  have G1 : ∀ z s, report_Setting_1.f z = some s → Gives 33 #[.int .i64 z] (.string s) w := fun z s hs W hb => (report_Setting_1.calls z s W (Tab.below hT hb) hs).mono fun e w' h => ⟨h.1, by first | exact h.2 | exact h.2.below⟩
  by_cases c2 : a1 = ⟨#[114]⟩
  · rw [if_pos c2] at h
    subst c2
    obtain ⟨s, hs, h⟩ := Option.bind_eq_some_iff.1 h
    obtain ⟨t, ht, h⟩ := Option.bind_eq_some_iff.1 h
    by_cases hz : s.size ≤ 1000 ∧ t.size ≤ 1000
    · rw [if_pos hz] at h
      exact (setting_r a0_0 a0_1 a0_2 a0_3 a0_4 a0_5 a0_6 a0_7 a0_8 a0_9 a0_10 a0_11 a0_12 a0_13 a0_14 a0_15 a0_16 a0_17 a0_18 w s t (G1 _ _ hs) (G1 _ _ ht) hz.1 hz.2).mono fun e w' hh => set_ans hh h
    · rw [if_neg hz] at h; cases h
  rw [if_neg c2] at h
  by_cases c3 : a1 = ⟨#[115]⟩
  · rw [if_pos c3] at h
    subst c3
    obtain ⟨s, hs, h⟩ := Option.bind_eq_some_iff.1 h
    obtain ⟨t, ht, h⟩ := Option.bind_eq_some_iff.1 h
    by_cases hz : s.size ≤ 1000 ∧ t.size ≤ 1000
    · rw [if_pos hz] at h
      exact (setting_s a0_0 a0_1 a0_2 a0_3 a0_4 a0_5 a0_6 a0_7 a0_8 a0_9 a0_10 a0_11 a0_12 a0_13 a0_14 a0_15 a0_16 a0_17 a0_18 w s t (G1 _ _ hs) (G1 _ _ ht) hz.1 hz.2).mono fun e w' hh => set_ans hh h
    · rw [if_neg hz] at h; cases h
  rw [if_neg c3] at h
  by_cases c4 : a1 = ⟨#[32, 113]⟩
  · rw [if_pos c4] at h
    subst c4
    obtain ⟨s, hs, h⟩ := Option.bind_eq_some_iff.1 h
    by_cases hz : s.size ≤ 1000
    · rw [if_pos hz] at h
      exact (setting_q a0_0 a0_1 a0_2 a0_3 a0_4 a0_5 a0_6 a0_7 a0_8 a0_9 a0_10 a0_11 a0_12 a0_13 a0_14 a0_15 a0_16 a0_17 a0_18 w s (G1 _ _ hs) hz).mono fun e w' hh => set_ans hh h
    · rw [if_neg hz] at h; cases h
  rw [if_neg c4] at h
  by_cases c5 : a1 = ⟨#[34, 112]⟩
  · rw [if_pos c5] at h
    subst c5
    exact (setting_p a0_0 a0_1 a0_2 a0_3 a0_4 a0_5 a0_6 a0_7 a0_8 a0_9 a0_10 a0_11 a0_12 a0_13 a0_14 a0_15 a0_16 a0_17 a0_18 w).mono fun e w' hh => set_ans hh h
  rw [if_neg c5] at h
  exact (setting_none a0_0 a0_1 a0_2 a0_3 a0_4 a0_5 a0_6 a0_7 a0_8 a0_9 a0_10 a0_11 a0_12 a0_13 a0_14 a0_15 a0_16 a0_17 a0_18 a1 w ⟨c1, c2, c3, c4, c5⟩).mono fun e w' hh => set_ans hh h
end Go.Proofs.YtopcleljecdkkaaDoor.G
end
section
namespace Go.Proofs.YtopcleljecdkkaaDoor.G
set_option linter.unusedVariables false
set_option linter.unusedSimpArgs false
open Go.RowKit Kit Go.Proofs.YtopcleljecdkkaaDoorW.PrintWords Go.Proofs.YtopcleljecdkkaaDoorW.PrintMore
def clamp (n : Int) : Int := mn (mx n 0) 65535
theorem clamp_in (n : Int) : 0 ≤ clamp n ∧ clamp n ≤ 65535 := by unfold clamp mn mx; split <;> split <;> omega
def tx (n : Int) : ByteArray := ⟨(textL n).toArray⟩
theorem tx_size {n : Int} (h0 : 0 ≤ n) (h1 : n ≤ 65535) : (tx n).size ≤ 20 := by
  have := (textL_len h0 (by omega : n ≤ 9223372036854775807)).1
  rw [tx, size_list]; omega
def placeR (r c : Int) (p : Bool) : List (List Int) := if p then [[clamp r], [clamp c], [1]] else [[clamp r], [clamp c]]
def placeP (p : Bool) : Int := if p then 63 else 0
theorem num2 (pr fi a b : Int) : wire_Num.f 10 pr fi [a, b] = some (1, pr, [[a], [b]], ⟨#[]⟩, fi, ⟨#[]⟩) := by simp [wire_Num.f, wire_Num.l0, rd, wrap64]
theorem num3 (pr fi a b c : Int) : wire_Num.f 10 pr fi [a, b, c] = some (1, pr, [[a], [b], [c]], ⟨#[]⟩, fi, ⟨#[]⟩) := by simp [wire_Num.f, wire_Num.l0, rd, wrap64]
theorem rnum2 (pr fi a b : Int) : clavierref19_nums.f 10 pr fi [a, b] = some (1, pr, [[a], [b]], ⟨#[]⟩, fi, ⟨#[]⟩) := by simp [clavierref19_nums.f, clavierref19_nums.l0, rd, wrap64]
theorem rnum3 (pr fi a b c : Int) : clavierref19_nums.f 10 pr fi [a, b, c] = some (1, pr, [[a], [b], [c]], ⟨#[]⟩, fi, ⟨#[]⟩) := by simp [clavierref19_nums.f, clavierref19_nums.l0, rd, wrap64]
theorem place_is (x0 x1 x2 x3 x4 x5 x6 x7 x8 : Int) (b0 b1 b2 b3 b4 b5 b6 : Bool) (u f b : Int) (p : Bool) :
    report_Place.f 10 x0 x1 x2 x3 x4 x5 x6 x7 x8 b0 b1 b2 b3 b4 b5 b6 u f b p = some (1, placeP p, placeR x2 x3 p, ⟨#[]⟩, 82, ⟨#[]⟩) := by
  unfold report_Place.f report_fact.f
  cases p
  · rw [Option.bind_some, Option.bind_some, if_neg (by decide), num2]; rfl
  · rw [Option.bind_some, Option.bind_some, if_pos rfl, num3]; rfl
theorem refPlace_is (x0 x1 x2 x3 x4 x5 x6 x7 x8 : Int) (b0 b1 b2 b3 b4 b5 b6 : Bool) (u f b : Int) (p : Bool) :
    clavierref19_Place.f 10 x0 x1 x2 x3 x4 x5 x6 x7 x8 b0 b1 b2 b3 b4 b5 b6 u f b p = some (1, placeP p, placeR x2 x3 p, ⟨#[]⟩, 82, ⟨#[]⟩) := by
  unfold clavierref19_Place.f clavierref19_fact.f
  cases p
  · rw [if_neg (by decide), Option.bind_some, Option.bind_some, rnum2]; rfl
  · rw [if_pos rfl, Option.bind_some, Option.bind_some, rnum3]; rfl
def settV (x4 x5 x6 x7 x8 : Int) (s : St) (ask : ByteArray) : ByteArray :=
  if ask = ⟨#[109]⟩ then (if mayL s.2.2.2.2.2.2.2.1 s.2.2.2.2.2.2.2.2.1 s.2.2.2.2.2.2.2.2.2 = true then ⟨(textP (paramsV s)).toArray⟩ ++ ⟨#[109]⟩ else ⟨#[]⟩)
  else if ask = ⟨#[114]⟩ then tx (clamp x4) ++ ⟨#[59]⟩ ++ tx (clamp x5) ++ ⟨#[114]⟩
  else if ask = ⟨#[115]⟩ then tx (clamp x6) ++ ⟨#[59]⟩ ++ tx (clamp x7) ++ ⟨#[115]⟩
  else if ask = ⟨#[32, 113]⟩ then tx (clamp x8) ++ ⟨#[32, 113]⟩
  else if ask = ⟨#[34, 112]⟩ then ⟨#[54, 50, 59, 49]⟩ ++ ⟨#[34, 112]⟩
  else ⟨#[]⟩
def settN (d : ByteArray) : Int := if d = ⟨#[]⟩ then 0 else 1
theorem ne_nil {a c : ByteArray} (h : c.size ≠ 0) : ¬ (a ++ c = ⟨#[]⟩) := fun e => by
  have h2 := congrArg ByteArray.size e
  rw [ByteArray.size_append] at h2
  have h3 : (⟨#[]⟩ : ByteArray).size = 0 := rfl
  omega
theorem settN_app {a c : ByteArray} (h : c.size ≠ 0) : settN (a ++ c) = 1 := by unfold settN; rw [if_neg (ne_nil h)]
theorem one_is' (n : Int) : report_Setting_1.f n = some (tx (clamp n)) := by
  unfold report_Setting_1.f report_fact.f
  have h := clamp_in n
  rw [Option.bind_some]
  show (num_Text.f (clamp n)).bind _ = _
  rw [numText_is (by omega) (by omega), Option.bind_some]; rfl
theorem textP_len (s : St) : (textP (paramsV s)).length ≤ 220000 := by
  have h := preT_le (paramsV s) (paramsV_in s) (paramsV_small s) (paramsV s).length
  unfold preT at h
  rw [List.take_length] at h
  exact h
theorem two_size (a b : Int) : (tx (clamp a) ++ ⟨#[59]⟩ ++ tx (clamp b)).size ≤ 41 := by
  have h1 := tx_size (clamp_in a).1 (clamp_in a).2
  have h2 := tx_size (clamp_in b).1 (clamp_in b).2
  have e : (⟨#[59]⟩ : ByteArray).size = 1 := rfl
  rw [ByteArray.size_append, ByteArray.size_append]; omega
theorem setting_is (x0 x1 x2 x3 x4 x5 x6 x7 x8 : Int) (b0 b1 b2 b3 b4 b5 b6 : Bool) (u f b : Int) (ask : ByteArray) (hf : -9223372036854775808 ≤ f) (hb : -9223372036854775808 ≤ b) :
    report_Setting.f 12000 x0 x1 x2 x3 x4 x5 x6 x7 x8 b0 b1 b2 b3 b4 b5 b6 u f b ask = some (3, 0, [[settN (settV x4 x5 x6 x7 x8 (b0, b1, b2, b3, b4, b5, b6, u, f, b) ask)]], ⟨#[36]⟩, 114, settV x4 x5 x6 x7 x8 (b0, b1, b2, b3, b4, b5, b6, u, f, b) ask) := by
  unfold report_Setting.f settV
  by_cases c1 : ask = ⟨#[109]⟩
  · rw [if_pos c1, if_pos c1, may_is, Option.bind_some]
    cases h : mayL u f b with
    | false => rw [if_neg (by decide), if_neg (by simp [h])]; rfl
    | true =>
      rw [if_pos rfl, Params_is b0 b1 b2 b3 b4 b5 b6 u f b hf hb, Option.bind_some, Text_is _ (paramsV_in _) (paramsV_small _) 12000 (by omega), Option.bind_some]
      have hz : (⟨(textP (paramsV (b0, b1, b2, b3, b4, b5, b6, u, f, b))).toArray⟩ : ByteArray).size ≤ 1000000 := by rw [size_list]; have := textP_len (b0, b1, b2, b3, b4, b5, b6, u, f, b); omega
      rw [if_pos hz, if_pos (by simp [h]), settN_app (by decide)]
  rw [if_neg c1, if_neg c1]
  by_cases c2 : ask = ⟨#[114]⟩
  · have h1 := tx_size (clamp_in x4).1 (clamp_in x4).2
    have h2 := tx_size (clamp_in x5).1 (clamp_in x5).2
    rw [if_pos c2, if_pos c2, one_is', Option.bind_some, one_is', Option.bind_some, if_pos ⟨by omega, by omega⟩, settN_app (by decide)]
  rw [if_neg c2, if_neg c2]
  by_cases c3 : ask = ⟨#[115]⟩
  · have h1 := tx_size (clamp_in x6).1 (clamp_in x6).2
    have h2 := tx_size (clamp_in x7).1 (clamp_in x7).2
    rw [if_pos c3, if_pos c3, one_is', Option.bind_some, one_is', Option.bind_some, if_pos ⟨by omega, by omega⟩, settN_app (by decide)]
  rw [if_neg c3, if_neg c3]
  by_cases c4 : ask = ⟨#[32, 113]⟩
  · have h1 := tx_size (clamp_in x8).1 (clamp_in x8).2
    rw [if_pos c4, if_pos c4, one_is', Option.bind_some, if_pos (by omega), settN_app (by decide)]
  rw [if_neg c4, if_neg c4]
  by_cases c5 : ask = ⟨#[34, 112]⟩
  · rw [if_pos c5, if_pos c5, settN_app (by decide)]
  rw [if_neg c5, if_neg c5]
  rfl
theorem two_is (a b : Int) : clavierref19_two.f a b = some (tx (clamp a) ++ ⟨#[59]⟩ ++ tx (clamp b)) := by
  have h1 := clamp_in a
  have h2 := clamp_in b
  have s1 := tx_size h1.1 h1.2
  have s2 := tx_size h2.1 h2.2
  have e : (⟨#[59]⟩ : ByteArray).size = 1 := rfl
  unfold clavierref19_two.f clavierref19_fact.f
  rw [Option.bind_some]
  show (clavierref01_Text.f (clamp a)).bind _ = _
  rw [refText01_is (by omega) (by omega), Option.bind_some]
  rw [show (⟨(textL (clamp a)).toArray⟩ : ByteArray) = tx (clamp a) from rfl, if_pos (by omega), Option.bind_some]
  show (clavierref01_Text.f (clamp b)).bind _ = _
  rw [refText01_is (by omega) (by omega), Option.bind_some]
  rw [show (⟨(textL (clamp b)).toArray⟩ : ByteArray) = tx (clamp b) from rfl, if_pos (by rw [ByteArray.size_append]; omega)]
theorem lit_list (l : List UInt8) (a : ByteArray) : (a.toList = l) = (a = ⟨l.toArray⟩) := by
  rw [show l = (⟨l.toArray⟩ : ByteArray).toList by rw [Lib.toList_data], bytes_eq]
  simp [Lib.toList_data]
theorem said_is' (x0 x1 x2 x3 x4 x5 x6 x7 x8 : Int) (b0 b1 b2 b3 b4 b5 b6 : Bool) (u f b : Int) (ask : ByteArray) :
    clavierref19_said.f 12000 x0 x1 x2 x3 x4 x5 x6 x7 x8 b0 b1 b2 b3 b4 b5 b6 u f b ask = some (settV x4 x5 x6 x7 x8 (b0, b1, b2, b3, b4, b5, b6, u, f, b) ask) := by
  unfold clavierref19_said.f settV
  by_cases c1 : ask = ⟨#[109]⟩
  · rw [if_pos ((lit_list _ _).mpr c1), if_pos c1, refMay_is, Option.bind_some]
    cases h : mayL u f b with
    | false => rw [if_neg (by decide), if_neg (by simp [h])]
    | true =>
      rw [if_pos rfl, refParams_is b0 b1 b2 b3 b4 b5 b6 u f b 12000 (by omega), Option.bind_some, refText_is _ (paramsV_in _) (paramsV_small _) 12000 (by omega), Option.bind_some]
      have hz : (⟨(textP (paramsV (b0, b1, b2, b3, b4, b5, b6, u, f, b))).toArray⟩ : ByteArray).size ≤ 1000000 := by rw [size_list]; have := textP_len (b0, b1, b2, b3, b4, b5, b6, u, f, b); omega
      rw [if_pos (by omega), if_pos (by simp [h])]
  rw [if_neg (fun h => c1 ((lit_list _ _).mp h)), if_neg c1]
  by_cases c2 : ask = ⟨#[114]⟩
  · have := two_size x4 x5
    rw [if_pos ((lit_list _ _).mpr c2), if_pos c2, two_is, Option.bind_some, if_pos (by omega)]
  rw [if_neg (fun h => c2 ((lit_list _ _).mp h)), if_neg c2]
  by_cases c3 : ask = ⟨#[115]⟩
  · have := two_size x6 x7
    rw [if_pos ((lit_list _ _).mpr c3), if_pos c3, two_is, Option.bind_some, if_pos (by omega)]
  rw [if_neg (fun h => c3 ((lit_list _ _).mp h)), if_neg c3]
  by_cases c4 : ask = ⟨#[32, 113]⟩
  · have h1 := clamp_in x8
    have h2 := tx_size h1.1 h1.2
    unfold clavierref19_fact.f
    rw [if_pos ((lit_list _ _).mpr c4), if_pos c4, Option.bind_some]
    show (clavierref01_Text.f (clamp x8)).bind _ = _
    rw [refText01_is (by omega) (by omega), Option.bind_some, show (⟨(textL (clamp x8)).toArray⟩ : ByteArray) = tx (clamp x8) from rfl, if_pos (by omega)]
  rw [if_neg (fun h => c4 ((lit_list _ _).mp h)), if_neg c4]
  by_cases c5 : ask = ⟨#[34, 112]⟩
  · rw [if_pos ((lit_list _ _).mpr c5), if_pos c5]; rfl
  rw [if_neg (fun h => c5 ((lit_list _ _).mp h)), if_neg c5]
theorem refSetting_is (x0 x1 x2 x3 x4 x5 x6 x7 x8 : Int) (b0 b1 b2 b3 b4 b5 b6 : Bool) (u f b : Int) (ask : ByteArray) :
    clavierref19_Setting.f 12000 x0 x1 x2 x3 x4 x5 x6 x7 x8 b0 b1 b2 b3 b4 b5 b6 u f b ask = some (3, 0, [[settN (settV x4 x5 x6 x7 x8 (b0, b1, b2, b3, b4, b5, b6, u, f, b) ask)]], ⟨#[36]⟩, 114, settV x4 x5 x6 x7 x8 (b0, b1, b2, b3, b4, b5, b6, u, f, b) ask) := by
  unfold clavierref19_Setting.f
  rw [said_is', Option.bind_some]
  generalize settV x4 x5 x6 x7 x8 (b0, b1, b2, b3, b4, b5, b6, u, f, b) ask = d
  unfold settN
  by_cases c : d = ⟨#[]⟩
  · rw [if_pos ((lit_list _ _).mpr c), if_pos c]
  · rw [if_neg (fun h => c ((lit_list _ _).mp h)), if_neg c]
end Go.Proofs.YtopcleljecdkkaaDoor.G
end
