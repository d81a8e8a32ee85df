/- Tells: texts run together by shake.py: PuQ GgstyleParams Gclavierlaw18a Geq23. -/
import Derived.Lib.Strings
import Derived.Test.YtbaigfoioiklkaaDoorZTells2
import Derived.Test.YtbaigfoioiklkaaDoorZTells3
import Derived.Test.YtbaigfoioiklkaaDoorZTells6
import Derived.Test.YtbaigfoioiklkaaDoorZTells7
section
namespace Go.Proofs.YtbaigfoioiklkaaDoor.G
set_option linter.unusedVariables false
set_option linter.unusedSimpArgs false
open Go.RowKit Go.Proofs.YtbaigfoioiklkaaDoorW.PrintWords
theorem rd_int (l : List Int) (i : Nat) (h : i < l.length) : rd l (i : Int) = l[i] := by
  unfold rd
  simp [List.getD, h]
theorem rd_rowQ (l : List (List Int)) (i : Nat) (h : i < l.length) : rd_L1 l (i : Int) = l[i] := by
  unfold rd_L1
  simp [List.getD, h]
theorem drop_head {α : Type} (l : List α) (i : Nat) (h : i < l.length) : l.drop i = l[i] :: l.drop (i + 1) := List.drop_eq_getElem_cons h
theorem Ints_loop (a b : List Int) (hl : a.length = b.length) (ha : a.length ≤ 4611686018427387904) : ∀ d i k, i + d = a.length → d < k → clavierref02_Ints.l0 k a b (i : Int) = some (decide (a.drop i = b.drop i)) := by
  intro d
  induction d with
  | zero =>
    intro i k hi hk
    obtain ⟨k, rfl⟩ : ∃ m, k = m + 1 := ⟨k - 1, by omega⟩
    rw [clavierref02_Ints.l0, if_neg (by omega), List.drop_eq_nil_of_le (by omega), List.drop_eq_nil_of_le (by omega)]
    simp
  | succ d ih =>
    intro i k hi hk
    obtain ⟨k, rfl⟩ : ∃ m, k = m + 1 := ⟨k - 1, by omega⟩
    have hia : i < a.length := by omega
    have hib : i < b.length := by omega
    have hw : wrap64 ((i : Int) + 1) = ((i + 1 : Nat) : Int) := by unfold wrap64; omega
    rw [clavierref02_Ints.l0, if_pos (by omega), if_pos (by omega), if_pos (by omega), rd_int a i hia, rd_int b i hib, drop_head a i hia, drop_head b i hib]
    by_cases he : a[i] = b[i]
    · rw [if_pos he, hw, ih (i + 1) k (by omega) (by omega), he]
      simp only [List.cons.injEq, true_and]
    · rw [if_neg he]
      simp only [List.cons.injEq, he, false_and, decide_false]
theorem Ints_is (a b : List Int) (ha : a.length ≤ 4611686018427387904) (k : Nat) (hk : a.length < k) : clavierref02_Ints.f k a b = some (decide (a = b)) := by
  unfold clavierref02_Ints.f
  by_cases hl : a.length = b.length
  · rw [if_pos (by omega)]
    have := Ints_loop a b hl ha a.length 0 k (by omega) hk
    simpa using this
  · rw [if_neg (by omega)]
    have : a ≠ b := fun h => hl (by rw [h])
    simp [this]
def wide (l : List (List Int)) (m : Nat) : Prop := ∀ r ∈ l, r.length ≤ m
theorem Same_loop (k1 k2 : Int) (a b : List (List Int)) (x1 x2 x3 y1 y2 y3 : ByteArray) (p1 p2 q1 q2 f1 f2 : Int) (m : Nat) (hm : m ≤ 4611686018427387904) (hw : wide a m) (hl : a.length = b.length) (ha : a.length ≤ 4611686018427387904) : ∀ d i k, i + d = a.length → d + m + 1 < k →
    clavierref03_Same.l0 k (i : Int) k1 p1 a x1 f1 x2 k2 p2 b y1 f2 y2 = some (decide (a.drop i = b.drop i)) := by
  intro d
  induction d with
  | zero =>
    intro i k hi hk
    obtain ⟨k, rfl⟩ : ∃ m, k = m + 1 := ⟨k - 1, by omega⟩
    rw [clavierref03_Same.l0, if_neg (by omega), List.drop_eq_nil_of_le (by omega), List.drop_eq_nil_of_le (by omega)]
    simp
  | succ d ih =>
    intro i k hi hk
    obtain ⟨k, rfl⟩ : ∃ m, k = m + 1 := ⟨k - 1, by omega⟩
    have hia : i < a.length := by omega
    have hib : i < b.length := by omega
    have hwi : wrap64 ((i : Int) + 1) = ((i + 1 : Nat) : Int) := by unfold wrap64; omega
    have hr := hw _ (List.getElem_mem hia)
    rw [clavierref03_Same.l0, if_pos (by omega), if_pos (by omega), if_pos (by omega), rd_rowQ a i hia, rd_rowQ b i hib, Ints_is _ _ (by omega) k (by omega), Option.bind_some, drop_head a i hia, drop_head b i hib]
    by_cases he : a[i] = b[i]
    · rw [if_pos (by simp [he]), hwi, ih (i + 1) k (by omega) (by omega), he]
      simp only [List.cons.injEq, true_and]
    · rw [if_neg (by simp [he])]
      simp only [List.cons.injEq, he, false_and, decide_false]
theorem bytes_eq (a b : ByteArray) : (a.toList = b.toList) = (a = b) := by
  rw [Lib.toList_data, Lib.toList_data, eq_iff_iff]
  constructor
  · intro h
    cases a; cases b
    simp only [ByteArray.mk.injEq]
    exact Array.ext' h
  · intro h; rw [h]
theorem Same_is (k1 p1 f1 k2 p2 f2 : Int) (a b : List (List Int)) (i1 d1 i2 d2 : ByteArray) (m : Nat) (hm : m ≤ 4611686018427387904) (hw : wide a m) (ha : a.length ≤ 4611686018427387904) (hb : b.length ≤ 4611686018427387904) (k : Nat) (hk : a.length + m + 3 ≤ k) :
    clavierref03_Same.f k k1 p1 a i1 f1 d1 k2 p2 b i2 f2 d2 = some (decide (k1 = k2 ∧ p1 = p2 ∧ i1 = i2 ∧ f1 = f2 ∧ d1 = d2 ∧ a = b)) := by
  obtain ⟨k, rfl⟩ : ∃ m, k = m + 1 := ⟨k - 1, by omega⟩
  have hj : ∀ c : Bool, c = true → clavierref03_Same.j0 (k + 1) c k1 p1 a i1 f1 d1 k2 p2 b i2 f2 d2 = some false := by
    intro c hc; rw [clavierref03_Same.j0, if_pos hc]
  unfold clavierref03_Same.f
  by_cases h1 : k1 = k2
  · rw [if_pos h1]
    by_cases h2 : p1 = p2
    · rw [if_pos h2]
      by_cases h3 : i1 = i2
      · rw [if_pos (by rw [bytes_eq]; exact h3)]
        by_cases h4 : f1 = f2
        · rw [if_pos h4]
          by_cases h5 : d1 = d2
          · rw [if_pos (by rw [bytes_eq]; exact h5)]
            by_cases hl : a.length = b.length
            · rw [clavierref03_Same.j0, if_neg (by simp [hl])]
              have := Same_loop k1 k2 a b i1 d1 d1 i2 d2 d2 p1 p2 0 0 f1 f2 m hm hw hl ha a.length 0 k (by omega) (by omega)
              rw [show (0 : Int) = ((0 : Nat) : Int) from rfl, this]
              simp [h1, h2, h3, h4, h5]
            · rw [hj _ (by simp; omega)]
              have : a ≠ b := fun h => hl (by rw [h])
              simp [this]
          · rw [if_neg (by rw [bytes_eq]; exact h5), hj _ rfl]
            simp [h5]
        · rw [if_neg h4, hj _ rfl]
          simp [h4]
      · rw [if_neg (by rw [bytes_eq]; exact h3), hj _ rfl]
        simp [h3]
    · rw [if_neg h2, hj _ rfl]
      simp [h2]
  · rw [if_neg h1, hj _ rfl]
    simp [h1]
end Go.Proofs.YtbaigfoioiklkaaDoor.G
end
section
namespace Go.Proofs.YtbaigfoioiklkaaDoor.G
open Go.RowKit Go.Proofs.YtbaigfoioiklkaaDoorW.PrintWords Go.Proofs.YtbaigfoioiklkaaDoorW.PrintLast Go.Proofs.YtbaigfoioiklkaaDoorW.PrintMore
attribute [local go_sem] max2_int min2_int max_two min_two max_three min_three max_four min_four
set_option linter.unusedVariables false
set_option linter.unusedSimpArgs false
def style_Params.f (a0_0 : Bool) (a0_1 : Bool) (a0_2 : Bool) (a0_3 : Bool) (a0_4 : Bool) (a0_5 : Bool) (a0_6 : Bool) (a0_7 : Int) (a0_8 : Int) (a0_9 : Int) : Option ((List (List Int))) := if style_May.f a0_0 a0_1 a0_2 a0_3 a0_4 a0_5 a0_6 a0_7 a0_8 a0_9 = some true then (if -9223372036854775808 ≤ a0_8 ∧ -9223372036854775808 ≤ a0_9 then some (paramsL a0_0 a0_1 a0_2 a0_3 a0_4 a0_5 a0_6 a0_7 a0_8 a0_9) else none) else if style_May.f a0_0 a0_1 a0_2 a0_3 a0_4 a0_5 a0_6 a0_7 a0_8 a0_9 = some false then some [] else none
theorem tint_is (n base : Int) (h0 : -2 ≤ n) (h1 : n < 16777472) (hb : 0 ≤ base) (hb1 : base ≤ 1000) : style_tint.f n base = some (tintL n base) := by
  have w1 : wrap64 (base + n) = base + n := by unfold wrap64; omega
  have w2 : wrap64 (base + 52) = base + 52 := by unfold wrap64; omega
  have w3 : wrap64 (base + 52 + n) = base + 52 + n := by unfold wrap64; omega
  have w4 : wrap64 (base + 8) = base + 8 := by unfold wrap64; omega
  unfold style_tint.f tintL style_parts.f
  by_cases g1 : n < 8
  · rw [if_pos g1, if_pos g1, w1]; rfl
  · rw [if_neg g1, if_neg g1]
    by_cases g2 : n < 16
    · rw [if_pos g2, if_pos g2, w2, w3]; rfl
    · rw [if_neg g2, if_neg g2]
      by_cases g3 : n < 256
      · rw [if_pos g3, if_pos g3, w4]; rfl
      · have w5 : wrap64 (n - 256) = n - 256 := by unfold wrap64; omega
        have t1 : Int.tdiv (n - 256) 65536 = (n - 256) / 65536 := Int.tdiv_eq_ediv_of_nonneg (by omega)
        have t2 : Int.tdiv (n - 256) 256 = (n - 256) / 256 := Int.tdiv_eq_ediv_of_nonneg (by omega)
        have w6 : wrap64 ((n - 256) / 65536) = (n - 256) / 65536 := by unfold wrap64; omega
        have w7 : wrap64 ((n - 256) / 256) = (n - 256) / 256 := by unfold wrap64; omega
        have t3 : Int.tmod ((n - 256) / 256) 256 = (n - 256) / 256 % 256 := Int.tmod_eq_emod_of_nonneg (by omega)
        have t4 : Int.tmod (n - 256) 256 = (n - 256) % 256 := Int.tmod_eq_emod_of_nonneg (by omega)
        rw [if_neg g3, if_neg g3, w4, w5, t1, t2, w6, w7, t3, t4]; rfl
theorem may_is (b0 b1 b2 b3 b4 b5 b6 : Bool) (u f b : Int) : style_May.f b0 b1 b2 b3 b4 b5 b6 u f b = some (mayL u f b) := by
  unfold style_May.f style_May_1.f mayL colL
  by_cases h0 : 0 ≤ u <;> by_cases h1 : u ≤ 5 <;> by_cases h2 : -1 ≤ f <;> by_cases h3 : f < 16777472 <;> by_cases h4 : -1 ≤ b <;> simp [h0, h1, h2, h3, h4, ge_iff_le]
set_option maxHeartbeats 1000000 in
theorem style_Params.calls (a0_0 : Bool) (a0_1 : Bool) (a0_2 : Bool) (a0_3 : Bool) (a0_4 : Bool) (a0_5 : Bool) (a0_6 : Bool) (a0_7 : Int) (a0_8 : Int) (a0_9 : Int) (r : List (List Int)) (w : World) (h : style_Params.f a0_0 a0_1 a0_2 a0_3 a0_4 a0_5 a0_6 a0_7 a0_8 a0_9 = some r) :
    Calls Tryd.prog 10 #[.agg #[.bool a0_0, .bool a0_1, .bool a0_2, .bool a0_3, .bool a0_4, .bool a0_5, .bool a0_6, .int .i64 a0_7, .int .i64 a0_8, .int .i64 a0_9]] w fun e w' => ∃ v0_ : Value, e = .returned (v0_) ∧ Kd.S (Kd.slice 3 (Kd.int .i64)) 35 w' w.heap.size (fun _ => True) v0_ r ∧ Below w.heap.size w w' := by
  unfold style_Params.f at h
  rw [may_is] at h
  have HM : ∀ r, mayL a0_7 a0_8 a0_9 = r → MayAt a0_0 a0_1 a0_2 a0_3 a0_4 a0_5 a0_6 a0_7 a0_8 a0_9 r := fun r hr W => by
    refine (style_May.calls a0_0 a0_1 a0_2 a0_3 a0_4 a0_5 a0_6 a0_7 a0_8 a0_9 r W (by rw [may_is, hr])).mono fun e w' h => ⟨h.1, ?_⟩
    first | exact h.2 | exact h.2.below
  cases hm : mayL a0_7 a0_8 a0_9 with
  | false =>
    rw [hm, if_neg (by decide), if_pos rfl] at h
    obtain rfl := Option.some.inj h
    exact params_not a0_0 a0_1 a0_2 a0_3 a0_4 a0_5 a0_6 a0_7 a0_8 a0_9 (HM false hm) w
  | true =>
    rw [hm, if_pos rfl] at h
    by_cases hlo : -9223372036854775808 ≤ a0_8 ∧ -9223372036854775808 ≤ a0_9
    · rw [if_pos hlo] at h
      obtain rfl := Option.some.inj h
      have hm' := hm
      simp only [mayL, colL, Bool.and_eq_true, decide_eq_true_eq] at hm'
      exact params_yes a0_0 a0_1 a0_2 a0_3 a0_4 a0_5 a0_6 a0_7 a0_8 a0_9 hm'.1 (HM true hm)
        (fun _ W => style_tint.calls a0_8 30 _ W (tint_is a0_8 30 (by omega) (by omega) (by decide) (by decide))) (fun _ W => style_tint.calls a0_9 40 _ W (tint_is a0_9 40 (by omega) (by omega) (by decide) (by decide))) w
    · rw [if_neg hlo] at h; cases h
end Go.Proofs.YtbaigfoioiklkaaDoor.G
end
section
namespace Go.Proofs.YtbaigfoioiklkaaDoor.G
open Go.RowKit Go.Proofs.YtbaigfoioiklkaaDoorW.PrintWords Go.Proofs.YtbaigfoioiklkaaDoorW.PrintLast Go.Proofs.YtbaigfoioiklkaaDoorW.PrintMore
attribute [local go_sem] max2_int min2_int max_two min_two max_three min_three max_four min_four
set_option linter.unusedVariables false
set_option linter.unusedSimpArgs false
def clavierlaw18_same.f (k : Nat) (l0 : List (List Int)) (l1 : List (List Int)) : Option (Bool) := (clavierref03_Same.f k 0 0 l0 (⟨#[]⟩ : ByteArray) 0 (⟨#[]⟩ : ByteArray) 0 0 l1 (⟨#[]⟩ : ByteArray) 0 (⟨#[]⟩ : ByteArray)).bind fun t281 => (some t281)
theorem clavierlaw18_same.mono : ∀ a0 a1 k, LeO (clavierlaw18_same.f k a0 a1) (clavierlaw18_same.f (k + 1) a0 a1) := by
  intro a0 a1 k
  unfold clavierlaw18_same.f
  repeat' first
      | (with_reducible exact clavierref03_Same.mono _ _ _ _ _ _ _ _ _ _ _ _ _)
      | (with_reducible exact LeO.refl _)
      | (with_reducible exact LeO.none _)
      | (with_reducible refine LeO.ite ?_ ?_)
      | (with_reducible refine LeO.bind ?_ (fun _ => ?_))
      | exact clavierref03_Same.mono _ _ _ _ _ _ _ _ _ _ _ _ _
      | exact LeO.none _
      | refine LeO.ite ?_ ?_
      | refine LeO.bind ?_ (fun _ => ?_)
set_option maxHeartbeats 8000000 in
set_option maxRecDepth 100000 in
theorem clavierlaw18_same.calls (k : Nat) (A0 : Option Addr) (c0 : Nat) (l0 : List (List Int)) (A1 : Option Addr) (c1 : Nat) (l1 : List (List Int)) (r : Bool) (w : World) (hr0 : Kd.C (Kd.slice 3 (Kd.int .i64)) w A0 l0.length l0) (hc0 : l0.length ≤ c0) (hr1 : Kd.C (Kd.slice 3 (Kd.int .i64)) w A1 l1.length l1) (hc1 : l1.length ≤ c1) (h : clavierlaw18_same.f k l0 l1 = some r) :
    Calls Tryd.prog 14 #[.slice A0 l0.length c0, .slice A1 l1.length c1] w fun e w' => e = .returned (.bool r) ∧ Below w.heap.size w w' := by
  have hu37 := Tryd.underlying37
  have HR0 := Aside0.mk hr0
  have HC0 := Aside0.mk hc0
  clear hr0 hc0
  have HR1 := Aside0.mk hr1
  have HC1 := Aside0.mk hc1
  clear hr1 hc1
  have HB := Aside0.mk (Below.refl w.heap.size w)
  have H : ((clavierref03_Same.f k 0 0 l0 (⟨#[]⟩ : ByteArray) 0 (⟨#[]⟩ : ByteArray) 0 0 l1 (⟨#[]⟩ : ByteArray) 0 (⟨#[]⟩ : ByteArray)).bind fun t281 => (some t281)) = some r := h
  clear h
  replace H := Option.bind_eq_some_iff.mp H
  obtain ⟨t281, A30, H⟩ := H
  replace H : (some t281) = some r := H
  have A3 := Aside0.mk A30
  clear A30
  obtain rfl := Option.some.inj H
  go_enter Tryd.func14, Tryd.ntmps14
  go_wp2_with (first | ((with_reducible refine gate_callee (f := 28) rfl ?_); refine goesL_ (some 9) rfl rfl Tryd.func28 (by kernel_rfl) rfl #[.agg #[.int .i64 0, .int .u8 0, .slice A0 l0.length c0, .string (⟨#[]⟩ : ByteArray), .int .u8 0, .string (⟨#[]⟩ : ByteArray)], .agg #[.int .i64 0, .int .u8 0, .slice A1 l1.length c1, .string (⟨#[]⟩ : ByteArray), .int .u8 0, .string (⟨#[]⟩ : ByteArray)]] rfl (by (try simp only [List.map_toArray, List.map_cons, List.map_nil]); first | done | rfl | (simp only [List.length_drop, List.length_take]; rfl)) ?_; (with_reducible refine (clavierref03_Same.calls k 0 0 _ _ l0 (⟨#[]⟩ : ByteArray) 0 (⟨#[]⟩ : ByteArray) 0 0 _ _ l1 (⟨#[]⟩ : ByteArray) 0 (⟨#[]⟩ : ByteArray) t281 _ ?side1 ?side2 ?side3 ?side4 A3.out).mono ?_); (case side1 => repeat (first | exact HR0.out | (with_reducible refine Kd.C_alloc ?_ _) | (with_reducible refine Kd.C_drewN ?_ _) | (with_reducible refine Kd.C_drew ?_))); (case side2 => exact HC0.out); (case side3 => repeat (first | exact HR1.out | (with_reducible refine Kd.C_alloc ?_ _) | (with_reducible refine Kd.C_drewN ?_ _) | (with_reducible refine Kd.C_drew ?_))); (case side4 => exact HC1.out); rintro e w4 ⟨rfl, hb⟩; refine ⟨_, rfl, ?_⟩; have n0_ := Aside0.mk (below_step (by repeat (first | (with_reducible first | exact HB.out | apply below_alloc | apply pw_below_drewN | apply below_drew1) | exact HB.out)) hb); clear HB; have HB := n0_; clear n0_; (try clear hb); (try clear hb2); (try clear hk); (try clear hi)))
  go_ret
  exact ⟨by first | rfl | (simp [errW_none, errW_some] <;> rfl) | (simp [*, errW_none, errW_some] <;> rfl), by repeat (first | (with_reducible first | exact HB.out | apply below_alloc | apply pw_below_drewN | apply below_drew1) | exact HB.out)⟩
end Go.Proofs.YtbaigfoioiklkaaDoor.G
end
section
namespace Go.Proofs.YtbaigfoioiklkaaDoor.G
open Go.RowKit Go.Proofs.YtbaigfoioiklkaaDoorW.PrintWords Go.Proofs.YtbaigfoioiklkaaDoorW.PrintLast Go.Proofs.YtbaigfoioiklkaaDoorW.PrintMore
attribute [local go_sem] max2_int min2_int max_two min_two max_three min_three max_four min_four
set_option linter.unusedVariables false
set_option linter.unusedSimpArgs false
theorem eqA23 (d : Nat) (w : World) (x0 y0 : Bool) (x1 y1 : Bool) (x2 y2 : Bool) (x3 y3 : Bool) (x4 y4 : Bool) (x5 y5 : Bool) (x6 y6 : Bool) (x7 y7 : Int) (x8 y8 : Int) (x9 y9 : Int) :
    (Op.equalIn (d + 2) 23 (.agg #[.bool x0, .bool x1, .bool x2, .bool x3, .bool x4, .bool x5, .bool x6, .int .i64 x7, .int .i64 x8, .int .i64 x9]) (.agg #[.bool y0, .bool y1, .bool y2, .bool y3, .bool y4, .bool y5, .bool y6, .int .i64 y7, .int .i64 y8, .int .i64 y9])).run Tryd.prog w = .ok (x0 == y0 && (x1 == y1 && (x2 == y2 && (x3 == y3 && (x4 == y4 && (x5 == y5 && (x6 == y6 && (x7 == y7 && (x8 == y8 && (x9 == y9)))))))))) w := by
  refine eqA_of Tryd.underlying23 (by kernel_rfl) ?_
  refine eqf_cons (by rfl) (by go_simp; rfl) (by go_simp; rfl) (by go_simp) ?_
  refine eqf_cons (by rfl) (by go_simp; rfl) (by go_simp; rfl) (by go_simp) ?_
  refine eqf_cons (by rfl) (by go_simp; rfl) (by go_simp; rfl) (by go_simp) ?_
  refine eqf_cons (by rfl) (by go_simp; rfl) (by go_simp; rfl) (by go_simp) ?_
  refine eqf_cons (by rfl) (by go_simp; rfl) (by go_simp; rfl) (by go_simp) ?_
  refine eqf_cons (by rfl) (by go_simp; rfl) (by go_simp; rfl) (by go_simp) ?_
  refine eqf_cons (by rfl) (by go_simp; rfl) (by go_simp; rfl) (by go_simp) ?_
  refine eqf_cons (by rfl) (by go_simp; rfl) (by go_simp; rfl) (by go_simp) ?_
  refine eqf_cons (by rfl) (by go_simp; rfl) (by go_simp; rfl) (by go_simp) ?_
  exact eqf_last (by rfl) (by go_simp; rfl) (by go_simp; rfl) (by go_simp)
end Go.Proofs.YtbaigfoioiklkaaDoor.G
end
