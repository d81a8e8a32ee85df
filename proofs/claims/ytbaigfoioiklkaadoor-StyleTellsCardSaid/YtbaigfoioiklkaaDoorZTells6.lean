/- Tells: texts run together by shake.py: PuSa PTx Ggclavierref01Text Gclavierref18b PuSb PTj PuSc Gclavierref02a. -/
import Derived.Laws.Concat
import Derived.Lib.Join
import Derived.Lib.Strings
import Derived.Test.YtbaigfoioiklkaaDoorZTells1
import Derived.Test.YtbaigfoioiklkaaDoorZTells2
import Derived.Test.YtbaigfoioiklkaaDoorZTells4
import Derived.Test.YtbaigfoioiklkaaDoorZTells5
section
namespace Go.Proofs.YtbaigfoioiklkaaDoor.G
set_option linter.unusedVariables false
set_option linter.unusedSimpArgs false
open Go.RowKit Kit Go.Proofs.YtbaigfoioiklkaaDoorW.PrintWords
def InI (l : List Int) : Prop := ∀ z ∈ l, -9223372036854775808 ≤ z ∧ z ≤ 9223372036854775807
theorem rd_at (l : List Int) (i : Nat) : rd l (i : Int) = at_ l i := by
  unfold rd at_
  rw [List.getD_eq_getElem?_getD]
  rfl
theorem rd_at0 (l : List Int) : rd l 0 = at_ l 0 := rd_at l 0
theorem rd_at1 (l : List Int) : rd l 1 = at_ l 1 := rd_at l 1
theorem rd_at2 (l : List Int) : rd l 2 = at_ l 2 := rd_at l 2
theorem rd_at3 (l : List Int) : rd l 3 = at_ l 3 := rd_at l 3
theorem rd_at4 (l : List Int) : rd l 4 = at_ l 4 := rd_at l 4
theorem rd_at5 (l : List Int) : rd l 5 = at_ l 5 := rd_at l 5
theorem at_in {l : List Int} (h : InI l) (i : Nat) : -9223372036854775808 ≤ at_ l i ∧ at_ l i ≤ 9223372036854775807 := by
  unfold at_
  rcases Nat.lt_or_ge i l.length with hi | hi
  · rw [List.getElem?_eq_getElem hi]
    exact h _ (List.getElem_mem hi)
  · rw [List.getElem?_eq_none hi]
    decide
theorem byte8_loop (l : List Int) (hl : l.length ≤ 1000) : ∀ d i k, i + d = l.length → d < k → style_split_1.l0 k l (l.length : Int) (i : Int) = some ((l.drop i).all byteB) := by
  intro d
  induction d with
  | zero =>
    intro i k hi hk
    obtain ⟨k, rfl⟩ : ∃ m, k = m + 1 := ⟨k - 1, by omega⟩
    have e : l.drop i = [] := List.drop_eq_nil_of_le (by omega)
    rw [style_split_1.l0, if_neg (by omega), e]
    rfl
  | succ d ih =>
    intro i k hi hk
    obtain ⟨k, rfl⟩ : ∃ m, k = m + 1 := ⟨k - 1, by omega⟩
    have hil : i < l.length := by omega
    have e : l.drop i = at_ l i :: l.drop (i + 1) := by
      rw [List.drop_eq_getElem_cons hil]
      simp [at_, List.getElem?_eq_getElem hil]
    have hw : wrap64 ((i : Int) + 1) = ((i + 1 : Nat) : Int) := by unfold wrap64; omega
    rw [style_split_1.l0, if_pos (by omega), if_pos (by omega), if_pos (by omega), rd_at, e]
    simp only [List.all_cons, byteB]
    by_cases h0 : at_ l i < 0
    · rw [if_pos h0]; simp [show ¬ (0 ≤ at_ l i) by omega]
    · rw [if_neg h0]
      by_cases h1 : at_ l i ≥ 256
      · rw [if_pos h1]; simp [show ¬ (at_ l i < 256) by omega]
      · rw [if_neg h1, hw, ih (i + 1) k (by omega) (by omega)]
        simp [show 0 ≤ at_ l i by omega, show at_ l i < 256 by omega]
theorem byte8_is (l : List Int) (hl : l.length ≤ 1000) (k : Nat) (hk : l.length < k) : style_split_1.f k l = some (l.all byteB) := by
  have := byte8_loop l hl l.length 0 k (by omega) hk
  simpa [style_split_1.f] using this
theorem three (l : List Int) (h : l.length = 6) : l.drop 3 = [at_ l 3, at_ l 4, at_ l 5] := by
  match l, h with
  | [a, b, c, d, e, f], _ => rfl
theorem rgb_wrap {a b c : Int} (ha : byteB a = true) (hb : byteB b = true) (hc : byteB c = true) :
    wrap64 (wrap64 (wrap64 (256 + wrap64 (a * 65536)) + wrap64 (b * 256)) + c) = 256 + a * 65536 + b * 256 + c ∧ wrap64 (wrap64 (wrap64 (256 + wrap64 (65536 * a)) + wrap64 (256 * b)) + c) = 256 + a * 65536 + b * 256 + c := by
  simp only [byteB, Bool.and_eq_true, decide_eq_true_eq] at ha hb hc
  have e1 : wrap64 (a * 65536) = a * 65536 := by unfold wrap64; omega
  have e2 : wrap64 (b * 256) = b * 256 := by unfold wrap64; omega
  have e3 : wrap64 (65536 * a) = a * 65536 := by unfold wrap64; omega
  have e4 : wrap64 (256 * b) = b * 256 := by unfold wrap64; omega
  rw [e1, e2, e3, e4]
  have e5 : wrap64 (256 + a * 65536) = 256 + a * 65536 := by unfold wrap64; omega
  rw [e5]
  have e6 : wrap64 (256 + a * 65536 + b * 256) = 256 + a * 65536 + b * 256 := by unfold wrap64; omega
  rw [e6]
  have e7 : wrap64 (256 + a * 65536 + b * 256 + c) = 256 + a * 65536 + b * 256 + c := by unfold wrap64; omega
  exact ⟨e7, e7⟩
theorem split_j0 (l : List Int) (k : Nat) (hk : 10 ≤ k) (b : Bool) (hb : b = (decide (l.length = 3) && (decide (at_ l 1 = 5) && byteB (at_ l 2)))) : style_split.j0 k l b = some (splitI l) := by
  obtain ⟨k, rfl⟩ : ∃ m, k = m + 1 := ⟨k - 1, by omega⟩
  unfold splitI
  rw [style_split.j0]
  cases b with
  | true =>
    have hb' := hb.symm
    simp only [Bool.and_eq_true, decide_eq_true_eq] at hb'
    rw [if_pos rfl, if_pos (by omega), if_pos ⟨hb'.1, hb'.2.1, hb'.2.2⟩, rd_at2]
  | false =>
    have hb' := hb.symm
    have hn : ¬ (l.length = 3 ∧ at_ l 1 = 5 ∧ byteB (at_ l 2) = true) := by
      rintro ⟨h1, h2, h3⟩
      simp [h1, h2, h3] at hb'
    rw [if_neg (by decide), if_neg hn]
    by_cases h6 : l.length = 6
    · rw [if_pos (by omega), if_pos (by omega), rd_at1]
      by_cases h2 : at_ l 1 = 2
      · rw [if_pos h2, if_pos (by omega), three l h6, byte8_is _ (by simp) k (by simp; omega), Option.bind_some]
        by_cases hc : byteB (at_ l 3) = true ∧ byteB (at_ l 4) = true ∧ byteB (at_ l 5) = true
        · rw [if_pos (by simp [hc]), if_pos (by omega), if_pos (by omega), if_pos (by omega), if_pos ⟨h6, h2, hc⟩, rd_at3, rd_at4, rd_at5, (rgb_wrap hc.1 hc.2.1 hc.2.2).1]
        · rw [if_neg (by simpa using hc), if_neg (fun h => hc h.2.2)]
      · rw [if_neg h2, if_neg (fun h => h2 h.2.1)]
    · rw [if_neg (by omega), if_neg (fun h => h6 h.1)]
theorem split_is (l : List Int) (k : Nat) (hk : 20 ≤ k) : style_split.f k l = some (splitI l) := by
  unfold style_split.f
  by_cases h3 : l.length = 3
  · rw [if_pos (by omega), if_pos (by omega), rd_at1]
    by_cases h5 : at_ l 1 = 5
    · rw [if_pos h5, if_pos (by omega), byte8_is _ (by simp) k (by simp; omega), Option.bind_some, rd_at2]
      exact split_j0 l k (by omega) _ (by simp [h3, h5])
    · rw [if_neg h5]
      exact split_j0 l k (by omega) _ (by simp [h5])
  · rw [if_neg (by omega)]
    exact split_j0 l k (by omega) _ (by simp [h3])
theorem said_is (l : List Int) (base : Int) (k : Nat) (hk : 30 ≤ k) (hl : 0 < l.length) (h0 : 0 < at_ l 0) (h1 : at_ l 0 ≤ 9223372036854775807) (hb : base = 30 ∨ base = 40) : style_said.f k l base = some (saidI l base) := by
  obtain ⟨k, rfl⟩ : ∃ m, k = m + 1 := ⟨k - 1, by omega⟩
  have hw : wrap64 (at_ l 0 - base) = at_ l 0 - base := by unfold wrap64; omega
  unfold style_said.f saidI
  rw [if_pos (by omega), rd_at0, hw]
  generalize at_ l 0 - base = n at *
  have hj : ∀ c : Bool, c = (decide (0 ≤ n) && decide (n < 8)) → style_said.j0 (k + 1) l n c = some (if 0 ≤ n ∧ n < 8 then n else if n = 8 then splitI l else if n = 9 then -1 else if 60 ≤ n ∧ n < 68 then n - 52 else -2) := by
    intro c hc
    rw [style_said.j0]
    cases c with
    | true =>
      have hc' := hc.symm
      simp only [Bool.and_eq_true, decide_eq_true_eq] at hc'
      rw [if_pos rfl, if_pos hc']
    | false =>
      have hn : ¬ (0 ≤ n ∧ n < 8) := by
        rintro ⟨a, b⟩
        simp [a, b] at hc
      rw [if_neg (by decide), if_neg hn]
      by_cases h8 : n = 8
      · rw [if_pos h8, if_pos h8, split_is l k (by omega)]; rfl
      · rw [if_neg h8, if_neg h8]
        by_cases h9 : n = 9
        · rw [if_pos h9, if_pos h9]
        · rw [if_neg h9, if_neg h9]
          by_cases h60 : 60 ≤ n
          · rw [if_pos (show n ≥ 60 from h60)]
            by_cases h68 : n < 68
            · rw [if_pos h68, if_pos ⟨h60, h68⟩, show wrap64 (n - 52) = n - 52 by unfold wrap64; omega]
            · rw [if_neg h68, if_neg (fun h => h68 h.2)]
          · rw [if_neg (show ¬ n ≥ 60 from h60), if_neg (fun h => h60 h.1)]
  by_cases hn0 : n ≥ 0
  · rw [if_pos hn0]
    exact hj _ (by simp [show (0 : Int) ≤ n from hn0])
  · rw [if_neg hn0]
    exact hj _ (by simp [show ¬ (0 : Int) ≤ n by omega])
end Go.Proofs.YtbaigfoioiklkaaDoor.G
end
section
namespace Go.Proofs.YtbaigfoioiklkaaDoor
set_option linter.unusedVariables false
set_option linter.unusedSimpArgs false
theorem decDigits_small {n : Nat} (h : n < 10) : Lib.decDigits n = [UInt8.ofNat (48 + n)] := by rw [Lib.decDigits, dif_pos h]
theorem decDigits_big {n : Nat} (h : ¬ n < 10) : Lib.decDigits n = Lib.decDigits (n / 10) ++ [UInt8.ofNat (48 + n % 10)] := by rw [Lib.decDigits, dif_neg h]
theorem textL_of {n : Int} (h : 0 ≤ n) : textL n = Lib.decDigits n.toNat := by unfold textL; rw [if_neg (by omega)]
theorem decDigits_mono (a : Nat) : ∀ b, a ≤ b → (Lib.decDigits a).length ≤ (Lib.decDigits b).length := by
  induction a using Nat.strongRecOn with
  | _ a ih =>
    intro b hab
    by_cases h : a < 10
    · rw [decDigits_small h]
      rw [Lib.decDigits_length]
      exact Lib.nDigits_pos b
    · rw [decDigits_big h, decDigits_big (show ¬ b < 10 by omega)]
      have := ih (a / 10) (by omega) (b / 10) (by omega)
      simp only [List.length_append, List.length_singleton]
      omega
theorem textL_len {a : Int} (h0 : 0 ≤ a) (h : a ≤ 9223372036854775807) : (textL a).length ≤ 20 ∧ 1 ≤ (textL a).length := by
  rw [textL_of h0, Lib.decDigits_length]
  exact ⟨by
    have : Lib.nDigits a.toNat ≤ 20 := by
      rcases Nat.lt_or_ge 20 (Lib.nDigits a.toNat) with h1 | h1
      · exfalso
        have h2 := Lib.decDigits_length a.toNat
        have h3 : (Lib.decDigits a.toNat).length ≤ (Lib.decDigits 9223372036854775807).length := decDigits_mono _ _ (by omega)
        rw [Lib.decDigits_length, Lib.decDigits_length] at h3
        have h4 : Lib.nDigits 9223372036854775807 = 18 + 1 := Lib.nDigits_unique 18 _ (by decide) (by decide)
        omega
      · exact h1
    exact this, Lib.nDigits_pos _⟩
end Go.Proofs.YtbaigfoioiklkaaDoor
end
section
namespace Go.Proofs.YtbaigfoioiklkaaDoor.G
open Go.RowKit Go.Proofs.YtbaigfoioiklkaaDoorW.PrintWords Go.Proofs.YtbaigfoioiklkaaDoorW.PrintLast Go.Proofs.YtbaigfoioiklkaaDoorW.PrintMore
attribute [local go_sem] max2_int min2_int max_two min_two max_three min_three max_four min_four
set_option linter.unusedVariables false
set_option linter.unusedSimpArgs false
def clavierref01_Text.f (a0 : Int) : Option (ByteArray) := if -9223372036854775808 ≤ a0 ∧ a0 ≤ 9223372036854775807 then some ⟨(textL a0).toArray⟩ else none
theorem clavierref01_Text.calls (a0 : Int) (r : ByteArray) (w : World) (h : clavierref01_Text.f a0 = some r) :
    Calls Tryd.prog 31 #[.int .i64 a0] w fun e w' => e = .returned (.string r) ∧ Below w.heap.size w w' := by
  unfold clavierref01_Text.f at h
  by_cases hb : -9223372036854775808 ≤ a0 ∧ a0 ≤ 9223372036854775807
  · rw [if_pos hb] at h
    obtain rfl := Option.some.inj h
    exact refText_calls a0 hb.2 w
  · rw [if_neg hb] at h; cases h
end Go.Proofs.YtbaigfoioiklkaaDoor.G
end
section
namespace Go.Proofs.YtbaigfoioiklkaaDoor.G
open Go.RowKit Go.Proofs.YtbaigfoioiklkaaDoorW.PrintWords Go.Proofs.YtbaigfoioiklkaaDoorW.PrintLast Go.Proofs.YtbaigfoioiklkaaDoorW.PrintMore
attribute [local go_sem] max2_int min2_int max_two min_two max_three min_three max_four min_four
set_option linter.unusedVariables false
set_option linter.unusedSimpArgs false
mutual
def clavierref18_Text.l0 : Nat → List (List Int) → ByteArray → Int → Option (ByteArray)
  | 0, _, _, _ => none
  | k + 1, x0, x3, x4 => if x4 < (x0.length : Int) then (if x4 > 0 then (if x3.size + 1 ≤ 9223372036854775807 then (clavierref18_Text.j1 k x0 (x3 ++ (⟨#[59]⟩ : ByteArray)) x4) else (none)) else (clavierref18_Text.j1 k x0 x3 x4)) else (some x3)
def clavierref18_Text.j1 : Nat → List (List Int) → ByteArray → Int → Option (ByteArray)
  | 0, _, _, _ => none
  | k + 1, x0, x3, x4 => clavierref18_Text.l1 k x0 x3 x4 0
def clavierref18_Text.l1 : Nat → List (List Int) → ByteArray → Int → Int → Option (ByteArray)
  | 0, _, _, _, _ => none
  | k + 1, x0, x3, x4, x5 => if 0 ≤ x4 then (if x4 < (x0.length : Int) then (if x5 < ((rd_L1 x0 x4).length : Int) then (if x5 > 0 then (if x3.size + 1 ≤ 9223372036854775807 then (if 0 ≤ x5 then ((clavierref01_Text.f (rd (rd_L1 x0 x4) x5)).bind fun t285 => (if (x3 ++ (⟨#[58]⟩ : ByteArray)).size + t285.size ≤ 9223372036854775807 then (clavierref18_Text.l1 k x0 ((x3 ++ (⟨#[58]⟩ : ByteArray)) ++ t285) x4 (wrap64 (x5 + 1))) else (none))) else (none)) else (none)) else (if 0 ≤ x5 then ((clavierref01_Text.f (rd (rd_L1 x0 x4) x5)).bind fun t288 => (if x3.size + t288.size ≤ 9223372036854775807 then (clavierref18_Text.l1 k x0 (x3 ++ t288) x4 (wrap64 (x5 + 1))) else (none))) else (none))) else (clavierref18_Text.l0 k x0 x3 (wrap64 (x4 + 1)))) else (none)) else (none)
end
def clavierref18_Text.f (k : Nat) (l0 : List (List Int)) : Option (ByteArray) := clavierref18_Text.l0 k l0 (⟨#[]⟩ : ByteArray) 0
theorem clavierref18_Text.mono_l : ∀ k, (∀ y0 y1 y2, LeO (clavierref18_Text.l0 k y0 y1 y2) (clavierref18_Text.l0 (k + 1) y0 y1 y2)) ∧ (∀ y0 y1 y2, LeO (clavierref18_Text.j1 k y0 y1 y2) (clavierref18_Text.j1 (k + 1) y0 y1 y2)) ∧ (∀ y0 y1 y2 y3, LeO (clavierref18_Text.l1 k y0 y1 y2 y3) (clavierref18_Text.l1 (k + 1) y0 y1 y2 y3))
  | 0 => ⟨fun _ _ _ r h => by simp [clavierref18_Text.l0] at h, fun _ _ _ r h => by simp [clavierref18_Text.j1] at h, fun _ _ _ _ r h => by simp [clavierref18_Text.l1] at h⟩
  | k + 1 => by
    obtain ⟨ih0, ih1, ih2⟩ := clavierref18_Text.mono_l k
    refine ⟨?_, ?_, ?_⟩
    · intro y0 y1 y2
      unfold clavierref18_Text.l0
      repeat' first
      | (with_reducible exact ih0 _ _ _)
      | (with_reducible exact ih1 _ _ _)
      | (with_reducible exact ih2 _ _ _ _)
      | (with_reducible exact LeO.refl _)
      | (with_reducible exact LeO.none _)
      | (with_reducible refine LeO.ite ?_ ?_)
      | (with_reducible refine LeO.bind ?_ (fun _ => ?_))
      | exact ih0 _ _ _
      | exact ih1 _ _ _
      | exact ih2 _ _ _ _
      | exact LeO.none _
      | refine LeO.ite ?_ ?_
      | refine LeO.bind ?_ (fun _ => ?_)
    · intro y0 y1 y2
      unfold clavierref18_Text.j1
      repeat' first
      | (with_reducible exact ih0 _ _ _)
      | (with_reducible exact ih1 _ _ _)
      | (with_reducible exact ih2 _ _ _ _)
      | (with_reducible exact LeO.refl _)
      | (with_reducible exact LeO.none _)
      | (with_reducible refine LeO.ite ?_ ?_)
      | (with_reducible refine LeO.bind ?_ (fun _ => ?_))
      | exact ih0 _ _ _
      | exact ih1 _ _ _
      | exact ih2 _ _ _ _
      | exact LeO.none _
      | refine LeO.ite ?_ ?_
      | refine LeO.bind ?_ (fun _ => ?_)
    · intro y0 y1 y2 y3
      unfold clavierref18_Text.l1
      repeat' first
      | (with_reducible exact ih0 _ _ _)
      | (with_reducible exact ih1 _ _ _)
      | (with_reducible exact ih2 _ _ _ _)
      | (with_reducible exact LeO.refl _)
      | (with_reducible exact LeO.none _)
      | (with_reducible refine LeO.ite ?_ ?_)
      | (with_reducible refine LeO.bind ?_ (fun _ => ?_))
      | exact ih0 _ _ _
      | exact ih1 _ _ _
      | exact ih2 _ _ _ _
      | exact LeO.none _
      | refine LeO.ite ?_ ?_
      | refine LeO.bind ?_ (fun _ => ?_)
theorem clavierref18_Text.mono : ∀ a0 k, LeO (clavierref18_Text.f k a0) (clavierref18_Text.f (k + 1) a0) := by
  intro a0 k
  obtain ⟨ih0, ih1, ih2⟩ := clavierref18_Text.mono_l k
  unfold clavierref18_Text.f
  repeat' first
      | (with_reducible exact ih0 _ _ _)
      | (with_reducible exact ih1 _ _ _)
      | (with_reducible exact ih2 _ _ _ _)
      | (with_reducible exact LeO.refl _)
      | (with_reducible exact LeO.none _)
      | (with_reducible refine LeO.ite ?_ ?_)
      | (with_reducible refine LeO.bind ?_ (fun _ => ?_))
      | exact ih0 _ _ _
      | exact ih1 _ _ _
      | exact ih2 _ _ _ _
      | exact LeO.none _
      | refine LeO.ite ?_ ?_
      | refine LeO.bind ?_ (fun _ => ?_)
set_option maxHeartbeats 8000000 in
set_option maxRecDepth 100000 in
theorem clavierref18_Text.calls (k : Nat) (A0 : Option Addr) (c0 : Nat) (l0 : List (List Int)) (r : ByteArray) (w : World) (hr0 : Kd.C (Kd.slice 3 (Kd.int .i64)) w A0 l0.length l0) (hc0 : l0.length ≤ c0) (h : clavierref18_Text.f k l0 = some r) :
    Calls Tryd.prog 16 #[.slice A0 l0.length c0] w fun e w' => e = .returned (.string r) ∧ Below w.heap.size w w' := by
  have HR0 := Aside0.mk hr0
  have HC0 := Aside0.mk hc0
  clear hr0 hc0
  have HB := Aside0.mk (Below.refl w.heap.size w)
  have H : (clavierref18_Text.l0 k l0 (⟨#[]⟩ : ByteArray) 0) = some r := h
  clear h
  have H' := Aside0.mk H
  clear H
  go_enter Tryd.func16, Tryd.ntmps16
  go_wp2
  go_loopg [3, 4] k (fun kq v3 v4 w' => ∃ (x3_1 : ByteArray) (x4_1 : Int), v3 = .string x3_1 ∧ v4 = .int .i64 x4_1 ∧ Aside0 (clavierref18_Text.l0 kq l0 x3_1 x4_1 = some r) ∧ Aside0 (kq ≤ k) ∧ Aside0 (Below w.heap.size w w'))
  case atStart => exact ⟨((⟨#[]⟩ : ByteArray)), (0), (by first | rfl | (simp; done) | (simp [*]; done)), (by first | rfl | (simp; done) | (simp [*]; done)), H', ⟨Nat.le_refl _⟩, ⟨by repeat (first | (with_reducible first | exact HB.out | apply below_alloc | apply pw_below_drewN | apply below_drew1) | exact HB.out)⟩⟩
  case round =>
    clear H'
    try clear c1
    obtain ⟨x3_1, x4_1, rfl, rfl, HA, HK1, HB⟩ := hrel
    cases gk with
    | zero => exact absurd HA.out (by simp [clavierref18_Text.l0])
    | succ k1 =>
      have H := HA.out
      clear HA
      simp only [clavierref18_Text.l0] at H
      by_cases c2 : x4_1 < (l0.length : Int)
      · rw [if_pos c2] at H
        have c2b0 : decide (x4_1 < (l0.length : Int)) = true := decide_eq_true c2
        clear c2
        have HC3 := Aside0.mk H
        clear H
        go_upto_if 13 with (fail)
        go_cut [3] (fun v3 wc => ∃ (kq : Nat) (x3_2 : ByteArray), v3 = .string x3_2 ∧ Aside0 (clavierref18_Text.j1 kq l0 x3_2 x4_1 = some r) ∧ Aside0 (kq ≤ k1) ∧ Aside0 (Below w.heap.size w wc))
        case first =>
          have H := HC3.out
          clear HC3
          by_cases c4 : x4_1 > 0
          · rw [if_pos c4] at H
            have c4b0 : decide (0 < x4_1) = true := decide_eq_true c4
            clear c4
            (first | rw [c4b0] | (simp only [i64_w, i32_w]; rw [c4b0]) | skip)
            by_cases c5 : x3_1.size + 1 ≤ 9223372036854775807
            · rw [if_pos c5] at H
              have c5b0 := eq_true c5
              have c5b1 : decide (x3_1.size + 1 ≤ 9223372036854775807) = true := decide_eq_true c5
              try have c5b2 : (9223372036854775807 < x3_1.size + 1) = False := eq_false (Nat.not_lt.2 c5)
              have H' := Aside0.mk H
              clear H
              go_wp2
              go_meet
              case rel => exact ⟨_, (x3_1 ++ (⟨#[59]⟩ : ByteArray)), (by first | rfl | (simp; done) | (simp [*]; done)), H', ⟨by have := HK1.out; first | omega | exact Nat.le_refl _⟩, ⟨by repeat (first | (with_reducible first | exact HB.out | apply below_alloc | apply pw_below_drewN | apply below_drew1) | exact HB.out)⟩⟩
            · rw [if_neg c5] at H
              exact absurd H (by simp)
          · rw [if_neg c4] at H
            have c4b0 : decide (0 < x4_1) = false := decide_eq_false c4
            clear c4
            (first | rw [c4b0] | (simp only [i64_w, i32_w]; rw [c4b0]) | skip)
            have H' := Aside0.mk H
            clear H
            go_wp2
            go_meet
            case rel => exact ⟨_, (x3_1), (by first | rfl | (simp; done) | (simp [*]; done)), H', ⟨by have := HK1.out; first | omega | exact Nat.le_refl _⟩, ⟨by repeat (first | (with_reducible first | exact HB.out | apply below_alloc | apply pw_below_drewN | apply below_drew1) | exact HB.out)⟩⟩
        case rest =>
          clear HC3
          try clear c1
          try clear c2
          try clear c2b0
          try clear p2
          try clear c4
          try clear c4b0
          try clear c5
          try clear c5b0
          try clear c5b1
          try clear c5b2
          obtain ⟨kq, x3_2, rfl, HA, HJ2, HB⟩ := hcut
          cases kq with
          | zero => exact absurd HA.out (by simp [clavierref18_Text.j1])
          | succ kj2 =>
            have H := HA.out
            clear HA
            simp only [clavierref18_Text.j1] at H
            have H' := Aside0.mk H
            clear H
            go_wp2
            go_loopg [3, 5] kj2 (fun kq v3 v5 w' => ∃ (x3_3 : ByteArray) (x5_3 : Int), v3 = .string x3_3 ∧ v5 = .int .i64 x5_3 ∧ Aside0 (clavierref18_Text.l1 kq l0 x3_3 x4_1 x5_3 = some r) ∧ Aside0 (kq ≤ kj2) ∧ Aside0 (Below w.heap.size w w'))
            case atStart => exact ⟨(x3_2), (0), (by first | rfl | (simp; done) | (simp [*]; done)), (by first | rfl | (simp; done) | (simp [*]; done)), H', ⟨Nat.le_refl _⟩, ⟨by repeat (first | (with_reducible first | exact HB.out | apply below_alloc | apply pw_below_drewN | apply below_drew1) | exact HB.out)⟩⟩
            case round =>
              clear H'
              try clear c1
              try clear c2
              try clear c2b0
              try clear p2
              try clear c4
              try clear c4b0
              try clear c5
              try clear c5b0
              try clear c5b1
              try clear c5b2
              try clear p2
              obtain ⟨x3_3, x5_3, rfl, rfl, HA, HK3, HB⟩ := hrel
              cases gk with
              | zero => exact absurd HA.out (by simp [clavierref18_Text.l1])
              | succ k3 =>
                have H := HA.out
                clear HA
                simp only [clavierref18_Text.l1] at H
                by_cases c6 : 0 ≤ x4_1
                · rw [if_pos c6] at H
                  have c6b0 : decide (0 ≤ x4_1) = true := decide_eq_true c6
                  clear c6
                  by_cases c7 : x4_1 < (l0.length : Int)
                  · rw [if_pos c7] at H
                    have c7b0 : decide (x4_1 < (l0.length : Int)) = true := decide_eq_true c7
                    clear c7
                    by_cases c8 : x5_3 < ((rd_L1 l0 x4_1).length : Int)
                    · rw [if_pos c8] at H
                      have c8b0 : decide (x5_3 < ((rd_L1 l0 x4_1).length : Int)) = true := decide_eq_true c8
                      clear c8
                      by_cases c9 : x5_3 > 0
                      · rw [if_pos c9] at H
                        have c9b0 : decide (0 < x5_3) = true := decide_eq_true c9
                        clear c9
                        by_cases c10 : x3_3.size + 1 ≤ 9223372036854775807
                        · rw [if_pos c10] at H
                          have c10b0 := eq_true c10
                          have c10b1 : decide (x3_3.size + 1 ≤ 9223372036854775807) = true := decide_eq_true c10
                          try have c10b2 : (9223372036854775807 < x3_3.size + 1) = False := eq_false (Nat.not_lt.2 c10)
                          by_cases c11 : 0 ≤ x5_3
                          · rw [if_pos c11] at H
                            have c11b0 : decide (0 ≤ x5_3) = true := decide_eq_true c11
                            clear c11
                            replace H := Option.bind_eq_some_iff.mp H
                            obtain ⟨t285, A120, H⟩ := H
                            replace H : (if (x3_3 ++ (⟨#[58]⟩ : ByteArray)).size + t285.size ≤ 9223372036854775807 then (clavierref18_Text.l1 k3 l0 ((x3_3 ++ (⟨#[58]⟩ : ByteArray)) ++ t285) x4_1 (wrap64 (x5_3 + 1))) else (none)) = some r := H
                            have A12 := Aside0.mk A120
                            clear A120
                            by_cases c13 : (x3_3 ++ (⟨#[58]⟩ : ByteArray)).size + t285.size ≤ 9223372036854775807
                            · rw [if_pos c13] at H
                              have c13b0 := eq_true c13
                              have c13b1 : decide ((x3_3 ++ (⟨#[58]⟩ : ByteArray)).size + t285.size ≤ 9223372036854775807) = true := decide_eq_true c13
                              try (have c13s := c13; simp only [ByteArray.size_append, show (⟨#[58]⟩ : ByteArray).size = 1 from rfl] at c13s; have c13b3 := eq_true c13s)
                              try (have c13t := c13; simp only [ByteArray.size_append, Nat.add_assoc] at c13t; have c13b4 := eq_true c13t)
                              try have c13b2 : (9223372036854775807 < (x3_3 ++ (⟨#[58]⟩ : ByteArray)).size + t285.size) = False := eq_false (Nat.not_lt.2 c13)
                              have H' := Aside0.mk H
                              clear H
                              have p282 : 0 ≤ (x4_1 : Int) := of_decide_eq_true (by first | (with_reducible assumption) | assumption)
                              have q282 : x4_1 < (l0.length : Int) := of_decide_eq_true (by first | (with_reducible assumption) | assumption)
                              obtain ⟨ad282, A282_0, c282_0, e282, hx282_0, hl282_0, hi282_0⟩ := at_L1 HR0.out x4_1 p282 q282
                              cases e282
                              replace hx282_0 := (HB.out.cell (World.block_lt_of_cell? w _ hx282_0)).trans hx282_0
                              have HR282_0 := Aside0.mk hi282_0
                              have HC282_0 := Aside0.mk hl282_0
                              clear hi282_0 hl282_0
                              replace p282 := eq_true p282
                              replace q282 := eq_true q282
                              have p283 : 0 ≤ (x4_1 : Int) := of_decide_eq_true (by first | (with_reducible assumption) | assumption)
                              have q283 : x4_1 < (l0.length : Int) := of_decide_eq_true (by first | (with_reducible assumption) | assumption)
                              obtain ⟨ad283, A283_0, c283_0, e283, hx283_0, hl283_0, hi283_0⟩ := at_L1 HR0.out x4_1 p283 q283
                              obtain rfl : ad282 = ad283 := (by injection e283)
                              replace hx283_0 := (HB.out.cell (World.block_lt_of_cell? w _ hx283_0)).trans hx283_0
                              have HR283_0 := Aside0.mk hi283_0
                              have HC283_0 := Aside0.mk hl283_0
                              clear hi283_0 hl283_0
                              replace p283 := eq_true p283
                              replace q283 := eq_true q283
                              have ea_ := Option.some.inj (hx282_0.symm.trans hx283_0)
                              injection ea_ with ea_ en_ ec_
                              subst ea_
                              subst ec_
                              clear en_
                              have p284 : 0 ≤ (x5_3 : Int) := of_decide_eq_true (by first | (with_reducible assumption) | assumption)
                              have q284 : x5_3 < ((rd_L1 l0 x4_1).length : Int) := of_decide_eq_true (by first | (with_reducible assumption) | assumption)
                              obtain ⟨ad284, e284, hx284_0⟩ := Kd.at_int HR283_0.out x5_3 p284 q284
                              cases e284
                              replace hx284_0 := (HB.out.cell (World.block_lt_of_cell? w _ hx284_0)).trans hx284_0
                              replace p284 := eq_true p284
                              replace q284 := eq_true q284
                              go_wp2_with (first | ((with_reducible refine gate_callee (f := 31) rfl ?_); refine goesL_ (some 37) rfl rfl Tryd.func31 (by kernel_rfl) rfl #[.int .i64 (rd (rd_L1 l0 x4_1) x5_3)] rfl (by (try simp only [List.map_toArray, List.map_cons, List.map_nil]); first | done | rfl | (simp only [List.length_drop, List.length_take]; rfl)) ?_; (with_reducible refine (clavierref01_Text.calls (rd (rd_L1 l0 x4_1) x5_3) t285 _ A12.out).mono ?_); rintro e w14 ⟨rfl, hb⟩; refine ⟨_, rfl, ?_⟩; have n0_ := Aside0.mk (below_step (by repeat (first | (with_reducible first | exact HB.out | apply below_alloc | apply pw_below_drewN | apply below_drew1) | exact HB.out)) hb); clear HB; have HB := n0_; clear n0_; (try clear hb); (try clear hb2); (try clear hk); (try clear hi)))
                              go_roundg k3
                              case measure => have := HK1.out; have := HJ2.out; have := HK3.out; omega
                              case rel => exact ⟨((x3_3 ++ (⟨#[58]⟩ : ByteArray)) ++ t285), (wrap64 (x5_3 + 1)), (by first | rfl | (simp; done) | (simp [*]; done)), (by first | rfl | (simp; done) | (simp [*]; done)), H', ⟨by have := HK1.out; have := HJ2.out; have := HK3.out; omega⟩, ⟨by repeat (first | (with_reducible first | exact HB.out | apply below_alloc | apply pw_below_drewN | apply below_drew1) | exact HB.out)⟩⟩
                            · rw [if_neg c13] at H
                              exact absurd H (by simp)
                          · rw [if_neg c11] at H
                            exact absurd H (by simp)
                        · rw [if_neg c10] at H
                          exact absurd H (by simp)
                      · rw [if_neg c9] at H
                        have c9b0 : decide (0 < x5_3) = false := decide_eq_false c9
                        clear c9
                        by_cases c15 : 0 ≤ x5_3
                        · rw [if_pos c15] at H
                          have c15b0 : decide (0 ≤ x5_3) = true := decide_eq_true c15
                          clear c15
                          replace H := Option.bind_eq_some_iff.mp H
                          obtain ⟨t288, A160, H⟩ := H
                          replace H : (if x3_3.size + t288.size ≤ 9223372036854775807 then (clavierref18_Text.l1 k3 l0 (x3_3 ++ t288) x4_1 (wrap64 (x5_3 + 1))) else (none)) = some r := H
                          have A16 := Aside0.mk A160
                          clear A160
                          by_cases c17 : x3_3.size + t288.size ≤ 9223372036854775807
                          · rw [if_pos c17] at H
                            have c17b0 := eq_true c17
                            have c17b1 : decide (x3_3.size + t288.size ≤ 9223372036854775807) = true := decide_eq_true c17
                            try have c17b2 : (9223372036854775807 < x3_3.size + t288.size) = False := eq_false (Nat.not_lt.2 c17)
                            have H' := Aside0.mk H
                            clear H
                            have p282 : 0 ≤ (x4_1 : Int) := of_decide_eq_true (by first | (with_reducible assumption) | assumption)
                            have q282 : x4_1 < (l0.length : Int) := of_decide_eq_true (by first | (with_reducible assumption) | assumption)
                            obtain ⟨ad282, A282_0, c282_0, e282, hx282_0, hl282_0, hi282_0⟩ := at_L1 HR0.out x4_1 p282 q282
                            cases e282
                            replace hx282_0 := (HB.out.cell (World.block_lt_of_cell? w _ hx282_0)).trans hx282_0
                            have HR282_0 := Aside0.mk hi282_0
                            have HC282_0 := Aside0.mk hl282_0
                            clear hi282_0 hl282_0
                            replace p282 := eq_true p282
                            replace q282 := eq_true q282
                            have p286 : 0 ≤ (x4_1 : Int) := of_decide_eq_true (by first | (with_reducible assumption) | assumption)
                            have q286 : x4_1 < (l0.length : Int) := of_decide_eq_true (by first | (with_reducible assumption) | assumption)
                            obtain ⟨ad286, A286_0, c286_0, e286, hx286_0, hl286_0, hi286_0⟩ := at_L1 HR0.out x4_1 p286 q286
                            obtain rfl : ad282 = ad286 := (by injection e286)
                            replace hx286_0 := (HB.out.cell (World.block_lt_of_cell? w _ hx286_0)).trans hx286_0
                            have HR286_0 := Aside0.mk hi286_0
                            have HC286_0 := Aside0.mk hl286_0
                            clear hi286_0 hl286_0
                            replace p286 := eq_true p286
                            replace q286 := eq_true q286
                            have ea_ := Option.some.inj (hx282_0.symm.trans hx286_0)
                            injection ea_ with ea_ en_ ec_
                            subst ea_
                            subst ec_
                            clear en_
                            have p287 : 0 ≤ (x5_3 : Int) := of_decide_eq_true (by first | (with_reducible assumption) | assumption)
                            have q287 : x5_3 < ((rd_L1 l0 x4_1).length : Int) := of_decide_eq_true (by first | (with_reducible assumption) | assumption)
                            obtain ⟨ad287, e287, hx287_0⟩ := Kd.at_int HR286_0.out x5_3 p287 q287
                            cases e287
                            replace hx287_0 := (HB.out.cell (World.block_lt_of_cell? w _ hx287_0)).trans hx287_0
                            replace p287 := eq_true p287
                            replace q287 := eq_true q287
                            go_wp2_with (first | ((with_reducible refine gate_callee (f := 31) rfl ?_); refine goesL_ (some 37) rfl rfl Tryd.func31 (by kernel_rfl) rfl #[.int .i64 (rd (rd_L1 l0 x4_1) x5_3)] rfl (by (try simp only [List.map_toArray, List.map_cons, List.map_nil]); first | done | rfl | (simp only [List.length_drop, List.length_take]; rfl)) ?_; (with_reducible refine (clavierref01_Text.calls (rd (rd_L1 l0 x4_1) x5_3) t288 _ A16.out).mono ?_); rintro e w18 ⟨rfl, hb⟩; refine ⟨_, rfl, ?_⟩; have n0_ := Aside0.mk (below_step (by repeat (first | (with_reducible first | exact HB.out | apply below_alloc | apply pw_below_drewN | apply below_drew1) | exact HB.out)) hb); clear HB; have HB := n0_; clear n0_; (try clear hb); (try clear hb2); (try clear hk); (try clear hi)))
                            go_roundg k3
                            case measure => have := HK1.out; have := HJ2.out; have := HK3.out; omega
                            case rel => exact ⟨(x3_3 ++ t288), (wrap64 (x5_3 + 1)), (by first | rfl | (simp; done) | (simp [*]; done)), (by first | rfl | (simp; done) | (simp [*]; done)), H', ⟨by have := HK1.out; have := HJ2.out; have := HK3.out; omega⟩, ⟨by repeat (first | (with_reducible first | exact HB.out | apply below_alloc | apply pw_below_drewN | apply below_drew1) | exact HB.out)⟩⟩
                          · rw [if_neg c17] at H
                            exact absurd H (by simp)
                        · rw [if_neg c15] at H
                          exact absurd H (by simp)
                    · rw [if_neg c8] at H
                      have c8b0 : decide (x5_3 < ((rd_L1 l0 x4_1).length : Int)) = false := decide_eq_false c8
                      clear c8
                      have H' := Aside0.mk H
                      clear H
                      have p282 : 0 ≤ (x4_1 : Int) := of_decide_eq_true (by first | (with_reducible assumption) | assumption)
                      have q282 : x4_1 < (l0.length : Int) := of_decide_eq_true (by first | (with_reducible assumption) | assumption)
                      obtain ⟨ad282, A282_0, c282_0, e282, hx282_0, hl282_0, hi282_0⟩ := at_L1 HR0.out x4_1 p282 q282
                      cases e282
                      replace hx282_0 := (HB.out.cell (World.block_lt_of_cell? w _ hx282_0)).trans hx282_0
                      have HR282_0 := Aside0.mk hi282_0
                      have HC282_0 := Aside0.mk hl282_0
                      clear hi282_0 hl282_0
                      replace p282 := eq_true p282
                      replace q282 := eq_true q282
                      go_wp2
                      go_roundg k3
                      case measure => have := HK1.out; have := HJ2.out; have := HK3.out; omega
                      case rel => exact ⟨(x3_3), (wrap64 (x4_1 + 1)), (by first | rfl | (simp; done) | (simp [*]; done)), (by first | rfl | (simp; done) | (simp [*]; done)), H', ⟨by have := HK1.out; have := HJ2.out; have := HK3.out; omega⟩, ⟨by repeat (first | (with_reducible first | exact HB.out | apply below_alloc | apply pw_below_drewN | apply below_drew1) | exact HB.out)⟩⟩
                  · rw [if_neg c7] at H
                    exact absurd H (by simp)
                · rw [if_neg c6] at H
                  exact absurd H (by simp)
      · rw [if_neg c2] at H
        have c2b0 : decide (x4_1 < (l0.length : Int)) = false := decide_eq_false c2
        clear c2
        obtain rfl := Option.some.inj H
        go_wp2
        go_ret
        exact ⟨by first | rfl | (simp [errW_none, errW_some] <;> rfl) | (simp [*, errW_none, errW_some] <;> rfl), by repeat (first | (with_reducible first | exact HB.out | apply below_alloc | apply pw_below_drewN | apply below_drew1) | exact HB.out)⟩
end Go.Proofs.YtbaigfoioiklkaaDoor.G
end
section
namespace Go.Proofs.YtbaigfoioiklkaaDoor.G
set_option linter.unusedVariables false
set_option linter.unusedSimpArgs false
open Go.RowKit Kit Go.Proofs.YtbaigfoioiklkaaDoorW.PrintWords
theorem one_is (b0 b1 b2 b3 b4 b5 b6 : Bool) (u f b : Int) (l : List Int) (hi : InI l) (k : Nat) (hk : 40 ≤ k) : style_one.f k b0 b1 b2 b3 b4 b5 b6 u f b l = some (oneL b0 b1 b2 b3 b4 b5 b6 u f b l) := by
  unfold style_one.f oneL
  rw [rd_at0, rd_at1]
  by_cases hl : l.length = 0
  · rw [if_pos hl, if_pos (.inl hl)]
  · rw [if_neg hl]
    by_cases h0 : at_ l 0 ≤ 0
    · rw [if_pos h0, if_pos (.inr h0)]
    · rw [if_neg h0, if_neg (show ¬ (l.length = 0 ∨ at_ l 0 ≤ 0) by omega)]
      by_cases h4 : at_ l 0 = 4
      · rw [if_pos h4, if_pos h4]
        congr 9
        by_cases h1 : l.length = 1
        · rw [if_pos h1, if_neg (by omega)]
        · rw [if_neg h1, if_pos (show 1 < l.length by omega)]
      · rw [if_neg h4, if_neg h4, said_is l 30 k (by omega) (by omega) (by omega) (at_in hi 0).2 (.inl rfl), Option.bind_some, said_is l 40 k (by omega) (by omega) (by omega) (at_in hi 0).2 (.inr rfl), Option.bind_some]
def oneS (s : St) (l : List Int) : St := oneL s.1 s.2.1 s.2.2.1 s.2.2.2.1 s.2.2.2.2.1 s.2.2.2.2.2.1 s.2.2.2.2.2.2.1 s.2.2.2.2.2.2.2.1 s.2.2.2.2.2.2.2.2.1 s.2.2.2.2.2.2.2.2.2 l
def foldS (s : St) (l : List (List Int)) : St := l.foldl oneS s
theorem rd_row (l : List (List Int)) (i : Nat) (h : i < l.length) : rd_L1 l (i : Int) = l[i] := by
  unfold rd_L1
  simp [List.getD, h]
theorem Apply_loop (l : List (List Int)) (hi : AllI l) (hl : l.length ≤ 140737488351232) : ∀ d i k (s : St), i + d = l.length → d + 60 ≤ k → style_Apply.l0 k l (l.length : Int) (i : Int) s.1 s.2.1 s.2.2.1 s.2.2.2.1 s.2.2.2.2.1 s.2.2.2.2.2.1 s.2.2.2.2.2.2.1 s.2.2.2.2.2.2.2.1 s.2.2.2.2.2.2.2.2.1 s.2.2.2.2.2.2.2.2.2 = some (foldS s (l.drop i)) := by
  intro d
  induction d with
  | zero =>
    intro i k s hid hk
    obtain ⟨k, rfl⟩ : ∃ m, k = m + 1 := ⟨k - 1, by omega⟩
    rw [style_Apply.l0, if_neg (by omega), List.drop_eq_nil_of_le (by omega)]
    rfl
  | succ d ih =>
    intro i k s hid hk
    obtain ⟨k, rfl⟩ : ∃ m, k = m + 1 := ⟨k - 1, by omega⟩
    have hil : i < l.length := by omega
    have hw : wrap64 ((i : Int) + 1) = ((i + 1 : Nat) : Int) := by unfold wrap64; omega
    rw [style_Apply.l0, if_pos (by omega), if_pos (by omega), if_pos (by omega), rd_row l i hil, one_is _ _ _ _ _ _ _ _ _ _ _ (hi _ (List.getElem_mem hil)) k (by omega), Option.bind_some, hw, List.drop_eq_getElem_cons hil]
    exact ih (i + 1) k (oneS s l[i]) (by omega) (by omega)
theorem Apply_is (s : St) (l : List (List Int)) (hi : AllI l) (hl : l.length ≤ 140737488351232) (k : Nat) (hk : l.length + 60 ≤ k) : style_Apply.f k s.1 s.2.1 s.2.2.1 s.2.2.2.1 s.2.2.2.2.1 s.2.2.2.2.2.1 s.2.2.2.2.2.2.1 s.2.2.2.2.2.2.2.1 s.2.2.2.2.2.2.2.2.1 s.2.2.2.2.2.2.2.2.2 l = some (foldS s l) := by
  have := Apply_loop l hi hl l.length 0 k s (by omega) hk
  simpa [style_Apply.f] using this
end Go.Proofs.YtbaigfoioiklkaaDoor.G
end
section
namespace Go.Proofs.YtbaigfoioiklkaaDoor
set_option linter.unusedVariables false
set_option linter.unusedSimpArgs false
theorem join_snoc (xs : List (List UInt8)) (y sep : List UInt8) : Lib.join (xs ++ [y]) sep = (if xs = [] then y else Lib.join xs sep ++ sep ++ y) := by
  cases xs with
  | nil => simp [Lib.join_one]
  | cons x r =>
    rw [if_neg (by simp), List.cons_append, Lib.join_cons, Lib.join_cons]
    simp [Lib.joinTail, List.append_assoc]
theorem lens_le (xs : List (List UInt8)) (m : Nat) (h : ∀ x ∈ xs, x.length ≤ m) : Lib.lens xs ≤ m * xs.length := by
  induction xs with
  | nil => simp [Lib.lens]
  | cons x r ih =>
    have h1 := ih (fun y hy => h y (by simp [hy]))
    have h2 := h x (by simp)
    simp only [Lib.lens, List.map_cons, List.sum_cons, List.length_cons] at h1 ⊢
    rw [Nat.mul_succ]
    omega
theorem join_le (xs : List (List UInt8)) (sep : List UInt8) (m : Nat) (h : ∀ x ∈ xs, x.length ≤ m) : (Lib.join xs sep).length ≤ (m + sep.length) * xs.length := by
  cases xs with
  | nil => simp [Lib.join_nil]
  | cons x r =>
    have h1 := lens_le (x :: r) m h
    rw [Lib.join_length]
    have h2 : sep.length * r.length ≤ sep.length * (x :: r).length := Nat.mul_le_mul_left _ (by simp)
    rw [Nat.add_mul]
    omega
def partT (r : List Int) : List UInt8 := Lib.join (r.map textL) [58]
def textP (l : List (List Int)) : List UInt8 := Lib.join (l.map partT) [59]
theorem textL_le {n : Int} (h : n ≤ 9223372036854775807) : (textL n).length ≤ 20 := by
  by_cases h0 : 0 ≤ n
  · exact (textL_len h0 h).1
  · unfold textL; rw [if_pos (by omega)]; simp
theorem partT_le (r : List Int) (h : ∀ z ∈ r, z ≤ 9223372036854775807) : (partT r).length ≤ 21 * r.length := by
  have := join_le (r.map textL) [58] 20 (fun x hx => by obtain ⟨z, hz, rfl⟩ := List.mem_map.1 hx; exact textL_le (h z hz))
  simpa [partT] using this
theorem take_snoc_map {α β : Type} (f : α → β) (l : List α) {i : Nat} (h : i < l.length) : (l.take (i + 1)).map f = (l.take i).map f ++ [f l[i]] := by
  rw [List.take_succ_eq_append_getElem h, List.map_append]
  rfl
end Go.Proofs.YtbaigfoioiklkaaDoor
end
section
namespace Go.Proofs.YtbaigfoioiklkaaDoor.G
set_option linter.unusedVariables false
set_option linter.unusedSimpArgs false
open Go.RowKit Kit Go.Proofs.YtbaigfoioiklkaaDoorW.PrintWords
def Small (l : List (List Int)) : Prop := l.length ≤ 100 ∧ ∀ r ∈ l, r.length ≤ 100
theorem numText_is {n : Int} (h0 : -9223372036854775808 ≤ n) (h1 : n ≤ 9223372036854775807) : num_Text.f n = some ⟨(textL n).toArray⟩ := by unfold num_Text.f; rw [if_pos ⟨h0, h1⟩]
theorem refText01_is {n : Int} (h0 : -9223372036854775808 ≤ n) (h1 : n ≤ 9223372036854775807) : clavierref01_Text.f n = some ⟨(textL n).toArray⟩ := by unfold clavierref01_Text.f; rw [if_pos ⟨h0, h1⟩]
theorem join_is (xs : List (List UInt8)) (sep : List UInt8) (m : Nat) (h : ∀ x ∈ xs, x.length ≤ m) (hm : m ≤ 100000) (hs : sep.length = 1) (hx : xs.length ≤ 1000) : strings_Join.f (xs.map fun x => ⟨x.toArray⟩) ⟨sep.toArray⟩ = some ⟨(Lib.join xs sep).toArray⟩ := by
  unfold strings_Join.f
  have e : (xs.map fun x => (⟨x.toArray⟩ : ByteArray)).map (·.data.toList) = xs := by
    rw [List.map_map]
    conv => rhs; rw [← List.map_id xs]
    rfl
  have hb := join_le xs sep m h
  rw [e]
  rw [if_pos]
  refine ⟨by rw [List.length_map]; omega, ?_⟩
  show (Lib.join xs sep).length ≤ _
  have : (m + sep.length) * xs.length ≤ 100001 * 1000 := Nat.mul_le_mul (by omega) hx
  omega
theorem text_inner (l : List (List Int)) (x3 : List ByteArray) (x10 x11 : Int) (r : List Int) (hi : InI r) (hr : r.length ≤ 100) (hx3 : x3.length ≤ 1000) : ∀ d j k, j + d = r.length → d < k →
    style_Text.l1 k x3 (((r.take j).map textL).map fun x => ⟨x.toArray⟩) l x10 x11 r (r.length : Int) (j : Int) = style_Text.l0 (k - d - 1) (x3 ++ [⟨(partT r).toArray⟩]) l x10 (wrap64 (x11 + 1)) := by
  intro d
  induction d with
  | zero =>
    intro j k hj hk
    obtain ⟨k, rfl⟩ : ∃ m, k = m + 1 := ⟨k - 1, by omega⟩
    have e : r.take j = r := List.take_of_length_le (by omega)
    have hm : ∀ x ∈ r.map textL, x.length ≤ 20 := fun x hx => by
      obtain ⟨z, hz, rfl⟩ := List.mem_map.1 hx
      exact textL_le (hi z hz).2
    have hJ := join_is (r.map textL) [58] 20 hm (by omega) rfl (by simp; omega)
    rw [style_Text.l1, if_neg (by omega), e, show (⟨#[58]⟩ : ByteArray) = ⟨([58] : List UInt8).toArray⟩ from rfl, hJ, Option.bind_some, if_pos (by omega)]
    rfl
  | succ d ih =>
    intro j k hj hk
    obtain ⟨k, rfl⟩ : ∃ m, k = m + 1 := ⟨k - 1, by omega⟩
    have hjl : j < r.length := by omega
    have hw : wrap64 ((j : Int) + 1) = ((j + 1 : Nat) : Int) := by unfold wrap64; omega
    have hz := hi _ (List.getElem_mem hjl)
    have hrd : rd r (j : Int) = r[j] := by unfold rd; simp [List.getD, hjl]
    rw [style_Text.l1, if_pos (by omega), if_pos (by omega), if_pos (by omega), hrd, numText_is hz.1 hz.2, Option.bind_some, if_pos (by simp; omega), hw]
    have e : (((r.take j).map textL).map fun x => (⟨x.toArray⟩ : ByteArray)) ++ [⟨(textL r[j]).toArray⟩] = ((r.take (j + 1)).map textL).map fun x => (⟨x.toArray⟩ : ByteArray) := by
      rw [take_snoc_map textL r hjl]; simp
    rw [e, ih (j + 1) k (by omega) (by omega)]
    congr 1
    omega
theorem text_outer (l : List (List Int)) (hi : AllI l) (hl : Small l) : ∀ d i k, i + d = l.length → d * 110 + 10 ≤ k →
    style_Text.l0 k (((l.take i).map partT).map fun x => ⟨x.toArray⟩) l (l.length : Int) (i : Int) = some ⟨(textP l).toArray⟩ := by
  intro d
  induction d with
  | zero =>
    intro i k hid hk
    obtain ⟨k, rfl⟩ : ∃ m, k = m + 1 := ⟨k - 1, by omega⟩
    have e : l.take i = l := List.take_of_length_le (by omega)
    have hm : ∀ x ∈ l.map partT, x.length ≤ 2100 := fun x hx => by
      obtain ⟨r, hr, rfl⟩ := List.mem_map.1 hx
      have h1 := partT_le r (fun z hz => (hi r hr z hz).2)
      have h2 := hl.2 r hr
      omega
    have h100 := hl.1
    have hJ := join_is (l.map partT) [59] 2100 hm (by omega) rfl (by simp; omega)
    rw [style_Text.l0, if_neg (by omega), e, show (⟨#[59]⟩ : ByteArray) = ⟨([59] : List UInt8).toArray⟩ from rfl, hJ]
    rfl
  | succ d ih =>
    intro i k hid hk
    obtain ⟨k, rfl⟩ : ∃ m, k = m + 1 := ⟨k - 1, by omega⟩
    have hil : i < l.length := by omega
    have h100 := hl.1
    have hr := hl.2 _ (List.getElem_mem hil)
    have hw : wrap64 ((i : Int) + 1) = ((i + 1 : Nat) : Int) := by unfold wrap64; omega
    rw [style_Text.l0, if_pos (by omega), if_pos (by omega), if_pos (by omega), rd_row l i hil]
    have hin := text_inner l (((l.take i).map partT).map fun x => (⟨x.toArray⟩ : ByteArray)) (l.length : Int) (i : Int) l[i] (hi _ (List.getElem_mem hil)) hr (by simp; omega) l[i].length 0 k (by omega) (by omega)
    rw [show (([] : List ByteArray)) = (((l[i].take 0).map textL).map fun x => (⟨x.toArray⟩ : ByteArray)) by simp]
    rw [show (0 : Int) = ((0 : Nat) : Int) from rfl, hin, hw]
    have e : (((l.take i).map partT).map fun x => (⟨x.toArray⟩ : ByteArray)) ++ [⟨(partT l[i]).toArray⟩] = ((l.take (i + 1)).map partT).map fun x => (⟨x.toArray⟩ : ByteArray) := by
      rw [take_snoc_map partT l hil]; simp
    rw [e]
    exact ih (i + 1) _ (by omega) (by omega)
theorem Text_is (l : List (List Int)) (hi : AllI l) (hl : Small l) (k : Nat) (hk : 12000 ≤ k) : style_Text.f k l = some ⟨(textP l).toArray⟩ := by
  have h100 := hl.1
  have := text_outer l hi hl l.length 0 k (by omega) (by omega)
  simpa [style_Text.f] using this
def preT (l : List (List Int)) (i : Nat) : List UInt8 := Lib.join ((l.take i).map partT) [59]
theorem preT_le (l : List (List Int)) (hi : AllI l) (hl : Small l) (i : Nat) : (preT l i).length ≤ 220000 := by
  have h100 := hl.1
  have := join_le ((l.take i).map partT) [59] 2100 (fun x hx => by
    obtain ⟨r, hr, rfl⟩ := List.mem_map.1 hx
    have hr' := List.mem_of_mem_take hr
    have h1 := partT_le r (fun z hz => (hi r hr' z hz).2)
    have h2 := hl.2 r hr'
    omega)
  rw [List.length_map, List.length_take] at this
  have h3 : (2100 + 1) * min i l.length ≤ 2101 * 100 := Nat.mul_le_mul_left _ (by omega)
  unfold preT
  simp only [List.length_singleton] at this
  omega
theorem size_list (a : List UInt8) : (⟨a.toArray⟩ : ByteArray).size = a.length := by simp [ByteArray.size]
theorem ref_inner (l : List (List Int)) (hl : l.length ≤ 100) (i : Nat) (hil : i < l.length) (base : List UInt8) (hb : base.length ≤ 300000) (hi : InI l[i]) (hr : l[i].length ≤ 100) : ∀ d j k, j + d = l[i].length → d < k →
    clavierref18_Text.l1 k l ⟨(base ++ Lib.join ((l[i].take j).map textL) [58]).toArray⟩ (i : Int) (j : Int) = clavierref18_Text.l0 (k - d - 1) l ⟨(base ++ partT l[i]).toArray⟩ ((i + 1 : Nat) : Int) := by
  intro d
  induction d with
  | zero =>
    intro j k hj hk
    obtain ⟨k, rfl⟩ : ∃ m, k = m + 1 := ⟨k - 1, by omega⟩
    have e : l[i].take j = l[i] := List.take_of_length_le (by omega)
    have hw : wrap64 ((i : Int) + 1) = ((i + 1 : Nat) : Int) := by unfold wrap64; omega
    rw [clavierref18_Text.l1, if_pos (by omega), if_pos (by omega), rd_row l i hil, if_neg (by omega), e, hw]
    rfl
  | succ d ih =>
    intro j k hj hk
    obtain ⟨k, rfl⟩ : ∃ m, k = m + 1 := ⟨k - 1, by omega⟩
    have hjl : j < l[i].length := by omega
    have hw : wrap64 ((j : Int) + 1) = ((j + 1 : Nat) : Int) := by unfold wrap64; omega
    have hz := hi _ (List.getElem_mem hjl)
    have hrd : rd l[i] (j : Int) = l[i][j] := by unfold rd; simp [List.getD, hjl]
    have htl := textL_le hz.2
    have hjb : (Lib.join ((l[i].take j).map textL) [58]).length ≤ 2100 := by
      have := join_le ((l[i].take j).map textL) [58] 20 (fun x hx => by
        obtain ⟨z, hz, rfl⟩ := List.mem_map.1 hx
        exact textL_le (hi z (List.mem_of_mem_take hz)).2)
      rw [List.length_map, List.length_take] at this
      have h3 : (20 + 1) * min j l[i].length ≤ 21 * 100 := Nat.mul_le_mul_left _ (by omega)
      simp only [List.length_singleton] at this
      omega
    have hsn := join_snoc ((l[i].take j).map textL) (textL l[i][j]) [58]
    rw [← take_snoc_map textL l[i] hjl] at hsn
    rw [clavierref18_Text.l1, if_pos (by omega), if_pos (by omega), rd_row l i hil, if_pos (by omega)]
    by_cases hj0 : j = 0
    · subst hj0
      rw [if_neg (by decide), if_pos (by decide), hrd, refText01_is hz.1 hz.2, Option.bind_some, if_pos (by rw [size_list, size_list, List.length_append]; omega), hw]
      have e : ((⟨(base ++ Lib.join ((l[i].take 0).map textL) [58]).toArray⟩ : ByteArray) ++ ⟨(textL l[i][0]).toArray⟩) = ⟨(base ++ Lib.join ((l[i].take (0 + 1)).map textL) [58]).toArray⟩ := by
        rw [ByteArray.mk_append_mk, hsn]
        simp [Lib.join_nil]
      rw [e, ih (0 + 1) k (by omega) (by omega)]
      congr 1
      omega
    · rw [if_pos (by omega), if_pos (by rw [size_list, List.length_append]; omega), if_pos (by omega), hrd, refText01_is hz.1 hz.2, Option.bind_some]
      have e1 : ((⟨(base ++ Lib.join ((l[i].take j).map textL) [58]).toArray⟩ : ByteArray) ++ ⟨#[58]⟩) = ⟨(base ++ Lib.join ((l[i].take j).map textL) [58] ++ [58]).toArray⟩ := ByteArray.mk_append_mk _ _
      have e2 : ((⟨(base ++ Lib.join ((l[i].take j).map textL) [58] ++ [58]).toArray⟩ : ByteArray) ++ ⟨(textL l[i][j]).toArray⟩) = ⟨(base ++ Lib.join ((l[i].take (j + 1)).map textL) [58]).toArray⟩ := by
        rw [ByteArray.mk_append_mk, hsn, if_neg (by intro h; have h2 := congrArg List.length h; rw [List.length_map, List.length_take, List.length_nil] at h2; omega)]
        simp [List.append_assoc]
      rw [e1, if_pos (by rw [size_list, size_list, List.length_append, List.length_append]; simp only [List.length_singleton]; omega), e2, hw, ih (j + 1) k (by omega) (by omega)]
      congr 1
      omega
theorem ref_outer (l : List (List Int)) (hi : AllI l) (hl : Small l) : ∀ d i k, i + d = l.length → d * 110 + 10 ≤ k → clavierref18_Text.l0 k l ⟨(preT l i).toArray⟩ (i : Int) = some ⟨(textP l).toArray⟩ := by
  intro d
  induction d with
  | zero =>
    intro i k hid hk
    obtain ⟨k, rfl⟩ : ∃ m, k = m + 1 := ⟨k - 1, by omega⟩
    have e : l.take i = l := List.take_of_length_le (by omega)
    rw [clavierref18_Text.l0, if_neg (by omega)]
    unfold preT textP
    rw [e]
  | succ d ih =>
    intro i k hid hk
    obtain ⟨k, rfl⟩ : ∃ m, k = m + 2 := ⟨k - 2, by omega⟩
    have hil : i < l.length := by omega
    have h100 := hl.1
    have hr := hl.2 _ (List.getElem_mem hil)
    have hp := preT_le l hi hl i
    have hsn := join_snoc ((l.take i).map partT) (partT l[i]) [59]
    rw [← take_snoc_map partT l hil] at hsn
    rw [clavierref18_Text.l0, if_pos (by omega)]
    by_cases hi0 : i = 0
    · subst hi0
      have hin := ref_inner l h100 0 hil (preT l 0) (by omega) (hi _ (List.getElem_mem hil)) hr l[0].length 0 k (by omega) (by omega)
      have hz : preT l 0 ++ Lib.join ((l[0].take 0).map textL) [58] = preT l 0 := by simp [Lib.join_nil]
      rw [hz] at hin
      rw [if_neg (by decide), clavierref18_Text.j1]
      rw [show (((0 : Nat) : Int)) = 0 from rfl] at hin ⊢
      rw [hin]
      have e : preT l 0 ++ partT l[0] = preT l (0 + 1) := by unfold preT; rw [hsn]; simp [Lib.join_nil]
      rw [e]
      exact ih (0 + 1) _ (by omega) (by omega)
    · have hin := ref_inner l h100 i hil (preT l i ++ [59]) (by rw [List.length_append, List.length_singleton]; omega) (hi _ (List.getElem_mem hil)) hr l[i].length 0 k (by omega) (by omega)
      have hz : preT l i ++ [59] ++ Lib.join ((l[i].take 0).map textL) [58] = preT l i ++ [59] := by simp [Lib.join_nil]
      rw [hz] at hin
      have e1 : ((⟨(preT l i).toArray⟩ : ByteArray) ++ ⟨#[59]⟩) = ⟨(preT l i ++ [59]).toArray⟩ := ByteArray.mk_append_mk _ _
      rw [if_pos (by omega), if_pos (by rw [size_list]; omega), e1, clavierref18_Text.j1]
      rw [show (((0 : Nat) : Int)) = 0 from rfl] at hin
      rw [hin]
      have e : preT l i ++ [59] ++ partT l[i] = preT l (i + 1) := by
        unfold preT
        rw [hsn, if_neg (by intro h; have h2 := congrArg List.length h; rw [List.length_map, List.length_take, List.length_nil] at h2; omega)]
      rw [e]
      exact ih (i + 1) _ (by omega) (by omega)
theorem refText_is (l : List (List Int)) (hi : AllI l) (hl : Small l) (k : Nat) (hk : 12000 ≤ k) : clavierref18_Text.f k l = some ⟨(textP l).toArray⟩ := by
  have h100 := hl.1
  have := ref_outer l hi hl l.length 0 k (by omega) (by omega)
  simpa [clavierref18_Text.f, preT, Lib.join_nil] using this
end Go.Proofs.YtbaigfoioiklkaaDoor.G
end
section
namespace Go.Proofs.YtbaigfoioiklkaaDoor.G
open Go.RowKit Go.Proofs.YtbaigfoioiklkaaDoorW.PrintWords Go.Proofs.YtbaigfoioiklkaaDoorW.PrintLast Go.Proofs.YtbaigfoioiklkaaDoorW.PrintMore
attribute [local go_sem] max2_int min2_int max_two min_two max_three min_three max_four min_four
set_option linter.unusedVariables false
set_option linter.unusedSimpArgs false
def clavierref02_Ints.l0 : Nat → List Int → List Int → Int → Option (Bool)
  | 0, _, _, _ => none
  | k + 1, x0, x1, x5 => if x5 < (x0.length : Int) then (if 0 ≤ x5 then (if x5 < (x1.length : Int) then (if (rd x0 x5) = (rd x1 x5) then (clavierref02_Ints.l0 k x0 x1 (wrap64 (x5 + 1))) else (some false)) else (none)) else (none)) else (some true)
def clavierref02_Ints.f (k : Nat) (l0 : List Int) (l1 : List Int) : Option (Bool) := if (l0.length : Int) = (l1.length : Int) then (clavierref02_Ints.l0 k l0 l1 0) else (some false)
theorem clavierref02_Ints.mono_l : ∀ k, (∀ y0 y1 y2, LeO (clavierref02_Ints.l0 k y0 y1 y2) (clavierref02_Ints.l0 (k + 1) y0 y1 y2))
  | 0 => fun _ _ _ r h => by simp [clavierref02_Ints.l0] at h
  | k + 1 => by
    have ih0 := clavierref02_Ints.mono_l k
    · intro y0 y1 y2
      unfold clavierref02_Ints.l0
      repeat' first
      | (with_reducible exact ih0 _ _ _)
      | (with_reducible exact LeO.refl _)
      | (with_reducible exact LeO.none _)
      | (with_reducible refine LeO.ite ?_ ?_)
      | (with_reducible refine LeO.bind ?_ (fun _ => ?_))
      | exact ih0 _ _ _
      | exact LeO.none _
      | refine LeO.ite ?_ ?_
      | refine LeO.bind ?_ (fun _ => ?_)
theorem clavierref02_Ints.mono : ∀ a0 a1 k, LeO (clavierref02_Ints.f k a0 a1) (clavierref02_Ints.f (k + 1) a0 a1) := by
  intro a0 a1 k
  have ih0 := clavierref02_Ints.mono_l k
  unfold clavierref02_Ints.f
  repeat' first
      | (with_reducible exact ih0 _ _ _)
      | (with_reducible exact LeO.refl _)
      | (with_reducible exact LeO.none _)
      | (with_reducible refine LeO.ite ?_ ?_)
      | (with_reducible refine LeO.bind ?_ (fun _ => ?_))
      | exact ih0 _ _ _
      | exact LeO.none _
      | refine LeO.ite ?_ ?_
      | refine LeO.bind ?_ (fun _ => ?_)
set_option maxHeartbeats 8000000 in
set_option maxRecDepth 100000 in
theorem clavierref02_Ints.calls (k : Nat) (A0 : Option Addr) (c0 : Nat) (l0 : List Int) (A1 : Option Addr) (c1 : Nat) (l1 : List Int) (r : Bool) (w : World) (hr0 : Kd.C (Kd.int .i64) w A0 l0.length l0) (hc0 : l0.length ≤ c0) (hr1 : Kd.C (Kd.int .i64) w A1 l1.length l1) (hc1 : l1.length ≤ c1) (h : clavierref02_Ints.f k l0 l1 = some r) :
    Calls Tryd.prog 38 #[.slice A0 l0.length c0, .slice A1 l1.length c1] w fun e w' => e = .returned (.bool r) ∧ Drawn0 w w' := by
  have HR0 := Aside0.mk hr0
  have HC0 := Aside0.mk hc0
  clear hr0 hc0
  have HR1 := Aside0.mk hr1
  have HC1 := Aside0.mk hc1
  clear hr1 hc1
  have H : (if (l0.length : Int) = (l1.length : Int) then (clavierref02_Ints.l0 k l0 l1 0) else (some false)) = some r := h
  clear h
  by_cases c3 : (l0.length : Int) = (l1.length : Int)
  · rw [if_pos c3] at H
    have c3b0 : ((l0.length : Int) == (l1.length : Int)) = true := beq_iff_eq.mpr c3
    have c3b1 : ((l0.length : Int) != (l1.length : Int)) = false := bne_eq_false_iff_eq.mpr c3
    have c3b2 : (l0.length == l1.length) = true := by first | simpa using c3 | (simp at c3 ⊢; omega)
    clear c3
    have H' := Aside0.mk H
    clear H
    go_enter Tryd.func38, Tryd.ntmps38
    go_wp2
    repeat (go_quiet (fail); try go_wp2)
    go_loopg [5] k (fun kq v5 w' => ∃ (x5_1 : Int), v5 = .int .i64 x5_1 ∧ Aside0 (clavierref02_Ints.l0 kq l0 l1 x5_1 = some r) ∧ Aside0 (kq ≤ k) ∧ Drawn0 w w')
    case atStart => exact ⟨(0), (by first | rfl | (simp; done) | (simp [*]; done)), H', ⟨Nat.le_refl _⟩, by repeat (first | exact Drawn0.refl _ | apply Drawn0.step)⟩
    case round =>
      clear H'
      try clear c1
      try clear p2
      try clear c3
      try clear c3b0
      try clear c3b1
      try clear c3b2
      obtain ⟨x5_1, rfl, HA, HK1, ⟨m1, rfl⟩⟩ := hrel
      cases gk with
      | zero => exact absurd HA.out (by simp [clavierref02_Ints.l0])
      | succ k1 =>
        have H := HA.out
        clear HA
        simp only [clavierref02_Ints.l0] at H
        by_cases c4 : x5_1 < (l0.length : Int)
        · rw [if_pos c4] at H
          have c4b0 : decide (x5_1 < (l0.length : Int)) = true := decide_eq_true c4
          clear c4
          by_cases c5 : 0 ≤ x5_1
          · rw [if_pos c5] at H
            have c5b0 : decide (0 ≤ x5_1) = true := decide_eq_true c5
            clear c5
            by_cases c6 : x5_1 < (l1.length : Int)
            · rw [if_pos c6] at H
              have c6b0 : decide (x5_1 < (l1.length : Int)) = true := decide_eq_true c6
              clear c6
              by_cases c7 : (rd l0 x5_1) = (rd l1 x5_1)
              · rw [if_pos c7] at H
                have c7b0 : ((rd l0 x5_1) == (rd l1 x5_1)) = true := beq_iff_eq.mpr c7
                have c7b1 : ((rd l0 x5_1) != (rd l1 x5_1)) = false := bne_eq_false_iff_eq.mpr c7
                clear c7
                have H' := Aside0.mk H
                clear H
                have p274 : 0 ≤ (x5_1 : Int) := of_decide_eq_true (by first | (with_reducible assumption) | assumption)
                have q274 : x5_1 < (l0.length : Int) := of_decide_eq_true (by first | (with_reducible assumption) | assumption)
                obtain ⟨ad274, e274, hx274_0⟩ := Kd.at_int HR0.out x5_1 p274 q274
                cases e274
                replace p274 := eq_true p274
                replace q274 := eq_true q274
                have p275 : 0 ≤ (x5_1 : Int) := of_decide_eq_true (by first | (with_reducible assumption) | assumption)
                have q275 : x5_1 < (l1.length : Int) := of_decide_eq_true (by first | (with_reducible assumption) | assumption)
                obtain ⟨ad275, e275, hx275_0⟩ := Kd.at_int HR1.out x5_1 p275 q275
                cases e275
                replace p275 := eq_true p275
                replace q275 := eq_true q275
                go_wp2
                repeat (go_quiet (fail); try go_wp2)
                go_roundg k1
                case measure => have := HK1.out; omega
                case rel => exact ⟨(wrap64 (x5_1 + 1)), (by first | rfl | (simp; done) | (simp [*]; done)), H', ⟨by have := HK1.out; omega⟩, by repeat (first | exact Drawn0.refl _ | apply Drawn0.step)⟩
              · rw [if_neg c7] at H
                have c7b0 : ((rd l0 x5_1) == (rd l1 x5_1)) = false := beq_eq_false_iff_ne.mpr c7
                have c7b1 : ((rd l0 x5_1) != (rd l1 x5_1)) = true := bne_iff_ne.mpr c7
                obtain rfl := Option.some.inj H
                have p274 : 0 ≤ (x5_1 : Int) := of_decide_eq_true (by first | (with_reducible assumption) | assumption)
                have q274 : x5_1 < (l0.length : Int) := of_decide_eq_true (by first | (with_reducible assumption) | assumption)
                obtain ⟨ad274, e274, hx274_0⟩ := Kd.at_int HR0.out x5_1 p274 q274
                cases e274
                replace p274 := eq_true p274
                replace q274 := eq_true q274
                have p275 : 0 ≤ (x5_1 : Int) := of_decide_eq_true (by first | (with_reducible assumption) | assumption)
                have q275 : x5_1 < (l1.length : Int) := of_decide_eq_true (by first | (with_reducible assumption) | assumption)
                obtain ⟨ad275, e275, hx275_0⟩ := Kd.at_int HR1.out x5_1 p275 q275
                cases e275
                replace p275 := eq_true p275
                replace q275 := eq_true q275
                go_wp2
                repeat (go_quiet (fail); try go_wp2)
                go_ret
                exact ⟨by first | rfl | (simp; done) | (simp [*]; done), by repeat (first | exact Drawn0.refl _ | apply Drawn0.step)⟩
            · rw [if_neg c6] at H
              exact absurd H (by simp)
          · rw [if_neg c5] at H
            exact absurd H (by simp)
        · rw [if_neg c4] at H
          have c4b0 : decide (x5_1 < (l0.length : Int)) = false := decide_eq_false c4
          clear c4
          obtain rfl := Option.some.inj H
          go_wp2
          repeat (go_quiet (fail); try go_wp2)
          go_ret
          exact ⟨by first | rfl | (simp; done) | (simp [*]; done), by repeat (first | exact Drawn0.refl _ | apply Drawn0.step)⟩
  · rw [if_neg c3] at H
    have c3b0 : ((l0.length : Int) == (l1.length : Int)) = false := beq_eq_false_iff_ne.mpr c3
    have c3b1 : ((l0.length : Int) != (l1.length : Int)) = true := bne_iff_ne.mpr c3
    have c3b2 : (l0.length == l1.length) = false := by first | simpa using c3 | (simp at c3 ⊢; omega)
    obtain rfl := Option.some.inj H
    go_enter Tryd.func38, Tryd.ntmps38
    go_wp2
    repeat (go_quiet (fail); try go_wp2)
    go_ret
    exact ⟨by first | rfl | (simp; done) | (simp [*]; done), by repeat (first | exact Drawn0.refl _ | apply Drawn0.step)⟩
end Go.Proofs.YtbaigfoioiklkaaDoor.G
end
