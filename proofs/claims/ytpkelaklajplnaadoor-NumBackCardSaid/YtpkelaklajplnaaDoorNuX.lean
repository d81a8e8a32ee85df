/- The walk of NumBack. The condition: the table of the powers of ten reads as the program's text lays it. -/
import Derived.Test.YtpkelaklajplnaaDoorNuW
import Derived.Test.YtpkelaklajplnaaDoorKitW
import Derived.Test.YtpkelaklajplnaaDoorPTx
import Derived.Test.YtpkelaklajplnaaDoorNuC
import Derived.Test.YtpkelaklajplnaaDoorWMore
namespace Go.Proofs.YtpkelaklajplnaaDoor
set_option linter.unusedVariables false
set_option linter.unusedSimpArgs false
open Go.RowKit Kit
attribute [local irreducible] wpList Calls wpQuiet
attribute [local go_sem] Go.Proofs.YtpkelaklajplnaaDoorW.PrintMore.max2_int Go.Proofs.YtpkelaklajplnaaDoorW.PrintMore.min2_int

theorem gate {P : Program} {ops : Array Oper} {Q : Exit → Act → World → Prop} {a : Act} {w : World} {rest : List Oper} {o : Oper} (h : wpList P ops Q (o :: rest) a w) : wpList P ops Q (o :: rest) a w := h
theorem takeF_text {n : Int} (h0 : 0 ≤ n) (l : List UInt8) (hl : ∀ x ∈ l.head?, figU x = false) : takeF 0 (textL n ++ l) = (min n 1114111, (textL n).length) := by
  rw [takeF_all _ _ (textL_figs n), foldF_text h0]
  have : ∀ m, takeF m l = (m, 0) := by
    intro m
    cases l with
    | nil => rfl
    | cons x xs =>
      have := hl x rfl
      simp [takeF, this]
  rw [this]
  simp

set_option maxRecDepth 100000 in
set_option maxHeartbeats 1600000 in
theorem numBack_short (n : Int) (p : Option Addr) (m c : Nat) (h : 100 < m) (w : World) :
    Calls Tryd.prog 5 #[.int .i64 n, .slice p m c] w fun e w' => e = .returned (.bool true) ∧ Below w.heap.size w w' := by
  have b1 : decide ((100 : Int) < (m : Int)) = true := decide_eq_true (by omega)
  have HB := Below.refl w.heap.size w
  go_enter Tryd.func5, Tryd.ntmps5
  go_wp2_with (go_at_call 9; refine (awake01_calls _).mono ?_; rintro e wN ⟨rfl, hbN⟩; have HBN := below_step HB hbN; clear HB hbN; have HB := HBN; clear HBN)
  go_ret
  exact ⟨rfl, HB⟩

set_option maxRecDepth 100000 in
set_option maxHeartbeats 3200000 in
theorem numBack_fig (n : Int) (h0 : -9223372036854775808 ≤ n) (h1 : n ≤ 9223372036854775807) (p : Option Addr) (m c : Nat) (l : List UInt8) (hl : l.length = m) (h100 : m ≤ 100) (hm : 0 < m) (hf : figU (l[0]?.getD 0) = true) (w : World) (hr : Reads w p (l.map byV)) (htab : Tab w) :
    Calls Tryd.prog 5 #[.int .i64 n, .slice p m c] w fun e w' => e = .returned (.bool true) ∧ Below w.heap.size w w' := by
  have b1 : decide ((100 : Int) < (m : Int)) = false := decide_eq_false (by omega)
  obtain ⟨b, o, hp, hcell⟩ := hr.byte (k := 0) (by omega)
  rw [Nat.add_zero] at hcell
  have HC : Hid (∀ W, Below w.heap.size w W → W.cell? ⟨b, o, none⟩ = some (.int .u8 ((l[0]?.getD 0).toNat : Int))) := Lib.hid (fun W h => (h.cell (World.block_lt_of_cell? w _ hcell)).trans hcell)
  have g1 : decide ((0 : Int) < (m : Int)) = true := decide_eq_true (by omega)
  have g2 : decide (0 < m) = true := decide_eq_true (by omega)
  obtain ⟨x, hx⟩ : ∃ x : Int, x = ((l[0]?.getD 0).toNat : Int) := ⟨_, rfl⟩
  rw [← hx] at HC
  have hf' := hf
  simp only [figU, Bool.and_eq_true, decide_eq_true_eq] at hf'
  have f1 : decide ((48 : Int) ≤ x) = true := decide_eq_true (by omega)
  have f2 : decide (x ≤ 57) = true := decide_eq_true (by omega)
  clear hf hf' hx hcell hr hl htab
  subst hp
  have HB := Below.refl w.heap.size w
  go_enter Tryd.func5, Tryd.ntmps5
  go_wp2_with (first | (go_at_call 9; refine (awake01_calls _).mono ?_; rintro e wN ⟨rfl, hbN⟩; have HBN := below_step HB hbN; clear HB hbN; have HB := HBN; clear HBN; try (have hcx := HC.out _ HB)))
  go_ret
  exact ⟨rfl, HB⟩

set_option maxRecDepth 100000 in
set_option maxHeartbeats 3200000 in
theorem numBack_nil_neg (n : Int) (h0 : -9223372036854775808 ≤ n) (h1 : n ≤ 9223372036854775807) (p : Option Addr) (c : Nat) (l : List UInt8) (hl : l.length = 0) (hn : n < 0) (w : World) (hr : Reads w p (l.map byV)) (htab : Tab w) :
    Calls Tryd.prog 5 #[.int .i64 n, .slice p 0 c] w fun e w' => e = .returned (.bool true) ∧ Below w.heap.size w w' := by
  have hfig : ∀ x ∈ l.head?, figU x = false := by rw [List.eq_nil_of_length_eq_zero hl]; intro x hx; cases hx
  have t1 : decide (n < 0) = true := decide_eq_true hn
  clear hl hr htab
  have HB := Below.refl w.heap.size w
  go_enter Tryd.func5, Tryd.ntmps5
  go_wp2_with (first | (go_at_call 9; refine (awake01_calls _).mono ?_; rintro e wN ⟨rfl, hbN⟩; have HBN := below_step HB hbN; clear HB hbN; have HB := HBN; clear HBN; try (have hcx := HC.out _ HB)))
  go_ret
  exact ⟨rfl, HB⟩

set_option maxRecDepth 100000 in
set_option maxHeartbeats 3200000 in
theorem numBack_nil (n : Int) (h0 : -9223372036854775808 ≤ n) (h1 : n ≤ 9223372036854775807) (p : Option Addr) (c : Nat) (l : List UInt8) (hl : l.length = 0) (hn : 0 ≤ n) (w : World) (hr : Reads w p (l.map byV)) (htab : Tab w) :
    Calls Tryd.prog 5 #[.int .i64 n, .slice p 0 c] w fun e w' => e = .returned (.bool true) ∧ Below w.heap.size w w' := by
  have hfig : ∀ x ∈ l.head?, figU x = false := by rw [List.eq_nil_of_length_eq_zero hl]; intro x hx; cases hx
  have HR := Lib.hid hr
  have HT := Lib.hid htab
  obtain ⟨st, hst⟩ : ∃ st : ByteArray, st = ⟨(textL n).toArray⟩ := ⟨_, rfl⟩
  have hsz : st.size = (textL n).length := by rw [hst]; simp [ByteArray.size]
  have hsd : st.data.toList = textL n := by rw [hst]
  have hlen := textL_len hn h1
  have HX : Hid (∀ W, Tab W → Calls Tryd.prog 12 #[.int .i64 n] W fun e w' => e = .returned (.string st) ∧ Below W.heap.size W w') := Lib.hid (fun W h => by rw [hst]; exact text_calls n h0 h1 W h)
  obtain ⟨i0, hi, hz0, hz1, hz2⟩ := info_parts info_u8
  have HAP : Hid (∀ (g cc : Nat) (W : World), Row W g st.size cc 5 st.data.toList → ∀ B, B ≤ W.heap.size → B ≤ g → Reads W p (l.map byV) → ∃ A' c' w', (Builtin.append_ #[22, 22] 22 #[.slice (some ⟨g, 0, none⟩) st.size cc, .slice p 0 c]).run Tryd.prog W = .ok (.slice A' (st.size + 0) c') w' ∧ st.size + 0 ≤ c' ∧ Below B W w' ∧ Reads w' A' ((textL n ++ l).map byV)) := Lib.hid (fun g cc W hrow B hB hBg hrd => by rw [← hsd, List.map_append]; exact run_append_marked Tryd.underlying22 hi hz0 hz1 hz2 (by decide) (hrow.marked hBg) hB (by rw [List.length_map]; exact hl) hrd (byV_one _) (by omega))
  have HTK : Hid (∀ (A' : Option Addr) (c' : Nat) (W : World), Reads W A' ((textL n ++ l).map byV) → Calls Tryd.prog 10 #[.slice A' (st.size + 0) c'] W fun e w' => e = .returned (.tuple #[.int .i64 (min n 1114111), .int .i64 (st.size : Nat)]) ∧ w' = W) := Lib.hid (fun A' c' W h => by have := take_calls A' (st.size + 0) c' _ W (by rw [List.length_append, hl, hsz]) (by omega) h; rw [takeF_text hn l hfig, ← hsz] at this; exact this)
  have t1 : decide (n < 0) = false := decide_eq_false (by omega)
  have e1 : (if 1114111 < n then 1114111 else n) = min n 1114111 := by omega
  have e2 : (min n 1114111 == min n 1114111) = true := beq_self_eq_true _
  clear hst hsz hsd hi hz0 hz1 hz2 hlen hl hr htab
  have HB := Below.refl w.heap.size w
  go_enter Tryd.func5, Tryd.ntmps5
  go_wp2_with (first | (go_at_call 9; refine (awake01_calls _).mono ?_; rintro e wN ⟨rfl, hbN⟩; have HBN := below_step HB hbN; clear HB hbN; have HB := HBN; clear HBN; try (have hcx := HC.out _ HB)) | (go_at_call 12; refine (HX.out _ (HT.out.below HB)).mono ?_; rintro e wN ⟨rfl, hbN⟩; have HBN := below_step HB hbN; clear HB hbN; have HB := HBN; clear HBN; obtain ⟨cc, wc, hcv, hbc, hrow⟩ := run_row_of (P := Tryd.prog) (src := 9) (dst := 22) (e := 5) (s := st) Tryd.underlying9 Tryd.underlying22 Tryd.underlying5 wN; obtain ⟨A', c', w2, hap, hc', hb2, hr2⟩ := HAP.out _ _ _ hrow _ hbc.size (Nat.le_refl _) ((HR.out.below HB).below hbc); have HB2 := below_step HB (hbc.trans hb2); have HR2 := Lib.hid hr2; clear HB hbc hb2 hrow hr2 hc') | ((with_reducible refine gate ?_); refine step_append_as hap rfl rfl rfl rfl ?_) | (go_at_call 10; refine (HTK.out _ _ _ HR2.out).mono ?_; rintro e wN ⟨rfl, hwN⟩; have hwM := hwN.symm; subst hwM))
  go_ret
  exact ⟨rfl, HB2⟩

set_option maxRecDepth 100000 in
set_option maxHeartbeats 3200000 in
theorem numBack_lo_neg (n : Int) (h0 : -9223372036854775808 ≤ n) (h1 : n ≤ 9223372036854775807) (p : Option Addr) (m c : Nat) (l : List UInt8) (hl : l.length = m) (h100 : m ≤ 100) (hm : 0 < m) (hf : (l[0]?.getD 0).toNat < 48) (hn : n < 0) (w : World) (hr : Reads w p (l.map byV)) (htab : Tab w) :
    Calls Tryd.prog 5 #[.int .i64 n, .slice p m c] w fun e w' => e = .returned (.bool true) ∧ Below w.heap.size w w' := by
  have b1 : decide ((100 : Int) < (m : Int)) = false := decide_eq_false (by omega)
  have hfig : ∀ x ∈ l.head?, figU x = false := by
    intro x hx
    rw [List.head?_eq_getElem?] at hx
    rw [hx] at hf
    simp only [figU, Option.getD_some] at hf ⊢
    simp; omega
  obtain ⟨b, o, hp, hcell⟩ := hr.byte (k := 0) (by omega)
  rw [Nat.add_zero] at hcell
  have HC : Hid (∀ W, Below w.heap.size w W → W.cell? ⟨b, o, none⟩ = some (.int .u8 ((l[0]?.getD 0).toNat : Int))) := Lib.hid (fun W h => (h.cell (World.block_lt_of_cell? w _ hcell)).trans hcell)
  have g1 : decide ((0 : Int) < (m : Int)) = true := decide_eq_true (by omega)
  have g2 : decide (0 < m) = true := decide_eq_true (by omega)
  obtain ⟨x, hx⟩ : ∃ x : Int, x = ((l[0]?.getD 0).toNat : Int) := ⟨_, rfl⟩
  rw [← hx] at HC
  have f1 : decide ((48 : Int) ≤ x) = false := decide_eq_false (by omega)
  clear hf hx hcell
  have t1 : decide (n < 0) = true := decide_eq_true hn
  clear hl hr htab
  subst hp
  have HB := Below.refl w.heap.size w
  go_enter Tryd.func5, Tryd.ntmps5
  go_wp2_with (first | (go_at_call 9; refine (awake01_calls _).mono ?_; rintro e wN ⟨rfl, hbN⟩; have HBN := below_step HB hbN; clear HB hbN; have HB := HBN; clear HBN; try (have hcx := HC.out _ HB)))
  go_ret
  exact ⟨rfl, HB⟩

set_option maxRecDepth 100000 in
set_option maxHeartbeats 3200000 in
theorem numBack_lo (n : Int) (h0 : -9223372036854775808 ≤ n) (h1 : n ≤ 9223372036854775807) (p : Option Addr) (m c : Nat) (l : List UInt8) (hl : l.length = m) (h100 : m ≤ 100) (hm : 0 < m) (hf : (l[0]?.getD 0).toNat < 48) (hn : 0 ≤ n) (w : World) (hr : Reads w p (l.map byV)) (htab : Tab w) :
    Calls Tryd.prog 5 #[.int .i64 n, .slice p m c] w fun e w' => e = .returned (.bool true) ∧ Below w.heap.size w w' := by
  have b1 : decide ((100 : Int) < (m : Int)) = false := decide_eq_false (by omega)
  have hfig : ∀ x ∈ l.head?, figU x = false := by
    intro x hx
    rw [List.head?_eq_getElem?] at hx
    rw [hx] at hf
    simp only [figU, Option.getD_some] at hf ⊢
    simp; omega
  obtain ⟨b, o, hp, hcell⟩ := hr.byte (k := 0) (by omega)
  rw [Nat.add_zero] at hcell
  have HC : Hid (∀ W, Below w.heap.size w W → W.cell? ⟨b, o, none⟩ = some (.int .u8 ((l[0]?.getD 0).toNat : Int))) := Lib.hid (fun W h => (h.cell (World.block_lt_of_cell? w _ hcell)).trans hcell)
  have g1 : decide ((0 : Int) < (m : Int)) = true := decide_eq_true (by omega)
  have g2 : decide (0 < m) = true := decide_eq_true (by omega)
  obtain ⟨x, hx⟩ : ∃ x : Int, x = ((l[0]?.getD 0).toNat : Int) := ⟨_, rfl⟩
  rw [← hx] at HC
  have f1 : decide ((48 : Int) ≤ x) = false := decide_eq_false (by omega)
  clear hf hx hcell
  have HR := Lib.hid hr
  have HT := Lib.hid htab
  obtain ⟨st, hst⟩ : ∃ st : ByteArray, st = ⟨(textL n).toArray⟩ := ⟨_, rfl⟩
  have hsz : st.size = (textL n).length := by rw [hst]; simp [ByteArray.size]
  have hsd : st.data.toList = textL n := by rw [hst]
  have hlen := textL_len hn h1
  have HX : Hid (∀ W, Tab W → Calls Tryd.prog 12 #[.int .i64 n] W fun e w' => e = .returned (.string st) ∧ Below W.heap.size W w') := Lib.hid (fun W h => by rw [hst]; exact text_calls n h0 h1 W h)
  obtain ⟨i0, hi, hz0, hz1, hz2⟩ := info_parts info_u8
  have HAP : Hid (∀ (g cc : Nat) (W : World), Row W g st.size cc 5 st.data.toList → ∀ B, B ≤ W.heap.size → B ≤ g → Reads W p (l.map byV) → ∃ A' c' w', (Builtin.append_ #[22, 22] 22 #[.slice (some ⟨g, 0, none⟩) st.size cc, .slice p m c]).run Tryd.prog W = .ok (.slice A' (st.size + m) c') w' ∧ st.size + m ≤ c' ∧ Below B W w' ∧ Reads w' A' ((textL n ++ l).map byV)) := Lib.hid (fun g cc W hrow B hB hBg hrd => by rw [← hsd, List.map_append]; exact run_append_marked Tryd.underlying22 hi hz0 hz1 hz2 (by decide) (hrow.marked hBg) hB (by rw [List.length_map]; exact hl) hrd (byV_one _) (by omega))
  have HTK : Hid (∀ (A' : Option Addr) (c' : Nat) (W : World), Reads W A' ((textL n ++ l).map byV) → Calls Tryd.prog 10 #[.slice A' (st.size + m) c'] W fun e w' => e = .returned (.tuple #[.int .i64 (min n 1114111), .int .i64 (st.size : Nat)]) ∧ w' = W) := Lib.hid (fun A' c' W h => by have := take_calls A' (st.size + m) c' _ W (by rw [List.length_append, hl, hsz]) (by omega) h; rw [takeF_text hn l hfig, ← hsz] at this; exact this)
  have t1 : decide (n < 0) = false := decide_eq_false (by omega)
  have e1 : (if 1114111 < n then 1114111 else n) = min n 1114111 := by omega
  have e2 : (min n 1114111 == min n 1114111) = true := beq_self_eq_true _
  clear hst hsz hsd hi hz0 hz1 hz2 hlen hl hr htab
  subst hp
  have HB := Below.refl w.heap.size w
  go_enter Tryd.func5, Tryd.ntmps5
  go_wp2_with (first | (go_at_call 9; refine (awake01_calls _).mono ?_; rintro e wN ⟨rfl, hbN⟩; have HBN := below_step HB hbN; clear HB hbN; have HB := HBN; clear HBN; try (have hcx := HC.out _ HB)) | (go_at_call 12; refine (HX.out _ (HT.out.below HB)).mono ?_; rintro e wN ⟨rfl, hbN⟩; have HBN := below_step HB hbN; clear HB hbN; have HB := HBN; clear HBN; obtain ⟨cc, wc, hcv, hbc, hrow⟩ := run_row_of (P := Tryd.prog) (src := 9) (dst := 22) (e := 5) (s := st) Tryd.underlying9 Tryd.underlying22 Tryd.underlying5 wN; obtain ⟨A', c', w2, hap, hc', hb2, hr2⟩ := HAP.out _ _ _ hrow _ hbc.size (Nat.le_refl _) ((HR.out.below HB).below hbc); have HB2 := below_step HB (hbc.trans hb2); have HR2 := Lib.hid hr2; clear HB hbc hb2 hrow hr2 hc') | ((with_reducible refine gate ?_); refine step_append_as hap rfl rfl rfl rfl ?_) | (go_at_call 10; refine (HTK.out _ _ _ HR2.out).mono ?_; rintro e wN ⟨rfl, hwN⟩; have hwM := hwN.symm; subst hwM))
  go_ret
  exact ⟨rfl, HB2⟩

set_option maxRecDepth 100000 in
set_option maxHeartbeats 3200000 in
theorem numBack_hi_neg (n : Int) (h0 : -9223372036854775808 ≤ n) (h1 : n ≤ 9223372036854775807) (p : Option Addr) (m c : Nat) (l : List UInt8) (hl : l.length = m) (h100 : m ≤ 100) (hm : 0 < m) (hf : 57 < (l[0]?.getD 0).toNat) (hn : n < 0) (w : World) (hr : Reads w p (l.map byV)) (htab : Tab w) :
    Calls Tryd.prog 5 #[.int .i64 n, .slice p m c] w fun e w' => e = .returned (.bool true) ∧ Below w.heap.size w w' := by
  have b1 : decide ((100 : Int) < (m : Int)) = false := decide_eq_false (by omega)
  have hfig : ∀ x ∈ l.head?, figU x = false := by
    intro x hx
    rw [List.head?_eq_getElem?] at hx
    rw [hx] at hf
    simp only [figU, Option.getD_some] at hf ⊢
    simp; omega
  obtain ⟨b, o, hp, hcell⟩ := hr.byte (k := 0) (by omega)
  rw [Nat.add_zero] at hcell
  have HC : Hid (∀ W, Below w.heap.size w W → W.cell? ⟨b, o, none⟩ = some (.int .u8 ((l[0]?.getD 0).toNat : Int))) := Lib.hid (fun W h => (h.cell (World.block_lt_of_cell? w _ hcell)).trans hcell)
  have g1 : decide ((0 : Int) < (m : Int)) = true := decide_eq_true (by omega)
  have g2 : decide (0 < m) = true := decide_eq_true (by omega)
  obtain ⟨x, hx⟩ : ∃ x : Int, x = ((l[0]?.getD 0).toNat : Int) := ⟨_, rfl⟩
  rw [← hx] at HC
  have f1 : decide ((48 : Int) ≤ x) = true := decide_eq_true (by omega)
  have f2 : decide (x ≤ 57) = false := decide_eq_false (by omega)
  clear hf hx hcell
  have t1 : decide (n < 0) = true := decide_eq_true hn
  clear hl hr htab
  subst hp
  have HB := Below.refl w.heap.size w
  go_enter Tryd.func5, Tryd.ntmps5
  go_wp2_with (first | (go_at_call 9; refine (awake01_calls _).mono ?_; rintro e wN ⟨rfl, hbN⟩; have HBN := below_step HB hbN; clear HB hbN; have HB := HBN; clear HBN; try (have hcx := HC.out _ HB)))
  go_ret
  exact ⟨rfl, HB⟩

set_option maxRecDepth 100000 in
set_option maxHeartbeats 3200000 in
theorem numBack_hi (n : Int) (h0 : -9223372036854775808 ≤ n) (h1 : n ≤ 9223372036854775807) (p : Option Addr) (m c : Nat) (l : List UInt8) (hl : l.length = m) (h100 : m ≤ 100) (hm : 0 < m) (hf : 57 < (l[0]?.getD 0).toNat) (hn : 0 ≤ n) (w : World) (hr : Reads w p (l.map byV)) (htab : Tab w) :
    Calls Tryd.prog 5 #[.int .i64 n, .slice p m c] w fun e w' => e = .returned (.bool true) ∧ Below w.heap.size w w' := by
  have b1 : decide ((100 : Int) < (m : Int)) = false := decide_eq_false (by omega)
  have hfig : ∀ x ∈ l.head?, figU x = false := by
    intro x hx
    rw [List.head?_eq_getElem?] at hx
    rw [hx] at hf
    simp only [figU, Option.getD_some] at hf ⊢
    simp; omega
  obtain ⟨b, o, hp, hcell⟩ := hr.byte (k := 0) (by omega)
  rw [Nat.add_zero] at hcell
  have HC : Hid (∀ W, Below w.heap.size w W → W.cell? ⟨b, o, none⟩ = some (.int .u8 ((l[0]?.getD 0).toNat : Int))) := Lib.hid (fun W h => (h.cell (World.block_lt_of_cell? w _ hcell)).trans hcell)
  have g1 : decide ((0 : Int) < (m : Int)) = true := decide_eq_true (by omega)
  have g2 : decide (0 < m) = true := decide_eq_true (by omega)
  obtain ⟨x, hx⟩ : ∃ x : Int, x = ((l[0]?.getD 0).toNat : Int) := ⟨_, rfl⟩
  rw [← hx] at HC
  have f1 : decide ((48 : Int) ≤ x) = true := decide_eq_true (by omega)
  have f2 : decide (x ≤ 57) = false := decide_eq_false (by omega)
  clear hf hx hcell
  have HR := Lib.hid hr
  have HT := Lib.hid htab
  obtain ⟨st, hst⟩ : ∃ st : ByteArray, st = ⟨(textL n).toArray⟩ := ⟨_, rfl⟩
  have hsz : st.size = (textL n).length := by rw [hst]; simp [ByteArray.size]
  have hsd : st.data.toList = textL n := by rw [hst]
  have hlen := textL_len hn h1
  have HX : Hid (∀ W, Tab W → Calls Tryd.prog 12 #[.int .i64 n] W fun e w' => e = .returned (.string st) ∧ Below W.heap.size W w') := Lib.hid (fun W h => by rw [hst]; exact text_calls n h0 h1 W h)
  obtain ⟨i0, hi, hz0, hz1, hz2⟩ := info_parts info_u8
  have HAP : Hid (∀ (g cc : Nat) (W : World), Row W g st.size cc 5 st.data.toList → ∀ B, B ≤ W.heap.size → B ≤ g → Reads W p (l.map byV) → ∃ A' c' w', (Builtin.append_ #[22, 22] 22 #[.slice (some ⟨g, 0, none⟩) st.size cc, .slice p m c]).run Tryd.prog W = .ok (.slice A' (st.size + m) c') w' ∧ st.size + m ≤ c' ∧ Below B W w' ∧ Reads w' A' ((textL n ++ l).map byV)) := Lib.hid (fun g cc W hrow B hB hBg hrd => by rw [← hsd, List.map_append]; exact run_append_marked Tryd.underlying22 hi hz0 hz1 hz2 (by decide) (hrow.marked hBg) hB (by rw [List.length_map]; exact hl) hrd (byV_one _) (by omega))
  have HTK : Hid (∀ (A' : Option Addr) (c' : Nat) (W : World), Reads W A' ((textL n ++ l).map byV) → Calls Tryd.prog 10 #[.slice A' (st.size + m) c'] W fun e w' => e = .returned (.tuple #[.int .i64 (min n 1114111), .int .i64 (st.size : Nat)]) ∧ w' = W) := Lib.hid (fun A' c' W h => by have := take_calls A' (st.size + m) c' _ W (by rw [List.length_append, hl, hsz]) (by omega) h; rw [takeF_text hn l hfig, ← hsz] at this; exact this)
  have t1 : decide (n < 0) = false := decide_eq_false (by omega)
  have e1 : (if 1114111 < n then 1114111 else n) = min n 1114111 := by omega
  have e2 : (min n 1114111 == min n 1114111) = true := beq_self_eq_true _
  clear hst hsz hsd hi hz0 hz1 hz2 hlen hl hr htab
  subst hp
  have HB := Below.refl w.heap.size w
  go_enter Tryd.func5, Tryd.ntmps5
  go_wp2_with (first | (go_at_call 9; refine (awake01_calls _).mono ?_; rintro e wN ⟨rfl, hbN⟩; have HBN := below_step HB hbN; clear HB hbN; have HB := HBN; clear HBN; try (have hcx := HC.out _ HB)) | (go_at_call 12; refine (HX.out _ (HT.out.below HB)).mono ?_; rintro e wN ⟨rfl, hbN⟩; have HBN := below_step HB hbN; clear HB hbN; have HB := HBN; clear HBN; obtain ⟨cc, wc, hcv, hbc, hrow⟩ := run_row_of (P := Tryd.prog) (src := 9) (dst := 22) (e := 5) (s := st) Tryd.underlying9 Tryd.underlying22 Tryd.underlying5 wN; obtain ⟨A', c', w2, hap, hc', hb2, hr2⟩ := HAP.out _ _ _ hrow _ hbc.size (Nat.le_refl _) ((HR.out.below HB).below hbc); have HB2 := below_step HB (hbc.trans hb2); have HR2 := Lib.hid hr2; clear HB hbc hb2 hrow hr2 hc') | ((with_reducible refine gate ?_); refine step_append_as hap rfl rfl rfl rfl ?_) | (go_at_call 10; refine (HTK.out _ _ _ HR2.out).mono ?_; rintro e wN ⟨rfl, hwN⟩; have hwM := hwN.symm; subst hwM))
  go_ret
  exact ⟨rfl, HB2⟩

theorem numBack_calls (n : Int) (h0 : -9223372036854775808 ≤ n) (h1 : n ≤ 9223372036854775807) (p : Option Addr) (m c : Nat) (l : List UInt8) (hl : l.length = m) (w : World) (hr : Reads w p (l.map byV)) (htab : Tab w) :
    Calls Tryd.prog 5 #[.int .i64 n, .slice p m c] w fun e w' => e = .returned (.bool true) ∧ Below w.heap.size w w' := by
  rcases Nat.lt_or_ge 100 m with h | h
  · exact numBack_short n p m c h w
  rcases Nat.eq_zero_or_pos m with hm | hm
  · rcases Int.lt_or_le n 0 with hn | hn
    · subst hm; exact numBack_nil_neg n h0 h1 p c l hl hn w hr htab
    · subst hm; exact numBack_nil n h0 h1 p c l hl hn w hr htab
  rcases Nat.lt_or_ge (l[0]?.getD 0).toNat 48 with hf | hf
  · rcases Int.lt_or_le n 0 with hn | hn
    · exact numBack_lo_neg n h0 h1 p m c l hl h hm hf hn w hr htab
    · exact numBack_lo n h0 h1 p m c l hl h hm hf hn w hr htab
  rcases Nat.lt_or_ge 57 (l[0]?.getD 0).toNat with hg | hg
  · rcases Int.lt_or_le n 0 with hn | hn
    · exact numBack_hi_neg n h0 h1 p m c l hl h hm hg hn w hr htab
    · exact numBack_hi n h0 h1 p m c l hl h hm hg hn w hr htab
  · exact numBack_fig n h0 h1 p m c l hl h hm (by simp only [figU, Bool.and_eq_true, decide_eq_true_eq]; omega) w hr htab

end Go.Proofs.YtpkelaklajplnaaDoor
