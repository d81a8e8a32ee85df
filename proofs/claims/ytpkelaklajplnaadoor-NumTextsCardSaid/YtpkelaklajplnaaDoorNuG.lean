/- The walks of layer 1 (num): Text, and the reference's. The condition: the table of the powers of ten reads as the program's text lays it. -/
import Derived.Test.YtpkelaklajplnaaDoorNuF
import Derived.Test.YtpkelaklajplnaaDoorShelf
import Derived.Lib.LaidTab
import Derived.Lib.ItoaLen
import Derived.Laws.Concat
namespace Go.Proofs.YtpkelaklajplnaaDoor
set_option linter.unusedVariables false
set_option linter.unusedSimpArgs false
open Go.RowKit Kit
attribute [local irreducible] wpList Calls wpQuiet

theorem below_grow (w : World) (k : Nat) (os : Array Obj) : Below w.heap.size w (Sort.grow (w.drewN k) os) := by
  refine ⟨rfl, rfl, rfl, ?_, fun i hi => ?_⟩
  · show w.heap.size ≤ (w.heap ++ os).size
    simp
  · show (w.heap ++ os)[i]? = w.heap[i]?
    rw [Array.getElem?_append_left hi]

/-- the table that Itoa reads -/
def Tab (w : World) : Prop := Lib.TabIs Tryd.prog w "internal/strconv.uint64pow10" .u64 Lib.pow10Tab

set_option maxHeartbeats 800000 in
theorem text_calls (n : Int) (h0 : -9223372036854775808 ≤ n) (h1 : n ≤ 9223372036854775807) (w : World) (htab : Tab w) :
    Calls Tryd.prog 12 #[.int .i64 n] w fun e w' => e = .returned (.string ⟨(textL n).toArray⟩) ∧ Below w.heap.size w w' := by
  have HT := Lib.hid htab
  clear htab
  by_cases hn : n < 0
  · have b1 : decide (n < 0) = true := decide_eq_true hn
    have H : Hid (textL n = []) := Lib.hid (by simp [textL, hn])
    go_enter Tryd.func12, Tryd.ntmps12
    go_wp2
    go_ret
    exact ⟨by rw [H.out]; rfl, Below.refl _ _⟩
  · have b1 : decide (n < 0) = false := decide_eq_false hn
    have H : Hid (textL n = Lib.itoa n) := Lib.hid (by simp [textL, Lib.itoa, hn])
    go_enter Tryd.func12, Tryd.ntmps12
    go_wp2_with (go_at_call 19; refine (Tryd.strconv_Itoa n h0 h1 _ HT.out).mono ?_; rintro e w' ⟨rfl, kN, os, rfl⟩)
    go_ret
    exact ⟨by rw [H.out]; rfl, below_grow _ _ _⟩

theorem textL_nat (i : Nat) : textL i = Lib.decDigits i := by
  have h : ¬ ((i : Int) < 0) := by omega
  simp [textL, h]

theorem text_small (i : Nat) (hi : i < 100) (w : World) :
    Calls Tryd.prog 12 #[.int .i64 (i : Int)] w fun e w' => e = .returned (.string ⟨(textL i).toArray⟩) ∧ w' = w := by
  have b1 : decide ((i : Int) < 0) = false := decide_eq_false (by omega)
  have H : Hid (textL i = Lib.decDigits i) := Lib.hid (textL_nat i)
  go_enter Tryd.func12, Tryd.ntmps12
  go_wp2_with (go_at_call 19; refine (Tryd.strconv_Itoa_small i hi _).mono ?_; rintro e w' ⟨rfl, rfl⟩)
  go_ret
  exact ⟨by rw [H.out]; rfl, rfl⟩

theorem conv_one (d : Nat) (z : Int) (hz : z = (d : Int)) (hd : d < 256) (W : World) :
    ((convert 22 9 (.slice (some ⟨W.heap.size, 0, none⟩) 1 1)).run Tryd.prog (W.alloc (.cells #[.int .u8 z] 5)) = .ok (.string ⟨[UInt8.ofNat d].toArray⟩) (W.alloc (.cells #[.int .u8 z] 5))) ∧
    ((convert 22 9 (.slice (some ⟨W.heap.size, 0, none⟩) 1 1)).run Tryd.prog (W.alloc (.cells #[.int .u8 z] 5)).drew = .ok (.string ⟨[UInt8.ofNat d].toArray⟩) (W.alloc (.cells #[.int .u8 z] 5)).drew) := by
  subst hz
  have e : Value.int .u8 (d : Int) = byV (UInt8.ofNat d) := by
    unfold byV
    rw [UInt8.toNat_ofNat', Nat.mod_eq_of_lt hd]
  rw [e]
  exact ⟨run_str_of Tryd.underlying22 Tryd.underlying5 Tryd.underlying9 (Reads.row (heap_alloc_new W _) (n := 1) rfl) rfl, run_str_of Tryd.underlying22 Tryd.underlying5 Tryd.underlying9 (Reads.row (w := (W.alloc _).drew) (heap_alloc_new W _) (n := 1) rfl) rfl⟩

theorem below_one {w w' : World} {o : Obj} (hb : Below w.drew.heap.size w.drew w') : Below w.heap.size w (w'.alloc o) :=
  (Below.trans ((Below.refl _ w).drew) hb).alloc hb.size o
theorem below_two {w w' : World} {o : Obj} (hb : Below (w.alloc o).drew.heap.size (w.alloc o).drew w') : Below w.heap.size w w' :=
  (((Below.refl _ w).alloc (Nat.le_refl _) o).drew).trans (hb.mono (by rw [sizeAlloc]; omega))
theorem conv_below (d : Nat) (z : Int) (hz : z = (d : Int)) (hd : d < 256) (W w' : World) (hb : Below (W.alloc (.cells #[.int .u8 z] 5)).drew.heap.size (W.alloc (.cells #[.int .u8 z] 5)).drew w') :
    (convert 22 9 (.slice (some ⟨W.heap.size, 0, none⟩) 1 1)).run Tryd.prog w' = .ok (.string ⟨[UInt8.ofNat d].toArray⟩) w' := by
  subst hz
  have e : Value.int .u8 (d : Int) = byV (UInt8.ofNat d) := by
    unfold byV
    rw [UInt8.toNat_ofNat', Nat.mod_eq_of_lt hd]
  rw [e] at hb
  exact run_str_of Tryd.underlying22 Tryd.underlying5 Tryd.underlying9 ((Reads.row (w := (W.alloc _).drew) (heap_alloc_new W _) (n := 1) rfl : Reads (W.alloc (.cells #[byV (UInt8.ofNat d)] 5)).drew (some ⟨W.heap.size, 0, none⟩) ([UInt8.ofNat d].map byV)).below hb) rfl

set_option maxRecDepth 100000 in
set_option maxHeartbeats 3200000 in
theorem refText_nat (n : Nat) : ∀ (w : World), n ≤ 9223372036854775807 → Calls Tryd.prog 13 #[.int .i64 (n : Int)] w fun e w' => e = .returned (.string ⟨(Lib.decDigits n).toArray⟩) ∧ Below w.heap.size w w' := by
  induction n using Nat.strongRecOn with
  | _ n ih =>
    intro w hn
    have b1 : decide ((n : Int) < 0) = false := decide_eq_false (by omega)
    by_cases hs : n < 10
    · have b2 : decide ((n : Int) < 10) = true := decide_eq_true (by omega)
      have e1 : IntKind.u8.wrap (48 + (n : Int)) = 48 + n := IntWalk.u8_in _ (by omega)
      have H : Hid (Lib.decDigits n = [UInt8.ofNat (48 + n)]) := Lib.hid (by rw [Lib.decDigits, dif_pos hs])
      clear ih
      obtain ⟨st, hst⟩ : ∃ st : ByteArray, st = ⟨(Lib.decDigits n).toArray⟩ := ⟨_, rfl⟩
      have hcv := fun W => (conv_one (48 + n) (48 + (n : Int)) (by omega) (by omega) W).1
      rw [← H.out, ← hst] at hcv
      have HST := Lib.hid hst
      clear hst
      go_enter Tryd.func13, Tryd.ntmps13
      go_wp2
      go_ret
      exact ⟨by rw [← HST.out]; rfl, (Below.refl _ _).alloc (Nat.le_refl _) _⟩
    · have b2 : decide ((n : Int) < 10) = false := decide_eq_false (by omega)
      have H : Hid (Lib.decDigits n = Lib.decDigits (n / 10) ++ [UInt8.ofNat (48 + n % 10)]) := Lib.hid (by rw [Lib.decDigits, dif_neg hs])
      obtain ⟨q, hq⟩ : ∃ q, q = n / 10 := ⟨_, rfl⟩
      obtain ⟨r, hr⟩ : ∃ r, r = n % 10 := ⟨_, rfl⟩
      have e2 : (n : Int) / 10 = (q : Int) := by omega
      have e3 : (n : Int).tdiv 10 = (q : Int) := by rw [Int.tdiv_eq_ediv_of_nonneg (by omega)]; exact e2
      have e4 : (n : Int) % 10 = (r : Int) := by omega
      have e5 : (n : Int).tmod 10 = (r : Int) := by rw [Int.tmod_eq_emod_of_nonneg (by omega)]; exact e4
      have hr10 : r < 10 := by omega
      have e6 : IntKind.u8.wrap (48 + (r : Int)) = 48 + r := IntWalk.u8_in _ (by omega)
      have e7 : IntKind.i64.wrap (48 + (r : Int)) = 48 + r := IntWalk.i64_in _ (by omega)
      have e8 : IntKind.i64.wrap (q : Int) = q := IntWalk.i64_in _ (by omega)
      rw [← hq, ← hr] at H
      have IH := Lib.hid (fun W => ih q (by omega) W (by omega))
      clear ih hq hr
      obtain ⟨st, hst⟩ : ∃ st : ByteArray, st = ⟨(Lib.decDigits n).toArray⟩ := ⟨_, rfl⟩
      obtain ⟨sq, hsq⟩ : ∃ sq : ByteArray, sq = ⟨(Lib.decDigits q).toArray⟩ := ⟨_, rfl⟩
      obtain ⟨sr, hsr⟩ : ∃ sr : ByteArray, sr = ⟨[UInt8.ofNat (48 + r)].toArray⟩ := ⟨_, rfl⟩
      have hcv := fun W => (conv_one (48 + r) (48 + (r : Int)) (by omega) (by omega) W).1
      have hcv2 := fun W => (conv_one (48 + r) (48 + (r : Int)) (by omega) (by omega) W).2
      have hcv3 := fun W w' => conv_below (48 + r) (48 + (r : Int)) (by omega) (by omega) W w'
      rw [← hsr] at hcv hcv2 hcv3
      have HCV := Lib.hid hcv3
      clear hcv3
      have hadd : ∀ W, (Op.stringOp .add sq sr).run Tryd.prog W = .ok (.string st) W := fun W => by
        have hl := Lib.decDigits_length q
        have h20 := Lib.nDigits_le20 q (by have : (q : Int) ≤ n := by omega
                                           omega)
        rw [run_string_add_sum _ _ _ (by rw [hsq, hsr]; simp [ByteArray.size]; omega), hst, H.out, hsq, hsr, ByteArray.mk_append_mk]
      rw [← hsq] at IH
      have HST := Lib.hid hst
      clear hst hsq hsr
      go_enter Tryd.func13, Tryd.ntmps13
      go_wp2
      go_region_with (first | (go_at_call 13; refine (IH.out _).mono ?_; rintro e w' ⟨rfl, hbN⟩; (try have hcv4 := HCV.out _ _ hbN)) | fail)
      all_goals
        go_wp2
        go_ret
        first
          | exact ⟨by rw [← HST.out]; rfl, below_one hbN⟩
          | exact ⟨by rw [← HST.out]; rfl, below_two hbN⟩

end Go.Proofs.YtpkelaklajplnaaDoor
