/- The walk of NumBytes. No condition but the size of what is read. -/
import Derived.Test.YtpkelaklajplnaaDoorNuW
import Derived.Test.YtpkelaklajplnaaDoorKitW
import Derived.Test.YtpkelaklajplnaaDoorNuC
import Derived.Laws.Concat
namespace Go.Proofs.YtpkelaklajplnaaDoor
set_option linter.unusedVariables false
set_option linter.unusedSimpArgs false
open Go.RowKit Kit
attribute [local irreducible] wpList Calls wpQuiet

/-- a figure as a small one -/
def lowU (c : UInt8) : UInt8 := if 65 ≤ c.toNat then UInt8.ofNat (c.toNat + 32) else c
def lowAt (l : List UInt8) (k : Nat) : List UInt8 := (l.take k).map lowU ++ l.drop k
theorem lowAt_zero (l : List UInt8) : lowAt l 0 = l := by simp [lowAt]
theorem lowAt_all (l : List UInt8) : lowAt l l.length = l.map lowU := by simp [lowAt]
theorem lowAt_get (l : List UInt8) {k : Nat} (hk : k < l.length) : (lowAt l k)[k]?.getD 0 = l[k]?.getD 0 := by
  unfold lowAt
  rw [List.getElem?_append_right (by simp; omega), List.getElem?_drop]
  simp [Nat.min_eq_left (Nat.le_of_lt hk)]
theorem lowAt_set (l : List UInt8) {k : Nat} (hk : k < l.length) : (lowAt l k).set k (lowU (l[k]?.getD 0)) = lowAt l (k + 1) := by
  unfold lowAt
  have h1 : ((l.take k).map lowU).length = k := by simp; omega
  rw [List.set_append_right _ _ (by omega), h1, Nat.sub_self, List.drop_eq_getElem_cons hk, List.set_cons_zero, List.take_succ_eq_append_getElem hk, List.map_append, List.append_assoc, List.getElem?_eq_getElem hk]
  rfl
theorem lowAt_same (l : List UInt8) {k : Nat} (hk : k < l.length) (h : lowU (l[k]?.getD 0) = l[k]?.getD 0) : lowAt l k = lowAt l (k + 1) := by
  rw [← lowAt_set l hk, h]
  have := lowAt_get l hk
  have hlen : k < (lowAt l k).length := by simp [lowAt]; omega
  rw [List.getElem?_eq_getElem hlen] at this
  simp only [Option.getD_some] at this
  rw [← this, List.set_getElem_self]
theorem lowAt_length (l : List UInt8) (k : Nat) (hk : k ≤ l.length) : (lowAt l k).length = l.length := by simp [lowAt]; omega
theorem valU_low {n : Nat} (h : n < 16) : valU (lowU (figV n)) = n := by
  have : ∀ m, m < 16 → valU (lowU (figV m)) = (m : Int) := by decide
  exact this n h
theorem valU_fig {n : Nat} (h : n < 16) : valU (figV n) = n := by
  have : ∀ m, m < 16 → valU (figV m) = (m : Int) := by decide
  exact this n h
theorem pair_of (f : UInt8 → UInt8) (hf : ∀ n, n < 16 → valU (f (figV n)) = (n : Int)) (c : UInt8) : pairU (f (figV (c.toNat / 16))) (f (figV (c.toNat % 16))) = c := by
  unfold pairU
  rw [hf _ (by have := c.toNat_lt; omega), hf _ (by omega)]
  have : (16 * ((c.toNat / 16 : Nat) : Int) + ((c.toNat % 16 : Nat) : Int)).toNat = c.toNat := by omega
  rw [this]
  simp
theorem unhexL_map (f : UInt8 → UInt8) (hf : ∀ n, n < 16 → valU (f (figV n)) = (n : Int)) (l : List UInt8) : unhexL ((hexL l).map f) = some l := by
  induction l with
  | nil => rfl
  | cons c l ih =>
    have e : hexL (c :: l) = figV (c.toNat / 16) :: figV (c.toNat % 16) :: hexL l := by simp [hexL]
    rw [e, List.map_cons, List.map_cons, unhexL, if_neg, ih, pair_of f hf]
    · rfl
    · rw [hf _ (by have := c.toNat_lt; omega), hf _ (by omega)]
      omega
/-- the figures of some bytes, as large ones or as small ones -/
def figsL (small : Bool) (l : List UInt8) : List UInt8 := if small then (hexL l).map lowU else hexL l
theorem figsL_length (small : Bool) (l : List UInt8) : (figsL small l).length = 2 * l.length := by
  unfold figsL
  cases small <;> simp [hexL_length]
theorem unhexL_figs (small : Bool) (l : List UInt8) : unhexL (figsL small l) = some l := by
  unfold figsL
  cases small
  · have := unhexL_map id (fun n h => valU_fig h) l
    simpa using this
  · exact unhexL_map lowU (fun n h => valU_low h) l
theorem unhexL_figs_odd (small : Bool) (l : List UInt8) : unhexL (figsL small l ++ [48]) = none := unhexL_odd (by rw [List.length_append, figsL_length]; simp)
theorem hexL_hi (l : List UInt8) : ∀ c ∈ hexL l, c.toNat ≤ 70 := by
  intro c hc
  simp only [hexL, List.mem_flatMap] at hc
  obtain ⟨x, _, hx⟩ := hc
  have : ∀ m, m < 16 → (figV m).toNat ≤ 70 := by decide
  simp at hx
  rcases hx with rfl | rfl
  · exact this _ (by have := x.toNat_lt; omega)
  · exact this _ (by omega)

set_option maxRecDepth 100000 in
set_option maxHeartbeats 1600000 in
theorem numBytes_long (small : Bool) (p : Option Addr) (m c : Nat) (h : 100 < m) (w : World) :
    Calls Tryd.prog 6 #[.slice p m c, .bool small] w fun e w' => e = .returned (.bool true) ∧ Below w.heap.size w w' := by
  have b1 : decide ((100 : Int) < (m : Int)) = true := decide_eq_true (by omega)
  have HB := Below.refl w.heap.size w
  go_enter Tryd.func6, Tryd.ntmps6
  go_wp2_with (go_at_call 9; refine (awake01_calls _).mono ?_; rintro e wN ⟨rfl, hbN⟩; have HBN := below_step HB hbN; clear HB hbN; have HB := HBN; clear HBN)
  go_ret
  exact ⟨rfl, HB⟩

set_option maxRecDepth 100000 in
set_option maxHeartbeats 3200000 in
theorem numBytes_short (small : Bool) (p : Option Addr) (m c : Nat) (l : List UInt8) (hl : l.length = m) (h100 : m ≤ 100) (w : World) (hr : Reads w p (l.map byV)) :
    Calls Tryd.prog 6 #[.slice p m c, .bool small] w fun e w' => e = .returned (.bool true) ∧ Below w.heap.size w w' := by
  have b1 : decide ((100 : Int) < (m : Int)) = false := decide_eq_false (by omega)
  have HB := Below.refl w.heap.size w
  have HR := Lib.hid hr
  have HL := Lib.hid hl
  obtain ⟨st, hst⟩ : ∃ st : ByteArray, st = ⟨(hexL l).toArray⟩ := ⟨_, rfl⟩
  obtain ⟨N, hN⟩ : ∃ N : Nat, N = 2 * m := ⟨_, rfl⟩
  have hsz : st.size = N := by rw [hst, hN, ← hl, ← hexL_length]; simp [ByteArray.size]
  have HSD : Hid (st.data.toList = hexL l) := Lib.hid (by rw [hst])
  have HSZ := Lib.hid hsz
  have HN := Lib.hid hN
  have hN200 : N ≤ 200 := by omega
  have HHL : Hid ((hexL l).length = N) := Lib.hid (by rw [hexL_length, hl, hN])
  have HHX : Hid (∀ W, Below w.heap.size w W → Calls Tryd.prog 16 #[.slice p m c] W fun e w' => e = .returned (.string st) ∧ Below W.heap.size W w') := Lib.hid (fun W h => by rw [hst]; exact hex_calls p m c l W hl (by omega) (hr.below h))
  clear hst hsz hN hl hr
  go_enter Tryd.func6, Tryd.ntmps6
  go_wp2_with (first
    | (go_at_call 9; refine (awake01_calls _).mono ?_; rintro e wN ⟨rfl, hbN⟩; have HBN := below_step HB hbN; clear HB hbN; have HB := HBN; clear HBN)
    | (go_at_call 16; refine (HHX.out _ HB).mono ?_; rintro e wN ⟨rfl, hbN⟩; have HBN := below_step HB hbN; clear HB hbN; obtain ⟨cc, wc, hcv, hbc, hrow⟩ := run_row_of (P := Tryd.prog) (src := 9) (dst := 22) (e := 5) (s := st) Tryd.underlying9 Tryd.underlying22 Tryd.underlying5 wN; have HB2 := Lib.hid (below_step HBN hbc); have HG := Lib.hid HBN.size; clear HBN hbc; rw [HSZ.out] at hcv; have HROW := Lib.hid hrow; clear hrow))
  obtain ⟨g, hg⟩ : ∃ g, g = wN.heap.size := ⟨_, rfl⟩
  rw [← hg] at HROW HG ⊢
  clear hg hcv
  have HST : Hid ((lowAt (hexL l) 0) = st.data.toList) := Lib.hid (by rw [lowAt_zero, HSD.out])
  cases small with
  | false =>
    go_loopw [7] (fun i wr => i = .int .i64 0 ∧ Below w.heap.size w wr ∧ Row wr g N cc 5 (hexL l)) (fun i _ => N - (intOf i).toNat)
    case atStart => exact ⟨rfl, HB2.out, by have := HROW.out; rw [HSZ.out, HSD.out] at this; exact this⟩
    case round =>
      obtain ⟨rfl, hB3, hrow3⟩ := hrel
      have hrow3 : Row wr g N cc 5 (figsL false l) := hrow3
      have HROW3 := Lib.hid hrow3
      clear hrow3
      by_cases hlt : 0 < N
      · have k1 : decide ((0 : Int) < (N : Int)) = true := decide_eq_true (by omega)
        obtain ⟨s2, hs2⟩ : ∃ s2 : ByteArray, s2 = ⟨(figsL false l).toArray⟩ := ⟨_, rfl⟩
        have hs2z : s2.size = N := by rw [hs2, HN.out, ← HL.out, ← figsL_length false]; simp [ByteArray.size]
        have hs2d : s2.data.toList = figsL false l := by rw [hs2]
        have HU1 : Hid (∀ W, Calls Tryd.prog 14 #[.string s2] W (UnhexAns (some l) W)) := Lib.hid (fun W => by
          have h := unhex_calls s2 W (by have := HN.out; omega)
          rw [hs2d, unhexL_figs] at h
          exact h)
        have HU2 : Hid (∀ W, Calls Tryd.prog 14 #[.string (s2 ++ ⟨#[48]⟩)] W (UnhexAns none W)) := Lib.hid (fun W => by
          have h := unhex_calls (s2 ++ ⟨#[48]⟩) W (by rw [ByteArray.size_append]; have := HN.out; have e : (⟨#[48]⟩ : ByteArray).size = 1 := rfl; omega)
          have e : (s2 ++ ⟨#[48]⟩ : ByteArray).data.toList = figsL false l ++ [48] := by rw [ByteArray.data_append, Array.toList_append, hs2d]
          rw [e, unhexL_figs_odd] at h
          exact h)
        have hcs : (convert 22 9 (.slice (some ⟨g, 0, none⟩) N cc)).run Tryd.prog wr = .ok (.string s2) wr := by rw [hs2]; exact run_str_of (P := Tryd.prog) (src := 22) (dst := 9) Tryd.underlying22 Tryd.underlying5 Tryd.underlying9 HROW3.out.reads HROW3.out.len
        have HCS : Hid (∀ W, Below wr.heap.size wr W → (convert 22 9 (.slice (some ⟨g, 0, none⟩) N cc)).run Tryd.prog W = .ok (.string s2) W) := Lib.hid (fun W h => by rw [hs2]; exact run_str_of (P := Tryd.prog) (src := 22) (dst := 9) Tryd.underlying22 Tryd.underlying5 Tryd.underlying9 (HROW3.out.below h).reads HROW3.out.len)
        have hadd : ∀ W, (Op.stringOp .add s2 ⟨#[48]⟩).run Tryd.prog W = .ok (.string (s2 ++ ⟨#[48]⟩)) W := fun W => run_string_add_sum W _ _ (by have := HN.out; have e : (⟨#[48]⟩ : ByteArray).size = 1 := rfl; omega)
        have z1 : ¬ (9223372036854775807 < s2.size + 1) := by have := HN.out; omega
        have z2 : IntKind.i64.wrap (2 * (m : Int)) = 2 * m := IntWalk.i64_in _ (by omega)
        have z3 : ((N : Int) == 2 * (m : Int)) = true := beq_iff_eq.2 (by have := HN.out; omega)
        have HB3 := Lib.hid hB3
        clear hs2 hs2z hs2d hB3
        go_wp2_with (first
          | (go_at_call 14; refine (HU1.out _).mono ?_; rintro e w1 ⟨v, rfl, hown, hb1⟩; obtain ⟨p1, c1, rfl, hr1, hc1, _⟩ := hown.reads; clear hown; have hcs1 := HCS.out _ hb1; have HB4 := Lib.hid (below_step HB3.out hb1); have HR1 := Lib.hid hr1; have HD1 := Lib.hid hb1; clear hr1 hc1 hb1)
          | (go_at_call 14; refine (HU2.out _).mono ?_; rintro e w2 ⟨v2, rfl, hown2, hb2⟩; obtain ⟨p2, c2, rfl, hr2, hc2, _⟩ := hown2.reads; clear hown2 hr2 hc2; have HB5 := Lib.hid (below_step HB4.out hb2); have hcs2 := run_str_of (P := Tryd.prog) (src := 22) (dst := 9) Tryd.underlying22 Tryd.underlying5 Tryd.underlying9 (HR1.out.below hb2) (n := l.length) (c := c1) rfl; have hcs3 := run_str_of (P := Tryd.prog) (src := 22) (dst := 9) Tryd.underlying22 Tryd.underlying5 Tryd.underlying9 (HR.out.below HB5.out) (n := m) (c := c) HL.out; clear hb2))
        go_ret
        exact ⟨rfl, HB5.out⟩
      · have k1 : decide ((0 : Int) < (N : Int)) = false := decide_eq_false (by omega)
        obtain ⟨s2, hs2⟩ : ∃ s2 : ByteArray, s2 = ⟨(figsL false l).toArray⟩ := ⟨_, rfl⟩
        have hs2z : s2.size = N := by rw [hs2, HN.out, ← HL.out, ← figsL_length false]; simp [ByteArray.size]
        have hs2d : s2.data.toList = figsL false l := by rw [hs2]
        have HU1 : Hid (∀ W, Calls Tryd.prog 14 #[.string s2] W (UnhexAns (some l) W)) := Lib.hid (fun W => by
          have h := unhex_calls s2 W (by have := HN.out; omega)
          rw [hs2d, unhexL_figs] at h
          exact h)
        have HU2 : Hid (∀ W, Calls Tryd.prog 14 #[.string (s2 ++ ⟨#[48]⟩)] W (UnhexAns none W)) := Lib.hid (fun W => by
          have h := unhex_calls (s2 ++ ⟨#[48]⟩) W (by rw [ByteArray.size_append]; have := HN.out; have e : (⟨#[48]⟩ : ByteArray).size = 1 := rfl; omega)
          have e : (s2 ++ ⟨#[48]⟩ : ByteArray).data.toList = figsL false l ++ [48] := by rw [ByteArray.data_append, Array.toList_append, hs2d]
          rw [e, unhexL_figs_odd] at h
          exact h)
        have hcs : (convert 22 9 (.slice (some ⟨g, 0, none⟩) N cc)).run Tryd.prog wr = .ok (.string s2) wr := by rw [hs2]; exact run_str_of (P := Tryd.prog) (src := 22) (dst := 9) Tryd.underlying22 Tryd.underlying5 Tryd.underlying9 HROW3.out.reads HROW3.out.len
        have HCS : Hid (∀ W, Below wr.heap.size wr W → (convert 22 9 (.slice (some ⟨g, 0, none⟩) N cc)).run Tryd.prog W = .ok (.string s2) W) := Lib.hid (fun W h => by rw [hs2]; exact run_str_of (P := Tryd.prog) (src := 22) (dst := 9) Tryd.underlying22 Tryd.underlying5 Tryd.underlying9 (HROW3.out.below h).reads HROW3.out.len)
        have hadd : ∀ W, (Op.stringOp .add s2 ⟨#[48]⟩).run Tryd.prog W = .ok (.string (s2 ++ ⟨#[48]⟩)) W := fun W => run_string_add_sum W _ _ (by have := HN.out; have e : (⟨#[48]⟩ : ByteArray).size = 1 := rfl; omega)
        have z1 : ¬ (9223372036854775807 < s2.size + 1) := by have := HN.out; omega
        have z2 : IntKind.i64.wrap (2 * (m : Int)) = 2 * m := IntWalk.i64_in _ (by omega)
        have z3 : ((N : Int) == 2 * (m : Int)) = true := beq_iff_eq.2 (by have := HN.out; omega)
        have HB3 := Lib.hid hB3
        clear hs2 hs2z hs2d hB3
        go_wp2_with (first
          | (go_at_call 14; refine (HU1.out _).mono ?_; rintro e w1 ⟨v, rfl, hown, hb1⟩; obtain ⟨p1, c1, rfl, hr1, hc1, _⟩ := hown.reads; clear hown; have hcs1 := HCS.out _ hb1; have HB4 := Lib.hid (below_step HB3.out hb1); have HR1 := Lib.hid hr1; have HD1 := Lib.hid hb1; clear hr1 hc1 hb1)
          | (go_at_call 14; refine (HU2.out _).mono ?_; rintro e w2 ⟨v2, rfl, hown2, hb2⟩; obtain ⟨p2, c2, rfl, hr2, hc2, _⟩ := hown2.reads; clear hown2 hr2 hc2; have HB5 := Lib.hid (below_step HB4.out hb2); have hcs2 := run_str_of (P := Tryd.prog) (src := 22) (dst := 9) Tryd.underlying22 Tryd.underlying5 Tryd.underlying9 (HR1.out.below hb2) (n := l.length) (c := c1) rfl; have hcs3 := run_str_of (P := Tryd.prog) (src := 22) (dst := 9) Tryd.underlying22 Tryd.underlying5 Tryd.underlying9 (HR.out.below HB5.out) (n := m) (c := c) HL.out; clear hb2))
        go_ret
        exact ⟨rfl, HB5.out⟩
  | true =>
    go_loopw [7] (fun i wr => ∃ k : Nat, k ≤ N ∧ i = .int .i64 k ∧ Below w.heap.size w wr ∧ Row wr g N cc 5 (lowAt (hexL l) k)) (fun i _ => N - (intOf i).toNat)
    case atStart => exact ⟨0, Nat.zero_le _, rfl, HB2.out, by have := HROW.out; rw [HSZ.out, ← HST.out] at this; exact this⟩
    case round =>
      obtain ⟨k, hk, rfl, hB3, hrow3⟩ := hrel
      by_cases hlt : k < N
      · have k1 : decide ((k : Int) < (N : Int)) = true := decide_eq_true (by omega)
        have hkl : k < (hexL l).length := by rw [HHL.out]; exact hlt
        obtain ⟨x, hx⟩ : ∃ x : UInt8, x = (hexL l)[k]?.getD 0 := ⟨_, rfl⟩
        have hx70 : x.toNat ≤ 70 := by
          rw [hx, List.getElem?_eq_getElem hkl]
          exact hexL_hi l _ (List.getElem_mem hkl)
        have hcell := hrow3.cell hlt
        have hfree := hrow3.free hlt
        rw [lowAt_get _ hkl, ← hx] at hcell
        by_cases hbig : 65 ≤ x.toNat
        · have k2 : decide ((65 : Int) ≤ (x.toNat : Int)) = true := decide_eq_true (by omega)
          have hlow : (lowU x).toNat = x.toNat + 32 := by
            unfold lowU
            rw [if_pos hbig, UInt8.toNat_ofNat']
            omega
          have k3 : IntKind.u8.wrap ((x.toNat : Int) + 32) = (x.toNat : Int) + 32 := IntWalk.u8_in _ (by omega)
          have hset := hrow3.set hlt (lowU x)
          rw [hx, lowAt_set _ hkl, ← hx, hlow] at hset
          have hset2 : Row (wr.setCell ⟨g, k, none⟩ (.int .u8 ((x.toNat : Int) + 32))) g N cc 5 (lowAt (hexL l) (k + 1)) := by simpa using hset
          have HSET := Lib.hid hset2
          have hB4 : Below w.heap.size w (wr.setCell ⟨g, k, none⟩ (.int .u8 ((x.toNat : Int) + 32))) := hB3.setCell (p := ⟨g, k, none⟩) HG.out _
          have HB4 := Lib.hid hB4
          clear hset hset2 hrow3 hlow hx hx70 hB3 hB4
          go_wp2
          go_roundw
          case rel => exact ⟨k + 1, by omega, by go_num, HB4.out, HSET.out⟩
          case measure => simp [intOf]; omega
        · have k2 : decide ((65 : Int) ≤ (x.toNat : Int)) = false := decide_eq_false (by omega)
          have hsame : lowAt (hexL l) k = lowAt (hexL l) (k + 1) := lowAt_same _ hkl (by rw [← hx]; unfold lowU; rw [if_neg hbig])
          rw [hsame] at hrow3
          have HSET := Lib.hid hrow3
          have HB4 := Lib.hid hB3
          clear hrow3 hx hx70 hB3 hsame
          go_wp2
          go_roundw
          case rel => exact ⟨k + 1, by omega, by go_num, HB4.out, HSET.out⟩
          case measure => simp [intOf]; omega
      · have hkN : k = N := by omega
        subst hkN
        rw [show lowAt (hexL l) k = figsL true l by rw [← HHL.out, lowAt_all]; rfl] at hrow3
        have HROW3 := Lib.hid hrow3
        clear hrow3
        obtain ⟨s2, hs2⟩ : ∃ s2 : ByteArray, s2 = ⟨(figsL true l).toArray⟩ := ⟨_, rfl⟩
        have hs2z : s2.size = k := by rw [hs2, HN.out, ← HL.out, ← figsL_length true]; simp [ByteArray.size]
        have hs2d : s2.data.toList = figsL true l := by rw [hs2]
        have HU1 : Hid (∀ W, Calls Tryd.prog 14 #[.string s2] W (UnhexAns (some l) W)) := Lib.hid (fun W => by
          have h := unhex_calls s2 W (by have := HN.out; omega)
          rw [hs2d, unhexL_figs] at h
          exact h)
        have HU2 : Hid (∀ W, Calls Tryd.prog 14 #[.string (s2 ++ ⟨#[48]⟩)] W (UnhexAns none W)) := Lib.hid (fun W => by
          have h := unhex_calls (s2 ++ ⟨#[48]⟩) W (by rw [ByteArray.size_append]; have := HN.out; have e : (⟨#[48]⟩ : ByteArray).size = 1 := rfl; omega)
          have e : (s2 ++ ⟨#[48]⟩ : ByteArray).data.toList = figsL true l ++ [48] := by rw [ByteArray.data_append, Array.toList_append, hs2d]
          rw [e, unhexL_figs_odd] at h
          exact h)
        have hcs : (convert 22 9 (.slice (some ⟨g, 0, none⟩) k cc)).run Tryd.prog wr = .ok (.string s2) wr := by rw [hs2]; exact run_str_of (P := Tryd.prog) (src := 22) (dst := 9) Tryd.underlying22 Tryd.underlying5 Tryd.underlying9 HROW3.out.reads HROW3.out.len
        have HCS : Hid (∀ W, Below wr.heap.size wr W → (convert 22 9 (.slice (some ⟨g, 0, none⟩) k cc)).run Tryd.prog W = .ok (.string s2) W) := Lib.hid (fun W h => by rw [hs2]; exact run_str_of (P := Tryd.prog) (src := 22) (dst := 9) Tryd.underlying22 Tryd.underlying5 Tryd.underlying9 (HROW3.out.below h).reads HROW3.out.len)
        have hadd : ∀ W, (Op.stringOp .add s2 ⟨#[48]⟩).run Tryd.prog W = .ok (.string (s2 ++ ⟨#[48]⟩)) W := fun W => run_string_add_sum W _ _ (by have := HN.out; have e : (⟨#[48]⟩ : ByteArray).size = 1 := rfl; omega)
        have z1 : ¬ (9223372036854775807 < s2.size + 1) := by have := HN.out; omega
        have z2 : IntKind.i64.wrap (2 * (m : Int)) = 2 * m := IntWalk.i64_in _ (by omega)
        have z3 : ((k : Int) == 2 * (m : Int)) = true := beq_iff_eq.2 (by have := HN.out; omega)
        have HB3 := Lib.hid hB3
        clear hs2 hs2z hs2d hB3
        go_wp2_with (first
          | (go_at_call 14; refine (HU1.out _).mono ?_; rintro e w1 ⟨v, rfl, hown, hb1⟩; obtain ⟨p1, c1, rfl, hr1, hc1, _⟩ := hown.reads; clear hown; have hcs1 := HCS.out _ hb1; have HB4 := Lib.hid (below_step HB3.out hb1); have HR1 := Lib.hid hr1; have HD1 := Lib.hid hb1; clear hr1 hc1 hb1)
          | (go_at_call 14; refine (HU2.out _).mono ?_; rintro e w2 ⟨v2, rfl, hown2, hb2⟩; obtain ⟨p2, c2, rfl, hr2, hc2, _⟩ := hown2.reads; clear hown2 hr2 hc2; have HB5 := Lib.hid (below_step HB4.out hb2); have hcs2 := run_str_of (P := Tryd.prog) (src := 22) (dst := 9) Tryd.underlying22 Tryd.underlying5 Tryd.underlying9 (HR1.out.below hb2) (n := l.length) (c := c1) rfl; have hcs3 := run_str_of (P := Tryd.prog) (src := 22) (dst := 9) Tryd.underlying22 Tryd.underlying5 Tryd.underlying9 (HR.out.below HB5.out) (n := m) (c := c) HL.out; clear hb2))
        go_ret
        exact ⟨rfl, HB5.out⟩

theorem numBytes_calls (small : Bool) (p : Option Addr) (m c : Nat) (l : List UInt8) (hl : l.length = m) (w : World) (hr : Reads w p (l.map byV)) :
    Calls Tryd.prog 6 #[.slice p m c, .bool small] w fun e w' => e = .returned (.bool true) ∧ Below w.heap.size w w' := by
  rcases Nat.lt_or_ge 100 m with h | h
  · exact numBytes_long small p m c h w
  · exact numBytes_short small p m c l hl h w hr

end Go.Proofs.YtpkelaklajplnaaDoor
