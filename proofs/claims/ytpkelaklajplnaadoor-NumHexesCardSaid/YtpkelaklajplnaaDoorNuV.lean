/- The walks of layer 1 (num): the reference's Unhex. No condition but the size of what is read. -/
import Derived.Test.YtpkelaklajplnaaDoorNuU
namespace Go.Proofs.YtpkelaklajplnaaDoor
set_option linter.unusedVariables false
set_option linter.unusedSimpArgs false
open Go.RowKit Kit
attribute [local irreducible] wpList Calls wpQuiet

theorem unhexL_end {l : List UInt8} {k : Nat} (hg : Good l (2 * k)) (h : l.length = 2 * k) : unhexL l = some (pairs l k) := by
  rw [unhexL_go l k (by omega) hg, List.drop_eq_nil_of_le (by omega)]
  simp [unhexL]

set_option maxRecDepth 100000 in
set_option maxHeartbeats 3200000 in
theorem refUnhex_calls (s : ByteArray) (w : World) (hm : s.size ≤ 1000000) :
    Calls Tryd.prog 15 #[.string s] w (UnhexAns (unhexL s.data.toList) w) := by
  obtain ⟨i0, hi, hz0, hz1, hz2⟩ := info_parts info_u8
  go_enter Tryd.func15, Tryd.ntmps15
  go_wp2
  go_loopw [4, 5] (fun a i wr => ∃ k j : Nat, j ≤ s.size ∧ i = .int .i64 j ∧ Hid (j = 2 * k) ∧ Hid (Good s.data.toList (2 * k)) ∧ wr.ownsRow w.heap.size 5 1 a k ((pairs s.data.toList k).map byV) ∧ Below w.heap.size w wr) (fun _ i _ => s.size - (intOf i).toNat)
  case atStart => exact ⟨0, 0, Nat.zero_le _, rfl, Lib.hid rfl, Lib.hid (fun j hj => by omega), World.ownsRow_nil _ _ _ _, Below.refl _ _⟩
  case round =>
    obtain ⟨k, j, hj, rfl, HJ, HG, hown, hbw⟩ := hrel
    by_cases hlt : j + 1 < s.size
    · have hs1 : j < s.size := by omega
      obtain ⟨x, hx⟩ : ∃ x : UInt8, x = s[j]'hs1 := ⟨_, rfl⟩
      obtain ⟨y, hy⟩ : ∃ y : UInt8, y = s[j + 1]'hlt := ⟨_, rfl⟩
      have HX : Hid (s.data.toList[j]?.getD 0 = x) := Lib.hid (by rw [byte_in s hs1, hx])
      have HY : Hid (s.data.toList[j + 1]?.getD 0 = y) := Lib.hid (by rw [byte_in s hlt, hy])
      have HF1 : Hid (∀ w, Calls Tryd.prog 21 #[.int .u8 ((s[j]'hs1).toNat : Int)] w fun e w' => e = .returned (.int .i64 (valU x)) ∧ w' = w) := Lib.hid (fun w => by rw [hx]; exact refValue_calls _ w)
      have HF2 : Hid (∀ w, Calls Tryd.prog 21 #[.int .u8 ((s[j + 1]'hlt).toNat : Int)] w fun e w' => e = .returned (.int .i64 (valU y)) ∧ w' = w) := Lib.hid (fun w => by rw [hy]; exact refValue_calls _ w)
      have i1 : (j : Int) + 1 < (s.size : Int) := by omega
      have hr1 := valU_range x
      have hr2 := valU_range y
      clear hx hy
      by_cases h1 : valU x < 0
      · have b1 : decide (valU x < 0) = true := decide_eq_true h1
        have H2 : Hid (unhexL s.data.toList = none) := Lib.hid (unhexL_bad (k := j) (by rw [len_in]; exact hs1) (by rw [HX.out]; exact h1))
        clear h1
        go_wp2_with (first | (go_at_call 21; refine (HF1.out _).mono ?_; rintro e w' ⟨rfl, hw'⟩; have hw'' := hw'.symm; subst hw'') | (go_at_call 21; refine (HF2.out _).mono ?_; rintro e w' ⟨rfl, hw'⟩; have hw'' := hw'.symm; subst hw''))
        go_ret2
        exact ⟨.slice none 0 0, by rw [H2.out]; rfl, by rw [H2.out]; exact World.ownsRow_nil _ _ _ _, hbw⟩
      · have b1 : decide (valU x < 0) = false := decide_eq_false h1
        by_cases h2 : valU y < 0
        · have b2 : decide (valU y < 0) = true := decide_eq_true h2
          have H2 : Hid (unhexL s.data.toList = none) := Lib.hid (unhexL_bad (k := j + 1) (by rw [len_in]; exact hlt) (by rw [HY.out]; exact h2))
          clear h1 h2
          go_wp2_with (first | (go_at_call 21; refine (HF1.out _).mono ?_; rintro e w' ⟨rfl, hw'⟩; have hw'' := hw'.symm; subst hw'') | (go_at_call 21; refine (HF2.out _).mono ?_; rintro e w' ⟨rfl, hw'⟩; have hw'' := hw'.symm; subst hw''))
          go_ret2
          exact ⟨.slice none 0 0, by rw [H2.out]; rfl, by rw [H2.out]; exact World.ownsRow_nil _ _ _ _, hbw⟩
        · have b2 : decide (valU y < 0) = false := decide_eq_false h2
          have hg1 : 0 ≤ valU x := by omega
          have hg2 : 0 ≤ valU y := by omega
          have HPV : Hid (byV (pairU (s.data.toList[2 * k]?.getD 0) (s.data.toList[2 * k + 1]?.getD 0)) = .int .u8 (16 * valU x + valU y)) := Lib.hid (by
            rw [← HJ.out, HX.out, HY.out]
            unfold byV
            rw [pairU_toNat hg1 hg2])
          have HG2 : Hid (Good s.data.toList (2 * (k + 1))) := Lib.hid (fun i hi => by
            have hJ := HJ.out
            by_cases e1 : i = j
            · subst e1; rw [HX.out]; exact hg1
            · by_cases e2 : i = j + 1
              · subst e2; rw [HY.out]; exact hg2
              · exact HG.out i (by omega))
          have HJ2 : Hid (j + 2 = 2 * (k + 1)) := Lib.hid (by have := HJ.out; omega)
          have hk1 : k ≤ 1000000 := by have := HJ.out; omega
          have hB := hbw.size
          have h63 : k + 1 ≤ maxLen := by unfold maxLen; omega
          have hby : (k + 1) * 1 ≤ 140737488355328 := by omega
          have hone : ∀ z ∈ [Value.int .u8 (16 * valU x + valU y)], z.oneCell' = true := by simp [Value.oneCell']
          have hbase : ∀ o : Obj, w.heap.size ≤ (wr.alloc o).heap.size := by intro o; simp; omega
          have HH := Lib.hid (And.intro h63 (And.intro hby (And.intro hone hbase)))
          clear h63 hby hone hbase h1 h2
          go_wp2_with (first | (go_at_call 21; refine (HF1.out _).mono ?_; rintro e w' ⟨rfl, hw'⟩; have hw'' := hw'.symm; subst hw'') | (go_at_call 21; refine (HF2.out _).mono ?_; rintro e w' ⟨rfl, hw'⟩; have hw'' := hw'.symm; subst hw'') | (at_builtin; refine wpList_append_lies _ (by rfl) _ _ 22 (by rfl) w.heap.size 5 i0 (.int .u8 0) 1 1 Tryd.underlying22 hi hz0 hz1 hz2 rfl Nat.one_pos _ k ((pairs s.data.toList k).map byV) (by rfl) (hown.alloc _) ⟨wr.heap.size, 0, none⟩ 1 1 [.int .u8 (16 * valU x + valU y)] (by rfl) (by rfl) (World.news_of_block (cs := #[.int .u8 (16 * valU x + valU y)]) (heap_alloc_new wr _)) HH.out.2.2.1 Nat.one_pos HH.out.1 HH.out.2.1 (HH.out.2.2.2 _) (wr.heap.size + 1) (sizeAlloc' _ _) ?_; intro gg cap w1 hown1 hgrow hat hlt1))
          have R1 : w1.ownsRow w.heap.size 5 1 (.slice (some ⟨gg, 0, none⟩) (k + 1) cap) (k + 1) ((pairs s.data.toList (k + 1)).map byV) := by
            simp only [pairs, List.map_append, List.map_cons, List.map_nil]
            rw [HPV.out]
            exact hown1
          have R2 : Below w.heap.size w w1 := (hbw.alloc hB _).grown hgrow (by rw [sizeAlloc']; omega) (fun k hk => (hown.lt k hk).1)
          clear hown1 hgrow hat hlt1 hown HH HPV HF1 HF2
          go_wp2
          go_roundw
          case rel => exact ⟨k + 1, j + 2, by omega, by go_num, HJ2, HG2, R1, R2⟩
          case measure => simp [intOf]; omega
    · obtain ⟨p', c', hv, hr', hc', _⟩ := hown.reads
      subst hv
      have HOW := Lib.hid hown
      clear hown hr' hc'
      have hJ := HJ.out
      have hk1 : k ≤ 1000000 := by omega
      by_cases hodd : j = s.size
      · subst hodd
        have e0 : ((s.size : Int) % 2) = 0 := by omega
        have HU := Lib.hid (unhexL_end (l := s.data.toList) HG.out (by rw [len_in]; exact hJ))
        go_wp2
        go_ret2
        exact ⟨.slice p' k c', by rw [HU.out]; rfl, by rw [HU.out]; simp only [Option.getD_some, pairs_length]; exact HOW.out, hbw⟩
      · have e0 : ((s.size : Int) % 2) = 1 := by omega
        have H2 : Hid (unhexL s.data.toList = none) := Lib.hid (unhexL_odd (by rw [len_in]; omega))
        have i2 : ¬ ((j : Int) + 1 < (s.size : Int)) := by omega
        go_wp2
        go_ret2
        exact ⟨.slice none 0 0, by rw [H2.out]; rfl, by rw [H2.out]; exact World.ownsRow_nil _ _ _ _, hbw⟩

end Go.Proofs.YtpkelaklajplnaaDoor
