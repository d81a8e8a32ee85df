/- The walks of layer 1 (num): the reference's Hex; Unhex, and the reference's. No condition but the sizes of what is read. -/
import Derived.Test.YtpkelaklajplnaaDoorNuC
namespace Go.Proofs.YtpkelaklajplnaaDoor
set_option linter.unusedVariables false
set_option linter.unusedSimpArgs false
open Go.RowKit Kit
attribute [local irreducible] wpList Calls wpQuiet

set_option maxRecDepth 100000 in
set_option maxHeartbeats 3200000 in
theorem refHex_calls (p : Option Addr) (n c : Nat) (l : List UInt8) (w : World) (hl : l.length = n) (hm : n ≤ 1000000) (hr : Reads w p (l.map byV)) :
    Calls Tryd.prog 17 #[.slice p n c] w fun e w' => e = .returned (.string ⟨(hexL l).toArray⟩) ∧ Below w.heap.size w w' := by
  have HL := Lib.hid hl
  have HR := Lib.hid hr
  clear hl hr
  obtain ⟨i0, hi, hz0, hz1, hz2⟩ := info_parts info_u8
  go_enter Tryd.func17, Tryd.ntmps17
  go_wp2
  go_loopw [3, 4] (fun v i wr => ∃ k : Nat, k ≤ n ∧ i = .int .i64 k ∧ wr.ownsRow w.heap.size 5 1 v (2 * k) ((hexL (l.take k)).map byV) ∧ Below w.heap.size w wr) (fun _ i _ => n - (intOf i).toNat)
  case atStart => exact ⟨0, Nat.zero_le _, rfl, World.ownsRow_nil _ _ _ _, Below.refl _ w⟩
  case round =>
    obtain ⟨k, hk, rfl, hown, hbw⟩ := hrel
    by_cases hlt : k < n
    · obtain ⟨b, o, rfl, hcell0⟩ := HR.out.byte (k := k) (by rw [HL.out]; exact hlt)
      have hcell := (hbw.cell (World.block_lt_of_cell? w _ hcell0)).trans hcell0
      have hbB := World.block_lt_of_cell? w _ hcell0
      have HNE := Lib.hid (fun e => (absurd (hown.lt b (Eq.symm e)).1 (by simp at hbB; omega) : False))
      clear hcell0 hbB
      obtain ⟨x, hx⟩ : ∃ x : UInt8, x = l[k]?.getD 0 := ⟨_, rfl⟩
      rw [← hx] at hcell
      have HX := Lib.hid hx
      clear hx
      obtain ⟨u, hu⟩ : ∃ u : Nat, u = x.toNat / 16 := ⟨_, rfl⟩
      obtain ⟨v, hv⟩ : ∃ v : Nat, v = x.toNat % 16 := ⟨_, rfl⟩
      have hlt256 := x.toNat_lt
      have e1 : ((x.toNat : Int) / 16) = (u : Int) := by omega
      have e2 : ((x.toNat : Int) % 16) = (v : Int) := by omega
      have hx0 : (0 : Int) ≤ (x.toNat : Int) := Int.natCast_nonneg _
      have hu1 : u < 16 := by omega
      have hv1 : v < 16 := by omega
      have e7 : ((x.toNat : Int).tmod 16) = (v : Int) := by rw [Int.tmod_eq_emod_of_nonneg (Int.natCast_nonneg _)]; exact e2
      have e3 : IntKind.u8.wrap (u : Int) = u := IntWalk.u8_in _ (by omega)
      have e4 : IntKind.u8.wrap (v : Int) = v := IntWalk.u8_in _ (by omega)
      have e5 : IntKind.i64.wrap (u : Int) = u := IntWalk.i64_in _ (by omega)
      have e6 : IntKind.i64.wrap (v : Int) = v := IntWalk.i64_in _ (by omega)
      have HU := Lib.hid hu
      have HV := Lib.hid hv
      have HF1 := Lib.hid (figure16_calls u hu1)
      have HF2 := Lib.hid (figure16_calls v hv1)
      clear hu hv
      have hB := hbw.size
      have h63 : 2 * k + 2 ≤ maxLen := by unfold maxLen; omega
      have hby : (2 * k + 2) * 1 ≤ 140737488355328 := by omega
      have hone : ∀ z ∈ [byV (figV u), byV (figV v)], z.oneCell' = true := by simp [byV, Value.oneCell']
      have hbase : ∀ o : Obj, w.heap.size ≤ (wr.alloc o).drew.heap.size := by intro o; simp; omega
      have HH := Lib.hid (And.intro h63 (And.intro hby (And.intro hone hbase)))
      have hi0 : (0 : Int) ≤ (k : Int) := Int.natCast_nonneg _
      have hi1 : (k : Int) < (n : Int) := by omega
      clear h63 hby hone hbase
      go_wp2
      go_region_held3 (fun w' => w'.cell? ⟨b, o + k, none⟩ = some (.int .u8 (x.toNat : Int))) (first | go_keep | exact hgrow.cell ‹_› HNE.out) (first | (go_at_call 22; refine (HF1.out _).mono ?_; rintro e w' ⟨rfl, rfl⟩) | (go_at_call 22; refine (HF2.out _).mono ?_; rintro e w' ⟨rfl, rfl⟩) | (refine step_append_lies _ (by rfl) _ _ 22 (by rfl) w.heap.size 5 i0 (.int .u8 0) 1 1 Tryd.underlying22 hi hz0 hz1 hz2 rfl Nat.one_pos _ (2 * k) ((hexL (l.take k)).map byV) (by rfl) ((hown.alloc _).drew) ⟨wr.heap.size, 0, none⟩ 2 2 [byV (figV u), byV (figV v)] (by rfl) (by rfl) (World.news_of_block (cs := #[byV (figV u), byV (figV v)]) (heap_alloc_new wr _)) HH.out.2.2.1 Nat.two_pos HH.out.1 HH.out.2.1 (HH.out.2.2.2 _) (wr.heap.size + 1) (sizeAlloc _ _) ?_; intro gg cap w1 hown1 hgrow hat hlt1) | fail)
      all_goals
        have R1 : w1.ownsRow w.heap.size 5 1 (.slice (some ⟨gg, 0, none⟩) (2 * k + 2) cap) (2 * (k + 1)) ((hexL (l.take (k + 1))).map byV) := by
          rw [hexL_step l (by rw [HL.out]; exact hlt), ← HX.out, ← HU.out, ← HV.out, List.map_append]
          exact hown1
        have R2 : Below w.heap.size w w1 := ((hbw.alloc hB _).drew).grown hgrow (by rw [sizeAlloc]; omega) (fun k hk => (hown.lt k hk).1)
        clear hown1 hgrow hat hlt1 hown HH
        go_wp2
        go_roundw
        case rel => exact ⟨k + 1, by omega, by go_num, R1, R2⟩
        case measure => simp [intOf]; omega
    · have hkn : k = n := by omega
      subst hkn
      obtain ⟨p', c', hv, hr', _, _⟩ := hown.reads
      subst hv
      have hcv := run_str_of (P := Tryd.prog) (src := 22) (dst := 9) Tryd.underlying22 Tryd.underlying5 Tryd.underlying9 (c := c') hr' (n := 2 * k) (by rw [hexL_length, List.length_take, HL.out]; omega)
      rw [List.take_of_length_le (by rw [HL.out]; exact Nat.le_refl _)] at hcv
      clear hown hr'
      go_wp2
      go_ret
      exact ⟨rfl, hbw⟩

end Go.Proofs.YtpkelaklajplnaaDoor
