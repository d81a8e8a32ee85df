/- The walks of layer 1 (num): Hex, and the reference's. No condition but the sizes of what is read. -/
import Derived.Test.YtpkelaklajplnaaDoorNuB
import Derived.Laws.RangeAny
import Derived.Laws.BitsAllLaws
namespace Go.Proofs.YtpkelaklajplnaaDoor
set_option linter.unusedVariables false
set_option linter.unusedSimpArgs false
open Go.RowKit Kit
attribute [local irreducible] wpList Calls wpQuiet

theorem info_u8 : (Tryd.prog.info? 5).map (fun i => (i.zero, i.size, i.bytes)) = some (some (.int .u8 0), 1, 1) := by kernel_rfl

theorem low4 (x : UInt8) : bits .and .u8 (x.toNat : Int) 15 = ((x.toNat % 16 : Nat) : Int) := by
  have h := u8_and_nat x.toNat 15 x.toNat_lt (by decide)
  rw [show x.toNat &&& 15 = x.toNat % 16 from Nat.and_two_pow_sub_one_eq_mod x.toNat 4] at h
  exact h
def hexS : ByteArray := ⟨#[48, 49, 50, 51, 52, 53, 54, 55, 56, 57, 65, 66, 67, 68, 69, 70]⟩
theorem hexS_at : ∀ u, u < 16 → hexS[u]? = some (figV u) := by decide
theorem hexS_get {u : Nat} (h : u < hexS.size) (hu : u < 16) : hexS[u] = figV u := by
  have h1 := hexS_at u hu
  rw [ByteArray.getElem?_lt' hexS _ h] at h1
  exact Option.some.inj h1
theorem twoCells {w : World} {B : Nat} {x y x' y' : UInt8} (hx : x = x') (hy : y = y') {t : TypeId} {fr : Nat × Nat} (hb : w.heap[B]? = some (.cells #[.int .u8 (x.toNat : Int), .int .u8 (y.toNat : Int)] t fr)) :
    ∀ j z, [byV x', byV y'][j]? = some z → w.cell? ((⟨B, 0, none⟩ : Addr).add j) = some z := by
  subst hx
  subst hy
  exact World.news_of_block hb

set_option maxRecDepth 100000 in
set_option maxHeartbeats 3200000 in
theorem hex_calls (p : Option Addr) (n c : Nat) (l : List UInt8) (w : World) (hl : l.length = n) (hm : n ≤ 1000000) (hr : Reads w p (l.map byV)) :
    Calls Tryd.prog 16 #[.slice p n c] w fun e w' => e = .returned (.string ⟨(hexL l).toArray⟩) ∧ Below w.heap.size w w' := by
  have HL := Lib.hid hl
  have HR := Lib.hid hr
  clear hl hr
  obtain ⟨i0, hi, hz0, hz1, hz2⟩ := info_parts info_u8
  go_enter Tryd.func16, Tryd.ntmps16
  go_wp2_with (at_make; go_loud (refine wpList_make_own _ rfl _ _ 22 rfl w.heap.size 5 i0 (.int .u8 0) 1 Tryd.underlying22 hi hz0 hz1 .i64 .i64 _ (2 * n) rfl rfl (by omega) (by rw [hz2]; omega) (by unfold maxLen; omega) (Nat.le_refl _) ?_; intro wM hownM hgrowM))
  go_loopw [3, 12] (fun v i wr => ∃ k : Nat, k ≤ n ∧ i = .int .i64 k ∧ wr.ownsRow w.heap.size 5 1 v (2 * k) ((hexL (l.take k)).map byV) ∧ Below w.heap.size w wr) (fun _ i _ => n - (intOf i).toNat)
  case atStart => exact ⟨0, Nat.zero_le _, rfl, hownM, (Below.refl _ w).grown hgrowM (Nat.le_refl _) (by simp)⟩
  case round =>
    obtain ⟨k, hk, rfl, hown, hbw⟩ := hrel
    clear hownM hgrowM
    by_cases hlt : k < n
    · obtain ⟨b, o, rfl, hcell0⟩ := HR.out.byte (k := k) (by rw [HL.out]; exact hlt)
      have hcell := (hbw.cell (World.block_lt_of_cell? w _ hcell0)).trans hcell0
      clear hcell0
      obtain ⟨x, hx⟩ : ∃ x : UInt8, x = l[k]?.getD 0 := ⟨_, rfl⟩
      rw [← hx] at hcell
      have HX := Lib.hid hx
      clear hx
      obtain ⟨u, hu⟩ : ∃ u : Nat, u = x.toNat / 16 := ⟨_, rfl⟩
      obtain ⟨v, hv⟩ : ∃ v : Nat, v = x.toNat % 16 := ⟨_, rfl⟩
      have hlt256 := x.toNat_lt
      have e1 : ((x.toNat : Int) / 16) = (u : Int) := by omega
      have e2 : bits .and .u8 (x.toNat : Int) 15 = (v : Int) := by rw [low4 x, hv]
      have hu0 : (0 : Int) ≤ (u : Int) := Int.natCast_nonneg _
      have hu1 : (u : Int) < 16 := by omega
      have hv0 : (0 : Int) ≤ (v : Int) := Int.natCast_nonneg _
      have hv1 : (v : Int) < 16 := by omega
      have hu2 : u < 16 := by omega
      have hv2 : v < 16 := by omega
      have HU := Lib.hid hu
      have HV := Lib.hid hv
      clear hu hv hlt256
      have hB := hbw.size
      have h63 : 2 * k + 2 ≤ maxLen := by unfold maxLen; omega
      have hby : (2 * k + 2) * 1 ≤ 140737488355328 := by omega
      have hone : ∀ z ∈ [byV (figV u), byV (figV v)], z.oneCell' = true := by simp [byV, Value.oneCell']
      have hbase : ∀ o : Obj, w.heap.size ≤ (wr.alloc o).drew.heap.size := by intro o; simp; omega
      have hcs : ∀ (h1 : u < hexS.size) (h2 : v < hexS.size), ∀ j z, [byV (figV u), byV (figV v)][j]? = some z → ((wr.alloc (.cells #[.int .u8 ((hexS[u]'h1).toNat : Int), .int .u8 ((hexS[v]'h2).toNat : Int)] 5)).drew).cell? ((⟨wr.heap.size, 0, none⟩ : Addr).add j) = some z := fun h1 h2 => twoCells (hexS_get h1 hu2) (hexS_get h2 hv2) (heap_alloc_new wr _)
      have HCS := Lib.hid hcs
      have HH := Lib.hid (And.intro h63 (And.intro hby (And.intro hone hbase)))
      clear hcs h63 hby hone hbase
      go_wp2
      go_region_held3 (fun _ => True) (trivial) (first | (refine step_append_lies _ (by rfl) _ _ 22 (by rfl) w.heap.size 5 i0 (.int .u8 0) 1 1 Tryd.underlying22 hi hz0 hz1 hz2 rfl Nat.one_pos _ (2 * k) ((hexL (l.take k)).map byV) (by rfl) ((hown.alloc _).drew) ⟨wr.heap.size, 0, none⟩ 2 2 [byV (figV u), byV (figV v)] (by rfl) (by rfl) (HCS.out _ _) HH.out.2.2.1 Nat.two_pos HH.out.1 HH.out.2.1 (HH.out.2.2.2 _) (wr.heap.size + 1) (sizeAlloc _ _) ?_; intro gg cap w1 hown1 hgrow hat hlt1) | fail)
      all_goals
        have R1 : w1.ownsRow w.heap.size 5 1 (.slice (some ⟨gg, 0, none⟩) (2 * k + 2) cap) (2 * (k + 1)) ((hexL (l.take (k + 1))).map byV) := by
          rw [hexL_step l (by rw [HL.out]; exact hlt), ← HX.out, ← HU.out, ← HV.out, List.map_append]
          exact hown1
        have R2 : Below w.heap.size w w1 := ((hbw.alloc hB _).drew).grown hgrow (by rw [sizeAlloc]; omega) (fun k hk => (hown.lt k hk).1)
        clear hown1 hgrow hat hlt1 hown HCS HH
        go_wp2
        go_roundw
        case rel => exact ⟨k + 1, by omega, by go_num, R1, R2⟩
        case measure => simp [intOf]; omega
    · have hkn : k = n := by omega
      subst hkn
      obtain ⟨p', c', hv, hr', _, _⟩ := hown.reads
      subst hv
      have hcv := run_str_of (P := Tryd.prog) (src := 22) (dst := 9) Tryd.underlying22 Tryd.underlying5 Tryd.underlying9 (c := c') hr' (n := 2 * k) (by rw [hexL_length, List.length_take, HL.out]; omega)
      rw [List.take_of_length_le (by rw [HL.out]; exact Nat.le_refl _)] at hcv
      clear hown hr'
      go_wp2
      go_ret
      exact ⟨rfl, hbw⟩

end Go.Proofs.YtpkelaklajplnaaDoor
