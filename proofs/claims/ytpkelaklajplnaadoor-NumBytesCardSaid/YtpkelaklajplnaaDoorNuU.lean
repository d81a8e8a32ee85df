/- The walks of layer 1 (num): Unhex. No condition but the size of what is read. -/
import Derived.Test.YtpkelaklajplnaaDoorNuC
import Derived.Test.YtpkelaklajplnaaDoorKitG
import Derived.Lib.OthersKept
namespace Go.Proofs.YtpkelaklajplnaaDoor
set_option linter.unusedVariables false
set_option linter.unusedSimpArgs false
open Go.RowKit Kit
attribute [local irreducible] wpList Calls wpQuiet

theorem byte_in (s : ByteArray) {k : Nat} (h : k < s.size) : s.data.toList[k]?.getD 0 = s[k]'h := by
  have h' : k < s.data.toList.length := by rw [Array.length_toList]; exact h
  rw [List.getElem?_eq_getElem h']
  rfl
theorem len_in (s : ByteArray) : s.data.toList.length = s.size := by rw [Array.length_toList]; rfl
theorem pairU_toNat {a b : UInt8} (ha : 0 ≤ valU a) (hb : 0 ≤ valU b) : ((pairU a b).toNat : Int) = 16 * valU a + valU b := by
  have h1 := valU_range a
  have h2 := valU_range b
  unfold pairU
  rw [UInt8.toNat_ofNat']
  omega

/-- what Unhex hands back -/
def UnhexAns (o : Option (List UInt8)) (w : World) (e : Ending) (w' : World) : Prop :=
  ∃ v, e = .returned (.tuple #[v, .bool o.isSome]) ∧ w'.ownsRow w.heap.size 5 1 v (o.getD []).length ((o.getD []).map byV) ∧ Below w.heap.size w w'

set_option maxRecDepth 100000 in
set_option maxHeartbeats 3200000 in
theorem unhex_calls (s : ByteArray) (w : World) (hm : s.size ≤ 1000000) :
    Calls Tryd.prog 14 #[.string s] w (UnhexAns (unhexL s.data.toList) w) := by
  obtain ⟨i0, hi, hz0, hz1, hz2⟩ := info_parts info_u8
  by_cases hpar : s.size % 2 = 1
  · have hp1 : ((s.size : Int) % 2) = 1 := by omega
    have H2 : Hid (unhexL s.data.toList = none) := Lib.hid (unhexL_odd (by rw [len_in]; exact hpar))
    go_enter Tryd.func14, Tryd.ntmps14
    go_wp2
    go_ret2
    exact ⟨.slice none 0 0, by rw [H2.out]; rfl, by rw [H2.out]; exact World.ownsRow_nil _ _ _ _, Below.refl _ _⟩
  · have hp1 : ((s.size : Int) % 2) = 0 := by omega
    have HP : Hid (s.size % 2 = 0) := Lib.hid (by omega)
    clear hpar
    go_enter Tryd.func14, Tryd.ntmps14
    go_wp2
    clear hp1
    go_loopw [6] (fun v wr => ∃ k : Nat, k ≤ s.size ∧ wr = w.iter s k ∧ Hid (Good s.data.toList k)) (fun _ wr => s.size - wr.iterPos w.heap.size)
    case atStart => exact ⟨0, Nat.zero_le _, rfl, Lib.hid (fun j hj => by omega)⟩
    case round =>
      obtain ⟨k, hk, rfl, HG⟩ := hrel
      by_cases hlt : k < s.size
      · obtain ⟨x, hx⟩ : ∃ x : UInt8, x = s[k]'hlt := ⟨_, rfl⟩
        have HX : Hid (s.data.toList[k]?.getD 0 = x) := Lib.hid (by rw [byte_in s hlt, hx])
        by_cases ha : x.toNat < 128
        · have hnx : ∀ ty, (Instr.next (.pointer (some ⟨w.heap.size, 0, none⟩)) true ty).run Tryd.prog (w.iter s k) = .ok (.tuple #[.bool true, .int .i64 k, .int .i32 (x.toNat : Int)]) (w.iter s (k + 1)) := by
            intro ty
            rw [hx]
            exact run_next_ascii w s k ty hlt (by rw [← hx]; exact ha)
          have b1 : decide ((127 : Int) < (x.toNat : Int)) = false := decide_eq_false (by omega)
          have g0 : (0 : Int) ≤ (x.toNat : Int) := Int.natCast_nonneg _
          have g1 : (x.toNat : Int) < 128 := by omega
          have HV := Lib.hid (value_calls x)
          clear hx
          by_cases hv : valU x < 0
          · have b2 : decide (valU x < 0) = true := decide_eq_true hv
            have H2 : Hid (unhexL s.data.toList = none) := Lib.hid (unhexL_bad (k := k) (by rw [len_in]; exact hlt) (by rw [HX.out]; exact hv))
            go_wp2_with (go_at_call 20; refine (HV.out _).mono ?_; rintro e w' ⟨rfl, rfl⟩)
            go_ret2
            exact ⟨.slice none 0 0, by rw [H2.out]; rfl, by rw [H2.out]; exact World.ownsRow_nil _ _ _ _, (Below.refl _ _).alloc (Nat.le_refl _) _⟩
          · have b2 : decide (valU x < 0) = false := decide_eq_false hv
            have H2 : Hid (Good s.data.toList (k + 1)) := Lib.hid (fun j hj => by
              by_cases e : j = k
              · subst e; rw [HX.out]; omega
              · exact HG.out j (by omega))
            clear hv
            go_wp2_with (go_at_call 20; refine (HV.out _).mono ?_; rintro e w' ⟨rfl, rfl⟩)
            go_roundw
            case rel => exact ⟨k + 1, by omega, rfl, H2⟩
            case measure =>
              simp only [World.iterPos, World.iter_heap]
              omega
        · have hnx : ∀ ty, (Instr.next (.pointer (some ⟨w.heap.size, 0, none⟩)) true ty).run Tryd.prog (w.iter s k) = _ := fun ty => Lib.run_next_any_at (w.iter s k) w.heap.size s k ty (World.iter_heap w s k) hlt
          have hd := (decode_high s k hlt (by rw [← hx]; omega)).1
          have b1 : decide ((127 : Int) < ((Utf8.decode s k).1 : Int)) = true := decide_eq_true (by omega)
          have hv : valU x < 0 := by unfold valU; rw [if_neg (by omega), if_neg (by omega), if_neg (by omega)]; decide
          have H2 : Hid (unhexL s.data.toList = none) := Lib.hid (unhexL_bad (k := k) (by rw [len_in]; exact hlt) (by rw [HX.out]; exact hv))
          have HB := Lib.below_iterAt (((Below.refl w.heap.size w).alloc (Nat.le_refl _) _ : Below w.heap.size w (w.iter s k))) (Nat.le_refl w.heap.size) s (k + (Utf8.decode s k).2)
          clear hx hv
          go_wp2
          go_ret2
          exact ⟨.slice none 0 0, by rw [H2.out]; rfl, by rw [H2.out]; exact World.ownsRow_nil _ _ _ _, HB⟩
      · have hks : k = s.size := by omega
        have hnx := fun ty => run_next_end (P := Tryd.prog) w s k ty hlt
        subst hks
        obtain ⟨N, hN⟩ : ∃ N, N = s.size / 2 := ⟨_, rfl⟩
        have hN2 : ((s.size : Int) / 2) = (N : Int) := by omega
        have HN : Hid (2 * N = s.size) := Lib.hid (by have := HP.out; omega)
        have hNm : N ≤ 500000 := by omega
        have HU := Lib.hid (unhexL_all (l := s.data.toList) (by rw [len_in]; exact HP.out) (by rw [len_in]; exact HG.out))
        rw [len_in, ← hN] at HU
        have HGG : Hid (Good s.data.toList s.size) := HG
        have HB0 : Below w.heap.size w (w.iter s s.size) := (Below.refl _ _).alloc (Nat.le_refl _) _
        clear hN
        go_wp2
        clear HG
        go_loopw [7, 30] (fun v i wr => ∃ k : Nat, k ≤ N ∧ i = .int .i64 k ∧ wr.ownsRow w.heap.size 5 1 v k ((pairs s.data.toList k).map byV) ∧ Below w.heap.size w wr) (fun _ i _ => N - (intOf i).toNat)
        case atStart => exact ⟨0, Nat.zero_le _, rfl, World.ownsRow_nil _ _ _ _, HB0⟩
        case round =>
          obtain ⟨k, hk, rfl, hown, hbw⟩ := hrel
          by_cases hlt2 : k < N
          · have hs1 : 2 * k < s.size := by have := HN.out; omega
            have hs2 : 2 * k + 1 < s.size := by have := HN.out; omega
            obtain ⟨u, hu⟩ : ∃ u : Int, u = valU (s[2 * k]'hs1) := ⟨_, rfl⟩
            obtain ⟨v, hv⟩ : ∃ v : Int, v = valU (s[2 * k + 1]'hs2) := ⟨_, rfl⟩
            have hg1 : 0 ≤ valU (s[2 * k]'hs1) := by have := HGG.out (2 * k) hs1; rwa [byte_in s hs1] at this
            have hg2 : 0 ≤ valU (s[2 * k + 1]'hs2) := by have := HGG.out (2 * k + 1) hs2; rwa [byte_in s hs2] at this
            have hr1 := valU_range (s[2 * k]'hs1)
            have hr2 := valU_range (s[2 * k + 1]'hs2)
            have HF1 : Hid (∀ w, Calls Tryd.prog 20 #[.int .u8 ((s[2 * k]'hs1).toNat : Int)] w fun e w' => e = .returned (.int .i64 u) ∧ w' = w) := Lib.hid (fun w => by rw [hu]; exact value_calls _ w)
            have HF2 : Hid (∀ w, Calls Tryd.prog 20 #[.int .u8 ((s[2 * k + 1]'hs2).toNat : Int)] w fun e w' => e = .returned (.int .i64 v) ∧ w' = w) := Lib.hid (fun w => by rw [hv]; exact value_calls _ w)
            have HPV : Hid (byV (pairU (s.data.toList[2 * k]?.getD 0) (s.data.toList[2 * k + 1]?.getD 0)) = .int .u8 (16 * u + v)) := Lib.hid (by
              rw [byte_in s hs1, byte_in s hs2, hu, hv]
              unfold byV
              rw [pairU_toNat hg1 hg2])
            rw [← hu] at hg1 hr1
            rw [← hv] at hg2 hr2
            have e1 : IntKind.i64.wrap (16 * u) = 16 * u := IntWalk.i64_in _ (by omega)
            have e2 : IntKind.i64.wrap (16 * u + v) = 16 * u + v := IntWalk.i64_in _ (by omega)
            have e3 : IntKind.u8.wrap (16 * u + v) = 16 * u + v := IntWalk.u8_in _ (by omega)
            have e4 : IntKind.i64.wrap (2 * (k : Int)) = 2 * k := IntWalk.i64_in _ (by omega)
            have e5 : IntKind.i64.wrap (2 * (k : Int) + 1) = 2 * k + 1 := IntWalk.i64_in _ (by omega)
            have i1 : (0 : Int) ≤ 2 * (k : Int) := by omega
            have i2 : 2 * (k : Int) < (s.size : Int) := by omega
            have i3 : (0 : Int) ≤ 2 * (k : Int) + 1 := by omega
            have i4 : 2 * (k : Int) + 1 < (s.size : Int) := by omega
            clear hu hv
            have hB := hbw.size
            have h63 : k + 1 ≤ maxLen := by unfold maxLen; omega
            have hby : (k + 1) * 1 ≤ 140737488355328 := by omega
            have hone : ∀ z ∈ [Value.int .u8 (16 * u + v)], z.oneCell' = true := by simp [Value.oneCell']
            have hbase : ∀ o : Obj, w.heap.size ≤ (wr.alloc o).drew.heap.size := by intro o; simp; omega
            have HH := Lib.hid (And.intro h63 (And.intro hby (And.intro hone hbase)))
            clear h63 hby hone hbase
            go_wp2
            go_region_held3 (fun _ => True) (trivial) (first | (go_at_call 20; refine (HF1.out _).mono ?_; rintro e w' ⟨rfl, rfl⟩) | (go_at_call 20; refine (HF2.out _).mono ?_; rintro e w' ⟨rfl, rfl⟩) | (refine step_append_lies _ (by rfl) _ _ 22 (by rfl) w.heap.size 5 i0 (.int .u8 0) 1 1 Tryd.underlying22 hi hz0 hz1 hz2 rfl Nat.one_pos _ k ((pairs s.data.toList k).map byV) (by rfl) ((hown.alloc _).drew) ⟨wr.heap.size, 0, none⟩ 1 1 [.int .u8 (16 * u + v)] (by rfl) (by rfl) (World.news_of_block (cs := #[.int .u8 (16 * u + v)]) (heap_alloc_new wr _)) HH.out.2.2.1 Nat.one_pos HH.out.1 HH.out.2.1 (HH.out.2.2.2 _) (wr.heap.size + 1) (sizeAlloc _ _) ?_; intro gg cap w1 hown1 hgrow hat hlt1) | fail)
            all_goals
              have R1 : w1.ownsRow w.heap.size 5 1 (.slice (some ⟨gg, 0, none⟩) (k + 1) cap) (k + 1) ((pairs s.data.toList (k + 1)).map byV) := by
                simp only [pairs, List.map_append, List.map_cons, List.map_nil]
                rw [HPV.out]
                exact hown1
              have R2 : Below w.heap.size w w1 := ((hbw.alloc hB _).drew).grown hgrow (by rw [sizeAlloc]; omega) (fun k hk => (hown.lt k hk).1)
              clear hown1 hgrow hat hlt1 hown HH HPV HF1 HF2
              go_wp2
              go_roundw
              case rel => exact ⟨k + 1, by omega, by go_num, R1, R2⟩
              case measure => simp [intOf]; omega
          · have hkn : k = N := by omega
            subst hkn
            obtain ⟨p', c', hv, hr', hc', _⟩ := hown.reads
            subst hv
            have HOW := Lib.hid hown
            clear hown hr' hc'
            go_wp2
            go_ret2
            exact ⟨.slice p' k c', by rw [HU.out]; rfl, by rw [HU.out]; simp only [Option.getD_some, pairs_length]; exact HOW.out, hbw⟩

end Go.Proofs.YtpkelaklajplnaaDoor
