/- The walk of layer 7: the iterator of save.places, for whatever body. No condition. -/
import Derived.Test.YtllloedhlcdbjaaSvA
namespace Go.Proofs.Ytllloedhlcdbjaa
set_option linter.unusedVariables false
set_option linter.unusedSimpArgs false
open Go.RowKit Kit Go.Shelf Go.Proofs.YtllloedhlcdbjaaW.PrintWords
attribute [local go_sem] Oper.semAt_some

theorem add_block (ad : Addr) (j : Nat) : (ad.add j).block = ad.block := by unfold Addr.add; split <;> rfl
theorem pairs_in {l : List Int} {k : Nat} (hk : k < l.length) {x : Int} (hx : l.getD k 0 = x) {j : Fin 12} (h : pairO x = some (j, x)) : pairsL (l.take (k + 1)) = pairsL (l.take k) ++ [(j, x)] := by
  have e : l[k] = x := by rw [← hx]; simp [List.getD, hk]
  rw [List.take_succ_eq_append_getElem hk, pairsL, List.filterMap_append, e]
  simp [h, pairsL]
theorem pairs_out {l : List Int} {k : Nat} (hk : k < l.length) {x : Int} (hx : l.getD k 0 = x) (h : pairO x = none) : pairsL (l.take (k + 1)) = pairsL (l.take k) := by
  have e : l[k] = x := by rw [← hx]; simp [List.getD, hk]
  rw [List.take_succ_eq_append_getElem hk, pairsL, List.filterMap_append, e]
  simp [h, pairsL]
theorem pairs_lt {l : List Int} {k : Nat} (hk : k < l.length) {x : Int} (hx : l.getD k 0 = x) {j : Fin 12} (h : pairO x = some (j, x)) : (pairsL (l.take k)).length < (pairsL l).length := by
  have h1 := pairs_in hk hx h
  have h2 : pairsL (l.take (k + 1) ++ l.drop (k + 1)) = pairsL (l.take (k + 1)) ++ pairsL (l.drop (k + 1)) := List.filterMap_append
  rw [List.take_append_drop] at h2
  rw [h2, h1]
  simp
theorem pairs_pre (l : List Int) (k : Nat) : pairsL (l.take k) <+: pairsL l := by
  have h2 : pairsL (l.take k ++ l.drop k) = pairsL (l.take k) ++ pairsL (l.drop k) := List.filterMap_append
  rw [List.take_append_drop] at h2
  exact ⟨_, h2.symm⟩
theorem own_cells {w : World} {gL : Nat} {rest : List Value} (h : HasCells w gL (ownL.map (Value.int .i64) ++ rest) 3) : ∀ j, j < 12 → w.cell? ⟨gL, 0 + j, none⟩ = some (.int .i64 (ownL[j]?.getD 0)) := by
  intro j hj
  unfold HasCells at h
  have h2 : (ownL.map (Value.int .i64) ++ rest)[j]? = some (.int .i64 (ownL[j]?.getD 0)) := by
    have hl : (ownL.map (Value.int .i64)).length = 12 := rfl
    rw [List.getElem?_append_left (by omega), List.getElem?_map]
    have : j < ownL.length := hj
    simp [this]
  simp [World.cell?, h, h2]
theorem meas_len (len k : Nat) (h : k < len) : len - (intOf (.int .i64 ((k : Int) + 1))).toNat < len - (intOf (.int .i64 (k : Int))).toNat := by
  show len - ((k : Int) + 1).toNat < len - ((k : Int)).toNat
  omega

set_option maxRecDepth 100000 in
set_option maxHeartbeats 4000000 in
theorem places1_in (n : Nat) (hn : 2 ≤ n) (l n1 g g1 g3 gL cap len c : Nat) (rest : List Value) (A : Option Addr) (nums : List Int) (hlen : nums.length = len) (hreach : len ≤ 1000000) (J Jx : List (Fin 12 × Int) → World → Prop)
    (hY : ∀ pre x W, J pre W → pre.length < (pairsL nums).length → YieldAt Fence.wide (n - 1) Try.prog l #[.int .i64 (x.1.val : Int), .int .i64 x.2] W fun e W' =>
      (e = .returned (.bool true) ∧ J (pre ++ [x]) W' ∧ Kp n1 g W W') ∨ (e = .returned (.bool false) ∧ Jx (pre ++ [x]) W'))
    (W : World) (h1 : HasCells W g1 [.slice A len c] 28) (h3 : HasCells W g3 [.slice (some ⟨gL, 0, none⟩) 12 cap] 28) (hL : HasCells W gL (ownL.map (Value.int .i64) ++ rest) 3)
    (b3 : g3 < n1 ∧ g3 ≠ g) (bL : gL < n1 ∧ gL ≠ g) (hA : ∀ j, j < len → ∃ ad, A = some ad ∧ W.cell? (ad.add j) = some (.int .i64 (nums.getD j 0)) ∧ ad.block < n1 ∧ ad.block ≠ g) (h0 : J [] W) :
    CallsIn Fence.wide n Try.prog 41 #[.func (.yield l) #[] #[], .pointer (some ⟨g1, 0, none⟩), .pointer (some ⟨g3, 0, none⟩)] W fun e W' => (∃ v, e = .returned v) ∧
      ((∃ ys, ys = pairsL nums ∧ J ys W') ∨ (∃ pre, pre <+: pairsL nums ∧ Jx pre W')) := by
  have c1 := h1.cell
  have hn1 : 1 ≤ n := by omega
  have hfI : Fence.wide.fn 40 := trivial
  refine callsIn_of_wp Try.func41 rfl trivial ?_ rfl
  simp only [Try.ntmps41, List.size_toArray, List.length_cons, List.length_nil, Nat.reduceAdd, Nat.reduceSub, Array.replicate_succ, Array.replicate_zero, List.push_toArray, List.append_toArray, List.nil_append, List.cons_append]
  gi_wp2
  gi_loopw [9] (fun i wr => ∃ k : Nat, k ≤ len ∧ i = .int .i64 k ∧ J (pairsL (nums.take k)) wr ∧ Kp n1 g W wr) (fun i _ => len - (intOf i).toNat)
  case atStart => exact ⟨0, Nat.zero_le _, rfl, h0, Kp.refl _ _ _⟩
  case round =>
    obtain ⟨k, hk, rfl, hJs, hkp⟩ := hrel
    by_cases hlt : k < len
    · obtain ⟨ad, rfl, hcell, hb1, hb2⟩ := hA k hlt
      have hc2 := hkp.cell hcell (by rw [add_block]; exact hb1) (by rw [add_block]; exact hb2)
      have hc3 := hkp.cell h3.cell b3.1 b3.2
      have hcL : HasCells wr gL (ownL.map (Value.int .i64) ++ rest) 3 := hkp _ _ bL.1 bL.2 hL
      obtain ⟨x, hx⟩ : ∃ x, nums.getD k 0 = x := ⟨_, rfl⟩
      rw [hx] at hc2
      have cI := index_ints gL 0 12 cap ownL x wr rfl (by decide) (own_cells hcL)
      by_cases hi : 0 ≤ idxI ownL x
      · obtain ⟨j, hj, hp⟩ := idx_fin hi
        have hpl := pairs_lt (l := nums) (k := k) (by omega) hx hp
        have hpi := pairs_in (l := nums) (k := k) (by omega) hx hp
        rw [hj] at cI
        obtain ⟨fn, tmps, assign, body, hy, hR⟩ := hY _ (j, x) wr hJs hpl
        dsimp only at hy
        rw [← hpi] at hR
        have HR := Lib.hid hR
        have HK := Lib.hid hkp
        have hd : decide (0 ≤ (j.val : Int)) = true := decide_eq_true (by omega)
        clear hR hkp hcell hA hpl hpi hi hcL hj hp
        gi_wp2_with (gi_at_call 40; refine (callsIn_wide.2 cI).mono ?_; rintro e w' ⟨rfl, rfl⟩)
        refine HR.out.mono ?_
        rintro e W3 (⟨rfl, hJ3, hk3⟩ | ⟨rfl, hJx3⟩)
        · gi_wp2
          go_roundw
          case rel => exact ⟨k + 1, by omega, by simp, hJ3, HK.out.trans hk3⟩
          case measure => exact meas_len len k hlt
        · gi_wp2
          refine bodyPost_ret (results_none rfl _ _ _) rfl ?_
          exact ⟨⟨_, rfl⟩, .inr ⟨_, pairs_pre nums (k + 1), hJx3⟩⟩
      · have hpo := pairs_out (l := nums) (k := k) (by omega) hx (idx_none hi)
        have hd : decide (0 ≤ idxI ownL x) = false := decide_eq_false hi
        have HJ := Lib.hid hJs
        have HK := Lib.hid hkp
        have HP := Lib.hid hpo
        clear hJs hkp hcell hA hpo hi hcL
        gi_wp2_with (gi_at_call 40; refine (callsIn_wide.2 cI).mono ?_; rintro e w' ⟨rfl, rfl⟩)
        refine ⟨fun _ h => (by cases h), ?_⟩
        gi_wp2
        go_roundw
        case rel => exact ⟨k + 1, by omega, by simp, by rw [HP.out]; exact HJ.out, HK.out⟩
        case measure => exact meas_len len k hlt
    · obtain rfl : k = len := by omega
      rw [List.take_of_length_le (by omega)] at hJs
      gi_wp2
      go_end0
      exact ⟨⟨_, rfl⟩, .inl ⟨_, rfl, hJs⟩⟩

/-- the row of numbers that came, out of the way of the block that a body turns -/
def Nums (n1 g : Nat) (A : Option Addr) (nums : List Int) (W : World) : Prop := ∀ j, j < nums.length → ∃ ad, A = some ad ∧ W.cell? (ad.add j) = some (.int .i64 (nums.getD j 0)) ∧ ad.block < n1 ∧ ad.block ≠ g
theorem places_stops (n : Nat) (hn : 2 ≤ n) (n1 g g1 g3 gL cap c : Nat) (rest : List Value) (A : Option Addr) (nums : List Int) (hreach : nums.length ≤ 1000000) (w : World) (h1 : HasCells w g1 [.slice A nums.length c] 28) (h3 : HasCells w g3 [.slice (some ⟨gL, 0, none⟩) 12 cap] 28) (hL : HasCells w gL (ownL.map (Value.int .i64) ++ rest) 3)
    (b3 : g3 < n1 ∧ g3 ≠ g) (bL : gL < n1 ∧ gL ≠ g) (hA : Nums n1 g A nums w) :
    SeqStopsK Fence.wide n Try.prog 41 #[.pointer (some ⟨g1, 0, none⟩), .pointer (some ⟨g3, 0, none⟩)] (fun x : Fin 12 × Int => #[Value.int .i64 (x.1.val : Int), Value.int .i64 x.2]) (Kp n1 g) (fun ys => ys = pairsL nums) (fun pre => pre <+: pairsL nums) (pairsL nums).length w := by
  intro l J Jx W hW _ _ hY h0
  have st : ∀ {b : Nat} {cs : List Value} {T : TypeId}, HasCells w b cs T → HasCells W b cs T := fun {b cs T} h => (hW.block b (Array.getElem?_eq_some_iff.1 h).1).trans h
  exact places1_in n hn l n1 g g1 g3 gL cap nums.length c rest A nums rfl hreach J Jx hY W (st h1) (st h3) (st hL) b3 bL (fun j hj => by
    obtain ⟨ad, e, hc, h4, h5⟩ := hA j hj
    exact ⟨ad, e, (hW.cell (World.block_lt_of_cell? w _ hc)).trans hc, h4, h5⟩) h0

end Go.Proofs.Ytllloedhlcdbjaa
