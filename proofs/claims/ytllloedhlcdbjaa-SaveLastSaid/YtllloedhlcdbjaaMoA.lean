/- The walks of layer 6: slices.Index and slices.Contains at []int; modes.May and its closure. No condition but the sizes of what is read. -/
import Derived.Test.YtllloedhlcdbjaaProg
import Derived.Test.YtllloedhlcdbjaaPMo
import Derived.Test.YtllloedhlcdbjaaKitA
import Derived.Test.YtllloedhlcdbjaaMoO
import Derived.WalkKit
import Derived.WalkSpells
import Derived.WalkLawsBesides
import Derived.Lib.Hide
import Derived.Outline
namespace Go.Proofs.Ytllloedhlcdbjaa
set_option linter.unusedVariables false
set_option linter.unusedSimpArgs false
open Go.RowKit

def idxI : List Int → Int → Int
  | [], _ => -1
  | z :: zs, v => if v = z then 0 else (if idxI zs v < 0 then -1 else idxI zs v + 1)
theorem idxI_range (zs : List Int) (v : Int) : -1 ≤ idxI zs v ∧ idxI zs v < zs.length := by
  induction zs with
  | nil => simp [idxI]
  | cons z zs ih => simp only [idxI]; split <;> (try split) <;> simp <;> omega
/-- none of the first k is v -/
theorem idxI_skip (zs : List Int) (v : Int) (k : Nat) (hk : k ≤ zs.length) (h : ∀ j, j < k → zs.getD j 0 ≠ v) : idxI zs v = if idxI (zs.drop k) v < 0 then -1 else idxI (zs.drop k) v + k := by
  induction k generalizing zs with
  | zero => have := idxI_range zs v; simp; omega
  | succ k ih =>
    cases zs with
    | nil => simp at hk
    | cons z zs =>
      have h0 : v ≠ z := fun e => h 0 (by omega) (by simp [e])
      have h1 := ih zs (by simpa using hk) (fun j hj => by have := h (j + 1) (by omega); simpa using this)
      simp only [idxI, if_neg h0, List.drop_succ_cons]
      rw [h1]
      split <;> split <;> simp at * <;> omega
theorem idxI_hit (zs : List Int) (v : Int) (k : Nat) (hk : k < zs.length) (h : ∀ j, j < k → zs.getD j 0 ≠ v) (he : zs.getD k 0 = v) : idxI zs v = k := by
  rw [idxI_skip zs v k (by omega) h]
  have : zs.drop k = zs.getD k 0 :: zs.drop (k + 1) := by simp [List.getElem?_eq_getElem hk]
  rw [this, he]
  simp [idxI]
theorem idxI_miss (zs : List Int) (v : Int) (h : ∀ j, j < zs.length → zs.getD j 0 ≠ v) : idxI zs v = -1 := by
  rw [idxI_skip zs v zs.length (by omega) h]
  simp [idxI]


set_option maxHeartbeats 400000 in
theorem index_ints (b off n cap : Nat) (zs : List Int) (v : Int) (w : World) (hl : zs.length = n) (hm : n ≤ 4611686018427387904)
    (hc : ∀ j, j < n → w.cell? ⟨b, off + j, none⟩ = some (.int .i64 (zs[j]?.getD 0))) :
    Calls Try.prog 40 #[.slice (some ⟨b, off, none⟩) n cap, .int .i64 v] w fun e w' => e = .returned (.int .i64 (idxI zs v)) ∧ w' = w := by
  have HL := Lib.hid hl
  have HC := Lib.hid hc
  clear hc hl
  go_enter Try.func40, Try.ntmps40
  go_wp2
  go_loop [5, 8] (fun _ i => ∃ k : Nat, k ≤ n ∧ i = .int .i64 k ∧ Hid (∀ j, j < k → zs.getD j 0 ≠ v)) (fun _ i => n - (intOf i).toNat)
  case atStart => exact ⟨0, Nat.zero_le _, rfl, Lib.hid (by intro j hj; omega)⟩
  case round =>
    obtain ⟨k, hk, rfl, HN⟩ := hrel
    by_cases hlt : k < n
    · have hcell := HC.out k hlt
      by_cases he : v = zs[k]?.getD 0
      · have hb : (v == zs[k]?.getD 0) = true := beq_iff_eq.2 he
        have HE : zs.getD k 0 = v := by rw [he]; simp
        have H2 := Lib.hid (idxI_hit zs v k (by rw [HL.out]; exact hlt) HN.out HE)
        clear he HE
        go_wp2
        go_ret
        exact ⟨ret_int H2.out.symm, rfl⟩
      · have hb : (v == zs[k]?.getD 0) = false := beq_eq_false_iff_ne.2 he
        have HE : zs.getD k 0 ≠ v := fun h => he (by rw [← h]; simp)
        have H2 : Hid (∀ j, j < k + 1 → zs.getD j 0 ≠ v) := Lib.hid (by intro j hj; by_cases e : j = k; (subst e; exact HE); exact HN.out j (by omega))
        clear he HE
        go_wp2
        go_round
        case rel => exact ⟨k + 1, by omega, by go_num, H2⟩
        case measure => simp [intOf]; omega
    · have H2 := Lib.hid (idxI_miss zs v (by intro j hj; rw [HL.out] at hj; exact HN.out j (by omega)))
      go_wp2
      go_ret
      exact ⟨ret_int H2.out.symm, rfl⟩

def hasI (zs : List Int) (v : Int) : Bool := decide (0 ≤ idxI zs v)

theorem contains_ints (b off n cap : Nat) (zs : List Int) (v : Int) (w : World) (hl : zs.length = n) (hm : n ≤ 4611686018427387904)
    (hc : ∀ j, j < n → w.cell? ⟨b, off + j, none⟩ = some (.int .i64 (zs[j]?.getD 0))) :
    Calls Try.prog 30 #[.slice (some ⟨b, off, none⟩) n cap, .int .i64 v] w fun e w' => e = .returned (.bool (hasI zs v)) ∧ w' = w := by
  have H := Lib.hid hc
  have HL := Lib.hid hl
  clear hc hl
  go_enter Try.func30, Try.ntmps30
  go_wp2_with (go_at_call 40; refine (index_ints b off n cap zs v _ HL.out hm H.out).mono ?_; rintro e w' ⟨rfl, rfl⟩)
  go_ret
  exact ⟨rfl, rfl⟩

theorem closure_one (b off n cap : Nat) (zs : List Int) (v : Int) (w : World) (hl : zs.length = n) (hm : n ≤ 4611686018427387904)
    (hc : ∀ j, j < n → w.cell? ⟨b, off + j, none⟩ = some (.int .i64 (zs[j]?.getD 0))) :
    Calls Try.prog 29 #[.int .i64 v, .slice (some ⟨b, off, none⟩) n cap] w fun e w' => e = .returned (.bool (v == 0 || hasI zs v)) ∧ w' = w := by
  have H := Lib.hid hc
  have HL := Lib.hid hl
  clear hc hl
  by_cases h0 : v = 0
  · have hb : (v == 0) = true := beq_iff_eq.2 h0
    have H2 := Lib.hid hb
    clear h0
    go_enter Try.func29, Try.ntmps29
    go_wp2
    go_ret
    exact ⟨ret_bool (by rw [H2.out]; rfl), rfl⟩
  · have hb : (v == 0) = false := beq_eq_false_iff_ne.2 h0
    have H2 := Lib.hid hb
    clear h0
    go_enter Try.func29, Try.ntmps29
    go_wp2_with (go_at_call 30; refine (contains_ints b off n cap zs v _ HL.out hm H.out).mono ?_; rintro e w' ⟨rfl, rfl⟩)
    go_ret
    exact ⟨ret_bool (by rw [H2.out]; rfl), rfl⟩

theorem hasI_nil (v : Int) : hasI [] v = false := rfl
theorem hasI_cons (z : Int) (zs : List Int) (v : Int) : hasI (z :: zs) v = (v == z || hasI zs v) := by
  rw [Bool.eq_iff_iff]
  simp only [hasI, decide_eq_true_eq, Bool.or_eq_true, beq_iff_eq]
  have e : idxI (z :: zs) v = if v = z then 0 else (if idxI zs v < 0 then -1 else idxI zs v + 1) := rfl
  rw [e]
  generalize idxI zs v = x
  by_cases h : v = z
  · rw [if_pos h]; simp [h]
  · rw [if_neg h]
    by_cases h2 : x < 0
    · rw [if_pos h2]; simp [h]; omega
    · rw [if_neg h2]; simp [h]; omega
theorem lit_ints (W : World) (T : TypeId) (n : Nat) (zs : List Int) (cs : Array Value) (hn : n = W.heap.size) (hcs : cs = (zs.map (Value.int .i64)).toArray) : ∀ j, j < zs.length → (W.alloc (.cells cs T)).cell? ⟨n, 0 + j, none⟩ = some (.int .i64 (zs[j]?.getD 0)) := by
  intro j hj
  rw [World.cell?_alloc_at _ _ _ _ hn, hcs]
  simp [List.getElem?_eq_getElem hj]

theorem may_modes (m : Md) (w : World) :
    Calls Try.prog 18 #[m.v] w fun e w' => e = .returned (.bool (mayM m)) ∧ Below w.heap.size w w' := by
  have HM := Lib.hid (show mayM m = ((m.mouse == 0 || hasI [9, 1000, 1002, 1003] m.mouse) && ((m.coding == 0 || hasI [1005, 1006, 1015] m.coding) && (m.other == 0 || hasI [1, 2] m.other))) from by
    simp only [mayM, isMouse, isCoding, hasI_cons, hasI_nil, Bool.or_false])
  go_enter Try.func18, Try.ntmps18
  go_wp2_with fail
  refine (closure_one _ 0 4 4 [9, 1000, 1002, 1003] _ _ rfl (by omega) (by exact lit_ints _ _ _ [9, 1000, 1002, 1003] _ (by simp) rfl)).mono ?_
  rintro e w1 ⟨rfl, rfl⟩
  obtain ⟨b1, h1⟩ : ∃ b, (m.mouse == 0 || hasI [9, 1000, 1002, 1003] m.mouse) = b := ⟨_, rfl⟩
  rw [h1]; rw [h1] at HM; clear h1
  cases b1
  · go_wp2
    go_ret
    exact ⟨ret_bool (by rw [HM.out]; simp), (((Below.refl _ _).alloc (Nat.le_refl _) _).alloc (by simp) _)⟩
  go_wp2_with fail
  refine (closure_one _ 0 3 3 [1005, 1006, 1015] _ _ rfl (by omega) (by exact lit_ints _ _ _ [1005, 1006, 1015] _ (by simp) rfl)).mono ?_
  rintro e w1 ⟨rfl, rfl⟩
  obtain ⟨b2, h2⟩ : ∃ b, (m.coding == 0 || hasI [1005, 1006, 1015] m.coding) = b := ⟨_, rfl⟩
  rw [h2]; rw [h2] at HM; clear h2
  cases b2
  · go_wp2
    go_ret
    exact ⟨ret_bool (by rw [HM.out]; simp), ((((Below.refl _ _).alloc (Nat.le_refl _) _).alloc (by simp) _).alloc (by simp; omega) _)⟩
  go_wp2_with fail
  refine (closure_one _ 0 2 2 [1, 2] _ _ rfl (by omega) (by exact lit_ints _ _ _ [1, 2] _ (by simp) rfl)).mono ?_
  rintro e w1 ⟨rfl, rfl⟩
  go_wp2
  go_ret
  exact ⟨ret_bool (by rw [HM.out]; simp), (((((Below.refl _ _).alloc (Nat.le_refl _) _).alloc (by simp) _).alloc (by simp; omega) _).alloc (by simp; omega) _)⟩

end Go.Proofs.Ytllloedhlcdbjaa
