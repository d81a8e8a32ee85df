/- The walk of the law SaveNone. No condition. -/
import Derived.Test.YtllloedhlcdbjaaAwS
import Derived.Test.YtllloedhlcdbjaaKitI
import Derived.Test.YtllloedhlcdbjaaKitM
namespace Go.Proofs.Ytllloedhlcdbjaa
set_option linter.unusedVariables false
set_option linter.unusedSimpArgs false
open Go.RowKit Kit Go.Proofs.YtllloedhlcdbjaaW.PrintWords

theorem ownL_idx (n : Int) : 0 ≤ idxI ownL n ↔ n ∈ ownL := by
  constructor
  · intro h
    have h2 := (idxI_range ownL n).2
    apply Classical.byContradiction
    intro hn
    have := idxI_miss ownL n (fun j hj e => hn (by
      rw [← e]
      simp [List.getD, hj]))
    omega
  · intro h
    rcases mem_ownL.1 h with rfl | rfl | rfl | rfl | rfl | rfl | rfl | rfl | rfl | rfl | rfl | rfl <;> decide
theorem pairs_one (n : Int) : (n ∈ ownL ∧ ∃ j : Fin 12, pairsL [n] = [(j, n)] ∧ idxI ownL n = (j.val : Int)) ∨ (n ∉ ownL ∧ pairsL [n] = []) := by
  by_cases h : n ∈ ownL
  · obtain ⟨j, h1, h2⟩ := idx_fin ((ownL_idx n).2 h)
    exact .inl ⟨h, j, by simp [pairsL, h2], h1⟩
  · exact .inr ⟨h, by simp [pairsL, idx_none (fun e => h ((ownL_idx n).1 e))]⟩
theorem set_ne_zero (j : Fin 12) (v : Int) (h : v ≠ 0) : zero12.set j.val v ≠ zero12 := fun e => by
  have h1 : (zero12.set j.val v).getD j.val 0 = v := by
    have hl : j.val < zero12.length := j.isLt
    simp [List.getD, hl]
  rw [e] at h1
  have h2 : ∀ j : Fin 12, zero12.getD j.val 0 = 0 := by decide
  rw [h2] at h1
  exact h h1.symm
theorem save_one (m : Md) (n : Int) : decide (saveL m zero12 [n] = zero12) = !decide (n ∈ ownL) := by
  rcases pairs_one n with ⟨h, j, hp, _⟩ | ⟨h, hp⟩
  · rw [decide_eq_true h, decide_eq_false]; rfl
    unfold saveL
    rw [hp]
    exact set_ne_zero j _ (by split <;> decide)
  · rw [decide_eq_false h, decide_eq_true]; rfl
    unfold saveL
    rw [hp]
    rfl
theorem restore_zero (m : Md) (A : Option Addr) (c : Nat) (l : List Int) (hn : l.length ≤ 1000000) {w W : World} (hC : (Kd.int .i64).C w A l.length l) (hb : Below w.heap.size w W) :
    Calls Try.prog 22 #[.agg #[.int .u8 0, .int .u8 0, .int .u8 0, .int .u8 0, .int .u8 0, .int .u8 0, .int .u8 0, .int .u8 0, .int .u8 0, .int .u8 0, .int .u8 0, .int .u8 0], m.v, .slice A l.length c] W fun e w' => e = .returned m.v ∧ Below W.heap.size W w' := by
  have h := restore_calls zero12 rfl m A c l hn W (Kd.C_below hC hb)
  rw [restL_zero] at h
  exact h
attribute [local irreducible] wpList Calls wpQuiet

set_option maxRecDepth 100000 in
set_option maxHeartbeats 4000000 in
theorem saveNone_long (m : Md) (A : Option Addr) (c : Nat) (l : List Int) (n : Int) (w : World) (hl : 30 < l.length) :
    Calls Try.prog 9 #[m.v, .slice A l.length c, .int .i64 n] w fun e w' => e = .returned (.bool true) ∧ Below w.heap.size w w' := by
  have HO := Mine.start w
  have hc : decide ((l.length : Int) > 30) = true := decide_eq_true (by omega)
  have hc2 : decide (30 < (l.length : Int)) = true := hc
  have hc3 : decide (30 < l.length) = true := decide_eq_true hl
  clear hl
  go_enter Try.func9, Try.ntmps9
  go_wp2_with (first
      | (go_at_call 19; refine (awake07_calls _).mono ?_; rintro eN wN ⟨rfl, hbN⟩; have HON := HO.call hbN; clear HO hbN; have HO := HON; clear HON)
      | ((with_reducible refine gate ?_); (first
      | ((refine own_box HO rfl rfl rfl ?_); clear HO; intro gN wN hgN HO; (simp only [List.nil_append, List.cons_append] at HO); (try simp only [Act.put, List.setIfInBounds_toArray, List.set_cons_zero, List.set_cons_succ]))
      | ((refine own_load (T := 23) HO rfl rfl rfl (by first | exact .head _ | exact .tail _ (.head _) | exact .tail _ (.tail _ (.head _)) | exact .tail _ (.tail _ (.tail _ (.head _))) | exact .tail _ (.tail _ (.tail _ (.tail _ (.head _)))) | exact .tail _ (.tail _ (.tail _ (.tail _ (.tail _ (.head _)))))) Try.isAgg23 Try.sizeOf23 (by repeat constructor) ?_); (try simp only [Act.put, List.setIfInBounds_toArray, List.set_cons_zero, List.set_cons_succ]))
      | ((refine own_store (T := 23) HO rfl rfl rfl rfl (by first | exact .here | exact .there (.here) | exact .there (.there (.here)) | exact .there (.there (.there (.here))) | exact .there (.there (.there (.there (.here)))) | exact .there (.there (.there (.there (.there (.here)))))) Try.sizeOf23 (by repeat constructor) rfl ?_); clear HO; intro wN HO; (try simp only [Act.put, List.setIfInBounds_toArray, List.set_cons_zero, List.set_cons_succ])))))
  go_ret
  exact ⟨rfl, HO.below⟩
set_option maxRecDepth 100000 in
set_option maxHeartbeats 4000000 in
theorem saveNone_short (m : Md) (A : Option Addr) (c : Nat) (l : List Int) (n : Int) (w : World) (hl : ¬ 30 < l.length) (hC : (Kd.int .i64).C w A l.length l) :
    Calls Try.prog 9 #[m.v, .slice A l.length c, .int .i64 n] w fun e w' => e = .returned (.bool true) ∧ Below w.heap.size w w' := by
  have HO := Mine.start w
  have hc : decide ((l.length : Int) > 30) = false := decide_eq_false (by omega)
  have hc2 : decide (30 < (l.length : Int)) = false := hc
  have hc3 : decide (30 < l.length) = false := decide_eq_false hl
  have HLN : Hid (l.length ≤ 1000000) := Lib.hid (by omega)
  have HC := Lib.hid hC
  have hone := save_one m n
  have hset := setM_pair m n true
  obtain ⟨ok, hok⟩ : ∃ ok, decide (n ∈ ownL) = ok := ⟨_, rfl⟩
  obtain ⟨r, hr⟩ : ∃ r, (setM m true n true).1 = r := ⟨_, rfl⟩
  rw [hok] at hone hset
  rw [hr] at hset
  have hlen := saveL_len m zero12 [n]
  obtain ⟨R, hR⟩ : ∃ R, saveL m zero12 [n] = R := ⟨_, rfl⟩
  rw [hR] at hone hlen
  have hR12 : R.length = 12 := hlen
  have HR12 := Lib.hid hR12
  have HR := Lib.hid hR
  have HS := Lib.hid hset
  have HE : Hid (∀ w, (Op.equal 23 m.v m.v).run Try.prog w = .ok true w) := Lib.hid fun w => (equal_modes m m w).trans (by rw [decide_eq_true rfl])
  have HE2 : Hid (∀ w, (Op.equal 39 (.agg (u8s R).toArray) (.agg #[.int .u8 0, .int .u8 0, .int .u8 0, .int .u8 0, .int .u8 0, .int .u8 0, .int .u8 0, .int .u8 0, .int .u8 0, .int .u8 0, .int .u8 0, .int .u8 0])).run Try.prog w = .ok (!ok) w) := Lib.hid fun w => (equal_saved R zero12 hR12 rfl w).trans (by rw [hone])
  clear hl hC hone hset hok hr hlen hR12 hR
  go_enter Try.func9, Try.ntmps9
  go_wp2_with (first
      | (go_at_call 19; refine (awake07_calls _).mono ?_; rintro eN wN ⟨rfl, hbN⟩; have HON := HO.call hbN; clear HO hbN; have HO := HON; clear HON)
      | ((with_reducible refine gate ?_); (first
      | ((refine own_box HO rfl rfl rfl ?_); clear HO; intro gS wN hgN HO; (simp only [List.nil_append, List.cons_append] at HO); (try simp only [Act.put, List.setIfInBounds_toArray, List.set_cons_zero, List.set_cons_succ]))
      | ((refine own_load (T := 23) HO rfl rfl rfl (by first | exact .head _ | exact .tail _ (.head _) | exact .tail _ (.tail _ (.head _)) | exact .tail _ (.tail _ (.tail _ (.head _))) | exact .tail _ (.tail _ (.tail _ (.tail _ (.head _)))) | exact .tail _ (.tail _ (.tail _ (.tail _ (.tail _ (.head _)))))) Try.isAgg23 Try.sizeOf23 (by repeat constructor) ?_); (try simp only [Act.put, List.setIfInBounds_toArray, List.set_cons_zero, List.set_cons_succ]))
      | ((refine own_store (T := 23) HO rfl rfl rfl rfl (by first | exact .here | exact .there (.here) | exact .there (.there (.here)) | exact .there (.there (.there (.here))) | exact .there (.there (.there (.there (.here)))) | exact .there (.there (.there (.there (.there (.here)))))) Try.sizeOf23 (by repeat constructor) rfl ?_); clear HO; intro wN HO; (try simp only [Act.put, List.setIfInBounds_toArray, List.set_cons_zero, List.set_cons_succ])))))
  (refine region_quiet HO (by kernel_rfl) (by kernel_rfl) ?_); repeat (first
      | (go_big_quiet_skip)
      | ((with_reducible refine qg_move ?_); (refine q_move rfl rfl (by first | exact .const | exact .tmp rfl | exact .func) ?_); (try simp only [Act.put, List.setIfInBounds_toArray, List.set_cons_zero, List.set_cons_succ]))
      | ((with_reducible refine qg_assign ?_); (refine q_assign rfl rfl (by first | exact .const | exact .tmp rfl | exact .func) ?_); (try simp only [Act.put, List.setIfInBounds_toArray, List.set_cons_zero, List.set_cons_succ]))
      | ((with_reducible refine qg_pick ?_); (refine q_pick_true rfl rfl rfl (by first | exact .const | exact .tmp rfl | exact .func) ?_); (try simp only [Act.put, List.setIfInBounds_toArray, List.set_cons_zero, List.set_cons_succ]))
      | ((with_reducible refine qg_pick ?_); (refine q_pick_false rfl rfl rfl (by first | exact .const | exact .tmp rfl | exact .func) ?_); (try simp only [Act.put, List.setIfInBounds_toArray, List.set_cons_zero, List.set_cons_succ]))
      | ((with_reducible refine qg_load ?_); (refine q_load (T := 23) rfl rfl rfl (by first | exact .head _ | exact .tail _ (.head _) | exact .tail _ (.tail _ (.head _)) | exact .tail _ (.tail _ (.tail _ (.head _))) | exact .tail _ (.tail _ (.tail _ (.tail _ (.head _)))) | exact .tail _ (.tail _ (.tail _ (.tail _ (.tail _ (.head _)))))) Try.isAgg23 Try.sizeOf23 (by repeat constructor) ?_); (try simp only [Act.put, List.setIfInBounds_toArray, List.set_cons_zero, List.set_cons_succ]))
      | ((with_reducible refine qg_call ?_); (refine q_call (f := 22) rfl rfl Try.call22 rfl (fun wN HON => (restore_zero m A c l HLN.out HC.out HON.below)) ?_); (try simp only [Act.put, List.setIfInBounds_toArray, List.set_cons_zero, List.set_cons_succ]))
      | ((with_reducible refine qg_binOp ?_); (refine q_eql (t := 23) rfl rfl rfl rfl (by kernel_rfl) HE.out ?_); (try simp only [Act.put, List.setIfInBounds_toArray, List.set_cons_zero, List.set_cons_succ]))
      | ((refine q_val rfl (fun w => by simp only [execOp]; first | (go_simp; done) | (go_simp; rfl)) ?_); (try simp only [Act.put, List.setIfInBounds_toArray, List.set_cons_zero, List.set_cons_succ])))

  refine wpQuiet_nil ?_
  intro wZ HOz
  clear HO
  have HO := HOz
  clear HOz
  cases ok
  all_goals
    go_wp2_with (first
      | (go_at_call 13; refine (set_calls' m true n true r _ HS.out _).mono ?_; rintro eN wN ⟨rfl, hbN⟩; have HON := HO.call hbN; clear HO hbN; have HO := HON; clear HON)
      | (go_at_call 20; refine ((save_calls zero12 rfl m (some ⟨gQ, 0, none⟩) 1 [n] (by simp) _ (Kit.lit_ints (HO.at (by first | exact .head _ | exact .tail _ (.head _) | exact .tail _ (.tail _ (.head _)) | exact .tail _ (.tail _ (.tail _ (.head _))) | exact .tail _ (.tail _ (.tail _ (.tail _ (.head _)))) | exact .tail _ (.tail _ (.tail _ (.tail _ (.tail _ (.head _))))) | exact .tail _ (.tail _ (.tail _ (.tail _ (.tail _ (.tail _ (.head _)))))) | exact .tail _ (.tail _ (.tail _ (.tail _ (.tail _ (.tail _ (.tail _ (.head _))))))))) (by simp)))).mono ?_; rw [HR.out]; rintro eN wN ⟨rfl, hbN⟩; have HON := HO.call hbN; clear HO hbN; have HO := HON; clear HON)
      | ((with_reducible refine gate ?_); (first
      | ((with_reducible refine gateAt (N := 9) rfl ?_); refine own_alloc (T := 23) HO rfl rfl Try.zeroValue23 rfl ?_; clear HO; intro gX wN hggX HO; (simp only [List.nil_append, List.cons_append] at HO); (try simp only [Act.put, List.setIfInBounds_toArray, List.set_cons_zero, List.set_cons_succ]))
      | ((with_reducible refine gateAt (N := 11) rfl ?_); refine own_alloc (T := 39) HO rfl rfl Try.zeroValue39 rfl ?_; clear HO; intro gV wN hggV HO; (simp only [List.nil_append, List.cons_append] at HO); (try simp only [Act.put, List.setIfInBounds_toArray, List.set_cons_zero, List.set_cons_succ]))
      | ((with_reducible refine gateAt (N := 32) rfl ?_); refine own_lit HO rfl (n := 1) (cs := [.int .i64 (n)]) (T := 3) (by first | (go_simp; done) | (go_simp; rfl)) ?_; clear HO; intro gQ wN hggQ HO; (simp only [List.nil_append, List.cons_append] at HO); (try simp only [Act.put, List.setIfInBounds_toArray, List.set_cons_zero, List.set_cons_succ]))
      | ((with_reducible refine gate ?_); refine own_load (T := 39) (n := 12) (vs := u8s R) HO rfl rfl rfl (by first | exact .head _ | exact .tail _ (.head _) | exact .tail _ (.tail _ (.head _)) | exact .tail _ (.tail _ (.tail _ (.head _))) | exact .tail _ (.tail _ (.tail _ (.tail _ (.head _)))) | exact .tail _ (.tail _ (.tail _ (.tail _ (.tail _ (.head _))))) | exact .tail _ (.tail _ (.tail _ (.tail _ (.tail _ (.tail _ (.head _)))))) | exact .tail _ (.tail _ (.tail _ (.tail _ (.tail _ (.tail _ (.tail _ (.head _)))))))) Try.isAgg39 Try.sizeOf39 (slc12 HR12.out) ?_; (try simp only [Act.put, List.setIfInBounds_toArray, List.set_cons_zero, List.set_cons_succ]))
      | ((with_reducible refine gate ?_); refine own_store (T := 39) (vs := u8s R) HO rfl rfl rfl rfl (by first | exact .here | exact .there (.here) | exact .there (.there (.here)) | exact .there (.there (.there (.here))) | exact .there (.there (.there (.there (.here)))) | exact .there (.there (.there (.there (.there (.here))))) | exact .there (.there (.there (.there (.there (.there (.here)))))) | exact .there (.there (.there (.there (.there (.there (.there (.here)))))))) (size12 HR12.out) (by exact PutAt.all _ _ (len12 HR12.out)) (one12 R) ?_; clear HO; intro wN HO; (try simp only [Act.put, List.setIfInBounds_toArray, List.set_cons_zero, List.set_cons_succ]))
      | ((refine own_eql (t := 39) rfl rfl rfl rfl (by kernel_rfl) HE2.out ?_); (try simp only [Act.put, List.setIfInBounds_toArray, List.set_cons_zero, List.set_cons_succ]))
      | ((refine own_box HO rfl rfl rfl ?_); clear HO; intro gN wN hgN HO; (simp only [List.nil_append, List.cons_append] at HO); (try simp only [Act.put, List.setIfInBounds_toArray, List.set_cons_zero, List.set_cons_succ]))
      | ((refine own_load (T := 23) HO rfl rfl rfl (by first | exact .head _ | exact .tail _ (.head _) | exact .tail _ (.tail _ (.head _)) | exact .tail _ (.tail _ (.tail _ (.head _))) | exact .tail _ (.tail _ (.tail _ (.tail _ (.head _)))) | exact .tail _ (.tail _ (.tail _ (.tail _ (.tail _ (.head _))))) | exact .tail _ (.tail _ (.tail _ (.tail _ (.tail _ (.tail _ (.head _)))))) | exact .tail _ (.tail _ (.tail _ (.tail _ (.tail _ (.tail _ (.tail _ (.head _)))))))) Try.isAgg23 Try.sizeOf23 (by repeat constructor) ?_); (try simp only [Act.put, List.setIfInBounds_toArray, List.set_cons_zero, List.set_cons_succ]))
      | ((refine own_store (T := 23) HO rfl rfl rfl rfl (by first | exact .here | exact .there (.here) | exact .there (.there (.here)) | exact .there (.there (.there (.here))) | exact .there (.there (.there (.there (.here)))) | exact .there (.there (.there (.there (.there (.here))))) | exact .there (.there (.there (.there (.there (.there (.here)))))) | exact .there (.there (.there (.there (.there (.there (.there (.here)))))))) Try.sizeOf23 (by repeat constructor) rfl ?_); clear HO; intro wN HO; (try simp only [Act.put, List.setIfInBounds_toArray, List.set_cons_zero, List.set_cons_succ])))))
    go_ret
    exact ⟨rfl, HO.below⟩

end Go.Proofs.Ytllloedhlcdbjaa
