/- The walk of the law SaveLast. No condition. -/
import Derived.Test.YtllloedhlcdbjaaSvM
namespace Go.Proofs.Ytllloedhlcdbjaa
set_option linter.unusedVariables false
set_option linter.unusedSimpArgs false
open Go.RowKit Kit Go.Proofs.YtllloedhlcdbjaaW.PrintWords
theorem last_law (m : Md) (T : List Int) (hT : T.length = 12) (n : Int) (i : Nat) : (saveL m T [n]).getD i 0 = if (saveL m zero12 [n]).getD i 0 = 0 then T.getD i 0 else (saveL m zero12 [n]).getD i 0 := by
  have hz : ∀ i, zero12.getD i 0 = 0 := by
    intro i
    by_cases h : i < 12
    · have : ∀ j : Fin 12, zero12.getD j.val 0 = 0 := by decide
      exact this ⟨i, h⟩
    · simp [List.getD, show zero12.length = 12 from rfl, Nat.le_of_not_lt h]
  rcases pairs_one n with ⟨_, j, hp, _⟩ | ⟨_, hp⟩
  · obtain ⟨v, hv⟩ : ∃ v : Int, (if getM m true n = 1 then (1 : Int) else 2) = v := ⟨_, rfl⟩
    have hv0 : v ≠ 0 := by rw [← hv]; split <;> decide
    have e : ∀ s, saveL m s [n] = s.set j.val v := fun s => by
      unfold saveL
      rw [hp]
      show s.set j.val _ = _
      rw [hv]
    rw [e, e]
    by_cases h : i = j.val
    · subst h
      have h1 : j.val < T.length := by omega
      have h2 : j.val < zero12.length := j.isLt
      have e1 : (T.set j.val v).getD j.val 0 = v := by simp [List.getD, h1]
      have e2 : (zero12.set j.val v).getD j.val 0 = v := by simp [List.getD, h2]
      rw [e1, e2, if_neg hv0]
    · have h' : ¬ j.val = i := fun e => h e.symm
      have e1 : ∀ l : List Int, (l.set j.val v).getD i 0 = l.getD i 0 := fun l => by simp [List.getD, List.getElem?_set, h']
      rw [e1, e1, hz, if_pos rfl]
  · have e : ∀ s, saveL m s [n] = s := fun s => by
      unfold saveL
      rw [hp]
      rfl
    rw [e, e, hz, if_pos rfl]
theorem cell12 {R : List Int} (h : R.length = 12) {k : Nat} (hk : k < 12) {z : Int} (hz : R.getD k 0 = z) : (u8s R)[k]? = some (.int .u8 z) := by
  rw [← hz]
  simp [List.getD, show k < R.length by omega]
theorem meas12a (k : Nat) (h : k < 12) : 12 - (intOf (.int .i64 (wrap64 ((k : Int) + 1)))).toNat < 12 - (intOf (.int .i64 (k : Int))).toNat := by
  have e : wrap64 ((k : Int) + 1) = ((k + 1 : Nat) : Int) := by unfold wrap64; omega
  rw [e]
  show 12 - (((k + 1 : Nat) : Int)).toNat < 12 - ((k : Int)).toNat
  rw [Int.toNat_natCast, Int.toNat_natCast]
  omega
theorem step12a (k : Nat) (h : k < 12) : Value.int .i64 (wrap64 ((k : Int) + 1)) = .int .i64 ((k + 1 : Nat) : Int) := congrArg (Value.int .i64) (by unfold wrap64; omega)
attribute [local irreducible] wpList Calls wpQuiet

set_option maxRecDepth 100000 in
set_option maxHeartbeats 4000000 in
theorem saveLast_long (m n : Md) (A : Option Addr) (c : Nat) (l : List Int) (x : Int) (w : World) (hl : 30 < l.length) :
    Calls Try.prog 10 #[.agg #[.bool m.cursor, .bool m.keypad, .bool m.back, .bool m.focus, .bool m.paste, .bool m.lock, .bool m.line, .int .i64 m.mouse, .int .i64 m.coding, .int .i64 m.other, .bool n.cursor, .bool n.keypad, .bool n.back, .bool n.focus, .bool n.paste, .bool n.lock, .bool n.line, .int .i64 n.mouse, .int .i64 n.coding, .int .i64 n.other], .slice A l.length c, .int .i64 x] w fun e w' => e = .returned (.bool true) ∧ Below w.heap.size w w' := by
  have HO := Mine.start w
  have hc : decide ((l.length : Int) > 30) = true := decide_eq_true (by omega)
  have hc2 : decide (30 < (l.length : Int)) = true := hc
  have hc3 : decide (30 < l.length) = true := decide_eq_true hl
  clear hl
  go_enter Try.func10, Try.ntmps10
  go_wp2_with (first
      | (go_at_call 19; refine (awake07_calls _).mono ?_; rintro eN wN ⟨rfl, hbN⟩; have HON := HO.call hbN; clear HO hbN; have HO := HON; clear HON)
      | ((with_reducible refine gate ?_); (first
      | ((with_reducible refine gateAt (N := 3) rfl ?_); refine own_box (T := 48) HO rfl rfl rfl ?_; clear HO; intro gB wN hggB HO; (simp only [List.nil_append, List.cons_append] at HO); (try simp only [Act.put, List.setIfInBounds_toArray, List.set_cons_zero, List.set_cons_succ]))
      | ((refine own_box HO rfl rfl rfl ?_); clear HO; intro gN wN hgN HO; (simp only [List.nil_append, List.cons_append] at HO); (try simp only [Act.put, List.setIfInBounds_toArray, List.set_cons_zero, List.set_cons_succ])))))
  go_ret
  exact ⟨rfl, HO.below⟩
set_option maxRecDepth 100000 in
set_option maxHeartbeats 4000000 in
theorem saveLast_short (m n : Md) (A : Option Addr) (c : Nat) (l : List Int) (x : Int) (w : World) (hl : ¬ 30 < l.length) (hC : (Kd.int .i64).C w A l.length l) :
    Calls Try.prog 10 #[.agg #[.bool m.cursor, .bool m.keypad, .bool m.back, .bool m.focus, .bool m.paste, .bool m.lock, .bool m.line, .int .i64 m.mouse, .int .i64 m.coding, .int .i64 m.other, .bool n.cursor, .bool n.keypad, .bool n.back, .bool n.focus, .bool n.paste, .bool n.lock, .bool n.line, .int .i64 n.mouse, .int .i64 n.coding, .int .i64 n.other], .slice A l.length c, .int .i64 x] w fun e w' => e = .returned (.bool true) ∧ Below w.heap.size w w' := by
  have HO := Mine.start w
  have hc : decide ((l.length : Int) > 30) = false := decide_eq_false (by omega)
  have hc2 : decide (30 < (l.length : Int)) = false := hc
  have hc3 : decide (30 < l.length) = false := decide_eq_false hl
  have HLN : Hid (l.length ≤ 1000000) := Lib.hid (by omega)
  have HC := Lib.hid hC
  have hT12 : (saveL m zero12 l).length = 12 := saveL_len m zero12 l
  obtain ⟨T, hT⟩ : ∃ T, saveL m zero12 l = T := ⟨_, rfl⟩
  rw [hT] at hT12
  have hS12 : (saveL n T [x]).length = 12 := (saveL_len n T [x]).trans hT12
  have hI12 : (saveL n zero12 [x]).length = 12 := saveL_len n zero12 [x]
  have hlaw := last_law n T hT12 x
  obtain ⟨S, hS⟩ : ∃ S, saveL n T [x] = S := ⟨_, rfl⟩
  obtain ⟨I, hI⟩ : ∃ I, saveL n zero12 [x] = I := ⟨_, rfl⟩
  rw [hS] at hS12
  rw [hI] at hI12
  rw [hS, hI] at hlaw
  have HT := Lib.hid hT
  have HS := Lib.hid hS
  have HI := Lib.hid hI
  have HT12 := Lib.hid hT12
  have HS12 := Lib.hid hS12
  have HI12 := Lib.hid hI12
  have HLAW := Lib.hid hlaw
  clear hl hC hT12 hS12 hI12 hlaw hT hS hI
  go_enter Try.func10, Try.ntmps10
  go_wp2_with (first
      | (go_at_call 19; refine (awake07_calls _).mono ?_; rintro eN wN ⟨rfl, hbN⟩; have HON := HO.call hbN; clear HO hbN; have HO := HON; clear HON)
      | ((with_reducible refine gate ?_); (first
      | ((with_reducible refine gateAt (N := 3) rfl ?_); refine own_box (T := 48) HO rfl rfl rfl ?_; clear HO; intro gB wN hggB HO; (simp only [List.nil_append, List.cons_append] at HO); (try simp only [Act.put, List.setIfInBounds_toArray, List.set_cons_zero, List.set_cons_succ]))
      | ((refine own_box HO rfl rfl rfl ?_); clear HO; intro gN wN hgN HO; (simp only [List.nil_append, List.cons_append] at HO); (try simp only [Act.put, List.setIfInBounds_toArray, List.set_cons_zero, List.set_cons_succ])))))
  have hlt : ∀ q ∈ [(gB, IsCells [.bool m.cursor, .bool m.keypad, .bool m.back, .bool m.focus, .bool m.paste, .bool m.lock, .bool m.line, .int .i64 m.mouse, .int .i64 m.coding, .int .i64 m.other, .bool n.cursor, .bool n.keypad, .bool n.back, .bool n.focus, .bool n.paste, .bool n.lock, .bool n.line, .int .i64 n.mouse, .int .i64 n.coding, .int .i64 n.other] 48)], q.1 < _ := fun q hq => HO.lt hq
  have hW0 := HO.below.size
  have HL := Lib.hid hlt
  have HW0 := Lib.hid hW0
  clear hlt hW0
  refine region_law 11 [fIs (.agg #[.int .u8 0, .int .u8 0, .int .u8 0, .int .u8 0, .int .u8 0, .int .u8 0, .int .u8 0, .int .u8 0, .int .u8 0, .int .u8 0, .int .u8 0, .int .u8 0]), fIs (.pointer (some ⟨gB, 0, none⟩)), fIs (m.v), fIs (.slice A l.length c), fIs (.agg (u8s T).toArray), fIs (.pointer (some ⟨gB, 10, none⟩)), fIs (n.v), fIs (.int .i64 x), fRow 3 1 [.int .i64 x], fIs (.agg (u8s S).toArray), fVar wN.heap.size 39 [.int .u8 0, .int .u8 0, .int .u8 0, .int .u8 0, .int .u8 0, .int .u8 0, .int .u8 0, .int .u8 0, .int .u8 0, .int .u8 0, .int .u8 0, .int .u8 0]] HO (by kernel_rfl) (by kernel_rfl) (by decide) (by kernel_rfl)
    (stays_cons (Stays.fIs _) (stays_cons (Stays.fIs _) (stays_cons (Stays.fIs _) (stays_cons (Stays.fIs _) (stays_cons (Stays.fIs _) (stays_cons (Stays.fIs _) (stays_cons (Stays.fIs _) (stays_cons (Stays.fIs _) (stays_cons (Stays.fRow _ _ _) (stays_cons (Stays.fIs _) (stays_cons (Stays.fVar _ _ _) stays_nil))))))))))) ?_
  intro vals A hA
  simp [fillL, dstOf, List.range, List.range.loop, Act.put] at hA
  subst hA
  refine ⟨⟨?_, ?_, ?_, ?_, ?_, ?_, ?_, ?_, ?_, ?_, ?_, trivial⟩, ?_⟩
  all_goals intro W hd hM hb0
  case refine_1 =>
    skip
    exact st_val rfl (by simp only [execOp]; first | (go_simp; done) | (go_simp; rfl)) rfl
  case refine_2 =>
    skip
    exact st_val rfl (by simp only [execOp]; first | (go_simp; done) | (go_simp; rfl)) rfl
  case refine_3 =>
    have v1 : vals 1 = .pointer (some ⟨gB, 0, none⟩) := hd 1 (by kernel_rfl)
    rw [v1]
    exact st_load hM rfl rfl rfl (.head _) Try.isAgg23 Try.sizeOf23 (by repeat constructor) rfl
  case refine_4 =>
    skip
    exact st_val rfl (by simp only [execOp]; first | (go_simp; done) | (go_simp; rfl)) rfl
  case refine_5 =>
    have v0 : vals 0 = .agg #[.int .u8 0, .int .u8 0, .int .u8 0, .int .u8 0, .int .u8 0, .int .u8 0, .int .u8 0, .int .u8 0, .int .u8 0, .int .u8 0, .int .u8 0, .int .u8 0] := hd 0 (by kernel_rfl)
    have v2 : vals 2 = m.v := hd 2 (by kernel_rfl)
    have v3 : vals 3 = .slice A l.length c := hd 3 (by kernel_rfl)
    rw [v0, v2, v3]
    have hcall := save_calls zero12 rfl m A c l HLN.out W (Kd.C_below HC.out hM.below)
    rw [HT.out] at hcall
    change Calls Try.prog 20 #[.agg #[.int .u8 0, .int .u8 0, .int .u8 0, .int .u8 0, .int .u8 0, .int .u8 0, .int .u8 0, .int .u8 0, .int .u8 0, .int .u8 0, .int .u8 0, .int .u8 0], m.v, .slice A l.length c] W _ at hcall
    exact st_call rfl (by simp only [execOp]; first | (go_simp; done) | (go_simp; rfl)) hcall (by rintro e w' ⟨rfl, hb⟩; exact ⟨_, rfl, hb, rfl⟩)
  case refine_6 =>
    skip
    exact st_val rfl (by simp only [execOp]; first | (go_simp; done) | (go_simp; rfl)) rfl
  case refine_7 =>
    have v5 : vals 5 = .pointer (some ⟨gB, 10, none⟩) := hd 5 (by kernel_rfl)
    rw [v5]
    exact st_load hM rfl rfl rfl (.head _) Try.isAgg23 Try.sizeOf23 (by repeat constructor) rfl
  case refine_8 =>
    skip
    exact st_val rfl (by simp only [execOp]; first | (go_simp; done) | (go_simp; rfl)) rfl
  case refine_9 =>
    have v7 : vals 7 = .int .i64 x := hd 7 (by kernel_rfl)
    rw [v7]
    exact st_new (ob := .cells #[.int .i64 x] 3 (0, 0)) rfl (by simp only [execOp]; first | (go_simp; done) | (go_simp; rfl)) (fun h => ⟨_, rfl, h⟩)
  case refine_10 =>
    have v4 : vals 4 = .agg (u8s T).toArray := hd 4 (by kernel_rfl)
    have v6 : vals 6 = n.v := hd 6 (by kernel_rfl)
    rw [v4, v6]
    obtain ⟨gO, e8, hgO⟩ : fRow 3 1 [.int .i64 x] (vals 8) W := hd 8 (by kernel_rfl)
    rw [e8]
    have hcall := save_calls T HT12.out n (some ⟨gO, 0, none⟩) 1 [x] (by simp) W (Kit.lit_ints (xs := [x]) hgO (by simp))
    rw [HS.out] at hcall
    change Calls Try.prog 20 #[.agg (u8s T).toArray, n.v, .slice (some ⟨gO, 0, none⟩) 1 1] W _ at hcall
    exact st_call rfl (by simp only [execOp]; first | (go_simp; done) | (go_simp; rfl)) hcall (by rintro e w' ⟨rfl, hb⟩; exact ⟨_, rfl, hb, rfl⟩)
  case refine_11 =>
    skip
    exact st_new (ob := .cells #[.int .u8 0, .int .u8 0, .int .u8 0, .int .u8 0, .int .u8 0, .int .u8 0, .int .u8 0, .int .u8 0, .int .u8 0, .int .u8 0, .int .u8 0, .int .u8 0] 39 (0, 0)) rfl (by simp only [execOp]; first | (go_simp; done) | (go_simp; rfl)) (fun h => ⟨_, rfl, hb0.size, h⟩)
  case refine_12 =>
    have v9 : vals 9 = .agg (u8s S).toArray := hd 9 (by omega)
    rw [v9]
    simp only [List.drop_succ_cons, List.drop_zero]
    obtain ⟨gS, e10, hge, hgS⟩ : fVar wN.heap.size 39 _ (vals 10) W := hd 10 (by omega)
    have HO := hM.take (p := IsCells [.int .u8 0, .int .u8 0, .int .u8 0, .int .u8 0, .int .u8 0, .int .u8 0, .int .u8 0, .int .u8 0, .int .u8 0, .int .u8 0, .int .u8 0, .int .u8 0] 39) HL.out HW0.out hge ⟨_, hgS, rfl⟩
    simp only [List.nil_append, List.cons_append] at HO
    rw [e10]
    clear hd hM hgS e10 hb0 HL HW0
    go_wp2_with (first
          | (go_at_call 20; refine ((save_calls zero12 rfl m A c l HLN.out _ (Kd.C_below HC.out HO.below))).mono ?_; rw [HT.out]; rintro eN wN ⟨rfl, hbN⟩; have HON := HO.call hbN; clear HO hbN; have HO := HON; clear HON)
          | (go_at_call 20; refine ((save_calls zero12 rfl n (some ⟨gQ, 0, none⟩) 1 [x] (by simp) _ (Kit.lit_ints (HO.at (by first | exact .head _ | exact .tail _ (.head _) | exact .tail _ (.tail _ (.head _)) | exact .tail _ (.tail _ (.tail _ (.head _))) | exact .tail _ (.tail _ (.tail _ (.tail _ (.head _)))) | exact .tail _ (.tail _ (.tail _ (.tail _ (.tail _ (.head _))))) | exact .tail _ (.tail _ (.tail _ (.tail _ (.tail _ (.tail _ (.head _)))))) | exact .tail _ (.tail _ (.tail _ (.tail _ (.tail _ (.tail _ (.tail _ (.head _))))))))) (by simp)))).mono ?_; rw [HI.out]; rintro eN wN ⟨rfl, hbN⟩; have HON := HO.call hbN; clear HO hbN; have HO := HON; clear HON)
          | ((with_reducible refine gate ?_); (first
          | ((with_reducible refine gateAt (N := 9) rfl ?_); refine own_alloc (T := 39) HO rfl rfl Try.zeroValue39 rfl ?_; clear HO; intro gT wN hggT HO; (simp only [List.nil_append, List.cons_append] at HO); (try simp only [Act.put, List.setIfInBounds_toArray, List.set_cons_zero, List.set_cons_succ]))
          | ((with_reducible refine gateAt (N := 10) rfl ?_); refine own_alloc (T := 39) HO rfl rfl Try.zeroValue39 rfl ?_; clear HO; intro gI wN hggI HO; (simp only [List.nil_append, List.cons_append] at HO); (try simp only [Act.put, List.setIfInBounds_toArray, List.set_cons_zero, List.set_cons_succ]))
          | ((with_reducible refine gateAt (N := 37) rfl ?_); refine own_lit HO rfl (n := 1) (cs := [.int .i64 (x)]) (T := 3) (by first | (go_simp; done) | (go_simp; rfl)) ?_; clear HO; intro gQ wN hggQ HO; (simp only [List.nil_append, List.cons_append] at HO); (try simp only [Act.put, List.setIfInBounds_toArray, List.set_cons_zero, List.set_cons_succ]))
          | ((with_reducible refine gate ?_); refine own_store (T := 39) (vs := u8s S) HO rfl rfl rfl rfl (by first | exact .here | exact .there (.here) | exact .there (.there (.here)) | exact .there (.there (.there (.here))) | exact .there (.there (.there (.there (.here)))) | exact .there (.there (.there (.there (.there (.here))))) | exact .there (.there (.there (.there (.there (.there (.here)))))) | exact .there (.there (.there (.there (.there (.there (.there (.here)))))))) (size12 HS12.out) (by exact PutAt.all _ _ (len12 HS12.out)) (one12 S) ?_; clear HO; intro wN HO; (try simp only [Act.put, List.setIfInBounds_toArray, List.set_cons_zero, List.set_cons_succ]))
          | ((with_reducible refine gate ?_); refine own_store (T := 39) (vs := u8s T) HO rfl rfl rfl rfl (by first | exact .here | exact .there (.here) | exact .there (.there (.here)) | exact .there (.there (.there (.here))) | exact .there (.there (.there (.there (.here)))) | exact .there (.there (.there (.there (.there (.here))))) | exact .there (.there (.there (.there (.there (.there (.here)))))) | exact .there (.there (.there (.there (.there (.there (.there (.here)))))))) (size12 HT12.out) (by exact PutAt.all _ _ (len12 HT12.out)) (one12 T) ?_; clear HO; intro wN HO; (try simp only [Act.put, List.setIfInBounds_toArray, List.set_cons_zero, List.set_cons_succ]))
          | ((with_reducible refine gate ?_); refine own_store (T := 39) (vs := u8s I) HO rfl rfl rfl rfl (by first | exact .here | exact .there (.here) | exact .there (.there (.here)) | exact .there (.there (.there (.here))) | exact .there (.there (.there (.there (.here)))) | exact .there (.there (.there (.there (.there (.here))))) | exact .there (.there (.there (.there (.there (.there (.here)))))) | exact .there (.there (.there (.there (.there (.there (.there (.here)))))))) (size12 HI12.out) (by exact PutAt.all _ _ (len12 HI12.out)) (one12 I) ?_; clear HO; intro wN HO; (try simp only [Act.put, List.setIfInBounds_toArray, List.set_cons_zero, List.set_cons_succ]))
          | ((refine own_box HO rfl rfl rfl ?_); clear HO; intro gN wN hgN HO; (simp only [List.nil_append, List.cons_append] at HO); (try simp only [Act.put, List.setIfInBounds_toArray, List.set_cons_zero, List.set_cons_succ]))
          | ((refine own_load (T := 23) HO rfl rfl rfl (by first | exact .head _ | exact .tail _ (.head _) | exact .tail _ (.tail _ (.head _)) | exact .tail _ (.tail _ (.tail _ (.head _))) | exact .tail _ (.tail _ (.tail _ (.tail _ (.head _)))) | exact .tail _ (.tail _ (.tail _ (.tail _ (.tail _ (.head _))))) | exact .tail _ (.tail _ (.tail _ (.tail _ (.tail _ (.tail _ (.head _)))))) | exact .tail _ (.tail _ (.tail _ (.tail _ (.tail _ (.tail _ (.tail _ (.head _)))))))) Try.isAgg23 Try.sizeOf23 (by repeat constructor) ?_); (try simp only [Act.put, List.setIfInBounds_toArray, List.set_cons_zero, List.set_cons_succ]))
          | ((refine own_store (T := 23) HO rfl rfl rfl rfl (by first | exact .here | exact .there (.here) | exact .there (.there (.here)) | exact .there (.there (.there (.here))) | exact .there (.there (.there (.there (.here)))) | exact .there (.there (.there (.there (.there (.here))))) | exact .there (.there (.there (.there (.there (.there (.here)))))) | exact .there (.there (.there (.there (.there (.there (.there (.here)))))))) Try.sizeOf23 (by repeat constructor) rfl ?_); clear HO; intro wN HO; (try simp only [Act.put, List.setIfInBounds_toArray, List.set_cons_zero, List.set_cons_succ])))))
    go_loopw [11] (fun i wr => ∃ k : Nat, k ≤ 12 ∧ i = .int .i64 (k : Int) ∧ Mine w wr [(gB, IsCells [.bool m.cursor, .bool m.keypad, .bool m.back, .bool m.focus, .bool m.paste, .bool m.lock, .bool m.line, .int .i64 m.mouse, .int .i64 m.coding, .int .i64 m.other, .bool n.cursor, .bool n.keypad, .bool n.back, .bool n.focus, .bool n.paste, .bool n.lock, .bool n.line, .int .i64 n.mouse, .int .i64 n.coding, .int .i64 n.other] 48), (gS, IsCells (u8s S) 39), (gT, IsCells (u8s T) 39), (gQ, IsCells [.int .i64 x] 3), (gI, IsCells (u8s I) 39)]) (fun i _ => 12 - (intOf i).toNat)
    case atStart => exact ⟨0, by omega, rfl, HO⟩
    case round =>
      obtain ⟨k, hk, rfl, HOn⟩ := hrel
      clear HO
      have HO := HOn
      clear HOn
      by_cases hlt : k < 12
      · have hk0 : (k : Int) < 12 := by omega
        have hkd : decide ((k : Int) < 12) = true := decide_eq_true hk0
        obtain ⟨a, ha⟩ : ∃ a, T.getD k 0 = a := ⟨_, rfl⟩
        obtain ⟨b, hb⟩ : ∃ b, I.getD k 0 = b := ⟨_, rfl⟩
        have hl := HLAW.out k
        rw [ha, hb] at hl
        have HKT := Lib.hid (cell12 HT12.out hlt ha)
        have HKI := Lib.hid (cell12 HI12.out hlt hb)
        have HLT := Lib.hid hlt
        by_cases h0 : b = 0
        · rw [if_pos h0] at hl
          subst h0
          have HKS := Lib.hid (cell12 HS12.out hlt hl)
          clear ha hb hl hlt hk
          go_wp2_with ((with_reducible refine gate ?_); refine own_load1 (T := 5) HO rfl rfl rfl (by first | exact .head _ | exact .tail _ (.head _) | exact .tail _ (.tail _ (.head _)) | exact .tail _ (.tail _ (.tail _ (.head _))) | exact .tail _ (.tail _ (.tail _ (.tail _ (.head _)))) | exact .tail _ (.tail _ (.tail _ (.tail _ (.tail _ (.head _)))))) Try.isAgg5 (by first | exact HKT.out | exact HKI.out | exact HKS.out) ?_; (try simp only [Act.put, List.setIfInBounds_toArray, List.set_cons_zero, List.set_cons_succ]))
          go_roundw
          case rel => exact ⟨k + 1, by have := HLT.out; omega, by first | exact step12a k HLT.out | exact rfl, HO⟩
          case measure => first | exact meas12a k HLT.out | exact meas_len 12 k HLT.out
        · rw [if_neg h0] at hl
          have HKS := Lib.hid (cell12 HS12.out hlt hl)
          have b1 : (b != 0) = true := bne_iff_ne.2 h0
          have b2 : (b == 0) = false := beq_eq_false_iff_ne.2 h0
          clear ha hb hl hlt hk h0
          go_wp2_with ((with_reducible refine gate ?_); refine own_load1 (T := 5) HO rfl rfl rfl (by first | exact .head _ | exact .tail _ (.head _) | exact .tail _ (.tail _ (.head _)) | exact .tail _ (.tail _ (.tail _ (.head _))) | exact .tail _ (.tail _ (.tail _ (.tail _ (.head _)))) | exact .tail _ (.tail _ (.tail _ (.tail _ (.tail _ (.head _)))))) Try.isAgg5 (by first | exact HKT.out | exact HKI.out | exact HKS.out) ?_; (try simp only [Act.put, List.setIfInBounds_toArray, List.set_cons_zero, List.set_cons_succ]))
          go_roundw
          case rel => exact ⟨k + 1, by have := HLT.out; omega, by first | exact step12a k HLT.out | exact rfl, HO⟩
          case measure => first | exact meas12a k HLT.out | exact meas_len 12 k HLT.out
      · obtain rfl : k = 12 := by omega
        go_wp2
        go_ret
        exact ⟨rfl, HO.below⟩

theorem saveLast_calls (m n : Md) (A : Option Addr) (c : Nat) (l : List Int) (x : Int) (w : World) (hC : (Kd.int .i64).C w A l.length l) :
    Calls Try.prog 10 #[.agg #[.bool m.cursor, .bool m.keypad, .bool m.back, .bool m.focus, .bool m.paste, .bool m.lock, .bool m.line, .int .i64 m.mouse, .int .i64 m.coding, .int .i64 m.other, .bool n.cursor, .bool n.keypad, .bool n.back, .bool n.focus, .bool n.paste, .bool n.lock, .bool n.line, .int .i64 n.mouse, .int .i64 n.coding, .int .i64 n.other], .slice A l.length c, .int .i64 x] w fun e w' => e = .returned (.bool true) ∧ Below w.heap.size w w' := by
  by_cases hl : 30 < l.length
  · exact saveLast_long m n A c l x w hl
  · exact saveLast_short m n A c l x w hl hC

end Go.Proofs.Ytllloedhlcdbjaa
