/- The walk of the law SaveAll. No condition. -/
import Derived.Test.YtllloedhlcdbjaaSvL
import Derived.Test.YtllloedhlcdbjaaRgL
namespace Go.Proofs.Ytllloedhlcdbjaa
set_option linter.unusedVariables false
set_option linter.unusedSimpArgs false
open Go.RowKit Kit Go.Proofs.YtllloedhlcdbjaaW.PrintWords
/-- the row of all modes -/
def fOwn : Fact := fun v w => ∃ g cap rest, v = .slice (some ⟨g, 0, none⟩) 12 cap ∧ w.heap[g]? = some (.cells (ownL.map (Value.int .i64) ++ rest).toArray 3 (0, 0)) ∧ 12 ≤ cap
theorem Stays.fOwn : Stays fOwn := fun v w w' h hb => by
  obtain ⟨g, cap, rest, h1, h2, h3⟩ := h
  exact ⟨g, cap, rest, h1, (hb.block g (Array.getElem?_eq_some_iff.1 h2).1).trans h2, h3⟩
theorem row_C {w : World} {g : Nat} {xs : List Int} {rest : List Value} (h : w.heap[g]? = some (.cells (xs.map (Value.int .i64) ++ rest).toArray 3 (0, 0))) (hm : xs.length ≤ 1000) : (Kd.int .i64).C w (some ⟨g, 0, none⟩) xs.length xs := by
  refine Kd.C_of_reads (d := (0 : Int)) ⟨rfl, by omega, fun h0 => ⟨⟨g, 0, none⟩, rfl, fun i hi => ?_⟩⟩
  have : (⟨g, 0, none⟩ : Addr).add i = ⟨g, 0 + i, none⟩ := by unfold Addr.add; split <;> simp_all
  rw [this]
  have h2 : (xs.map (Value.int .i64) ++ rest)[i]? = some (.int .i64 (xs.getD i 0)) := by
    rw [List.getElem?_append_left (by simpa using hi)]
    simp [hi, List.getD]
  simp [World.cell?, h, h2]
theorem own_gives (W : World) : Calls Try.prog 14 #[] W fun e w' => ∃ v, e = .returned v ∧ fOwn v w' ∧ Below W.heap.size W w' :=
  (own_calls W).mono fun e w' ⟨v, h1, ⟨g, cap, rest, h2, _, h3, h4⟩, h5⟩ => ⟨v, h1, ⟨g, cap, rest, h2, h3, h4⟩, h5⟩
theorem rmay_of (m : Md) (r : Bool) (h : mayM m = r) (w : World) : Calls Try.prog 24 #[m.v] w fun e w' => e = .returned (.bool r) ∧ Below w.heap.size w w' := by
  have := rmay_calls m w; rw [h] at this; exact this
attribute [local irreducible] wpList Calls wpQuiet

set_option maxRecDepth 100000 in
set_option maxHeartbeats 4000000 in
theorem saveAll_no1 (m n : Md) (w : World) (h : mayM m = false) :
    Calls Try.prog 8 #[m.v, n.v] w fun e w' => e = .returned (.bool true) ∧ Below w.heap.size w w' := by
  have HO := Mine.start w
  have H := Lib.hid h
  clear h
  go_enter Try.func8, Try.ntmps8
  go_wp2_with (first
      | (go_at_call 19; refine (awake07_calls _).mono ?_; rintro eN wN ⟨rfl, hbN⟩; have HON := HO.call hbN; clear HO hbN; have HO := HON; clear HON)
      | (go_at_call 24; refine (rmay_of m false H.out _).mono ?_; rintro eN wN ⟨rfl, hbN⟩; have HON := HO.call hbN; clear HO hbN; have HO := HON; clear HON)
      | ((with_reducible refine gate ?_); (first
      | ((with_reducible refine gateAt (N := 3) rfl ?_); refine own_box (T := 23) HO rfl rfl rfl ?_; clear HO; intro gN wN hggN HO; (simp only [List.nil_append, List.cons_append] at HO); (try simp only [Act.put, List.setIfInBounds_toArray, List.set_cons_zero, List.set_cons_succ]))
      | ((with_reducible refine gateAt (N := 2) rfl ?_); refine own_box (T := 23) HO rfl rfl rfl ?_; clear HO; intro gM wN hggM HO; (simp only [List.nil_append, List.cons_append] at HO); (try simp only [Act.put, List.setIfInBounds_toArray, List.set_cons_zero, List.set_cons_succ]))
      | ((refine own_box HO rfl rfl rfl ?_); clear HO; intro gN wN hgN HO; (simp only [List.nil_append, List.cons_append] at HO); (try simp only [Act.put, List.setIfInBounds_toArray, List.set_cons_zero, List.set_cons_succ]))
      | ((refine own_load (T := 23) HO rfl rfl rfl (by first | exact .head _ | exact .tail _ (.head _) | exact .tail _ (.tail _ (.head _)) | exact .tail _ (.tail _ (.tail _ (.head _))) | exact .tail _ (.tail _ (.tail _ (.tail _ (.head _)))) | exact .tail _ (.tail _ (.tail _ (.tail _ (.tail _ (.head _)))))) Try.isAgg23 Try.sizeOf23 (by repeat constructor) ?_); (try simp only [Act.put, List.setIfInBounds_toArray, List.set_cons_zero, List.set_cons_succ]))
      | ((refine own_store (T := 23) HO rfl rfl rfl rfl (by first | exact .here | exact .there (.here) | exact .there (.there (.here)) | exact .there (.there (.there (.here))) | exact .there (.there (.there (.there (.here)))) | exact .there (.there (.there (.there (.there (.here)))))) Try.sizeOf23 (by repeat constructor) rfl ?_); clear HO; intro wN HO; (try simp only [Act.put, List.setIfInBounds_toArray, List.set_cons_zero, List.set_cons_succ])))))
  go_ret
  exact ⟨rfl, HO.below⟩
set_option maxRecDepth 100000 in
set_option maxHeartbeats 4000000 in
theorem saveAll_no2 (m n : Md) (w : World) (h : mayM m = true) (h2 : mayM n = false) :
    Calls Try.prog 8 #[m.v, n.v] w fun e w' => e = .returned (.bool true) ∧ Below w.heap.size w w' := by
  have HO := Mine.start w
  have H := Lib.hid h
  have H2 := Lib.hid h2
  clear h h2
  go_enter Try.func8, Try.ntmps8
  go_wp2_with (first
      | (go_at_call 19; refine (awake07_calls _).mono ?_; rintro eN wN ⟨rfl, hbN⟩; have HON := HO.call hbN; clear HO hbN; have HO := HON; clear HON)
      | (go_at_call 24; refine (rmay_of m true H.out _).mono ?_; rintro eN wN ⟨rfl, hbN⟩; have HON := HO.call hbN; clear HO hbN; have HO := HON; clear HON)
      | (go_at_call 24; refine (rmay_of n false H2.out _).mono ?_; rintro eN wN ⟨rfl, hbN⟩; have HON := HO.call hbN; clear HO hbN; have HO := HON; clear HON)
      | ((with_reducible refine gate ?_); (first
      | ((with_reducible refine gateAt (N := 3) rfl ?_); refine own_box (T := 23) HO rfl rfl rfl ?_; clear HO; intro gN wN hggN HO; (simp only [List.nil_append, List.cons_append] at HO); (try simp only [Act.put, List.setIfInBounds_toArray, List.set_cons_zero, List.set_cons_succ]))
      | ((with_reducible refine gateAt (N := 2) rfl ?_); refine own_box (T := 23) HO rfl rfl rfl ?_; clear HO; intro gM wN hggM HO; (simp only [List.nil_append, List.cons_append] at HO); (try simp only [Act.put, List.setIfInBounds_toArray, List.set_cons_zero, List.set_cons_succ]))
      | ((refine own_box HO rfl rfl rfl ?_); clear HO; intro gN wN hgN HO; (simp only [List.nil_append, List.cons_append] at HO); (try simp only [Act.put, List.setIfInBounds_toArray, List.set_cons_zero, List.set_cons_succ]))
      | ((refine own_load (T := 23) HO rfl rfl rfl (by first | exact .head _ | exact .tail _ (.head _) | exact .tail _ (.tail _ (.head _)) | exact .tail _ (.tail _ (.tail _ (.head _))) | exact .tail _ (.tail _ (.tail _ (.tail _ (.head _)))) | exact .tail _ (.tail _ (.tail _ (.tail _ (.tail _ (.head _)))))) Try.isAgg23 Try.sizeOf23 (by repeat constructor) ?_); (try simp only [Act.put, List.setIfInBounds_toArray, List.set_cons_zero, List.set_cons_succ]))
      | ((refine own_store (T := 23) HO rfl rfl rfl rfl (by first | exact .here | exact .there (.here) | exact .there (.there (.here)) | exact .there (.there (.there (.here))) | exact .there (.there (.there (.there (.here)))) | exact .there (.there (.there (.there (.there (.here)))))) Try.sizeOf23 (by repeat constructor) rfl ?_); clear HO; intro wN HO; (try simp only [Act.put, List.setIfInBounds_toArray, List.set_cons_zero, List.set_cons_succ])))))
  go_ret
  exact ⟨rfl, HO.below⟩
set_option maxRecDepth 100000 in
set_option maxHeartbeats 4000000 in
theorem saveAll_yes (m n : Md) (w : World) (h : mayM m = true) (h2 : mayM n = true) :
    Calls Try.prog 8 #[m.v, n.v] w fun e w' => e = .returned (.bool true) ∧ Below w.heap.size w w' := by
  have HO := Mine.start w
  have hb := all_back m n h h2
  have H := Lib.hid h
  have H2 := Lib.hid h2
  have hlen := saveL_len m zero12 ownL
  obtain ⟨R, hR⟩ : ∃ R, saveL m zero12 ownL = R := ⟨_, rfl⟩
  rw [hR] at hb hlen
  have hR12 : R.length = 12 := hlen
  have HR := Lib.hid hR
  have HR12 := Lib.hid hR12
  have HB := Lib.hid hb
  have HE : Hid (∀ w, (Op.equal 23 (Md.v { m with lock := n.lock, line := n.line, other := n.other }) (Md.v { m with lock := n.lock, line := n.line, other := n.other })).run Try.prog w = .ok true w) := Lib.hid fun w => (equal_modes _ _ w).trans (by rw [decide_eq_true rfl])
  clear h h2 hb hlen hR12 hR
  go_enter Try.func8, Try.ntmps8
  go_wp2_with (first
      | (go_at_call 19; refine (awake07_calls _).mono ?_; rintro eN wN ⟨rfl, hbN⟩; have HON := HO.call hbN; clear HO hbN; have HO := HON; clear HON)
      | (go_at_call 24; refine (rmay_of m true H.out _).mono ?_; rintro eN wN ⟨rfl, hbN⟩; have HON := HO.call hbN; clear HO hbN; have HO := HON; clear HON)
      | (go_at_call 24; refine (rmay_of n true H2.out _).mono ?_; rintro eN wN ⟨rfl, hbN⟩; have HON := HO.call hbN; clear HO hbN; have HO := HON; clear HON)
      | ((with_reducible refine gate ?_); (first
      | ((with_reducible refine gateAt (N := 3) rfl ?_); refine own_box (T := 23) HO rfl rfl rfl ?_; clear HO; intro gN wN hggN HO; (simp only [List.nil_append, List.cons_append] at HO); (try simp only [Act.put, List.setIfInBounds_toArray, List.set_cons_zero, List.set_cons_succ]))
      | ((with_reducible refine gateAt (N := 2) rfl ?_); refine own_box (T := 23) HO rfl rfl rfl ?_; clear HO; intro gM wN hggM HO; (simp only [List.nil_append, List.cons_append] at HO); (try simp only [Act.put, List.setIfInBounds_toArray, List.set_cons_zero, List.set_cons_succ]))
      | ((refine own_box HO rfl rfl rfl ?_); clear HO; intro gN wN hgN HO; (simp only [List.nil_append, List.cons_append] at HO); (try simp only [Act.put, List.setIfInBounds_toArray, List.set_cons_zero, List.set_cons_succ]))
      | ((refine own_load (T := 23) HO rfl rfl rfl (by first | exact .head _ | exact .tail _ (.head _) | exact .tail _ (.tail _ (.head _)) | exact .tail _ (.tail _ (.tail _ (.head _))) | exact .tail _ (.tail _ (.tail _ (.tail _ (.head _)))) | exact .tail _ (.tail _ (.tail _ (.tail _ (.tail _ (.head _)))))) Try.isAgg23 Try.sizeOf23 (by repeat constructor) ?_); (try simp only [Act.put, List.setIfInBounds_toArray, List.set_cons_zero, List.set_cons_succ]))
      | ((refine own_store (T := 23) HO rfl rfl rfl rfl (by first | exact .here | exact .there (.here) | exact .there (.there (.here)) | exact .there (.there (.there (.here))) | exact .there (.there (.there (.there (.here)))) | exact .there (.there (.there (.there (.there (.here)))))) Try.sizeOf23 (by repeat constructor) rfl ?_); clear HO; intro wN HO; (try simp only [Act.put, List.setIfInBounds_toArray, List.set_cons_zero, List.set_cons_succ])))))
  have hlt : ∀ q ∈ [(gM, IsCells [.bool m.cursor, .bool m.keypad, .bool m.back, .bool m.focus, .bool m.paste, .bool m.lock, .bool m.line, .int .i64 m.mouse, .int .i64 m.coding, .int .i64 m.other] 23), (gN, IsCells [.bool n.cursor, .bool n.keypad, .bool n.back, .bool n.focus, .bool n.paste, .bool n.lock, .bool n.line, .int .i64 n.mouse, .int .i64 n.coding, .int .i64 n.other] 23)], q.1 < _ := fun q hq => HO.lt hq
  have hW0 := HO.below.size
  have HL := Lib.hid hlt
  have HW0 := Lib.hid hW0
  clear hlt hW0
  refine region_law 5 [fIs (.agg #[.int .u8 0, .int .u8 0, .int .u8 0, .int .u8 0, .int .u8 0, .int .u8 0, .int .u8 0, .int .u8 0, .int .u8 0, .int .u8 0, .int .u8 0, .int .u8 0]), fIs (m.v), fOwn, fIs (.agg (u8s R).toArray), fVar wN.heap.size 39 [.int .u8 0, .int .u8 0, .int .u8 0, .int .u8 0, .int .u8 0, .int .u8 0, .int .u8 0, .int .u8 0, .int .u8 0, .int .u8 0, .int .u8 0, .int .u8 0]] HO (by kernel_rfl) (by kernel_rfl) (by decide) (by kernel_rfl)
    (stays_cons (Stays.fIs _) (stays_cons (Stays.fIs _) (stays_cons (Stays.fOwn) (stays_cons (Stays.fIs _) (stays_cons (Stays.fVar _ _ _) stays_nil))))) ?_
  intro vals A hA
  simp [fillL, dstOf, List.range, List.range.loop, Act.put] at hA
  subst hA
  refine ⟨⟨?_, ?_, ?_, ?_, ?_, trivial⟩, ?_⟩
  all_goals intro W hd hM hb0
  case refine_1 =>
    skip
    exact st_val rfl (by simp only [execOp]; first | (go_simp; done) | (go_simp; rfl)) rfl
  case refine_2 =>
    skip
    exact st_load hM rfl rfl rfl (.head _) Try.isAgg23 Try.sizeOf23 (by repeat constructor) rfl
  case refine_3 =>
    skip
    exact st_call rfl (by simp only [execOp]; first | (go_simp; done) | (go_simp; rfl)) (own_gives W) (by rintro e w' ⟨v, rfl, hS, hb⟩; exact ⟨_, rfl, hb, hS⟩)
  case refine_4 =>
    have v0 : vals 0 = .agg #[.int .u8 0, .int .u8 0, .int .u8 0, .int .u8 0, .int .u8 0, .int .u8 0, .int .u8 0, .int .u8 0, .int .u8 0, .int .u8 0, .int .u8 0, .int .u8 0] := hd 0 (by kernel_rfl)
    have v1 : vals 1 = m.v := hd 1 (by kernel_rfl)
    rw [v0, v1]
    obtain ⟨gO, cap, rest, e2, hgO, hcap⟩ : fOwn (vals 2) W := hd 2 (by kernel_rfl)
    rw [e2]
    have hcall := save_calls zero12 rfl m (some ⟨gO, 0, none⟩) cap ownL (by decide) W (row_C (xs := ownL) hgO (by decide))
    rw [HR.out] at hcall
    change Calls Try.prog 20 #[.agg #[.int .u8 0, .int .u8 0, .int .u8 0, .int .u8 0, .int .u8 0, .int .u8 0, .int .u8 0, .int .u8 0, .int .u8 0, .int .u8 0, .int .u8 0, .int .u8 0], m.v, .slice (some ⟨gO, 0, none⟩) 12 cap] W _ at hcall
    exact st_call rfl (by simp only [execOp]; first | (go_simp; done) | (go_simp; rfl)) hcall (by rintro e w' ⟨rfl, hb⟩; exact ⟨_, rfl, hb, rfl⟩)
  case refine_5 =>
    skip
    exact st_new (ob := .cells #[.int .u8 0, .int .u8 0, .int .u8 0, .int .u8 0, .int .u8 0, .int .u8 0, .int .u8 0, .int .u8 0, .int .u8 0, .int .u8 0, .int .u8 0, .int .u8 0] 39 (0, 0)) rfl (by simp only [execOp]; first | (go_simp; done) | (go_simp; rfl)) (fun h => ⟨_, rfl, hb0.size, h⟩)
  case refine_6 =>
    have v3 : vals 3 = .agg (u8s R).toArray := hd 3 (by omega)
    rw [v3]
    simp only [List.drop_succ_cons, List.drop_zero]
    obtain ⟨gV, e4, hge, hgV⟩ : fVar wN.heap.size 39 _ (vals 4) W := hd 4 (by omega)
    have HO := hM.take (p := IsCells [.int .u8 0, .int .u8 0, .int .u8 0, .int .u8 0, .int .u8 0, .int .u8 0, .int .u8 0, .int .u8 0, .int .u8 0, .int .u8 0, .int .u8 0, .int .u8 0] 39) HL.out HW0.out hge ⟨_, hgV, rfl⟩
    simp only [List.nil_append, List.cons_append] at HO
    rw [e4]
    clear hd hM hgV e4 hb0 HL HW0
    go_wp2_with (((with_reducible refine gate ?_); refine own_store (T := 39) (vs := u8s R) HO rfl rfl rfl rfl (by first | exact .here | exact .there (.here) | exact .there (.there (.here)) | exact .there (.there (.there (.here))) | exact .there (.there (.there (.there (.here)))) | exact .there (.there (.there (.there (.there (.here))))) | exact .there (.there (.there (.there (.there (.there (.here)))))) | exact .there (.there (.there (.there (.there (.there (.there (.here)))))))) (size12 HR12.out) (by exact PutAt.all _ _ (len12 HR12.out)) (one12 R) ?_; clear HO; intro wN HO; (try simp only [Act.put, List.setIfInBounds_toArray, List.set_cons_zero, List.set_cons_succ])))
    obtain ⟨wM, hwM⟩ : ∃ wM, wN = wM := ⟨_, rfl⟩
    rw [hwM] at HO ⊢
    clear hwM
    have hlt : ∀ q ∈ [(gM, IsCells [.bool m.cursor, .bool m.keypad, .bool m.back, .bool m.focus, .bool m.paste, .bool m.lock, .bool m.line, .int .i64 m.mouse, .int .i64 m.coding, .int .i64 m.other] 23), (gN, IsCells [.bool n.cursor, .bool n.keypad, .bool n.back, .bool n.focus, .bool n.paste, .bool n.lock, .bool n.line, .int .i64 n.mouse, .int .i64 n.coding, .int .i64 n.other] 23), (gV, IsCells (u8s R) 39)], q.1 < _ := fun q hq => HO.lt hq
    have hW0 := HO.below.size
    have HL := Lib.hid hlt
    have HW0 := Lib.hid hW0
    clear hlt hW0
    refine region_law 5 [fIs (.agg (u8s R).toArray), fIs (n.v), fOwn, fIs (Md.v { m with lock := n.lock, line := n.line, other := n.other }), fVar wM.heap.size 23 [.bool false, .bool false, .bool false, .bool false, .bool false, .bool false, .bool false, .int .i64 0, .int .i64 0, .int .i64 0]] HO (by kernel_rfl) (by kernel_rfl) (by decide) (by kernel_rfl)
      (stays_cons (Stays.fIs _) (stays_cons (Stays.fIs _) (stays_cons (Stays.fOwn) (stays_cons (Stays.fIs _) (stays_cons (Stays.fVar _ _ _) stays_nil))))) ?_
    intro vals A hA
    simp [fillL, dstOf, List.range, List.range.loop, Act.put] at hA
    subst hA
    refine ⟨⟨?_, ?_, ?_, ?_, ?_, trivial⟩, ?_⟩
    all_goals intro W hd hM hb0
    case refine_1 =>
      skip
      exact st_load hM rfl rfl rfl (.tail _ (.tail _ (.head _))) Try.isAgg39 Try.sizeOf39 (slc12 HR12.out) rfl
    case refine_2 =>
      skip
      exact st_load hM rfl rfl rfl (.tail _ (.head _)) Try.isAgg23 Try.sizeOf23 (by repeat constructor) rfl
    case refine_3 =>
      skip
      exact st_call rfl (by simp only [execOp]; first | (go_simp; done) | (go_simp; rfl)) (own_gives W) (by rintro e w' ⟨v, rfl, hS, hb⟩; exact ⟨_, rfl, hb, hS⟩)
    case refine_4 =>
      have v0 : vals 0 = .agg (u8s R).toArray := hd 0 (by kernel_rfl)
      have v1 : vals 1 = n.v := hd 1 (by kernel_rfl)
      rw [v0, v1]
      obtain ⟨gO, cap, rest, e2, hgO, hcap⟩ : fOwn (vals 2) W := hd 2 (by kernel_rfl)
      rw [e2]
      have hcall := restore_calls R HR12.out n (some ⟨gO, 0, none⟩) cap ownL (by decide) W (row_C (xs := ownL) hgO (by decide))
      rw [HB.out] at hcall
      change Calls Try.prog 22 #[.agg (u8s R).toArray, n.v, .slice (some ⟨gO, 0, none⟩) 12 cap] W _ at hcall
      exact st_call rfl (by simp only [execOp]; first | (go_simp; done) | (go_simp; rfl)) hcall (by rintro e w' ⟨rfl, hb⟩; exact ⟨_, rfl, hb, rfl⟩)
    case refine_5 =>
      skip
      exact st_new (ob := .cells #[.bool false, .bool false, .bool false, .bool false, .bool false, .bool false, .bool false, .int .i64 0, .int .i64 0, .int .i64 0] 23 (0, 0)) rfl (by simp only [execOp]; first | (go_simp; done) | (go_simp; rfl)) (fun h => ⟨_, rfl, hb0.size, h⟩)
    case refine_6 =>
      have v3 : vals 3 = Md.v { m with lock := n.lock, line := n.line, other := n.other } := hd 3 (by omega)
      rw [v3]
      simp only [List.drop_succ_cons, List.drop_zero]
      obtain ⟨gK, e4, hge, hgK⟩ : fVar wM.heap.size 23 _ (vals 4) W := hd 4 (by omega)
      have HO := hM.take (p := IsCells [.bool false, .bool false, .bool false, .bool false, .bool false, .bool false, .bool false, .int .i64 0, .int .i64 0, .int .i64 0] 23) HL.out HW0.out hge ⟨_, hgK, rfl⟩
      simp only [List.nil_append, List.cons_append] at HO
      rw [e4]
      clear hd hM hgK e4 hb0 HL HW0
      go_wp2_with (first
            | ((with_reducible refine gate ?_); (first
            | ((refine own_eql (t := 23) rfl rfl rfl rfl (by kernel_rfl) HE.out ?_); (try simp only [Act.put, List.setIfInBounds_toArray, List.set_cons_zero, List.set_cons_succ]))
            | ((refine own_box HO rfl rfl rfl ?_); clear HO; intro gN wN hgN HO; (simp only [List.nil_append, List.cons_append] at HO); (try simp only [Act.put, List.setIfInBounds_toArray, List.set_cons_zero, List.set_cons_succ]))
            | ((refine own_load (T := 23) HO rfl rfl rfl (by first | exact .head _ | exact .tail _ (.head _) | exact .tail _ (.tail _ (.head _)) | exact .tail _ (.tail _ (.tail _ (.head _))) | exact .tail _ (.tail _ (.tail _ (.tail _ (.head _)))) | exact .tail _ (.tail _ (.tail _ (.tail _ (.tail _ (.head _))))) | exact .tail _ (.tail _ (.tail _ (.tail _ (.tail _ (.tail _ (.head _)))))) | exact .tail _ (.tail _ (.tail _ (.tail _ (.tail _ (.tail _ (.tail _ (.head _)))))))) Try.isAgg23 Try.sizeOf23 (by repeat constructor) ?_); (try simp only [Act.put, List.setIfInBounds_toArray, List.set_cons_zero, List.set_cons_succ]))
            | ((refine own_load1 (T := 4) HO rfl rfl rfl (by first | exact .head _ | exact .tail _ (.head _) | exact .tail _ (.tail _ (.head _)) | exact .tail _ (.tail _ (.tail _ (.head _))) | exact .tail _ (.tail _ (.tail _ (.tail _ (.head _)))) | exact .tail _ (.tail _ (.tail _ (.tail _ (.tail _ (.head _))))) | exact .tail _ (.tail _ (.tail _ (.tail _ (.tail _ (.tail _ (.head _)))))) | exact .tail _ (.tail _ (.tail _ (.tail _ (.tail _ (.tail _ (.tail _ (.head _)))))))) Try.isAgg4 rfl ?_); (try simp only [Act.put, List.setIfInBounds_toArray, List.set_cons_zero, List.set_cons_succ]))
            | ((refine own_load1 (T := 3) HO rfl rfl rfl (by first | exact .head _ | exact .tail _ (.head _) | exact .tail _ (.tail _ (.head _)) | exact .tail _ (.tail _ (.tail _ (.head _))) | exact .tail _ (.tail _ (.tail _ (.tail _ (.head _)))) | exact .tail _ (.tail _ (.tail _ (.tail _ (.tail _ (.head _))))) | exact .tail _ (.tail _ (.tail _ (.tail _ (.tail _ (.tail _ (.head _)))))) | exact .tail _ (.tail _ (.tail _ (.tail _ (.tail _ (.tail _ (.tail _ (.head _)))))))) Try.isAgg3 rfl ?_); (try simp only [Act.put, List.setIfInBounds_toArray, List.set_cons_zero, List.set_cons_succ]))
            | ((refine own_store (T := 23) HO rfl rfl rfl rfl (by first | exact .here | exact .there (.here) | exact .there (.there (.here)) | exact .there (.there (.there (.here))) | exact .there (.there (.there (.there (.here)))) | exact .there (.there (.there (.there (.there (.here))))) | exact .there (.there (.there (.there (.there (.there (.here)))))) | exact .there (.there (.there (.there (.there (.there (.there (.here)))))))) Try.sizeOf23 (by repeat constructor) rfl ?_); clear HO; intro wN HO; (try simp only [Act.put, List.setIfInBounds_toArray, List.set_cons_zero, List.set_cons_succ]))
            | ((refine own_store (T := 4) HO rfl rfl rfl rfl (by first | exact .here | exact .there (.here) | exact .there (.there (.here)) | exact .there (.there (.there (.here))) | exact .there (.there (.there (.there (.here)))) | exact .there (.there (.there (.there (.there (.here))))) | exact .there (.there (.there (.there (.there (.there (.here)))))) | exact .there (.there (.there (.there (.there (.there (.there (.here)))))))) Try.sizeOf4 (by repeat constructor) rfl ?_); clear HO; intro wN HO; (try simp only [Act.put, List.setIfInBounds_toArray, List.set_cons_zero, List.set_cons_succ]))
            | ((refine own_store (T := 3) HO rfl rfl rfl rfl (by first | exact .here | exact .there (.here) | exact .there (.there (.here)) | exact .there (.there (.there (.here))) | exact .there (.there (.there (.there (.here)))) | exact .there (.there (.there (.there (.there (.here))))) | exact .there (.there (.there (.there (.there (.there (.here)))))) | exact .there (.there (.there (.there (.there (.there (.there (.here)))))))) Try.sizeOf3 (by repeat constructor) rfl ?_); clear HO; intro wN HO; (try simp only [Act.put, List.setIfInBounds_toArray, List.set_cons_zero, List.set_cons_succ])))))
      go_ret
      exact ⟨rfl, HO.below⟩

theorem saveAll_calls (m n : Md) (w : World) : Calls Try.prog 8 #[m.v, n.v] w fun e w' => e = .returned (.bool true) ∧ Below w.heap.size w w' := by
  cases h : mayM m
  · exact saveAll_no1 m n w h
  · cases h2 : mayM n
    · exact saveAll_no2 m n w h h2
    · exact saveAll_yes m n w h h2

end Go.Proofs.Ytllloedhlcdbjaa
