/- The walk of the law SaveBack. No condition. -/
import Derived.Test.YtllloedhlcdbjaaSvQ
namespace Go.Proofs.Ytllloedhlcdbjaa
set_option linter.unusedVariables false
set_option linter.unusedSimpArgs false
open Go.RowKit Kit Go.Proofs.YtllloedhlcdbjaaW.PrintWords
theorem get_two {n : Int} (h : n ∈ ownL) (m : Md) : getM m true n = 1 ∨ getM m true n = 2 := by
  unfold getM
  rw [setM_ok, decide_eq_true h, if_pos rfl]
  split <;> simp
theorem back_law (m now : Md) (n : Int) : getM (restL (saveL m zero12 [n]) now [n]) true n = getM m true n := by
  rcases pairs_one n with ⟨hin, j, hp, _⟩ | ⟨hout, hp⟩
  · obtain ⟨v, hv⟩ : ∃ v : Int, (if getM m true n = 1 then (1 : Int) else 2) = v := ⟨_, rfl⟩
    have e : saveL m zero12 [n] = zero12.set j.val v := by
      unfold saveL
      rw [hp]
      show zero12.set j.val _ = _
      rw [hv]
    have hl : j.val < zero12.length := j.isLt
    have e1 : (zero12.set j.val v).getD j.val 0 = v := by simp [List.getD, hl]
    have hv2 : v = 1 ∨ v = 2 := by rw [← hv]; split <;> simp
    have hok : (setM now true n (v == 1)).2 = true := by rw [setM_ok, decide_eq_true hin]
    rw [e]
    unfold restL
    rw [hp]
    simp only [List.foldl_cons, List.foldl_nil, stepR]
    rw [e1, if_pos hv2, getM_set hok]
    rcases get_two hin m with h | h
    · rw [h, if_pos rfl] at hv
      rw [h, ← hv]; rfl
    · rw [h, if_neg (by decide)] at hv
      rw [h, ← hv]; rfl
  · unfold restL
    rw [hp]
    simp only [List.foldl_nil]
    unfold getM
    rw [setM_ok, setM_ok, decide_eq_false hout, if_neg (by decide), if_neg (by decide)]
/-- the modes ahead of round k -/
def nowAt (m : Md) (l : List Int) : Nat → Md
  | 0 => m
  | k + 1 => (setM (nowAt m l k) true (l.getD k 0) (k % 2 == 0)).1
theorem meas_wrap (len k : Nat) (h : k < len) (hl : len < 4611686018427387904) : len - (intOf (.int .i64 (wrap64 ((k : Int) + 1)))).toNat < len - (intOf (.int .i64 (k : Int))).toNat := by
  have e : wrap64 ((k : Int) + 1) = ((k + 1 : Nat) : Int) := by unfold wrap64; omega
  rw [e]
  show len - (((k + 1 : Nat) : Int)).toNat < len - ((k : Int)).toNat
  rw [Int.toNat_natCast, Int.toNat_natCast]
  omega
attribute [local irreducible] wpList Calls wpQuiet

set_option maxRecDepth 100000 in
set_option maxHeartbeats 8000000 in
theorem saveBack_long (m : Md) (n : Int) (A : Option Addr) (c : Nat) (l : List Int) (w : World) (hl : 30 < l.length) :
    Calls Try.prog 7 #[m.v, .int .i64 n, .slice A l.length c] w fun e w' => e = .returned (.bool true) ∧ Below w.heap.size w w' := by
  have HO := Mine.start w
  have hc : decide ((l.length : Int) > 30) = true := decide_eq_true (by omega)
  have hc2 : decide (30 < (l.length : Int)) = true := hc
  have hc3 : decide (30 < l.length) = true := decide_eq_true hl
  clear hl
  go_enter Try.func7, Try.ntmps7
  go_wp2_with (first
      | (go_at_call 19; refine (awake07_calls _).mono ?_; rintro eN wN ⟨rfl, hbN⟩; have HON := HO.call hbN; clear HO hbN; have HO := HON; clear HON)
      | ((with_reducible refine gate ?_); (first
      | ((with_reducible refine gateAt (N := 3) rfl ?_); refine own_box (T := 23) HO rfl rfl rfl ?_; clear HO; intro gM wN hggM HO; (simp only [List.nil_append, List.cons_append] at HO); (try simp only [Act.put, List.setIfInBounds_toArray, List.set_cons_zero, List.set_cons_succ]))
      | ((refine own_box HO rfl rfl rfl ?_); clear HO; intro gN wN hgN HO; (simp only [List.nil_append, List.cons_append] at HO); (try simp only [Act.put, List.setIfInBounds_toArray, List.set_cons_zero, List.set_cons_succ])))))
  go_ret
  exact ⟨rfl, HO.below⟩
set_option maxRecDepth 100000 in
set_option maxHeartbeats 8000000 in
theorem saveBack_short (m : Md) (n : Int) (A : Option Addr) (c : Nat) (l : List Int) (w : World) (hl : ¬ 30 < l.length) (hC : (Kd.int .i64).C w A l.length l) :
    Calls Try.prog 7 #[m.v, .int .i64 n, .slice A l.length c] w fun e w' => e = .returned (.bool true) ∧ Below w.heap.size w w' := by
  have HO := Mine.start w
  have hc : decide ((l.length : Int) > 30) = false := decide_eq_false (by omega)
  have hc2 : decide (30 < (l.length : Int)) = false := hc
  have hc3 : decide (30 < l.length) = false := decide_eq_false hl
  have HLN : Hid (l.length ≤ 30) := Lib.hid (by omega)
  have HC := Lib.hid hC
  have hR12 : (saveL m zero12 [n]).length = 12 := saveL_len m zero12 [n]
  have hlaw := back_law m (nowAt m l l.length) n
  obtain ⟨R, hR⟩ : ∃ R, saveL m zero12 [n] = R := ⟨_, rfl⟩
  rw [hR] at hR12 hlaw
  obtain ⟨K, hK⟩ : ∃ K, restL R (nowAt m l l.length) [n] = K := ⟨_, rfl⟩
  rw [hK] at hlaw
  obtain ⟨q, hq⟩ : ∃ q, getM m true n = q := ⟨_, rfl⟩
  rw [hq] at hlaw
  have HR := Lib.hid hR
  have HR12 := Lib.hid hR12
  have HK := Lib.hid hK
  have HQ := Lib.hid hq
  have HLAW := Lib.hid hlaw
  clear hl hC hR12 hlaw hR hK hq
  go_enter Try.func7, Try.ntmps7
  go_wp2_with (first
      | (go_at_call 19; refine (awake07_calls _).mono ?_; rintro eN wN ⟨rfl, hbN⟩; have HON := HO.call hbN; clear HO hbN; have HO := HON; clear HON)
      | (go_at_call 20; refine ((save_calls zero12 rfl m (some ⟨gQ, 0, none⟩) 1 [n] (by simp) _ (Kit.lit_ints (HO.at (by first | exact .head _ | exact .tail _ (.head _) | exact .tail _ (.tail _ (.head _)) | exact .tail _ (.tail _ (.tail _ (.head _))) | exact .tail _ (.tail _ (.tail _ (.tail _ (.head _)))) | exact .tail _ (.tail _ (.tail _ (.tail _ (.tail _ (.head _))))) | exact .tail _ (.tail _ (.tail _ (.tail _ (.tail _ (.tail _ (.head _)))))) | exact .tail _ (.tail _ (.tail _ (.tail _ (.tail _ (.tail _ (.tail _ (.head _))))))))) (by simp)))).mono ?_; rw [HR.out]; rintro eN wN ⟨rfl, hbN⟩; have HON := HO.call hbN; clear HO hbN; have HO := HON; clear HON)
      | ((with_reducible refine gate ?_); (first
      | ((with_reducible refine gateAt (N := 3) rfl ?_); refine own_box (T := 23) HO rfl rfl rfl ?_; clear HO; intro gM wN hggM HO; (simp only [List.nil_append, List.cons_append] at HO); (try simp only [Act.put, List.setIfInBounds_toArray, List.set_cons_zero, List.set_cons_succ]))
      | ((with_reducible refine gateAt (N := 8) rfl ?_); refine own_alloc (T := 39) HO rfl rfl Try.zeroValue39 rfl ?_; clear HO; intro gV wN hggV HO; (simp only [List.nil_append, List.cons_append] at HO); (try simp only [Act.put, List.setIfInBounds_toArray, List.set_cons_zero, List.set_cons_succ]))
      | ((with_reducible refine gateAt (N := 9) rfl ?_); refine own_alloc (T := 23) HO rfl rfl Try.zeroValue23 rfl ?_; clear HO; intro gW wN hggW HO; (simp only [List.nil_append, List.cons_append] at HO); (try simp only [Act.put, List.setIfInBounds_toArray, List.set_cons_zero, List.set_cons_succ]))
      | ((with_reducible refine gateAt (N := 22) rfl ?_); refine own_lit HO rfl (n := 1) (cs := [.int .i64 (n)]) (T := 3) (by first | (go_simp; done) | (go_simp; rfl)) ?_; clear HO; intro gQ wN hggQ HO; (simp only [List.nil_append, List.cons_append] at HO); (try simp only [Act.put, List.setIfInBounds_toArray, List.set_cons_zero, List.set_cons_succ]))
      | ((with_reducible refine gate ?_); refine own_store (T := 39) (vs := u8s R) HO rfl rfl rfl rfl (by first | exact .here | exact .there (.here) | exact .there (.there (.here)) | exact .there (.there (.there (.here))) | exact .there (.there (.there (.there (.here)))) | exact .there (.there (.there (.there (.there (.here))))) | exact .there (.there (.there (.there (.there (.there (.here)))))) | exact .there (.there (.there (.there (.there (.there (.there (.here)))))))) (size12 HR12.out) (by exact PutAt.all _ _ (len12 HR12.out)) (one12 R) ?_; clear HO; intro wN HO; (try simp only [Act.put, List.setIfInBounds_toArray, List.set_cons_zero, List.set_cons_succ]))
      | ((refine own_box HO rfl rfl rfl ?_); clear HO; intro gN wN hgN HO; (simp only [List.nil_append, List.cons_append] at HO); (try simp only [Act.put, List.setIfInBounds_toArray, List.set_cons_zero, List.set_cons_succ]))
      | ((refine own_load (T := 23) HO rfl rfl rfl (by first | exact .head _ | exact .tail _ (.head _) | exact .tail _ (.tail _ (.head _)) | exact .tail _ (.tail _ (.tail _ (.head _))) | exact .tail _ (.tail _ (.tail _ (.tail _ (.head _)))) | exact .tail _ (.tail _ (.tail _ (.tail _ (.tail _ (.head _))))) | exact .tail _ (.tail _ (.tail _ (.tail _ (.tail _ (.tail _ (.head _)))))) | exact .tail _ (.tail _ (.tail _ (.tail _ (.tail _ (.tail _ (.tail _ (.head _)))))))) Try.isAgg23 Try.sizeOf23 (by repeat constructor) ?_); (try simp only [Act.put, List.setIfInBounds_toArray, List.set_cons_zero, List.set_cons_succ]))
      | ((refine own_store (T := 23) HO rfl rfl rfl rfl (by first | exact .here | exact .there (.here) | exact .there (.there (.here)) | exact .there (.there (.there (.here))) | exact .there (.there (.there (.there (.here)))) | exact .there (.there (.there (.there (.there (.here))))) | exact .there (.there (.there (.there (.there (.there (.here)))))) | exact .there (.there (.there (.there (.there (.there (.there (.here)))))))) Try.sizeOf23 (by repeat constructor) rfl ?_); clear HO; intro wN HO; (try simp only [Act.put, List.setIfInBounds_toArray, List.set_cons_zero, List.set_cons_succ])))))
  go_loopw [10] (fun i wr => ∃ k : Nat, k ≤ l.length ∧ i = .int .i64 (k : Int) ∧ Mine w wr [(gM, IsCells [.bool m.cursor, .bool m.keypad, .bool m.back, .bool m.focus, .bool m.paste, .bool m.lock, .bool m.line, .int .i64 m.mouse, .int .i64 m.coding, .int .i64 m.other] 23), (gQ, IsCells [.int .i64 n] 3), (gV, IsCells (u8s R) 39), (gW, IsCells [.bool (nowAt m l k).cursor, .bool (nowAt m l k).keypad, .bool (nowAt m l k).back, .bool (nowAt m l k).focus, .bool (nowAt m l k).paste, .bool (nowAt m l k).lock, .bool (nowAt m l k).line, .int .i64 (nowAt m l k).mouse, .int .i64 (nowAt m l k).coding, .int .i64 (nowAt m l k).other] 23)]) (fun i _ => l.length - (intOf i).toNat)
  case atStart => exact ⟨0, Nat.zero_le _, rfl, HO⟩
  case round =>
    obtain ⟨k, hk, rfl, HOn⟩ := hrel
    clear HO
    have HO := HOn
    clear HOn
    by_cases hlt : k < l.length
    · have hkd : decide ((k : Int) < (l.length : Int)) = true := decide_eq_true (by omega)
      have hkd2 : decide (k < l.length) = true := decide_eq_true hlt
      have hki : (k : Int) < (l.length : Int) := by omega
      obtain ⟨ad, e, hcell⟩ := Kd.at_int HC.out (k : Int) (by omega) hki
      subst e
      rw [Int.toNat_natCast, rd_int' l k hlt] at hcell
      obtain ⟨x, hx⟩ : ∃ x, l.getD k 0 = x := ⟨_, rfl⟩
      rw [hx] at hcell
      have hnx : nowAt m l (k + 1) = (setM (nowAt m l k) true x (k % 2 == 0)).1 := by rw [← hx]; rfl
      obtain ⟨F, hF⟩ : ∃ F, nowAt m l k = F := ⟨_, rfl⟩
      rw [hF] at HO hnx
      have HCELL := Lib.hid hcell
      have HLT := Lib.hid hlt
      clear hcell hx hF hk hlt
      have hpar : k % 2 = 0 ∨ k % 2 = 1 := by omega
      rcases hpar with hpar | hpar
      · have hmod : (k : Int).tmod 2 = 0 := by rw [Int.tmod_eq_emod_of_nonneg (by omega)]; omega
        obtain ⟨⟨r, ok⟩, hr⟩ : ∃ p, setM F true x true = p := ⟨_, rfl⟩
        have hn2 : nowAt m l (k + 1) = r := by rw [hnx, hpar]; show (setM F true x true).1 = r; rw [hr]
        have HR2 := Lib.hid hr
        have HN2 := Lib.hid hn2
        have HMOD := Lib.hid hmod
        clear hpar hmod hr hn2 hnx
        go_wp2
        obtain ⟨wB, hwB⟩ : ∃ wB, wr = wB := ⟨_, rfl⟩
        rw [hwB] at HO ⊢
        clear hwB
        have hlt2 : ∀ q ∈ [(gM, IsCells [.bool m.cursor, .bool m.keypad, .bool m.back, .bool m.focus, .bool m.paste, .bool m.lock, .bool m.line, .int .i64 m.mouse, .int .i64 m.coding, .int .i64 m.other] 23), (gQ, IsCells [.int .i64 n] 3), (gV, IsCells (u8s R) 39), (gW, IsCells [.bool F.cursor, .bool F.keypad, .bool F.back, .bool F.focus, .bool F.paste, .bool F.lock, .bool F.line, .int .i64 F.mouse, .int .i64 F.coding, .int .i64 F.other] 23)], q.1 < _ := fun q hq => HO.lt hq
        have hW0 := HO.below.size
        have HL := Lib.hid hlt2
        have HW0 := Lib.hid hW0
        clear hlt2 hW0
        refine region_put 13 _ ([fIs (F.v), fIs (.slice (some ad) l.length c), fIs (.int .i64 (k : Int)), fIs (.pointer (some (ad.add k))), fIs (.int .i64 x), fIs (.int .i64 (k : Int)), fIs (.int .i64 0), fIs (.bool true), fIs (.tuple #[r.v, .bool ok]), fIs (.tuple #[r.v, .bool ok]), fIs (r.v), fIs (.bool ok)] ++ fVar wB.heap.size 23 [.bool false, .bool false, .bool false, .bool false, .bool false, .bool false, .bool false, .int .i64 0, .int .i64 0, .int .i64 0] :: [fAny, fIs (.bool ok)]) ([fIs (F.v), fIs (.slice (some ad) l.length c), fIs (.int .i64 (k : Int)), fIs (.pointer (some (ad.add k))), fIs (.int .i64 x), fIs (.int .i64 (k : Int)), fIs (.int .i64 0), fIs (.bool true), fIs (.tuple #[r.v, .bool ok]), fIs (.tuple #[r.v, .bool ok]), fIs (r.v), fIs (.bool ok)] ++ fVar wB.heap.size 23 [.bool r.cursor, .bool r.keypad, .bool r.back, .bool r.focus, .bool r.paste, .bool r.lock, .bool r.line, .int .i64 r.mouse, .int .i64 r.coding, .int .i64 r.other] :: [fAny, fIs (.bool ok)]) HO (by kernel_rfl) (by kernel_rfl) rfl (stays_cons (Stays.fIs _) (stays_cons (Stays.fIs _) (stays_cons (Stays.fIs _) (stays_cons (Stays.fIs _) (stays_cons (Stays.fIs _) (stays_cons (Stays.fIs _) (stays_cons (Stays.fIs _) (stays_cons (Stays.fIs _) (stays_cons (Stays.fIs _) (stays_cons (Stays.fIs _) (stays_cons (Stays.fIs _) (stays_cons (Stays.fIs _) (stays_cons (Stays.fVar _ _ _) (stays_cons (Stays.fAny) (stays_cons (Stays.fIs _) stays_nil))))))))))))))) (stays_cons (Stays.fIs _) (stays_cons (Stays.fIs _) (stays_cons (Stays.fIs _) (stays_cons (Stays.fIs _) (stays_cons (Stays.fIs _) (stays_cons (Stays.fIs _) (stays_cons (Stays.fIs _) (stays_cons (Stays.fIs _) (stays_cons (Stays.fIs _) (stays_cons (Stays.fIs _) (stays_cons (Stays.fIs _) (stays_cons (Stays.fIs _) (stays_cons (Stays.fVar _ _ _) (stays_cons (Stays.fAny) (stays_cons (Stays.fIs _) stays_nil))))))))))))))) (bs' := [(gM, IsCells [.bool m.cursor, .bool m.keypad, .bool m.back, .bool m.focus, .bool m.paste, .bool m.lock, .bool m.line, .int .i64 m.mouse, .int .i64 m.coding, .int .i64 m.other] 23), (gQ, IsCells [.int .i64 n] 3), (gV, IsCells (u8s R) 39), (gW, IsCells [.bool F.cursor, .bool F.keypad, .bool F.back, .bool F.focus, .bool F.paste, .bool F.lock, .bool F.line, .int .i64 F.mouse, .int .i64 F.coding, .int .i64 F.other] 23)]) ?_
        intro vals A hA
        simp [fillL, dstOf, List.range, List.range.loop, Act.put] at hA
        subst hA
        refine ⟨⟨?_, ?_, ?_, ?_, ?_, ?_, ?_, ?_, ?_, ?_, ?_, ?_, ?_, ?_, ?_, trivial⟩, ?_⟩
        case refine_1 =>
          refine Owes.before (by decide) (by kernel_rfl) ?_
          intro W hd hM hb0
          exact st_load hM rfl rfl rfl (.tail _ (.tail _ (.tail _ (.head _)))) Try.isAgg23 Try.sizeOf23 (by repeat constructor) rfl
        case refine_2 =>
          refine Owes.before (by decide) (by kernel_rfl) ?_
          intro W hd hM hb0
          exact st_val rfl (by simp only [execOp]; first | (go_simp; done) | (go_simp; rfl)) rfl
        case refine_3 =>
          refine Owes.before (by decide) (by kernel_rfl) ?_
          intro W hd hM hb0
          exact st_val rfl (by simp only [execOp]; first | (go_simp; done) | (go_simp; rfl)) rfl
        case refine_4 =>
          refine Owes.before (by decide) (by kernel_rfl) ?_
          intro W hd hM hb0
          have v1 : vals 1 = .slice (some ad) l.length c := hd 1 (by kernel_rfl)
          have v2 : vals 2 = .int .i64 (k : Int) := hd 2 (by kernel_rfl)
          rw [v1, v2]
          have hki := hki
          exact st_val rfl (by simp only [execOp]; go_simp; first | done | rfl | (simp [hki]; done) | (simp [hki]; rfl)) rfl
        case refine_5 =>
          refine Owes.before (by decide) (by kernel_rfl) ?_
          intro W hd hM hb0
          have v3 : vals 3 = .pointer (some (ad.add k)) := hd 3 (by kernel_rfl)
          rw [v3]
          exact st_read hM rfl rfl rfl HCELL.out Try.isAgg3 rfl
        case refine_6 =>
          refine Owes.before (by decide) (by kernel_rfl) ?_
          intro W hd hM hb0
          exact st_val rfl (by simp only [execOp]; first | (go_simp; done) | (go_simp; rfl)) rfl
        case refine_7 =>
          refine Owes.before (by decide) (by kernel_rfl) ?_
          intro W hd hM hb0
          have v5 : vals 5 = .int .i64 (k : Int) := hd 5 (by kernel_rfl)
          rw [v5]
          have hmod := HMOD.out
          exact st_val rfl (by simp only [execOp]; go_simp; first | done | rfl | (simp [hmod]; done) | (simp [hmod]; rfl)) rfl
        case refine_8 =>
          refine Owes.before (by decide) (by kernel_rfl) ?_
          intro W hd hM hb0
          have v6 : vals 6 = .int .i64 0 := hd 6 (by kernel_rfl)
          rw [v6]
          exact st_val rfl (by simp only [execOp]; first | (go_simp; done) | (go_simp; rfl)) rfl
        case refine_9 =>
          refine Owes.before (by decide) (by kernel_rfl) ?_
          intro W hd hM hb0
          have v0 : vals 0 = F.v := hd 0 (by kernel_rfl)
          have v4 : vals 4 = .int .i64 x := hd 4 (by kernel_rfl)
          have v7 : vals 7 = .bool true := hd 7 (by kernel_rfl)
          rw [v0, v4, v7]
          exact st_call rfl (by simp only [execOp]; first | (go_simp; done) | (go_simp; rfl)) (set_calls' F true x true r ok HR2.out W) (by rintro e w' ⟨rfl, hb⟩; exact ⟨_, rfl, hb, rfl⟩)
        case refine_10 =>
          refine Owes.before (by decide) (by kernel_rfl) ?_
          intro W hd hM hb0
          have v8 : vals 8 = .tuple #[r.v, .bool ok] := hd 8 (by kernel_rfl)
          rw [v8]
          exact st_val rfl (by simp only [execOp]; first | (go_simp; done) | (go_simp; rfl)) rfl
        case refine_11 =>
          refine Owes.before (by decide) (by kernel_rfl) ?_
          intro W hd hM hb0
          have v9 : vals 9 = .tuple #[r.v, .bool ok] := hd 9 (by kernel_rfl)
          rw [v9]
          exact st_val rfl (by simp only [execOp]; first | (go_simp; done) | (go_simp; rfl)) rfl
        case refine_12 =>
          refine Owes.after (by decide) (by kernel_rfl) ?_
          intro W hd
          have v9 : vals 9 = .tuple #[r.v, .bool ok] := (hd 9 (by kernel_rfl)).elim id id
          rw [v9]
          exact st_pure rfl (fun w => by simp only [execOp]; first | (go_simp; done) | (go_simp; rfl)) ⟨rfl, rfl⟩
        case refine_13 =>
          refine Owes.before (by decide) (by kernel_rfl) ?_
          intro W hd hM hb0
          exact st_new (ob := .cells #[.bool false, .bool false, .bool false, .bool false, .bool false, .bool false, .bool false, .int .i64 0, .int .i64 0, .int .i64 0] 23 (0, 0)) rfl (by simp only [execOp]; first | (go_simp; done) | (go_simp; rfl)) (fun h => ⟨_, rfl, hb0.size, h⟩)
        case refine_14 =>
          refine Owes.store ?_
          intro W hd hM hb0
          have v10 : vals 10 = r.v := hd 10 (by kernel_rfl)
          rw [v10]
          exact new_stored (iA := 12) (cs := [.bool r.cursor, .bool r.keypad, .bool r.back, .bool r.focus, .bool r.paste, .bool r.lock, .bool r.line, .int .i64 r.mouse, .int .i64 r.coding, .int .i64 r.other]) hM HL.out HW0.out (hd 12 (by kernel_rfl)) rfl rfl rfl rfl rfl Try.sizeOf23 (PutAt.all _ _ rfl) rfl (pure_cons (Pure.fIs _) (pure_cons (Pure.fIs _) (pure_cons (Pure.fIs _) (pure_cons (Pure.fIs _) (pure_cons (Pure.fIs _) (pure_cons (Pure.fIs _) (pure_cons (Pure.fIs _) (pure_cons (Pure.fIs _) (pure_cons (Pure.fIs _) (pure_cons (Pure.fIs _) (pure_cons (Pure.fIs _) (pure_cons (Pure.fIs _) pure_nil)))))))))))) (pure_cons (Pure.fAny) (pure_cons (Pure.fIs _) pure_nil)) (fun _ _ => trivial)
        case refine_15 =>
          refine Owes.after (by decide) (by kernel_rfl) ?_
          intro W hd
          have v11 : vals 11 = .bool ok := (hd 11 (by kernel_rfl)).elim id id
          rw [v11]
          exact st_pure rfl (fun w => by simp only [execOp]; first | (go_simp; done) | (go_simp; rfl)) ⟨rfl, rfl⟩
        case refine_16 =>
          intro W hd hM
          obtain ⟨gX, eX, hgeX, hgX⟩ : fVar wB.heap.size 23 [.bool r.cursor, .bool r.keypad, .bool r.back, .bool r.focus, .bool r.paste, .bool r.lock, .bool r.line, .int .i64 r.mouse, .int .i64 r.coding, .int .i64 r.other] (vals 12) W := hd 12 (by decide)
          have HO := hM.take (p := IsCells [.bool r.cursor, .bool r.keypad, .bool r.back, .bool r.focus, .bool r.paste, .bool r.lock, .bool r.line, .int .i64 r.mouse, .int .i64 r.coding, .int .i64 r.other] 23) HL.out HW0.out hgeX ⟨_, hgX, rfl⟩
          simp only [List.nil_append, List.cons_append] at HO
          rw [eX]
          clear hd hM hgX eX HL HW0
          go_wp2_with (first
                | ((with_reducible refine gate ?_); (first
                | ((refine own_box HO rfl rfl rfl ?_); clear HO; intro gN wN hgN HO; (simp only [List.nil_append, List.cons_append] at HO); (try simp only [Act.put, List.setIfInBounds_toArray, List.set_cons_zero, List.set_cons_succ]))
                | ((refine own_load (T := 23) HO rfl rfl rfl (by first | exact .head _ | exact .tail _ (.head _) | exact .tail _ (.tail _ (.head _)) | exact .tail _ (.tail _ (.tail _ (.head _))) | exact .tail _ (.tail _ (.tail _ (.tail _ (.head _)))) | exact .tail _ (.tail _ (.tail _ (.tail _ (.tail _ (.head _)))))) Try.isAgg23 Try.sizeOf23 (by repeat constructor) ?_); (try simp only [Act.put, List.setIfInBounds_toArray, List.set_cons_zero, List.set_cons_succ]))
                | ((refine own_store (T := 23) HO rfl rfl rfl rfl (by first | exact .here | exact .there (.here) | exact .there (.there (.here)) | exact .there (.there (.there (.here))) | exact .there (.there (.there (.there (.here)))) | exact .there (.there (.there (.there (.there (.here)))))) Try.sizeOf23 (by repeat constructor) rfl ?_); clear HO; intro wN HO; (try simp only [Act.put, List.setIfInBounds_toArray, List.set_cons_zero, List.set_cons_succ])))))
          go_roundw
          case rel =>
            refine ⟨k + 1, by have := HLT.out; omega, by first | exact rfl | (refine congrArg (Value.int .i64) ?_; have := HLT.out; have := HLN.out; unfold wrap64; omega), ?_⟩
            rw [HN2.out]
            exact HO.less (.cons_cons _ (.cons_cons _ (.cons_cons _ (.cons_cons _ (.cons _ .slnil)))))
          case measure => first | exact meas_len l.length k HLT.out | exact meas_wrap l.length k HLT.out (by have := HLN.out; omega)
      · have hmod : (k : Int).tmod 2 = 1 := by rw [Int.tmod_eq_emod_of_nonneg (by omega)]; omega
        obtain ⟨⟨r, ok⟩, hr⟩ : ∃ p, setM F true x false = p := ⟨_, rfl⟩
        have hn2 : nowAt m l (k + 1) = r := by rw [hnx, hpar]; show (setM F true x false).1 = r; rw [hr]
        have HR2 := Lib.hid hr
        have HN2 := Lib.hid hn2
        have HMOD := Lib.hid hmod
        clear hpar hmod hr hn2 hnx
        go_wp2
        obtain ⟨wB, hwB⟩ : ∃ wB, wr = wB := ⟨_, rfl⟩
        rw [hwB] at HO ⊢
        clear hwB
        have hlt2 : ∀ q ∈ [(gM, IsCells [.bool m.cursor, .bool m.keypad, .bool m.back, .bool m.focus, .bool m.paste, .bool m.lock, .bool m.line, .int .i64 m.mouse, .int .i64 m.coding, .int .i64 m.other] 23), (gQ, IsCells [.int .i64 n] 3), (gV, IsCells (u8s R) 39), (gW, IsCells [.bool F.cursor, .bool F.keypad, .bool F.back, .bool F.focus, .bool F.paste, .bool F.lock, .bool F.line, .int .i64 F.mouse, .int .i64 F.coding, .int .i64 F.other] 23)], q.1 < _ := fun q hq => HO.lt hq
        have hW0 := HO.below.size
        have HL := Lib.hid hlt2
        have HW0 := Lib.hid hW0
        clear hlt2 hW0
        refine region_put 13 _ ([fIs (F.v), fIs (.slice (some ad) l.length c), fIs (.int .i64 (k : Int)), fIs (.pointer (some (ad.add k))), fIs (.int .i64 x), fIs (.int .i64 (k : Int)), fIs (.int .i64 1), fIs (.bool false), fIs (.tuple #[r.v, .bool ok]), fIs (.tuple #[r.v, .bool ok]), fIs (r.v), fIs (.bool ok)] ++ fVar wB.heap.size 23 [.bool false, .bool false, .bool false, .bool false, .bool false, .bool false, .bool false, .int .i64 0, .int .i64 0, .int .i64 0] :: [fAny, fIs (.bool ok)]) ([fIs (F.v), fIs (.slice (some ad) l.length c), fIs (.int .i64 (k : Int)), fIs (.pointer (some (ad.add k))), fIs (.int .i64 x), fIs (.int .i64 (k : Int)), fIs (.int .i64 1), fIs (.bool false), fIs (.tuple #[r.v, .bool ok]), fIs (.tuple #[r.v, .bool ok]), fIs (r.v), fIs (.bool ok)] ++ fVar wB.heap.size 23 [.bool r.cursor, .bool r.keypad, .bool r.back, .bool r.focus, .bool r.paste, .bool r.lock, .bool r.line, .int .i64 r.mouse, .int .i64 r.coding, .int .i64 r.other] :: [fAny, fIs (.bool ok)]) HO (by kernel_rfl) (by kernel_rfl) rfl (stays_cons (Stays.fIs _) (stays_cons (Stays.fIs _) (stays_cons (Stays.fIs _) (stays_cons (Stays.fIs _) (stays_cons (Stays.fIs _) (stays_cons (Stays.fIs _) (stays_cons (Stays.fIs _) (stays_cons (Stays.fIs _) (stays_cons (Stays.fIs _) (stays_cons (Stays.fIs _) (stays_cons (Stays.fIs _) (stays_cons (Stays.fIs _) (stays_cons (Stays.fVar _ _ _) (stays_cons (Stays.fAny) (stays_cons (Stays.fIs _) stays_nil))))))))))))))) (stays_cons (Stays.fIs _) (stays_cons (Stays.fIs _) (stays_cons (Stays.fIs _) (stays_cons (Stays.fIs _) (stays_cons (Stays.fIs _) (stays_cons (Stays.fIs _) (stays_cons (Stays.fIs _) (stays_cons (Stays.fIs _) (stays_cons (Stays.fIs _) (stays_cons (Stays.fIs _) (stays_cons (Stays.fIs _) (stays_cons (Stays.fIs _) (stays_cons (Stays.fVar _ _ _) (stays_cons (Stays.fAny) (stays_cons (Stays.fIs _) stays_nil))))))))))))))) (bs' := [(gM, IsCells [.bool m.cursor, .bool m.keypad, .bool m.back, .bool m.focus, .bool m.paste, .bool m.lock, .bool m.line, .int .i64 m.mouse, .int .i64 m.coding, .int .i64 m.other] 23), (gQ, IsCells [.int .i64 n] 3), (gV, IsCells (u8s R) 39), (gW, IsCells [.bool F.cursor, .bool F.keypad, .bool F.back, .bool F.focus, .bool F.paste, .bool F.lock, .bool F.line, .int .i64 F.mouse, .int .i64 F.coding, .int .i64 F.other] 23)]) ?_
        intro vals A hA
        simp [fillL, dstOf, List.range, List.range.loop, Act.put] at hA
        subst hA
        refine ⟨⟨?_, ?_, ?_, ?_, ?_, ?_, ?_, ?_, ?_, ?_, ?_, ?_, ?_, ?_, ?_, trivial⟩, ?_⟩
        case refine_1 =>
          refine Owes.before (by decide) (by kernel_rfl) ?_
          intro W hd hM hb0
          exact st_load hM rfl rfl rfl (.tail _ (.tail _ (.tail _ (.head _)))) Try.isAgg23 Try.sizeOf23 (by repeat constructor) rfl
        case refine_2 =>
          refine Owes.before (by decide) (by kernel_rfl) ?_
          intro W hd hM hb0
          exact st_val rfl (by simp only [execOp]; first | (go_simp; done) | (go_simp; rfl)) rfl
        case refine_3 =>
          refine Owes.before (by decide) (by kernel_rfl) ?_
          intro W hd hM hb0
          exact st_val rfl (by simp only [execOp]; first | (go_simp; done) | (go_simp; rfl)) rfl
        case refine_4 =>
          refine Owes.before (by decide) (by kernel_rfl) ?_
          intro W hd hM hb0
          have v1 : vals 1 = .slice (some ad) l.length c := hd 1 (by kernel_rfl)
          have v2 : vals 2 = .int .i64 (k : Int) := hd 2 (by kernel_rfl)
          rw [v1, v2]
          have hki := hki
          exact st_val rfl (by simp only [execOp]; go_simp; first | done | rfl | (simp [hki]; done) | (simp [hki]; rfl)) rfl
        case refine_5 =>
          refine Owes.before (by decide) (by kernel_rfl) ?_
          intro W hd hM hb0
          have v3 : vals 3 = .pointer (some (ad.add k)) := hd 3 (by kernel_rfl)
          rw [v3]
          exact st_read hM rfl rfl rfl HCELL.out Try.isAgg3 rfl
        case refine_6 =>
          refine Owes.before (by decide) (by kernel_rfl) ?_
          intro W hd hM hb0
          exact st_val rfl (by simp only [execOp]; first | (go_simp; done) | (go_simp; rfl)) rfl
        case refine_7 =>
          refine Owes.before (by decide) (by kernel_rfl) ?_
          intro W hd hM hb0
          have v5 : vals 5 = .int .i64 (k : Int) := hd 5 (by kernel_rfl)
          rw [v5]
          have hmod := HMOD.out
          exact st_val rfl (by simp only [execOp]; go_simp; first | done | rfl | (simp [hmod]; done) | (simp [hmod]; rfl)) rfl
        case refine_8 =>
          refine Owes.before (by decide) (by kernel_rfl) ?_
          intro W hd hM hb0
          have v6 : vals 6 = .int .i64 1 := hd 6 (by kernel_rfl)
          rw [v6]
          exact st_val rfl (by simp only [execOp]; first | (go_simp; done) | (go_simp; rfl)) rfl
        case refine_9 =>
          refine Owes.before (by decide) (by kernel_rfl) ?_
          intro W hd hM hb0
          have v0 : vals 0 = F.v := hd 0 (by kernel_rfl)
          have v4 : vals 4 = .int .i64 x := hd 4 (by kernel_rfl)
          have v7 : vals 7 = .bool false := hd 7 (by kernel_rfl)
          rw [v0, v4, v7]
          exact st_call rfl (by simp only [execOp]; first | (go_simp; done) | (go_simp; rfl)) (set_calls' F true x false r ok HR2.out W) (by rintro e w' ⟨rfl, hb⟩; exact ⟨_, rfl, hb, rfl⟩)
        case refine_10 =>
          refine Owes.before (by decide) (by kernel_rfl) ?_
          intro W hd hM hb0
          have v8 : vals 8 = .tuple #[r.v, .bool ok] := hd 8 (by kernel_rfl)
          rw [v8]
          exact st_val rfl (by simp only [execOp]; first | (go_simp; done) | (go_simp; rfl)) rfl
        case refine_11 =>
          refine Owes.before (by decide) (by kernel_rfl) ?_
          intro W hd hM hb0
          have v9 : vals 9 = .tuple #[r.v, .bool ok] := hd 9 (by kernel_rfl)
          rw [v9]
          exact st_val rfl (by simp only [execOp]; first | (go_simp; done) | (go_simp; rfl)) rfl
        case refine_12 =>
          refine Owes.after (by decide) (by kernel_rfl) ?_
          intro W hd
          have v9 : vals 9 = .tuple #[r.v, .bool ok] := (hd 9 (by kernel_rfl)).elim id id
          rw [v9]
          exact st_pure rfl (fun w => by simp only [execOp]; first | (go_simp; done) | (go_simp; rfl)) ⟨rfl, rfl⟩
        case refine_13 =>
          refine Owes.before (by decide) (by kernel_rfl) ?_
          intro W hd hM hb0
          exact st_new (ob := .cells #[.bool false, .bool false, .bool false, .bool false, .bool false, .bool false, .bool false, .int .i64 0, .int .i64 0, .int .i64 0] 23 (0, 0)) rfl (by simp only [execOp]; first | (go_simp; done) | (go_simp; rfl)) (fun h => ⟨_, rfl, hb0.size, h⟩)
        case refine_14 =>
          refine Owes.store ?_
          intro W hd hM hb0
          have v10 : vals 10 = r.v := hd 10 (by kernel_rfl)
          rw [v10]
          exact new_stored (iA := 12) (cs := [.bool r.cursor, .bool r.keypad, .bool r.back, .bool r.focus, .bool r.paste, .bool r.lock, .bool r.line, .int .i64 r.mouse, .int .i64 r.coding, .int .i64 r.other]) hM HL.out HW0.out (hd 12 (by kernel_rfl)) rfl rfl rfl rfl rfl Try.sizeOf23 (PutAt.all _ _ rfl) rfl (pure_cons (Pure.fIs _) (pure_cons (Pure.fIs _) (pure_cons (Pure.fIs _) (pure_cons (Pure.fIs _) (pure_cons (Pure.fIs _) (pure_cons (Pure.fIs _) (pure_cons (Pure.fIs _) (pure_cons (Pure.fIs _) (pure_cons (Pure.fIs _) (pure_cons (Pure.fIs _) (pure_cons (Pure.fIs _) (pure_cons (Pure.fIs _) pure_nil)))))))))))) (pure_cons (Pure.fAny) (pure_cons (Pure.fIs _) pure_nil)) (fun _ _ => trivial)
        case refine_15 =>
          refine Owes.after (by decide) (by kernel_rfl) ?_
          intro W hd
          have v11 : vals 11 = .bool ok := (hd 11 (by kernel_rfl)).elim id id
          rw [v11]
          exact st_pure rfl (fun w => by simp only [execOp]; first | (go_simp; done) | (go_simp; rfl)) ⟨rfl, rfl⟩
        case refine_16 =>
          intro W hd hM
          obtain ⟨gX, eX, hgeX, hgX⟩ : fVar wB.heap.size 23 [.bool r.cursor, .bool r.keypad, .bool r.back, .bool r.focus, .bool r.paste, .bool r.lock, .bool r.line, .int .i64 r.mouse, .int .i64 r.coding, .int .i64 r.other] (vals 12) W := hd 12 (by decide)
          have HO := hM.take (p := IsCells [.bool r.cursor, .bool r.keypad, .bool r.back, .bool r.focus, .bool r.paste, .bool r.lock, .bool r.line, .int .i64 r.mouse, .int .i64 r.coding, .int .i64 r.other] 23) HL.out HW0.out hgeX ⟨_, hgX, rfl⟩
          simp only [List.nil_append, List.cons_append] at HO
          rw [eX]
          clear hd hM hgX eX HL HW0
          go_wp2_with (first
                | ((with_reducible refine gate ?_); (first
                | ((refine own_box HO rfl rfl rfl ?_); clear HO; intro gN wN hgN HO; (simp only [List.nil_append, List.cons_append] at HO); (try simp only [Act.put, List.setIfInBounds_toArray, List.set_cons_zero, List.set_cons_succ]))
                | ((refine own_load (T := 23) HO rfl rfl rfl (by first | exact .head _ | exact .tail _ (.head _) | exact .tail _ (.tail _ (.head _)) | exact .tail _ (.tail _ (.tail _ (.head _))) | exact .tail _ (.tail _ (.tail _ (.tail _ (.head _)))) | exact .tail _ (.tail _ (.tail _ (.tail _ (.tail _ (.head _)))))) Try.isAgg23 Try.sizeOf23 (by repeat constructor) ?_); (try simp only [Act.put, List.setIfInBounds_toArray, List.set_cons_zero, List.set_cons_succ]))
                | ((refine own_store (T := 23) HO rfl rfl rfl rfl (by first | exact .here | exact .there (.here) | exact .there (.there (.here)) | exact .there (.there (.there (.here))) | exact .there (.there (.there (.there (.here)))) | exact .there (.there (.there (.there (.there (.here)))))) Try.sizeOf23 (by repeat constructor) rfl ?_); clear HO; intro wN HO; (try simp only [Act.put, List.setIfInBounds_toArray, List.set_cons_zero, List.set_cons_succ])))))
          go_roundw
          case rel =>
            refine ⟨k + 1, by have := HLT.out; omega, by first | exact rfl | (refine congrArg (Value.int .i64) ?_; have := HLT.out; have := HLN.out; unfold wrap64; omega), ?_⟩
            rw [HN2.out]
            exact HO.less (.cons_cons _ (.cons_cons _ (.cons_cons _ (.cons_cons _ (.cons _ .slnil)))))
          case measure => first | exact meas_len l.length k HLT.out | exact meas_wrap l.length k HLT.out (by have := HLN.out; omega)
    · obtain rfl : k = l.length := by omega
      have hkd : decide ((l.length : Int) < (l.length : Int)) = false := decide_eq_false (by omega)
      obtain ⟨F, hF⟩ : ∃ F, nowAt m l l.length = F := ⟨_, rfl⟩
      rw [hF] at HO HK
      clear hF hlt hk
      go_wp2_with (first
            | (go_at_call 22; refine ((restore_calls R HR12.out F (some ⟨gP, 0, none⟩) 1 [n] (by simp) _ (Kit.lit_ints (HO.at (by first | exact .head _ | exact .tail _ (.head _) | exact .tail _ (.tail _ (.head _)) | exact .tail _ (.tail _ (.tail _ (.head _))) | exact .tail _ (.tail _ (.tail _ (.tail _ (.head _)))) | exact .tail _ (.tail _ (.tail _ (.tail _ (.tail _ (.head _))))) | exact .tail _ (.tail _ (.tail _ (.tail _ (.tail _ (.tail _ (.head _)))))) | exact .tail _ (.tail _ (.tail _ (.tail _ (.tail _ (.tail _ (.tail _ (.head _))))))))) (by simp)))).mono ?_; rw [HK.out]; rintro eN wN ⟨rfl, hbN⟩; have HON := HO.call hbN; clear HO hbN; have HO := HON; clear HON)
            | ((with_reducible refine gate ?_); (first
            | ((with_reducible refine gateAt (N := 13) rfl ?_); refine own_alloc (T := 23) HO rfl rfl Try.zeroValue23 rfl ?_; clear HO; intro gK wN hggK HO; (simp only [List.nil_append, List.cons_append] at HO); (try simp only [Act.put, List.setIfInBounds_toArray, List.set_cons_zero, List.set_cons_succ]))
            | ((with_reducible refine gateAt (N := 47) rfl ?_); refine own_lit HO rfl (n := 1) (cs := [.int .i64 (n)]) (T := 3) (by first | (go_simp; done) | (go_simp; rfl)) ?_; clear HO; intro gP wN hggP HO; (simp only [List.nil_append, List.cons_append] at HO); (try simp only [Act.put, List.setIfInBounds_toArray, List.set_cons_zero, List.set_cons_succ]))
            | ((with_reducible refine gate ?_); refine own_load (T := 39) (n := 12) (vs := u8s R) HO rfl rfl rfl (by first | exact .head _ | exact .tail _ (.head _) | exact .tail _ (.tail _ (.head _)) | exact .tail _ (.tail _ (.tail _ (.head _))) | exact .tail _ (.tail _ (.tail _ (.tail _ (.head _)))) | exact .tail _ (.tail _ (.tail _ (.tail _ (.tail _ (.head _))))) | exact .tail _ (.tail _ (.tail _ (.tail _ (.tail _ (.tail _ (.head _)))))) | exact .tail _ (.tail _ (.tail _ (.tail _ (.tail _ (.tail _ (.tail _ (.head _)))))))) Try.isAgg39 Try.sizeOf39 (slc12 HR12.out) ?_; (try simp only [Act.put, List.setIfInBounds_toArray, List.set_cons_zero, List.set_cons_succ]))
            | ((refine own_box HO rfl rfl rfl ?_); clear HO; intro gN wN hgN HO; (simp only [List.nil_append, List.cons_append] at HO); (try simp only [Act.put, List.setIfInBounds_toArray, List.set_cons_zero, List.set_cons_succ]))
            | ((refine own_load (T := 23) HO rfl rfl rfl (by first | exact .head _ | exact .tail _ (.head _) | exact .tail _ (.tail _ (.head _)) | exact .tail _ (.tail _ (.tail _ (.head _))) | exact .tail _ (.tail _ (.tail _ (.tail _ (.head _)))) | exact .tail _ (.tail _ (.tail _ (.tail _ (.tail _ (.head _))))) | exact .tail _ (.tail _ (.tail _ (.tail _ (.tail _ (.tail _ (.head _)))))) | exact .tail _ (.tail _ (.tail _ (.tail _ (.tail _ (.tail _ (.tail _ (.head _)))))))) Try.isAgg23 Try.sizeOf23 (by repeat constructor) ?_); (try simp only [Act.put, List.setIfInBounds_toArray, List.set_cons_zero, List.set_cons_succ]))
            | ((refine own_store (T := 23) HO rfl rfl rfl rfl (by first | exact .here | exact .there (.here) | exact .there (.there (.here)) | exact .there (.there (.there (.here))) | exact .there (.there (.there (.there (.here)))) | exact .there (.there (.there (.there (.there (.here))))) | exact .there (.there (.there (.there (.there (.there (.here)))))) | exact .there (.there (.there (.there (.there (.there (.there (.here)))))))) Try.sizeOf23 (by repeat constructor) rfl ?_); clear HO; intro wN HO; (try simp only [Act.put, List.setIfInBounds_toArray, List.set_cons_zero, List.set_cons_succ])))))
      (refine region_quiet HO (by kernel_rfl) (by kernel_rfl) ?_); repeat (first
      | (go_big_quiet_skip)
      | ((with_reducible refine qg_move ?_); (refine q_move rfl rfl (by first | exact .const | exact .tmp rfl | exact .func) ?_); (try simp only [Act.put, List.setIfInBounds_toArray, List.set_cons_zero, List.set_cons_succ]))
      | ((with_reducible refine qg_assign ?_); (refine q_assign rfl rfl (by first | exact .const | exact .tmp rfl | exact .func) ?_); (try simp only [Act.put, List.setIfInBounds_toArray, List.set_cons_zero, List.set_cons_succ]))
      | ((with_reducible refine qg_pick ?_); (refine q_pick_true rfl rfl rfl (by first | exact .const | exact .tmp rfl | exact .func) ?_); (try simp only [Act.put, List.setIfInBounds_toArray, List.set_cons_zero, List.set_cons_succ]))
      | ((with_reducible refine qg_pick ?_); (refine q_pick_false rfl rfl rfl (by first | exact .const | exact .tmp rfl | exact .func) ?_); (try simp only [Act.put, List.setIfInBounds_toArray, List.set_cons_zero, List.set_cons_succ]))
      | ((with_reducible refine qg_load ?_); (refine q_load (T := 23) rfl rfl rfl (by first | exact .head _ | exact .tail _ (.head _) | exact .tail _ (.tail _ (.head _)) | exact .tail _ (.tail _ (.tail _ (.head _))) | exact .tail _ (.tail _ (.tail _ (.tail _ (.head _)))) | exact .tail _ (.tail _ (.tail _ (.tail _ (.tail _ (.head _)))))) Try.isAgg23 Try.sizeOf23 (by repeat constructor) ?_); (try simp only [Act.put, List.setIfInBounds_toArray, List.set_cons_zero, List.set_cons_succ]))
      | ((with_reducible refine qg_call ?_); (refine q_call (f := 15) rfl rfl Try.call15 rfl (fun wN HON => (get_calls' K true n q HLAW.out wN)) ?_); (try simp only [Act.put, List.setIfInBounds_toArray, List.set_cons_zero, List.set_cons_succ]))
      | ((with_reducible refine qg_call ?_); (refine q_call (f := 15) rfl rfl Try.call15 rfl (fun wN HON => (get_calls' m true n q HQ.out wN)) ?_); (try simp only [Act.put, List.setIfInBounds_toArray, List.set_cons_zero, List.set_cons_succ]))
      | ((refine q_val rfl (fun w => by simp only [execOp]; first | (go_simp; done) | (go_simp; rfl)) ?_); (try simp only [Act.put, List.setIfInBounds_toArray, List.set_cons_zero, List.set_cons_succ])))

      refine wpQuiet_nil ?_
      intro wZ HOz
      go_wp2
      go_ret
      exact ⟨rfl, HOz.below⟩

theorem saveBack_calls (m : Md) (n : Int) (A : Option Addr) (c : Nat) (l : List Int) (w : World) (hC : (Kd.int .i64).C w A l.length l) :
    Calls Try.prog 7 #[m.v, .int .i64 n, .slice A l.length c] w fun e w' => e = .returned (.bool true) ∧ Below w.heap.size w w' := by
  by_cases hl : 30 < l.length
  · exact saveBack_long m n A c l w hl
  · exact saveBack_short m n A c l w hl hC

end Go.Proofs.Ytllloedhlcdbjaa
