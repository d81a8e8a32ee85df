/- The walk of layer 7: save.Save. No condition. -/
import Derived.Test.YtllloedhlcdbjaaSvB
import Derived.Test.YtllloedhlcdbjaaAwA
import Derived.Test.YtllloedhlcdbjaaKitN
namespace Go.Proofs.Ytllloedhlcdbjaa
set_option linter.unusedVariables false
set_option linter.unusedSimpArgs false
open Go.RowKit Kit Go.Shelf Go.Proofs.YtllloedhlcdbjaaW.PrintWords
attribute [local go_sem] Oper.semAt_some

theorem wideRegion {P : Program} {Q : Exit → Act → World → Prop} {a : Act} {w : World} {n id : Nat} {l : List Oper} (h : wpList P l.toArray Q l a w) : (Code.region id l.toArray false).wpIn Fence.wide n P Q a w := wpIn_wide.2 (wp_region_lit h)
abbrev u8s (l : List Int) : List Value := l.map (Value.int .u8)
def stepS (m : Md) (s : List Int) (p : Fin 12 × Int) : List Int := s.set p.1.val (if getM m true p.2 = 1 then 1 else 2)
def saveL (m : Md) (s : List Int) (nums : List Int) : List Int := (pairsL nums).foldl (stepS m) s
theorem stepS_len (m : Md) (s : List Int) (p : Fin 12 × Int) : (stepS m s p).length = s.length := by simp [stepS]
theorem foldS_len (m : Md) : ∀ (l : List (Fin 12 × Int)) (s : List Int), (l.foldl (stepS m) s).length = s.length
  | [], _ => rfl
  | p :: l, s => by rw [List.foldl_cons, foldS_len m l, stepS_len]
theorem Slc.all {α : Type} : ∀ (l : List α), Slc l 0 l.length l
  | [] => .nil
  | _ :: l => .take (Slc.all l)
theorem PutAt.all {α : Type} : ∀ (l vs : List α), vs.length = l.length → PutAt l 0 vs vs
  | [], [], _ => .nil
  | _ :: l, _ :: vs, h => .put (PutAt.all l vs (by simpa using h))
theorem PutAt.one {α : Type} (v : α) : ∀ (l : List α) (k : Nat), k < l.length → PutAt l k [v] (l.set k v)
  | _ :: _, 0, _ => .put .nil
  | _ :: l, k + 1, h => .skip (PutAt.one v l k (by simpa using h))
theorem Keep.setRow {g : Nat} {A B : World} (h : Keep g A B) (cs : Array Value) : Keep g A (B.setRow g cs) :=
  ⟨by rw [size_setRow]; exact h.size, fun k hk hne => (setRow_other B g k _ hne).trans (h.same k hk hne)⟩
section
variable {P : Program} {ops : Array Oper} {Q : Exit → Act → World → Prop} {a : Act} {w W W0 : World} {rest : List Oper} {o : Oper} {bs bs' : Res} {g off n : Nat} {cs cs' vs : List Value} {T E : TypeId} {v : Value}
/-- a cell of the block that may turn -/
theorem own_put1 (HO : Mine W0 w bs) (HK : Keep g W w) {x y : Operand} (ho : o.op = .store T x y) (hgd : Region.wanted o (yielded ops a.tmps) = true) (hx : a.eval x = .pointer (some ⟨g, off, none⟩)) (hy : EvalTo a y v) (hc : v.cells = [v].toArray)
    (hu : Upd bs g (IsCells cs E) (IsCells (cs.set off v) E) bs') (hoff : off < cs.length) (hsz : ∀ w, (sizeOf T).run P w = .ok 1 w) (h1 : v.oneCell' = true)
    (h : ∀ w', Mine W0 w' bs' → Keep g W w' → wpList P ops Q rest (a.put o.dst undef) w') : wpList P ops Q (o :: rest) a w :=
  wpList_want hgd fun _ hK => by
    have hr := run_store_own (P := P) (T := T) (v := v) (HO.at hu.mem) (vs := [v]) hc hsz (PutAt.one v cs off hoff) (by simp [h1])
    unfold Oper.wp execOp
    simp only [ho, hx, hy.eq, Instr.storeAt, Instr.sureAddr, Sem.run_bind, Sem.run_pure, Result.andThen_ok, hr]
    exact hK _ _ (h _ (HO.setRow hu) (HK.setRow _))
end
theorem rd_int' (l : List Int) (i : Nat) (h : i < l.length) : rd l (i : Int) = l.getD i 0 := by
  simp [rd, List.getD, h]
theorem nums_of {A : Option Addr} {nums : List Int} {w wN : World} {g : Nat} (hC : (Kd.int .i64).C w A nums.length nums) (hb : Below w.heap.size w wN) (hge : w.heap.size ≤ g) (hlt : g < wN.heap.size) : Nums wN.heap.size g A nums wN := fun j hj => by
  obtain ⟨ad, e, hcell⟩ := Kd.at_int hC (j : Int) (by omega) (by omega)
  rw [Int.toNat_natCast] at hcell
  have hbl := World.block_lt_of_cell? w _ hcell
  rw [add_block] at hbl
  have hsz := hb.size
  refine ⟨ad, e, (hb.cell (by rw [add_block]; exact hbl)).trans (hcell.trans ?_), by omega, by omega⟩
  rw [rd_int' nums j hj]
attribute [local irreducible] wpList Calls wpQuiet

set_option maxRecDepth 100000 in
set_option maxHeartbeats 4000000 in
theorem save_calls (s : List Int) (hs : s.length = 12) (m : Md) (A : Option Addr) (c : Nat) (nums : List Int) (hn : nums.length ≤ 1000000) (w : World) (hC : (Kd.int .i64).C w A nums.length nums) :
    Calls Try.prog 20 #[.agg (u8s s).toArray, m.v, .slice A nums.length c] w fun e w' => e = .returned (.agg (u8s (saveL m s nums)).toArray) ∧ Below w.heap.size w w' := by
  refine (callsIn_wide (n := 5)).1 ?_
  have HO := Mine.start w
  have HS := Lib.hid hs
  have HC := Lib.hid hC
  have HN := Lib.hid hn
  clear hs hC hn
  refine callsIn_of_wp_marks Try.func20 rfl trivial ?_ rfl
  simp only [Try.ntmps20, List.size_toArray, List.length_cons, List.length_nil, Nat.reduceAdd, Nat.reduceSub, Array.replicate_succ, Array.replicate_zero, List.push_toArray, List.append_toArray, List.nil_append, List.cons_append]
  refine wpIn_seq ?_
  refine wideRegion ?_
  go_wp2_with (first
      | ((with_reducible refine gate ?_); (first
      | ((with_reducible refine gateAt (N := 4) rfl ?_); refine own_box HO rfl rfl (cs := [.bool m.cursor, .bool m.keypad, .bool m.back, .bool m.focus, .bool m.paste, .bool m.lock, .bool m.line, .int .i64 m.mouse, .int .i64 m.coding, .int .i64 m.other]) rfl ?_; clear HO; intro gM wN hgN HO; (simp only [List.nil_append, List.cons_append] at HO); (try simp only [Act.put, List.setIfInBounds_toArray, List.set_cons_zero, List.set_cons_succ]))
      | ((with_reducible refine gateAt (N := 3) rfl ?_); refine own_box HO rfl rfl (cs := u8s s) rfl ?_; clear HO; intro gS wN hgN HO; (simp only [List.nil_append, List.cons_append] at HO); (try simp only [Act.put, List.setIfInBounds_toArray, List.set_cons_zero, List.set_cons_succ]))
      | ((refine own_box HO rfl rfl rfl ?_); clear HO; intro gR wN hgR HO; (simp only [List.nil_append, List.cons_append] at HO); (try simp only [Act.put, List.setIfInBounds_toArray, List.set_cons_zero, List.set_cons_succ]))
      | ((refine own_alloc (T := 39) HO rfl rfl Try.zeroValue39 rfl ?_); clear HO; intro gR wN hgR HO; (simp only [List.nil_append, List.cons_append] at HO); (try simp only [Act.put, List.setIfInBounds_toArray, List.set_cons_zero, List.set_cons_succ]))
      | ((refine own_load (T := 23) HO rfl rfl rfl (by first | exact .head _ | exact .tail _ (.head _) | exact .tail _ (.tail _ (.head _)) | exact .tail _ (.tail _ (.tail _ (.head _))) | exact .tail _ (.tail _ (.tail _ (.tail _ (.head _)))) | exact .tail _ (.tail _ (.tail _ (.tail _ (.tail _ (.head _)))))) Try.isAgg23 Try.sizeOf23 (by repeat constructor) ?_); (try simp only [Act.put, List.setIfInBounds_toArray, List.set_cons_zero, List.set_cons_succ]))
      | ((refine own_store (T := 23) HO rfl rfl rfl rfl (by first | exact .here | exact .there (.here) | exact .there (.there (.here)) | exact .there (.there (.there (.here))) | exact .there (.there (.there (.there (.here)))) | exact .there (.there (.there (.there (.there (.here)))))) Try.sizeOf23 (by repeat constructor) rfl ?_); clear HO; intro wN HO; (try simp only [Act.put, List.setIfInBounds_toArray, List.set_cons_zero, List.set_cons_succ])))))
  refine wpIn_seq ?_
  refine wpIn_seq ?_
  refine wideRegion ?_
  go_wp2_with (go_at_call 31; refine (places_calls A _ c _).mono ?_; rintro eN wN ⟨v, rfl, ⟨g1, g3, gL, cap, rest, rfl, hg1, hg3, hgL, hc1, hc3, hcL, hcap⟩, hbN⟩; have hlt : gS < _ := HO.lt (.head _); have HON := HO.call hbN; have HX := Lib.hid (And.intro (Nat.ne_of_gt (Nat.lt_of_lt_of_le hlt hg3)) (And.intro (Nat.ne_of_gt (Nat.lt_of_lt_of_le hlt hgL)) (And.intro hc1 (And.intro hc3 hcL)))); clear HO hbN hlt hg1 hg3 hgL hc1 hc3 hcL hcap; have HO := HON; clear HON)
  refine wpIn_block ?_
  obtain ⟨hX3, hXL, hc1, hc3, hcL⟩ := HX.out
  have hge : w.heap.size ≤ gS := (HO.held _ (.head _)).1
  have hlt : gS < wN.heap.size := HO.lt (.head _)
  refine wpIn_rangeFunc_ownG (F := Fence.wide) rfl (by omega) (gf := 41) (lb := #[.pointer (some ⟨g1, 0, none⟩), .pointer (some ⟨g3, 0, none⟩)]) rfl trivial (enters_of Try.func41 (by kernel_rfl) rfl)
    (places_stops 4 (by omega) wN.heap.size gS g1 g3 gL cap c rest A nums HN.out wN hc1 hc3 hcL ⟨(Array.getElem?_eq_some_iff.1 hc3).1, hX3⟩ ⟨(Array.getElem?_eq_some_iff.1 hcL).1, hXL⟩ (fun j hj => by
      obtain ⟨ad, e, hcell⟩ := Kd.at_int HC.out (j : Int) (by omega) (by omega)
      rw [Int.toNat_natCast] at hcell
      have hb := World.block_lt_of_cell? w _ hcell
      rw [add_block] at hb
      have hsz := HO.below.size
      refine ⟨ad, e, (HO.below.cell (by rw [add_block]; exact hb)).trans (hcell.trans ?_), by omega, by omega⟩
      rw [rd_int' nums j hj])) (fun h k => h.trans k) (fun W l o o' hl _ _ _ k o2 hk hne h => (World.putObj_heap_other (show k ≠ l by omega)).trans h) (Below.refl _ _) (fun _ => rfl)
    (fun pre W => Mine w W [(gS, IsCells (u8s (pre.foldl (stepS m) s)) 39), (gM, IsCells [.bool m.cursor, .bool m.keypad, .bool m.back, .bool m.focus, .bool m.paste, .bool m.lock, .bool m.line, .int .i64 m.mouse, .int .i64 m.coding, .int .i64 m.other] 23), (gR, IsCells [.int .u8 0, .int .u8 0, .int .u8 0, .int .u8 0, .int .u8 0, .int .u8 0, .int .u8 0, .int .u8 0, .int .u8 0, .int .u8 0, .int .u8 0, .int .u8 0] 39)])
    (fun _ _ _ => False)
    (mine_own _ (fun s p hp o ho => by
      simp only [List.mem_cons, List.not_mem_nil, or_false] at hp
      rcases hp with rfl | rfl | rfl <;> exact cells_isCells ho) (by have := HO.below.size; omega))
    (fun _ _ _ _ _ hs _ _ => hs) HO
    (fun x => { tmps := #[.agg (u8s s).toArray, m.v, .slice A nums.length c, .pointer (some ⟨gS, 0, none⟩), .pointer (some ⟨gM, 0, none⟩), undef, .pointer (some ⟨gR, 0, none⟩), .int .i64 (x.1.val : Int), .int .i64 x.2, .slice A nums.length c, .func (.func 41) #[] #[.pointer (some ⟨g1, 0, none⟩), .pointer (some ⟨g3, 0, none⟩)], .int .i64 (x.1.val : Int), .int .i64 x.2, undef, undef, undef, undef, undef, undef, undef, undef, undef], defers := [] }) ?assign ?body ?done ?stop
  case assign =>
    intro l x W K hK
    gi_wp2
    exact hK
  case body =>
    rintro l pre x W hI _
    clear HO hc1 hc3 hcL
    have HO := hI
    have HK := Keep.refl gS W
    clear hI
    obtain ⟨⟨j, hj⟩, y⟩ := x
    obtain ⟨F, hF⟩ : ∃ F, List.foldl (stepS m) s pre = F := ⟨_, rfl⟩
    have hFl : F.length = 12 := by rw [← hF, foldS_len, HS.out]
    have hl1 : j < (u8s F).length := by simp [hFl, hj]
    have hl2 : ∀ v, j < ((u8s F).set j v).length := fun v => by simp [hFl, hj]
    have HL1 := Lib.hid hl1
    have HL2 := Lib.hid hl2
    have hst : ∀ g : Int, getM m true y = g → u8s (List.foldl (stepS m) s (pre ++ [(⟨j, hj⟩, y)])) = (u8s F).set j (.int .u8 (if g = 1 then 1 else 2)) := fun g e => by
      rw [List.foldl_append, hF]
      simp [stepS, e, List.map_set]
    have HST := Lib.hid hst
    rw [hF] at HO
    clear hF hFl hl1 hl2 hst
    have hj0 : (j : Int) < 12 := by omega
    refine wpIn_block ?_
    refine wpIn_seq ?_
    refine inRegion (fun ⟨_, _, h⟩ => h) rfl ?_
    go_wp2_with ((with_reducible refine gate ?_); refine own_put1 HO HK rfl rfl rfl (by first | exact .const | exact .tmp rfl) rfl .here (by first | exact HL1.out | exact HL2.out _) Try.sizeOf5 rfl ?_; clear HO HK; intro wN HO HK; (try simp only [Act.put, List.setIfInBounds_toArray, List.set_cons_zero, List.set_cons_succ]))
    refine wpIn_seq ?_
    refine inRegion (fun ⟨_, _, h⟩ => h) rfl ?_
    obtain ⟨g, hg⟩ : ∃ g, getM m true y = g := ⟨_, rfl⟩
    have hst := HST.out g hg
    have HG := Lib.hid hg
    clear hg HST
    by_cases h1 : g = 1
    · have H3 := Lib.hid (hst.trans (by rw [if_pos h1]))
      clear hst
      subst h1
      go_wp2_with (first
      | (go_at_call 15; refine (get_calls' m true y 1 HG.out _).mono ?_; rintro eN wN ⟨rfl, hbN⟩; have HON := HO.call hbN; have HKN := HK.below hbN; clear HO HK hbN; have HO := HON; have HK := HKN; clear HON HKN)
      | ((with_reducible refine gate ?_); (first
      | ((refine own_box HO rfl rfl rfl ?_); clear HO; intro gN wN hgN HO; (simp only [List.nil_append, List.cons_append] at HO); (try simp only [Act.put, List.setIfInBounds_toArray, List.set_cons_zero, List.set_cons_succ]))
      | ((refine own_load (T := 23) HO rfl rfl rfl (by first | exact .head _ | exact .tail _ (.head _) | exact .tail _ (.tail _ (.head _)) | exact .tail _ (.tail _ (.tail _ (.head _))) | exact .tail _ (.tail _ (.tail _ (.tail _ (.head _)))) | exact .tail _ (.tail _ (.tail _ (.tail _ (.tail _ (.head _)))))) Try.isAgg23 Try.sizeOf23 (by repeat constructor) ?_); (try simp only [Act.put, List.setIfInBounds_toArray, List.set_cons_zero, List.set_cons_succ]))
      | ((refine own_store (T := 23) HO rfl rfl rfl rfl (by first | exact .here | exact .there (.here) | exact .there (.there (.here)) | exact .there (.there (.there (.here))) | exact .there (.there (.there (.there (.here)))) | exact .there (.there (.there (.there (.there (.here)))))) Try.sizeOf23 (by repeat constructor) rfl ?_); clear HO; intro wN HO; (try simp only [Act.put, List.setIfInBounds_toArray, List.set_cons_zero, List.set_cons_succ])))))
      refine wpIn_cond_true rfl ?_
      refine inRegion (fun ⟨_, _, h⟩ => h) rfl ?_
      go_wp2_with ((with_reducible refine gate ?_); refine own_put1 HO HK rfl rfl rfl (by first | exact .const | exact .tmp rfl) rfl .here (by first | exact HL1.out | exact HL2.out _) Try.sizeOf5 rfl ?_; clear HO HK; intro wN HO HK; (try simp only [Act.put, List.setIfInBounds_toArray, List.set_cons_zero, List.set_cons_succ]))
      refine ⟨HK.from hlt, HK.kp _, ?_⟩
      dsimp only
      rw [H3.out]
      rw [List.set_set] at HO
      exact HO
    · have b1 : (g == 1) = false := beq_eq_false_iff_ne.2 h1
      have H3 := Lib.hid (hst.trans (by rw [if_neg h1]))
      clear hst h1
      go_wp2_with (first
      | (go_at_call 15; refine (get_calls' m true y g HG.out _).mono ?_; rintro eN wN ⟨rfl, hbN⟩; have HON := HO.call hbN; have HKN := HK.below hbN; clear HO HK hbN; have HO := HON; have HK := HKN; clear HON HKN)
      | ((with_reducible refine gate ?_); (first
      | ((refine own_box HO rfl rfl rfl ?_); clear HO; intro gN wN hgN HO; (simp only [List.nil_append, List.cons_append] at HO); (try simp only [Act.put, List.setIfInBounds_toArray, List.set_cons_zero, List.set_cons_succ]))
      | ((refine own_load (T := 23) HO rfl rfl rfl (by first | exact .head _ | exact .tail _ (.head _) | exact .tail _ (.tail _ (.head _)) | exact .tail _ (.tail _ (.tail _ (.head _))) | exact .tail _ (.tail _ (.tail _ (.tail _ (.head _)))) | exact .tail _ (.tail _ (.tail _ (.tail _ (.tail _ (.head _)))))) Try.isAgg23 Try.sizeOf23 (by repeat constructor) ?_); (try simp only [Act.put, List.setIfInBounds_toArray, List.set_cons_zero, List.set_cons_succ]))
      | ((refine own_store (T := 23) HO rfl rfl rfl rfl (by first | exact .here | exact .there (.here) | exact .there (.there (.here)) | exact .there (.there (.there (.here))) | exact .there (.there (.there (.there (.here)))) | exact .there (.there (.there (.there (.there (.here)))))) Try.sizeOf23 (by repeat constructor) rfl ?_); clear HO; intro wN HO; (try simp only [Act.put, List.setIfInBounds_toArray, List.set_cons_zero, List.set_cons_succ])))))
      refine wpIn_cond_false rfl ?_
      refine wpIn_skip ?_
      refine ⟨HK.from hlt, HK.kp _, ?_⟩
      dsimp only
      rw [H3.out]
      exact HO
  case done =>
    rintro D ys W hD rfl hI hK
    clear HO hc1 hc3 hcL
    have HO := hI
    clear hI
    obtain ⟨R, hR⟩ : ∃ R, List.foldl (stepS m) s (pairsL nums) = R := ⟨_, rfl⟩
    have hRl : R.length = 12 := by rw [← hR, foldS_len, HS.out]
    rw [hR] at HO
    have hsv : saveL m s nums = R := hR
    rw [hsv]
    have hln : (u8s R).length = 12 := by simp [hRl]
    have HSL : Hid (Slc (u8s R) 0 12 (u8s R)) := Lib.hid (by have := Slc.all (u8s R); rwa [hln] at this)
    have HSZ : Hid (∀ w, (sizeOf 39).run Try.prog w = .ok (u8s R).length w) := Lib.hid (by rw [hln]; exact Try.sizeOf39)
    have HONE : Hid ((u8s R).all (·.oneCell') = true) := Lib.hid (by rw [List.all_eq_true]; intro v hv; obtain ⟨z, _, rfl⟩ := List.mem_map.1 hv; rfl)
    have HLN := Lib.hid hln
    have HXS : XS 39 (fun w : World => w.heap[D]? = some (.deferred (some []))) := fun w g cs cs' h hg => (setRow_other w g D _ (fun e => by subst e; dsimp only at h; rw [hg] at h; cases h)).trans h
    have hD2 : w.heap.size ≤ D := by omega
    clear hR hRl hsv hln
    refine wpIn_seq ?_
    refine wideRegion ?_
    go_wp2_with ((with_reducible refine gate ?_); (first
      | (refine own_load (T := 39) (n := 12) (vs := u8s R) HO rfl rfl rfl (.head _) Try.isAgg39 Try.sizeOf39 HSL.out ?_; (try simp only [Act.put, List.setIfInBounds_toArray, List.set_cons_zero, List.set_cons_succ]))
      | (refine own_storeX (T := 39) (vs := u8s R) HO (X := fun w : World => w.heap[D]? = some (.deferred (some []))) hK rfl rfl rfl rfl (.there (.there .here)) HXS HSZ.out (PutAt.all _ _ HLN.out) HONE.out ?_; clear HO hK; intro wN HO hK; (try simp only [Act.put, List.setIfInBounds_toArray, List.set_cons_zero, List.set_cons_succ]))))
    refine wpIn_ret ?_
    have HO2 : Mine w (wN.putObj D (.deferred none)) _ := (mine_own (β := Unit) (B := w.heap.size) (fun _ => _) (fun s p hp o ho => by
      simp only [List.mem_cons, List.not_mem_nil, or_false] at hp
      rcases hp with rfl | rfl | rfl <;> exact cells_isCells ho) (Nat.le_refl _)).putObj (s := ()) _ HO hD2 hK rfl
    refine ⟨by simp, .inl ⟨_, _, rfl, run_takeDeferred hK, ?_⟩⟩
    exact ⟨_, own_results1 HO2 Try.results20 rfl (.tail _ (.tail _ (.head _))) Try.isAgg39 Try.sizeOf39 HSL.out, rfl, HO2.below⟩
  case stop =>
    rintro D c pre W _ _ h _
    exact h.elim

end Go.Proofs.Ytllloedhlcdbjaa
