/- The walk of layer 7: save.Restore. No condition. -/
import Derived.Test.YtllloedhlcdbjaaSvE
namespace Go.Proofs.Ytllloedhlcdbjaa
set_option linter.unusedVariables false
set_option linter.unusedSimpArgs false
open Go.RowKit Kit Go.Shelf Go.Proofs.YtllloedhlcdbjaaW.PrintWords
attribute [local go_sem] Oper.semAt_some

def stepR (s : List Int) (m : Md) (p : Fin 12 × Int) : Md := if s.getD p.1.val 0 = 1 ∨ s.getD p.1.val 0 = 2 then (setM m true p.2 (s.getD p.1.val 0 == 1)).1 else m
def restL (s : List Int) (m : Md) (nums : List Int) : Md := (pairsL nums).foldl (stepR s) m
def zero12 : List Int := [0, 0, 0, 0, 0, 0, 0, 0, 0, 0, 0, 0]
theorem stepR_zero (m : Md) (p : Fin 12 × Int) : stepR zero12 m p = m := by
  obtain ⟨⟨j, hj⟩, y⟩ := p
  have : ∀ j : Fin 12, zero12.getD j.val 0 = 0 := by decide
  have h := this ⟨j, hj⟩
  unfold stepR
  simp only at h ⊢
  rw [h]
  simp
theorem restL_zero (m : Md) (nums : List Int) : restL zero12 m nums = m := by
  unfold restL
  generalize pairsL nums = l
  induction l with
  | nil => rfl
  | cons p l ih => rw [List.foldl_cons, stepR_zero, ih]
namespace Kit
section
variable {P : Program} {l : List Oper} {s i : Nat} {os o : Oper} {W0 w0 : World} {bs bs' : Res} {fs fs' : List Fact} {vals : Nat → Value} {A : Act}
theorem Owes.before (h1 : i ≠ s) (h2 : waits l.toArray os i = true) (h : ∀ w, (∀ j, waits l.toArray o j = true → Facts fs j (vals j) w) → Mine W0 w bs → Below w0.heap.size w0 w → StepOk P l.toArray o A w fun v w' => Below w.heap.size w w' ∧ Facts fs i v w') : Owes P l s os W0 w0 bs bs' fs fs' vals A i o := by
  unfold Owes; rw [if_neg h1, if_pos h2]; exact h
theorem Owes.after (h1 : i ≠ s) (h2 : waits l.toArray os i = false) (h : ∀ w, (∀ j, waits l.toArray o j = true → Facts fs j (vals j) w ∨ Facts fs' j (vals j) w) → StepOk P l.toArray o A w fun v w' => w' = w ∧ Facts fs i v w ∧ Facts fs' i v w) : Owes P l s os W0 w0 bs bs' fs fs' vals A i o := by
  unfold Owes; rw [if_neg h1, if_neg (by rw [h2]; decide)]; exact h
theorem Owes.store (h : ∀ w, (∀ j, waits l.toArray o j = true → Facts fs j (vals j) w) → Mine W0 w bs → Below w0.heap.size w0 w → StepOk P l.toArray o A w fun v w' => Mine W0 w' bs' ∧ Facts fs' s v w' ∧ ∀ j, j ≠ s → Facts fs j (vals j) w → Facts fs' j (vals j) w') : Owes P l s os W0 w0 bs bs' fs fs' vals A s o := by
  unfold Owes; rw [if_pos rfl]; exact h
theorem Keep.stored {g : Nat} {A B C : World} (h : Keep g A B) (hs : C.heap.size = B.heap.size) (hc : ∀ b, B.heap.size ≤ b ∨ b ≠ g → C.heap[b]? = B.heap[b]?) : Keep g A C :=
  ⟨by rw [hs]; exact h.size, fun k hk hne => (hc k (.inr hne)).trans (h.same k hk hne)⟩
theorem Stays.keep (g : Nat) (A : World) : Stays (fun _ w => Keep g A w) := fun _ _ _ h hb => h.below hb
end
end Kit
attribute [local irreducible] wpList Calls wpQuiet

set_option maxRecDepth 100000 in
set_option maxHeartbeats 4000000 in
theorem restore_calls (s : List Int) (hs : s.length = 12) (m : Md) (A : Option Addr) (c : Nat) (nums : List Int) (hn : nums.length ≤ 1000000) (w : World) (hC : (Kd.int .i64).C w A nums.length nums) :
    Calls Try.prog 22 #[.agg (u8s s).toArray, m.v, .slice A nums.length c] w fun e w' => e = .returned (restL s m nums).v ∧ Below w.heap.size w w' := by
  refine (callsIn_wide (n := 5)).1 ?_
  have HO := Mine.start w
  have HS := Lib.hid hs
  have HC := Lib.hid hC
  have HN := Lib.hid hn
  obtain ⟨b0, hb0⟩ : ∃ b, decide (s = zero12) = b := ⟨_, rfl⟩
  have HE : Hid (∀ w, (Op.equal 39 (.agg (u8s s).toArray) (.agg #[.int .u8 0, .int .u8 0, .int .u8 0, .int .u8 0, .int .u8 0, .int .u8 0, .int .u8 0, .int .u8 0, .int .u8 0, .int .u8 0, .int .u8 0, .int .u8 0])).run Try.prog w = .ok b0 w) := Lib.hid fun w => (equal_saved s zero12 hs rfl w).trans (by rw [hb0])
  have HB := Lib.hid hb0
  have HSL : Hid (Slc (u8s s) 0 12 (u8s s)) := Lib.hid (by have := Slc.all (u8s s); rwa [show (u8s s).length = 12 by simp [hs]] at this)
  clear hs hC hn hb0
  refine callsIn_of_wp_marks Try.func22 rfl trivial ?_ rfl
  simp only [Try.ntmps22, List.size_toArray, List.length_cons, List.length_nil, Nat.reduceAdd, Nat.reduceSub, Array.replicate_succ, Array.replicate_zero, List.push_toArray, List.append_toArray, List.nil_append, List.cons_append]
  refine wpIn_seq ?_
  refine wideRegion ?_
  go_wp2_with (first
      | ((with_reducible refine gate ?_); (first
      | ((with_reducible refine gateAt (N := 4) rfl ?_); refine own_box HO rfl rfl (cs := [.bool m.cursor, .bool m.keypad, .bool m.back, .bool m.focus, .bool m.paste, .bool m.lock, .bool m.line, .int .i64 m.mouse, .int .i64 m.coding, .int .i64 m.other]) rfl ?_; clear HO; intro gM wN hgN HO; (simp only [List.nil_append, List.cons_append] at HO); (try simp only [Act.put, List.setIfInBounds_toArray, List.set_cons_zero, List.set_cons_succ]))
      | ((with_reducible refine gateAt (N := 3) rfl ?_); refine own_box HO rfl rfl (cs := u8s s) rfl ?_; clear HO; intro gS wN hgN HO; (simp only [List.nil_append, List.cons_append] at HO); (try simp only [Act.put, List.setIfInBounds_toArray, List.set_cons_zero, List.set_cons_succ]))
      | ((refine own_box HO rfl rfl rfl ?_); clear HO; intro gR wN hgR HO; (simp only [List.nil_append, List.cons_append] at HO); (try simp only [Act.put, List.setIfInBounds_toArray, List.set_cons_zero, List.set_cons_succ]))
      | ((refine own_alloc (T := 23) HO rfl rfl Try.zeroValue23 rfl ?_); clear HO; intro gR wN hgR HO; (simp only [List.nil_append, List.cons_append] at HO); (try simp only [Act.put, List.setIfInBounds_toArray, List.set_cons_zero, List.set_cons_succ]))
      | ((refine own_load (T := 23) HO rfl rfl rfl (by first | exact .head _ | exact .tail _ (.head _) | exact .tail _ (.tail _ (.head _)) | exact .tail _ (.tail _ (.tail _ (.head _))) | exact .tail _ (.tail _ (.tail _ (.tail _ (.head _)))) | exact .tail _ (.tail _ (.tail _ (.tail _ (.tail _ (.head _)))))) Try.isAgg23 Try.sizeOf23 (by repeat constructor) ?_); (try simp only [Act.put, List.setIfInBounds_toArray, List.set_cons_zero, List.set_cons_succ]))
      | ((refine own_store (T := 23) HO rfl rfl rfl rfl (by first | exact .here | exact .there (.here) | exact .there (.there (.here)) | exact .there (.there (.there (.here))) | exact .there (.there (.there (.there (.here)))) | exact .there (.there (.there (.there (.there (.here)))))) Try.sizeOf23 (by repeat constructor) rfl ?_); clear HO; intro wN HO; (try simp only [Act.put, List.setIfInBounds_toArray, List.set_cons_zero, List.set_cons_succ])))))
  refine wpIn_seq ?_
  refine wpIn_seq ?_
  refine wideRegion ?_
  go_wp2_with ((with_reducible refine gate ?_); (first
    | (refine own_load (T := 39) (n := 12) (vs := u8s s) HO rfl rfl rfl (.head _) Try.isAgg39 Try.sizeOf39 HSL.out ?_; (try simp only [Act.put, List.setIfInBounds_toArray, List.set_cons_zero, List.set_cons_succ]))
    | (refine own_eql (t := 39) rfl rfl rfl rfl (by kernel_rfl) HE.out ?_; (try simp only [Act.put, List.setIfInBounds_toArray, List.set_cons_zero, List.set_cons_succ]))))
  cases b0
  case true =>
    have hz : s = zero12 := of_decide_eq_true HB.out
    subst hz
    rw [restL_zero]
    refine wpIn_cond_true rfl ?_
    refine wpIn_seq ?_
    refine wideRegion ?_
    go_wp2_with (first
      | ((with_reducible refine gate ?_); (first
      | ((refine own_box HO rfl rfl rfl ?_); clear HO; intro gN wN hgN HO; (simp only [List.nil_append, List.cons_append] at HO); (try simp only [Act.put, List.setIfInBounds_toArray, List.set_cons_zero, List.set_cons_succ]))
      | ((refine own_load (T := 23) HO rfl rfl rfl (by first | exact .head _ | exact .tail _ (.head _) | exact .tail _ (.tail _ (.head _)) | exact .tail _ (.tail _ (.tail _ (.head _))) | exact .tail _ (.tail _ (.tail _ (.tail _ (.head _)))) | exact .tail _ (.tail _ (.tail _ (.tail _ (.tail _ (.head _)))))) Try.isAgg23 Try.sizeOf23 (by repeat constructor) ?_); (try simp only [Act.put, List.setIfInBounds_toArray, List.set_cons_zero, List.set_cons_succ]))
      | ((refine own_store (T := 23) HO rfl rfl rfl rfl (by first | exact .here | exact .there (.here) | exact .there (.there (.here)) | exact .there (.there (.there (.here))) | exact .there (.there (.there (.there (.here)))) | exact .there (.there (.there (.there (.there (.here)))))) Try.sizeOf23 (by repeat constructor) rfl ?_); clear HO; intro wN HO; (try simp only [Act.put, List.setIfInBounds_toArray, List.set_cons_zero, List.set_cons_succ])))))
    refine wpIn_ret ?_
    exact ⟨_, own_results1 HO Try.results22 rfl (.tail _ (.tail _ (.head _))) Try.isAgg23 Try.sizeOf23 (by repeat constructor), rfl, HO.below⟩
  case false =>
    refine wpIn_cond_false rfl ?_
    refine wpIn_skip ?_
    refine wpIn_seq ?_
    refine wpIn_seq ?_
    refine wideRegion ?_
    go_wp2_with (go_at_call 31; refine (places_calls A _ c _).mono ?_; rintro eN wN ⟨v, rfl, ⟨g1, g3, gL, cap, rest, rfl, hg1, hg3, hgL, hc1, hc3, hcL, hcap⟩, hbN⟩; have hlt : gM < _ := HO.lt (.tail _ (.head _)); have HON := HO.call hbN; have HX := Lib.hid (And.intro (Nat.ne_of_gt (Nat.lt_of_lt_of_le hlt hg3)) (And.intro (Nat.ne_of_gt (Nat.lt_of_lt_of_le hlt hgL)) (And.intro hc1 (And.intro hc3 hcL)))); clear HO hbN hlt hg1 hg3 hgL hc1 hc3 hcL hcap; have HO := HON; clear HON)
    refine wpIn_block ?_
    obtain ⟨hX3, hXL, hc1, hc3, hcL⟩ := HX.out
    have hge : w.heap.size ≤ gM := (HO.held _ (.tail _ (.head _))).1
    have hlt : gM < wN.heap.size := HO.lt (.tail _ (.head _))
    refine wpIn_rangeFunc_ownG (F := Fence.wide) rfl (by omega) (gf := 41) (lb := #[.pointer (some ⟨g1, 0, none⟩), .pointer (some ⟨g3, 0, none⟩)]) rfl trivial (enters_of Try.func41 (by kernel_rfl) rfl)
      (places_stops 4 (by omega) wN.heap.size gM g1 g3 gL cap c rest A nums HN.out wN hc1 hc3 hcL ⟨(Array.getElem?_eq_some_iff.1 hc3).1, hX3⟩ ⟨(Array.getElem?_eq_some_iff.1 hcL).1, hXL⟩ (nums_of HC.out HO.below hge hlt)) (fun h k => h.trans k) (fun W l o o' hl _ _ _ k o2 hk hne h => (World.putObj_heap_other (show k ≠ l by omega)).trans h) (Below.refl _ _) (fun _ => rfl)
      (fun pre W => Mine w W [(gS, IsCells (u8s s) 39), (gM, IsCells [.bool (pre.foldl (stepR s) m).cursor, .bool (pre.foldl (stepR s) m).keypad, .bool (pre.foldl (stepR s) m).back, .bool (pre.foldl (stepR s) m).focus, .bool (pre.foldl (stepR s) m).paste, .bool (pre.foldl (stepR s) m).lock, .bool (pre.foldl (stepR s) m).line, .int .i64 (pre.foldl (stepR s) m).mouse, .int .i64 (pre.foldl (stepR s) m).coding, .int .i64 (pre.foldl (stepR s) m).other] 23), (gR, IsCells [.bool false, .bool false, .bool false, .bool false, .bool false, .bool false, .bool false, .int .i64 0, .int .i64 0, .int .i64 0] 23)])
      (fun _ _ _ => False)
      (mine_own _ (fun s p hp o ho => by
        simp only [List.mem_cons, List.not_mem_nil, or_false] at hp
        rcases hp with rfl | rfl | rfl <;> exact cells_isCells ho) (by have := HO.below.size; omega))
      (fun _ _ _ _ _ hs _ _ => hs) HO
      (fun x => { tmps := #[.agg (u8s s).toArray, m.v, .slice A nums.length c, .pointer (some ⟨gS, 0, none⟩), .pointer (some ⟨gM, 0, none⟩), undef, .pointer (some ⟨gR, 0, none⟩), .int .i64 (x.1.val : Int), .int .i64 x.2, .agg (u8s s).toArray, .agg #[.int .u8 0, .int .u8 0, .int .u8 0, .int .u8 0, .int .u8 0, .int .u8 0, .int .u8 0, .int .u8 0, .int .u8 0, .int .u8 0, .int .u8 0, .int .u8 0], .bool false, undef, .slice A nums.length c, .func (.func 41) #[] #[.pointer (some ⟨g1, 0, none⟩), .pointer (some ⟨g3, 0, none⟩)], .int .i64 (x.1.val : Int), .int .i64 x.2, undef, undef, undef, undef, undef, undef, undef, undef, undef, undef, undef, undef, undef, undef, undef, undef, undef, undef, undef, undef, undef], defers := [] }) ?assign ?body ?done ?stop
    case assign =>
      intro l x W K hK
      gi_wp2
      exact hK
    case body =>
      rintro l pre x W hI _
      clear HO hc1 hc3 hcL
      have HO := hI
      have HK := Keep.refl gM W
      clear hI
      obtain ⟨⟨j, hj⟩, y⟩ := x
      obtain ⟨F, hF⟩ : ∃ F, List.foldl (stepR s) m pre = F := ⟨_, rfl⟩
      obtain ⟨b, hb⟩ : ∃ b, s.getD j 0 = b := ⟨_, rfl⟩
      have hcell : (u8s s)[j]? = some (.int .u8 b) := by
        rw [← hb]
        have := HS.out
        simp [List.getD, show j < s.length by omega]
      have HCELL := Lib.hid hcell
      have hst : List.foldl (stepR s) m (pre ++ [(⟨j, hj⟩, y)]) = if b = 1 ∨ b = 2 then (setM F true y (b == 1)).1 else F := by
        rw [List.foldl_append, hF]
        show stepR s F (⟨j, hj⟩, y) = _
        unfold stepR
        simp only [hb]
      rw [hF] at HO
      have hj0 : (j : Int) < 12 := by omega
      clear hF hb hcell
      have HST := Lib.hid hst
      clear hst
      refine wpIn_block ?_
      refine wpIn_seq ?_
      refine inRegion (fun ⟨_, _, h⟩ => h) rfl ?_
      have h3 : b = 1 ∨ (b ≠ 1 ∧ b = 2) ∨ (b ≠ 1 ∧ b ≠ 2) := by omega
      rcases h3 with h1 | ⟨h1, h2⟩ | ⟨h1, h2⟩
      · subst h1
        obtain ⟨⟨r, ok⟩, hr⟩ : ∃ r, setM F true y true = r := ⟨_, rfl⟩
        have H3 : Hid (List.foldl (stepR s) m (pre ++ [(⟨j, hj⟩, y)]) = r) := Lib.hid (HST.out.trans (by rw [if_pos (by decide)]; show (setM F true y true).1 = r; rw [hr]))
        have HR := Lib.hid hr
        clear HST hr
        go_wp2_with ((with_reducible refine gate ?_); refine own_load1 (T := 5) HO rfl rfl rfl (.head _) Try.isAgg5 HCELL.out ?_; (try simp only [Act.put, List.setIfInBounds_toArray, List.set_cons_zero, List.set_cons_succ]))
        refine wpIn_cond_true rfl ?_
        refine region_putIn rfl 10 _ [fIs F.v, fIs (.int .i64 y), fIs (.int .i64 (j : Int)), fIs (.pointer (some ⟨gS, j, none⟩)), fIs (.int .u8 1), fIs (.bool true), fIs (.tuple #[r.v, .bool ok]), fIs (.tuple #[r.v, .bool ok]), fIs r.v, fIs (.bool ok)] ([fIs F.v, fIs (.int .i64 y), fIs (.int .i64 (j : Int)), fIs (.pointer (some ⟨gS, j, none⟩)), fIs (.int .u8 1), fIs (.bool true), fIs (.tuple #[r.v, .bool ok]), fIs (.tuple #[r.v, .bool ok]), fIs r.v, fIs (.bool ok)] ++ [fun _ w => Keep gM W w]) HO (by kernel_rfl) (by kernel_rfl) rfl (stays_cons (Stays.fIs _) (stays_cons (Stays.fIs _) (stays_cons (Stays.fIs _) (stays_cons (Stays.fIs _) (stays_cons (Stays.fIs _) (stays_cons (Stays.fIs _) (stays_cons (Stays.fIs _) (stays_cons (Stays.fIs _) (stays_cons (Stays.fIs _) (stays_cons (Stays.fIs _) stays_nil)))))))))) (stays_cons (Stays.fIs _) (stays_cons (Stays.fIs _) (stays_cons (Stays.fIs _) (stays_cons (Stays.fIs _) (stays_cons (Stays.fIs _) (stays_cons (Stays.fIs _) (stays_cons (Stays.fIs _) (stays_cons (Stays.fIs _) (stays_cons (Stays.fIs _) (stays_cons (Stays.fIs _) (stays_cons (Stays.keep gM W) stays_nil))))))))))) (bs' := [(gS, IsCells (u8s s) 39), (gM, IsCells [.bool r.cursor, .bool r.keypad, .bool r.back, .bool r.focus, .bool r.paste, .bool r.lock, .bool r.line, .int .i64 r.mouse, .int .i64 r.coding, .int .i64 r.other] 23), (gR, IsCells [.bool false, .bool false, .bool false, .bool false, .bool false, .bool false, .bool false, .int .i64 0, .int .i64 0, .int .i64 0] 23)]) ?_
        intro vals A hA
        simp [fillL, dstOf, List.range, List.range.loop, Act.put] at hA
        subst hA
        refine ⟨⟨?_, ?_, ?_, ?_, ?_, ?_, ?_, ?_, ?_, ?_, ?_, trivial⟩, ?_⟩
        case refine_1 =>
          refine Owes.before (by decide) (by kernel_rfl) ?_
          intro W2 hd hM hb0
          exact st_load hM rfl rfl rfl (.tail _ (.head _)) Try.isAgg23 Try.sizeOf23 (by repeat constructor) rfl
        case refine_2 =>
          refine Owes.before (by decide) (by kernel_rfl) ?_
          intro W2 hd hM hb0
          exact st_val rfl (by simp only [execOp]; first | (go_simp; done) | (go_simp; rfl)) rfl
        case refine_3 =>
          refine Owes.before (by decide) (by kernel_rfl) ?_
          intro W2 hd hM hb0
          exact st_val rfl (by simp only [execOp]; first | (go_simp; done) | (go_simp; rfl)) rfl
        case refine_4 =>
          refine Owes.before (by decide) (by kernel_rfl) ?_
          intro W2 hd hM hb0
          have v2 : vals 2 = .int .i64 (j : Int) := hd 2 (by kernel_rfl)
          rw [v2]
          exact st_val rfl (by simp only [execOp]; first | (go_simp; done) | (go_simp; rfl)) rfl
        case refine_5 =>
          refine Owes.before (by decide) (by kernel_rfl) ?_
          intro W2 hd hM hb0
          have v3 : vals 3 = .pointer (some ⟨gS, j, none⟩) := hd 3 (by kernel_rfl)
          rw [v3]
          exact st_load1 hM rfl rfl rfl (.head _) Try.isAgg5 HCELL.out rfl
        case refine_6 =>
          refine Owes.before (by decide) (by kernel_rfl) ?_
          intro W2 hd hM hb0
          have v4 : vals 4 = .int .u8 1 := hd 4 (by kernel_rfl)
          rw [v4]
          exact st_val rfl (by simp only [execOp]; first | (go_simp; done) | (go_simp; rfl)) rfl
        case refine_7 =>
          refine Owes.before (by decide) (by kernel_rfl) ?_
          intro W2 hd hM hb0
          have v0 : vals 0 = F.v := hd 0 (by kernel_rfl)
          have v1 : vals 1 = .int .i64 y := hd 1 (by kernel_rfl)
          have v5 : vals 5 = .bool true := hd 5 (by kernel_rfl)
          rw [v0, v1, v5]
          exact st_call rfl (by simp only [execOp]; first | (go_simp; done) | (go_simp; rfl)) (set_calls' F true y true r ok HR.out W2) (by rintro e w' ⟨rfl, hb⟩; exact ⟨_, rfl, hb, rfl⟩)
        case refine_8 =>
          refine Owes.before (by decide) (by kernel_rfl) ?_
          intro W2 hd hM hb0
          have v6 : vals 6 = .tuple #[r.v, .bool ok] := hd 6 (by kernel_rfl)
          rw [v6]
          exact st_val rfl (by simp only [execOp]; first | (go_simp; done) | (go_simp; rfl)) rfl
        case refine_9 =>
          refine Owes.before (by decide) (by kernel_rfl) ?_
          intro W2 hd hM hb0
          have v7 : vals 7 = .tuple #[r.v, .bool ok] := hd 7 (by kernel_rfl)
          rw [v7]
          exact st_val rfl (by simp only [execOp]; first | (go_simp; done) | (go_simp; rfl)) rfl
        case refine_10 =>
          refine Owes.after (by decide) (by kernel_rfl) ?_
          intro W2 hd
          have v7 : vals 7 = .tuple #[r.v, .bool ok] := (hd 7 (by kernel_rfl)).elim id id
          rw [v7]
          exact st_pure rfl (fun w => by simp only [execOp]; first | (go_simp; done) | (go_simp; rfl)) ⟨rfl, rfl⟩
        case refine_11 =>
          refine Owes.store ?_
          intro W2 hd hM hb0
          have v8 : vals 8 = r.v := hd 8 (by kernel_rfl)
          rw [v8]
          refine st_store (T := 23) (vs := [.bool r.cursor, .bool r.keypad, .bool r.back, .bool r.focus, .bool r.paste, .bool r.lock, .bool r.line, .int .i64 r.mouse, .int .i64 r.coding, .int .i64 r.other]) hM rfl rfl rfl rfl (.there .here) Try.sizeOf23 (by repeat constructor) rfl ?_
          intro W3 hM3 hb3 hoth hsz
          refine ⟨hM3, Kit.Keep.stored (HK.below hb0) hsz hoth, fun k hk hf => facts_turn (pure_cons (Pure.fIs _) (pure_cons (Pure.fIs _) (pure_cons (Pure.fIs _) (pure_cons (Pure.fIs _) (pure_cons (Pure.fIs _) (pure_cons (Pure.fIs _) (pure_cons (Pure.fIs _) (pure_cons (Pure.fIs _) (pure_cons (Pure.fIs _) (pure_cons (Pure.fIs _) pure_nil)))))))))) hk hf⟩
        case refine_12 =>
          intro W2 hd hM
          have HK2 : Keep gM W W2 := hd 10 (by decide)
          refine ⟨HK2.from hlt, HK2.kp _, ?_⟩
          dsimp only
          rw [H3.out]
          exact hM
      · subst h2
        clear h1
        obtain ⟨⟨r, ok⟩, hr⟩ : ∃ r, setM F true y false = r := ⟨_, rfl⟩
        have H3 : Hid (List.foldl (stepR s) m (pre ++ [(⟨j, hj⟩, y)]) = r) := Lib.hid (HST.out.trans (by rw [if_pos (by decide)]; show (setM F true y false).1 = r; rw [hr]))
        have HR := Lib.hid hr
        clear HST hr
        go_wp2_with ((with_reducible refine gate ?_); refine own_load1 (T := 5) HO rfl rfl rfl (.head _) Try.isAgg5 HCELL.out ?_; (try simp only [Act.put, List.setIfInBounds_toArray, List.set_cons_zero, List.set_cons_succ]))
        refine wpIn_cond_true rfl ?_
        refine region_putIn rfl 10 _ [fIs F.v, fIs (.int .i64 y), fIs (.int .i64 (j : Int)), fIs (.pointer (some ⟨gS, j, none⟩)), fIs (.int .u8 2), fIs (.bool false), fIs (.tuple #[r.v, .bool ok]), fIs (.tuple #[r.v, .bool ok]), fIs r.v, fIs (.bool ok)] ([fIs F.v, fIs (.int .i64 y), fIs (.int .i64 (j : Int)), fIs (.pointer (some ⟨gS, j, none⟩)), fIs (.int .u8 2), fIs (.bool false), fIs (.tuple #[r.v, .bool ok]), fIs (.tuple #[r.v, .bool ok]), fIs r.v, fIs (.bool ok)] ++ [fun _ w => Keep gM W w]) HO (by kernel_rfl) (by kernel_rfl) rfl (stays_cons (Stays.fIs _) (stays_cons (Stays.fIs _) (stays_cons (Stays.fIs _) (stays_cons (Stays.fIs _) (stays_cons (Stays.fIs _) (stays_cons (Stays.fIs _) (stays_cons (Stays.fIs _) (stays_cons (Stays.fIs _) (stays_cons (Stays.fIs _) (stays_cons (Stays.fIs _) stays_nil)))))))))) (stays_cons (Stays.fIs _) (stays_cons (Stays.fIs _) (stays_cons (Stays.fIs _) (stays_cons (Stays.fIs _) (stays_cons (Stays.fIs _) (stays_cons (Stays.fIs _) (stays_cons (Stays.fIs _) (stays_cons (Stays.fIs _) (stays_cons (Stays.fIs _) (stays_cons (Stays.fIs _) (stays_cons (Stays.keep gM W) stays_nil))))))))))) (bs' := [(gS, IsCells (u8s s) 39), (gM, IsCells [.bool r.cursor, .bool r.keypad, .bool r.back, .bool r.focus, .bool r.paste, .bool r.lock, .bool r.line, .int .i64 r.mouse, .int .i64 r.coding, .int .i64 r.other] 23), (gR, IsCells [.bool false, .bool false, .bool false, .bool false, .bool false, .bool false, .bool false, .int .i64 0, .int .i64 0, .int .i64 0] 23)]) ?_
        intro vals A hA
        simp [fillL, dstOf, List.range, List.range.loop, Act.put] at hA
        subst hA
        refine ⟨⟨?_, ?_, ?_, ?_, ?_, ?_, ?_, ?_, ?_, ?_, ?_, trivial⟩, ?_⟩
        case refine_1 =>
          refine Owes.before (by decide) (by kernel_rfl) ?_
          intro W2 hd hM hb0
          exact st_load hM rfl rfl rfl (.tail _ (.head _)) Try.isAgg23 Try.sizeOf23 (by repeat constructor) rfl
        case refine_2 =>
          refine Owes.before (by decide) (by kernel_rfl) ?_
          intro W2 hd hM hb0
          exact st_val rfl (by simp only [execOp]; first | (go_simp; done) | (go_simp; rfl)) rfl
        case refine_3 =>
          refine Owes.before (by decide) (by kernel_rfl) ?_
          intro W2 hd hM hb0
          exact st_val rfl (by simp only [execOp]; first | (go_simp; done) | (go_simp; rfl)) rfl
        case refine_4 =>
          refine Owes.before (by decide) (by kernel_rfl) ?_
          intro W2 hd hM hb0
          have v2 : vals 2 = .int .i64 (j : Int) := hd 2 (by kernel_rfl)
          rw [v2]
          exact st_val rfl (by simp only [execOp]; first | (go_simp; done) | (go_simp; rfl)) rfl
        case refine_5 =>
          refine Owes.before (by decide) (by kernel_rfl) ?_
          intro W2 hd hM hb0
          have v3 : vals 3 = .pointer (some ⟨gS, j, none⟩) := hd 3 (by kernel_rfl)
          rw [v3]
          exact st_load1 hM rfl rfl rfl (.head _) Try.isAgg5 HCELL.out rfl
        case refine_6 =>
          refine Owes.before (by decide) (by kernel_rfl) ?_
          intro W2 hd hM hb0
          have v4 : vals 4 = .int .u8 2 := hd 4 (by kernel_rfl)
          rw [v4]
          exact st_val rfl (by simp only [execOp]; first | (go_simp; done) | (go_simp; rfl)) rfl
        case refine_7 =>
          refine Owes.before (by decide) (by kernel_rfl) ?_
          intro W2 hd hM hb0
          have v0 : vals 0 = F.v := hd 0 (by kernel_rfl)
          have v1 : vals 1 = .int .i64 y := hd 1 (by kernel_rfl)
          have v5 : vals 5 = .bool false := hd 5 (by kernel_rfl)
          rw [v0, v1, v5]
          exact st_call rfl (by simp only [execOp]; first | (go_simp; done) | (go_simp; rfl)) (set_calls' F true y false r ok HR.out W2) (by rintro e w' ⟨rfl, hb⟩; exact ⟨_, rfl, hb, rfl⟩)
        case refine_8 =>
          refine Owes.before (by decide) (by kernel_rfl) ?_
          intro W2 hd hM hb0
          have v6 : vals 6 = .tuple #[r.v, .bool ok] := hd 6 (by kernel_rfl)
          rw [v6]
          exact st_val rfl (by simp only [execOp]; first | (go_simp; done) | (go_simp; rfl)) rfl
        case refine_9 =>
          refine Owes.before (by decide) (by kernel_rfl) ?_
          intro W2 hd hM hb0
          have v7 : vals 7 = .tuple #[r.v, .bool ok] := hd 7 (by kernel_rfl)
          rw [v7]
          exact st_val rfl (by simp only [execOp]; first | (go_simp; done) | (go_simp; rfl)) rfl
        case refine_10 =>
          refine Owes.after (by decide) (by kernel_rfl) ?_
          intro W2 hd
          have v7 : vals 7 = .tuple #[r.v, .bool ok] := (hd 7 (by kernel_rfl)).elim id id
          rw [v7]
          exact st_pure rfl (fun w => by simp only [execOp]; first | (go_simp; done) | (go_simp; rfl)) ⟨rfl, rfl⟩
        case refine_11 =>
          refine Owes.store ?_
          intro W2 hd hM hb0
          have v8 : vals 8 = r.v := hd 8 (by kernel_rfl)
          rw [v8]
          refine st_store (T := 23) (vs := [.bool r.cursor, .bool r.keypad, .bool r.back, .bool r.focus, .bool r.paste, .bool r.lock, .bool r.line, .int .i64 r.mouse, .int .i64 r.coding, .int .i64 r.other]) hM rfl rfl rfl rfl (.there .here) Try.sizeOf23 (by repeat constructor) rfl ?_
          intro W3 hM3 hb3 hoth hsz
          refine ⟨hM3, Kit.Keep.stored (HK.below hb0) hsz hoth, fun k hk hf => facts_turn (pure_cons (Pure.fIs _) (pure_cons (Pure.fIs _) (pure_cons (Pure.fIs _) (pure_cons (Pure.fIs _) (pure_cons (Pure.fIs _) (pure_cons (Pure.fIs _) (pure_cons (Pure.fIs _) (pure_cons (Pure.fIs _) (pure_cons (Pure.fIs _) (pure_cons (Pure.fIs _) pure_nil)))))))))) hk hf⟩
        case refine_12 =>
          intro W2 hd hM
          have HK2 : Keep gM W W2 := hd 10 (by decide)
          refine ⟨HK2.from hlt, HK2.kp _, ?_⟩
          dsimp only
          rw [H3.out]
          exact hM
      · have b1 : (b == 1) = false := beq_eq_false_iff_ne.2 h1
        have b2 : (b == 2) = false := beq_eq_false_iff_ne.2 h2
        have H3 : Hid (List.foldl (stepR s) m (pre ++ [(⟨j, hj⟩, y)]) = F) := Lib.hid (HST.out.trans (by rw [if_neg (by omega)]))
        clear HST h1 h2
        go_wp2_with ((with_reducible refine gate ?_); refine own_load1 (T := 5) HO rfl rfl rfl (.head _) Try.isAgg5 HCELL.out ?_; (try simp only [Act.put, List.setIfInBounds_toArray, List.set_cons_zero, List.set_cons_succ]))
        refine wpIn_cond_false rfl ?_
        refine wpIn_skip ?_
        refine ⟨HK.from hlt, HK.kp _, ?_⟩
        dsimp only
        rw [H3.out]
        exact HO
    case done =>
      rintro D ys W hD rfl hI hK
      clear HO hc1 hc3 hcL
      have HO := hI
      clear hI
      obtain ⟨F, hF⟩ : ∃ F, List.foldl (stepR s) m (pairsL nums) = F := ⟨_, rfl⟩
      rw [hF] at HO
      have hsv : restL s m nums = F := hF
      rw [hsv]
      have HXS : XS 23 (fun w : World => w.heap[D]? = some (.deferred (some []))) := fun w g cs cs' h hg => (setRow_other w g D _ (fun e => by subst e; dsimp only at h; rw [hg] at h; cases h)).trans h
      have hD2 : w.heap.size ≤ D := by omega
      clear hF hsv
      refine wpIn_seq ?_
      refine wideRegion ?_
      go_wp2_with ((with_reducible refine gate ?_); (first
        | (refine own_load (T := 23) HO rfl rfl rfl (.tail _ (.head _)) Try.isAgg23 Try.sizeOf23 (by repeat constructor) ?_; (try simp only [Act.put, List.setIfInBounds_toArray, List.set_cons_zero, List.set_cons_succ]))
        | (refine own_storeX (T := 23) (vs := [.bool F.cursor, .bool F.keypad, .bool F.back, .bool F.focus, .bool F.paste, .bool F.lock, .bool F.line, .int .i64 F.mouse, .int .i64 F.coding, .int .i64 F.other]) HO (X := fun w : World => w.heap[D]? = some (.deferred (some []))) hK rfl rfl rfl rfl (.there (.there .here)) HXS Try.sizeOf23 (by repeat constructor) rfl ?_; clear HO hK; intro wN HO hK; (try simp only [Act.put, List.setIfInBounds_toArray, List.set_cons_zero, List.set_cons_succ]))))
      refine wpIn_ret ?_
      have HO2 : Mine w (wN.putObj D (.deferred none)) _ := (mine_own (β := Unit) (B := w.heap.size) (fun _ => _) (fun s p hp o ho => by
        simp only [List.mem_cons, List.not_mem_nil, or_false] at hp
        rcases hp with rfl | rfl | rfl <;> exact cells_isCells ho) (Nat.le_refl _)).putObj (s := ()) _ HO hD2 hK rfl
      refine ⟨by simp, .inl ⟨_, _, rfl, run_takeDeferred hK, ?_⟩⟩
      exact ⟨_, own_results1 HO2 Try.results22 rfl (.tail _ (.tail _ (.head _))) Try.isAgg23 Try.sizeOf23 (by repeat constructor), rfl, HO2.below⟩
    case stop =>
      rintro D c pre W _ _ h _
      exact h.elim

end Go.Proofs.Ytllloedhlcdbjaa
