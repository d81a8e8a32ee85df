/- The walk of layer 6: modes.Own. No condition. -/
import Derived.Test.YtllloedhlcdbjaaKitT
import Derived.Test.YtllloedhlcdbjaaMoC
import Derived.Test.YtllloedhlcdbjaaShelf
import Derived.Shelf.SlIterI.Nil
import Derived.Shelf.SortM.Plain
import Derived.Shelf.SortM.SortNone
namespace Go.Proofs.Ytllloedhlcdbjaa
set_option linter.unusedVariables false
set_option linter.unusedSimpArgs false
open Go.RowKit Kit Go.Maps Go.Sort Go.Shelf

def ownL : List Int := [1, 9, 66, 67, 1000, 1002, 1003, 1004, 1005, 1006, 1015, 2004]
/-- those below k -/
def ownTo (k : Nat) : List Int := ownL.filter fun n => decide (n < k)
def ownD (l : List Int) : DataW Unit := l.foldl (fun D n => D.put (.int .i64 n) (.lit (.bool true))) (.map [])
theorem ownD_snoc (l : List Int) (n : Int) : ownD (l ++ [n]) = (ownD l).put (.int .i64 n) (.lit (.bool true)) := by simp [ownD]
theorem mem_ownL {n : Int} : n ∈ ownL ↔ (n = 1 ∨ n = 9 ∨ n = 66 ∨ n = 67 ∨ n = 1000 ∨ n = 1002 ∨ n = 1003 ∨ n = 1004 ∨ n = 1005 ∨ n = 1006 ∨ n = 1015 ∨ n = 2004) := by simp [ownL]
theorem ownTo_in {k : Nat} (h : (k : Int) ∈ ownL) : ownTo (k + 1) = ownTo k ++ [(k : Int)] := by
  have h := mem_ownL.1 h
  have : k = 1 ∨ k = 9 ∨ k = 66 ∨ k = 67 ∨ k = 1000 ∨ k = 1002 ∨ k = 1003 ∨ k = 1004 ∨ k = 1005 ∨ k = 1006 ∨ k = 1015 ∨ k = 2004 := by omega
  rcases this with rfl | rfl | rfl | rfl | rfl | rfl | rfl | rfl | rfl | rfl | rfl | rfl <;> decide
theorem ownTo_out {k : Nat} (h : (k : Int) ∉ ownL) : ownTo (k + 1) = ownTo k := by
  unfold ownTo
  refine List.filter_congr fun n hn => ?_
  have : n ≠ (k : Int) := fun e => h (e ▸ hn)
  rw [decide_eq_decide]
  omega
theorem ownTo_le (k : Nat) : (ownTo k).length ≤ 12 := List.length_filter_le _ _
theorem ownTo_all : ownTo 2005 = ownL := by decide
theorem setM_ok (m : Md) (n : Int) (on : Bool) : (setM m true n on).2 = decide (n ∈ ownL) := by
  by_cases h : n ∈ ownL
  · rw [decide_eq_true h]
    rcases mem_ownL.1 h with rfl | rfl | rfl | rfl | rfl | rfl | rfl | rfl | rfl | rfl | rfl | rfl <;> rfl
  · rw [decide_eq_false h]
    rw [mem_ownL] at h
    simp only [not_or] at h
    obtain ⟨h1, h2, h3, h4, h5, h6, h7, h8, h9, h10, h11, h12⟩ := h
    simp [setM, flagIx, choiceIx, isMouse, isCoding, h1, h2, h3, h4, h5, h6, h7, h8, h9, h10, h11, h12]
theorem setM_pair (m : Md) (n : Int) (on : Bool) : setM m true n on = ((setM m true n on).1, decide (n ∈ ownL)) := by
  rw [← setM_ok m n on]
theorem keys_of {ss : List Int} (h : ss.Perm (intKeys (ownD ownL))) : ss.mergeSort (fun x y => decide (x ≤ y)) = ownL := by
  rw [mergeSort_of_perm_i h]
  exact (mergeSort_of_perm_i (l' := ownL) (by decide)).trans (List.mergeSort_of_pairwise (by decide))

theorem keys_calls (mb : Option Nat) (W : World) : Calls Try.prog 28 #[.map mb] W fun e w' => e = .returned (.func (.func 39) #[] #[.pointer (some ⟨W.heap.size, 0, none⟩)]) ∧ w' = W.alloc (.cells #[.map mb] 57) :=
  (callsIn_wide (n := 5)).1 (AnyZI.keys_in Try.keysA Fence.wide 5 trivial rfl mb W)
theorem sortsA (m : Nat) : AnyZI.SortsIn Try.prog Try.sortedA_ren Fence.wide m :=
  ⟨fun blk off cap ss W hH hblk hsz => callsIn_wide.2 (Try.slices_Sort_int blk off cap ss W hH hblk hsz),
   fun p cap W => callsIn_wide.2 (Try.slices_Sort_int_none p cap W)⟩
theorem sorted_calls (g nn : Nat) (D : DataW Unit) (W : World) (hown : W.ownsMap Try.prog 3 (plainElem (H := Unit) Try.prog 4) g nn D) (hmax : Maps.size D ≤ maxLen) (hbytes : Maps.size D * 8 ≤ 140737488355328) :
    Calls Try.prog 27 #[.func (.func 39) #[] #[.pointer (some ⟨W.heap.size, 0, none⟩)]] (W.alloc (.cells #[.map (some g)] 57)) fun e w' => ∃ (v : Value) (ss : List Int), e = .returned v ∧ ss.Perm (intKeys D) ∧
      w'.ownsRow (W.heap.size + 1) 3 1 v ss.length ((ss.mergeSort (fun x y => decide (x ≤ y))).map encZ) ∧ Below (W.heap.size + 1) (W.alloc (.cells #[.map (some g)] 57)) w' := by
  refine (callsIn_wide (n := 5)).1 ?_
  have hbl := hown.lt
  have hseq : SeqGives Fence.wide 2 Try.prog 39 #[.pointer (some ⟨W.heap.size, 0, none⟩)] encZ (fun ss => ss.Perm (intKeys D)) (Maps.size D) (W.alloc (.cells #[.map (some g)] 57)) :=
    AnyZI.keys_gives (ρ := Try.keysA_ren) { Try.keysA with } Fence.wide _ trivial rfl (by omega) W.heap.size g nn D _ (by simp) (by simp) (by
      obtain ⟨es, clock, hb, Ft, hs, hD⟩ := hown
      exact ⟨es, clock, (Below.heap_alloc _ _ g hbl).trans hb, Ft, hs, hD⟩)
  have cS := AnyZI.sorted_in Try.sortedA Fence.wide 5 trivial trivial trivial trivial rfl (by omega) (sortsA _) (enters_of Try.func38 (by kernel_rfl) rfl) 39 #[.pointer (some ⟨W.heap.size, 0, none⟩)] trivial (enters_of Try.func39 (by kernel_rfl) rfl) _ _ hmax hbytes _ hseq
  change CallsIn _ _ Try.prog 27 _ _ _ at cS
  refine cS.mono ?_
  rintro e w' ⟨v, ss, rfl, hS, hrow, hnil, hb⟩
  rw [Kit.size_alloc] at hrow hb
  exact ⟨v, ss, rfl, hS, hrow, hb⟩

/-- what modes.Own hands back -/
def OwnAns (B : Nat) (v : Value) (w' : World) : Prop := ∃ g cap rest, v = .slice (some ⟨g, 0, none⟩) 12 cap ∧ B ≤ g ∧ w'.heap[g]? = some (.cells (ownL.map (Value.int .i64) ++ rest).toArray 3 (0, 0)) ∧ 12 ≤ cap
theorem wf_small (k : Nat) (h : k < 2005) : (Lit.int .i64 (k : Int)).wf = true := by
  simp [Lit.wf, IntKind.min, IntKind.max, IntKind.signed, IntKind.bits]
  omega
theorem meas2005 (k : Nat) (h : k < 2005) : 2005 - (intOf (.int .i64 (wrap64 ((k : Int) + 1)))).toNat < 2005 - (intOf (.int .i64 (k : Int))).toNat := by
  have e : wrap64 ((k : Int) + 1) = ((k + 1 : Nat) : Int) := by unfold wrap64; omega
  rw [e]
  show 2005 - (((k + 1 : Nat) : Int)).toNat < 2005 - ((k : Int)).toNat
  rw [Int.toNat_natCast, Int.toNat_natCast]
  omega

attribute [local irreducible] wpList Calls wpQuiet
theorem set_of (m : Md) (p : Bool) (n : Int) (on : Bool) (r : Md) (ok : Bool) (h : setM m p n on = (r, ok)) (w : World) :
    Calls Try.prog 13 #[m.v, .bool p, .int .i64 n, .bool on] w fun e w' => e = .returned (.tuple #[r.v, .bool ok]) ∧ Below w.heap.size w w' := by
  have := set_calls m p n on w
  rw [h] at this
  exact this

set_option maxRecDepth 100000 in
set_option maxHeartbeats 4000000 in
theorem own_calls (w : World) : Calls Try.prog 14 #[] w fun e w' => ∃ v, e = .returned v ∧ OwnAns w.heap.size v w' ∧ Below w.heap.size w w' := by
  have HO := Mine.start w
  go_enter Try.func14, Try.ntmps14
  go_wp2_with (first
      | ((with_reducible refine gate ?_); (first
      | ((refine own_makeMapD Try.prog 3 (plainElem (H := Unit) Try.prog 4) HO rfl rfl ?_); clear HO; intro gM wN hgM HO; (simp only [List.nil_append, List.cons_append] at HO); (try simp only [Act.put, List.setIfInBounds_toArray, List.set_cons_zero, List.set_cons_succ]))
      | ((refine own_box HO rfl rfl rfl ?_); clear HO; intro gN wN hgN HO; (simp only [List.nil_append, List.cons_append] at HO); (try simp only [Act.put, List.setIfInBounds_toArray, List.set_cons_zero, List.set_cons_succ]))
      | ((refine own_alloc (T := 23) HO rfl rfl Try.zeroValue23 rfl ?_); clear HO; intro gN wN hgN HO; (simp only [List.nil_append, List.cons_append] at HO); (try simp only [Act.put, List.setIfInBounds_toArray, List.set_cons_zero, List.set_cons_succ]))
      | ((refine own_load (T := 23) HO rfl rfl rfl (by first | exact .head _ | exact .tail _ (.head _) | exact .tail _ (.tail _ (.head _)) | exact .tail _ (.tail _ (.tail _ (.head _))) | exact .tail _ (.tail _ (.tail _ (.tail _ (.head _)))) | exact .tail _ (.tail _ (.tail _ (.tail _ (.tail _ (.head _)))))) Try.isAgg23 Try.sizeOf23 (by repeat constructor) ?_); (try simp only [Act.put, List.setIfInBounds_toArray, List.set_cons_zero, List.set_cons_succ]))
      | ((refine own_store (T := 23) HO rfl rfl rfl rfl (by first | exact .here | exact .there (.here) | exact .there (.there (.here)) | exact .there (.there (.there (.here))) | exact .there (.there (.there (.there (.here)))) | exact .there (.there (.there (.there (.there (.here)))))) Try.sizeOf23 (by repeat constructor) rfl ?_); clear HO; intro wN HO; (try simp only [Act.put, List.setIfInBounds_toArray, List.set_cons_zero, List.set_cons_succ])))))
  go_loopw [7] (fun i wr => ∃ k : Nat, k ≤ 2005 ∧ i = .int .i64 (k : Int) ∧ Mine w wr [(gN, IsCells [Value.bool false, Value.bool false, Value.bool false, Value.bool false, Value.bool false, Value.bool false, Value.bool false, Value.int .i64 0, Value.int .i64 0, Value.int .i64 0] 23), (gM, IsMapD Try.prog 3 (plainElem (H := Unit) Try.prog 4) (ownTo k).length (ownD (ownTo k)))]) (fun i _ => 2005 - (intOf i).toNat)
  case atStart => exact ⟨0, by omega, rfl, HO⟩
  case round =>
    obtain ⟨k, hk, rfl, HOn⟩ := hrel
    clear HO
    have HO := HOn
    clear HOn
    by_cases hlt : k < 2005
    · have hc1 : decide ((k : Int) < 2005) = true := decide_eq_true (by omega)
      have HLT := Lib.hid hlt
      by_cases hin : (k : Int) ∈ ownL
      · have hs := setM_pair Md.zero (k : Int) true
        rw [decide_eq_true hin] at hs
        have HS := Lib.hid hs
        have hto := ownTo_in hin
        have HTO := Lib.hid hto
        have hwf : (Lit.int .i64 (k : Int)).wf = true := wf_small k hlt
        have hkey : Go.keyOf Try.prog 3 (.int .i64 (k : Int)) = some (.int .i64 (k : Int)) := Maps.keyOf_int_mk Try.underlying3 hwf
        have HKEY := Lib.hid hkey
        have hroom : (ownTo k).length < maxLen := Nat.lt_of_le_of_lt (ownTo_le k) (by decide)
        have HROOM := Lib.hid hroom
        clear hs hto hwf hkey hroom hin hlt hk
        go_wp2_with (first
      | (go_at_call 13; refine (set_of Md.zero true (k : Int) true _ true HS.out _).mono ?_; rintro eN wN ⟨rfl, hbN⟩; have HON := HO.call hbN; clear HO hbN; have HO := HON; clear HON)
      | ((with_reducible refine gate ?_); (first
      | ((refine own_put (R := (plainElem (H := Unit) Try.prog 4)) HO rfl rfl rfl (by first | exact .const | exact .tmp rfl | exact .func) (by first | exact .const | exact .tmp rfl | exact .func) (Maps.int_keyed Try.underlying3) Try.underlying57 (by first | exact .here | exact .there .here) HROOM.out HKEY.out (plainElem_bool Try.underlying4 true) ?_); clear HO; intro wN HO; (try simp only [Act.put, List.setIfInBounds_toArray, List.set_cons_zero, List.set_cons_succ]))
      | ((refine own_box HO rfl rfl rfl ?_); clear HO; intro gX wN hgN HO; (simp only [List.nil_append, List.cons_append] at HO); (try simp only [Act.put, List.setIfInBounds_toArray, List.set_cons_zero, List.set_cons_succ]))
      | ((refine own_alloc (T := 23) HO rfl rfl Try.zeroValue23 rfl ?_); clear HO; intro gZ wN hgZ HO; (simp only [List.nil_append, List.cons_append] at HO); (try simp only [Act.put, List.setIfInBounds_toArray, List.set_cons_zero, List.set_cons_succ]))
      | ((refine own_load (T := 23) HO rfl rfl rfl (by first | exact .head _ | exact .tail _ (.head _) | exact .tail _ (.tail _ (.head _)) | exact .tail _ (.tail _ (.tail _ (.head _))) | exact .tail _ (.tail _ (.tail _ (.tail _ (.head _)))) | exact .tail _ (.tail _ (.tail _ (.tail _ (.tail _ (.head _)))))) Try.isAgg23 Try.sizeOf23 (by repeat constructor) ?_); (try simp only [Act.put, List.setIfInBounds_toArray, List.set_cons_zero, List.set_cons_succ]))
      | ((refine own_store (T := 23) HO rfl rfl rfl rfl (by first | exact .here | exact .there (.here) | exact .there (.there (.here)) | exact .there (.there (.there (.here))) | exact .there (.there (.there (.there (.here)))) | exact .there (.there (.there (.there (.there (.here)))))) Try.sizeOf23 (by repeat constructor) rfl ?_); clear HO; intro wN HO; (try simp only [Act.put, List.setIfInBounds_toArray, List.set_cons_zero, List.set_cons_succ])))))
        go_roundw
        case rel =>
          refine ⟨k + 1, by have := HLT.out; omega, congrArg (Value.int .i64) (show wrap64 ((k : Int) + 1) = ((k + 1 : Nat) : Int) by have := HLT.out; unfold wrap64; omega), ?_⟩
          rw [HTO.out, ownD_snoc, List.length_append]
          exact HO.less (.cons_cons _ (.cons_cons _ (.cons _ .slnil)))
        case measure => exact meas2005 k HLT.out
      · have hs := setM_pair Md.zero (k : Int) true
        rw [decide_eq_false hin] at hs
        have HS := Lib.hid hs
        have HTO := Lib.hid (ownTo_out hin)
        clear hs hin hlt hk
        go_wp2_with (first
      | (go_at_call 13; refine (set_of Md.zero true (k : Int) true _ false HS.out _).mono ?_; rintro eN wN ⟨rfl, hbN⟩; have HON := HO.call hbN; clear HO hbN; have HO := HON; clear HON)
      | ((with_reducible refine gate ?_); (first
      | ((refine own_box HO rfl rfl rfl ?_); clear HO; intro gX wN hgN HO; (simp only [List.nil_append, List.cons_append] at HO); (try simp only [Act.put, List.setIfInBounds_toArray, List.set_cons_zero, List.set_cons_succ]))
      | ((refine own_alloc (T := 23) HO rfl rfl Try.zeroValue23 rfl ?_); clear HO; intro gZ wN hgZ HO; (simp only [List.nil_append, List.cons_append] at HO); (try simp only [Act.put, List.setIfInBounds_toArray, List.set_cons_zero, List.set_cons_succ]))
      | ((refine own_load (T := 23) HO rfl rfl rfl (by first | exact .head _ | exact .tail _ (.head _) | exact .tail _ (.tail _ (.head _)) | exact .tail _ (.tail _ (.tail _ (.head _))) | exact .tail _ (.tail _ (.tail _ (.tail _ (.head _)))) | exact .tail _ (.tail _ (.tail _ (.tail _ (.tail _ (.head _)))))) Try.isAgg23 Try.sizeOf23 (by repeat constructor) ?_); (try simp only [Act.put, List.setIfInBounds_toArray, List.set_cons_zero, List.set_cons_succ]))
      | ((refine own_store (T := 23) HO rfl rfl rfl rfl (by first | exact .here | exact .there (.here) | exact .there (.there (.here)) | exact .there (.there (.there (.here))) | exact .there (.there (.there (.there (.here)))) | exact .there (.there (.there (.there (.there (.here)))))) Try.sizeOf23 (by repeat constructor) rfl ?_); clear HO; intro wN HO; (try simp only [Act.put, List.setIfInBounds_toArray, List.set_cons_zero, List.set_cons_succ])))))
        go_roundw
        case rel =>
          refine ⟨k + 1, by have := HLT.out; omega, congrArg (Value.int .i64) (show wrap64 ((k : Int) + 1) = ((k + 1 : Nat) : Int) by have := HLT.out; unfold wrap64; omega), ?_⟩
          rw [HTO.out]
          exact HO.less (.cons_cons _ (.cons_cons _ (.cons _ .slnil)))
        case measure => exact meas2005 k HLT.out
    · obtain rfl : k = 2005 := by omega
      rw [ownTo_all] at HO
      have hsz : Maps.size (ownD ownL) = 12 := by decide
      have HZ := Lib.hid hsz
      clear hsz hlt hk
      go_wp2_with (first
        | (go_at_call 28; refine (keys_calls _ _).mono ?_; rintro eN wN ⟨rfl, rfl⟩)
        | (go_at_call 27; refine (sorted_calls gM _ _ _ (HO.ownsMap (.tail _ (.head _))) (by rw [HZ.out]; decide) (by rw [HZ.out]; decide)).mono ?_; rintro eN wN ⟨v, ss, rfl, hS, hrow, hb⟩))
      go_ret
      have hsl := keys_of hS
      have hlen : ss.length = 12 := by have := congrArg List.length hsl; rw [List.length_mergeSort] at this; rw [this]; rfl
      rw [hsl, hlen] at hrow
      refine ⟨v, rfl, ?_, (HO.below.alloc HO.below.size _).trans (hb.mono (by have := HO.below.size; omega))⟩
      rcases hrow.2 with ⟨_, h0⟩ | ⟨g, cap, cur, rfl, hbase, hg, r1, r2, r3, r4⟩
      · cases h0
      · refine ⟨g, cap, cur.toList.drop 12, rfl, by have := HO.below.size; omega, ?_, r1⟩
        rw [hg]
        have : cur = (List.map (Value.int .i64) ownL ++ cur.toList.drop 12).toArray := by
          have h4 : cur.toList.take 12 = List.map (Value.int .i64) ownL := r4
          apply Array.ext'
          rw [← h4]
          simp
        rw [← this]

end Go.Proofs.Ytllloedhlcdbjaa
