/- The walks of layer 6: modes.Set and modes.Get. No condition. -/
import Derived.Test.YtllloedhlcdbjaaMoO
import Derived.Test.YtllloedhlcdbjaaMoB
import Derived.Test.YtllloedhlcdbjaaKitC
namespace Go.Proofs.Ytllloedhlcdbjaa
set_option linter.unusedVariables false
set_option linter.unusedSimpArgs false
open Go.RowKit Kit

theorem bcell {W w1 : World} {B : Nat} (hb : Below B W w1) : (∀ b o, b < B → w1.cell? ⟨b, o, none⟩ = W.cell? ⟨b, o, none⟩) ∧ (∀ b o, b < B → w1.frozen? ⟨b, o, none⟩ = W.frozen? ⟨b, o, none⟩) :=
  ⟨fun b o h => hb.cell (p := ⟨b, o, none⟩) h, fun b o h => hb.frozen (p := ⟨b, o, none⟩) h⟩

theorem flagIx_lt {p : Bool} {n : Int} {i : Nat} (h : flagIx p n = some i) : i < 7 := by
  unfold flagIx at h
  repeat' split at h
  all_goals simp at h <;> omega
theorem choiceIx_78 {p : Bool} {n : Int} {i : Nat} (h : choiceIx p n = some i) : i = 7 ∨ i = 8 := by
  unfold choiceIx at h
  repeat' split at h
  all_goals simp at h <;> omega

def flagIx' (p : Bool) (n : Int) : Option Nat := flagIx p n
set_option maxHeartbeats 1000000 in
theorem set_flag (m : Md) (p : Bool) (n : Int) (on : Bool) (i : Nat) (w : World) (h : flagIx p n = some i) :
    Calls Try.prog 13 #[m.v, .bool p, .int .i64 n, .bool on] w fun e w' => e = .returned (.tuple #[(setFlag m i on).v, .bool true]) ∧ Below w.heap.size w w' := by
  have hi := flagIx_lt h
  have H := Lib.hid h
  clear h
  have HO := Mine.start w
  go_enter Try.func13, Try.ntmps13
  go_wp2_with (first
      | ((with_reducible refine gate ?_); (first
      | ((refine own_box HO rfl rfl rfl ?_); clear HO; intro gN wN hgN HO; (simp only [List.nil_append, List.cons_append] at HO); (try simp only [Act.put, List.setIfInBounds_toArray, List.set_cons_zero, List.set_cons_succ]))
      | ((refine own_alloc (T := 23) HO rfl rfl Try.zeroValue23 rfl ?_); clear HO; intro gN wN hgN HO; (simp only [List.nil_append, List.cons_append] at HO); (try simp only [Act.put, List.setIfInBounds_toArray, List.set_cons_zero, List.set_cons_succ]))
      | ((refine own_alloc (T := 3) HO rfl rfl Try.zeroValue3 rfl ?_); clear HO; intro gN wN hgN HO; (simp only [List.nil_append, List.cons_append] at HO); (try simp only [Act.put, List.setIfInBounds_toArray, List.set_cons_zero, List.set_cons_succ]))
      | ((refine own_alloc (T := 4) HO rfl rfl Try.zeroValue4 rfl ?_); clear HO; intro gN wN hgN HO; (simp only [List.nil_append, List.cons_append] at HO); (try simp only [Act.put, List.setIfInBounds_toArray, List.set_cons_zero, List.set_cons_succ]))
      | ((refine own_load (T := 23) HO rfl rfl rfl (by first | exact .head _ | exact .tail _ (.head _) | exact .tail _ (.tail _ (.head _)) | exact .tail _ (.tail _ (.tail _ (.head _))) | exact .tail _ (.tail _ (.tail _ (.tail _ (.head _)))) | exact .tail _ (.tail _ (.tail _ (.tail _ (.tail _ (.head _)))))) Try.isAgg23 Try.sizeOf23 (by repeat constructor) ?_); (try simp only [Act.put, List.setIfInBounds_toArray, List.set_cons_zero, List.set_cons_succ]))
      | ((refine own_load1 (T := 3) HO rfl rfl rfl (by first | exact .head _ | exact .tail _ (.head _) | exact .tail _ (.tail _ (.head _)) | exact .tail _ (.tail _ (.tail _ (.head _))) | exact .tail _ (.tail _ (.tail _ (.tail _ (.head _)))) | exact .tail _ (.tail _ (.tail _ (.tail _ (.tail _ (.head _)))))) Try.isAgg3 rfl ?_); (try simp only [Act.put, List.setIfInBounds_toArray, List.set_cons_zero, List.set_cons_succ]))
      | ((refine own_load1 (T := 4) HO rfl rfl rfl (by first | exact .head _ | exact .tail _ (.head _) | exact .tail _ (.tail _ (.head _)) | exact .tail _ (.tail _ (.tail _ (.head _))) | exact .tail _ (.tail _ (.tail _ (.tail _ (.head _)))) | exact .tail _ (.tail _ (.tail _ (.tail _ (.tail _ (.head _)))))) Try.isAgg4 rfl ?_); (try simp only [Act.put, List.setIfInBounds_toArray, List.set_cons_zero, List.set_cons_succ]))
      | ((refine own_store (T := 23) HO rfl rfl rfl rfl (by first | exact .here | exact .there (.here) | exact .there (.there (.here)) | exact .there (.there (.there (.here))) | exact .there (.there (.there (.there (.here)))) | exact .there (.there (.there (.there (.there (.here)))))) Try.sizeOf23 (by repeat constructor) rfl ?_); clear HO; intro wN HO; (try simp only [Act.put, List.setIfInBounds_toArray, List.set_cons_zero, List.set_cons_succ]))
      | ((refine own_store (T := 3) HO rfl rfl rfl rfl (by first | exact .here | exact .there (.here) | exact .there (.there (.here)) | exact .there (.there (.there (.here))) | exact .there (.there (.there (.there (.here)))) | exact .there (.there (.there (.there (.there (.here)))))) Try.sizeOf3 (by repeat constructor) rfl ?_); clear HO; intro wN HO; (try simp only [Act.put, List.setIfInBounds_toArray, List.set_cons_zero, List.set_cons_succ]))
      | ((refine own_store (T := 4) HO rfl rfl rfl rfl (by first | exact .here | exact .there (.here) | exact .there (.there (.here)) | exact .there (.there (.there (.here))) | exact .there (.there (.there (.there (.here)))) | exact .there (.there (.there (.there (.there (.here)))))) Try.sizeOf4 (by repeat constructor) rfl ?_); clear HO; intro wN HO; (try simp only [Act.put, List.setIfInBounds_toArray, List.set_cons_zero, List.set_cons_succ])))))
  refine (flag_calls _ p n _).mono ?_
  rintro e w1 ⟨rfl, hb⟩
  replace HO := HO.call hb
  clear hb
  rw [H.out]
  clear H
  obtain rfl | rfl | rfl | rfl | rfl | rfl | rfl : i = 0 ∨ i = 1 ∨ i = 2 ∨ i = 3 ∨ i = 4 ∨ i = 5 ∨ i = 6 := by omega
  all_goals
    simp only [ptrAt, Option.map_some]
    go_wp2_with (first
      | ((with_reducible refine gate ?_); (first
      | ((refine own_box HO rfl rfl rfl ?_); clear HO; intro gN wN hgN HO; (simp only [List.nil_append, List.cons_append] at HO); (try simp only [Act.put, List.setIfInBounds_toArray, List.set_cons_zero, List.set_cons_succ]))
      | ((refine own_alloc (T := 23) HO rfl rfl Try.zeroValue23 rfl ?_); clear HO; intro gN wN hgN HO; (simp only [List.nil_append, List.cons_append] at HO); (try simp only [Act.put, List.setIfInBounds_toArray, List.set_cons_zero, List.set_cons_succ]))
      | ((refine own_alloc (T := 3) HO rfl rfl Try.zeroValue3 rfl ?_); clear HO; intro gN wN hgN HO; (simp only [List.nil_append, List.cons_append] at HO); (try simp only [Act.put, List.setIfInBounds_toArray, List.set_cons_zero, List.set_cons_succ]))
      | ((refine own_alloc (T := 4) HO rfl rfl Try.zeroValue4 rfl ?_); clear HO; intro gN wN hgN HO; (simp only [List.nil_append, List.cons_append] at HO); (try simp only [Act.put, List.setIfInBounds_toArray, List.set_cons_zero, List.set_cons_succ]))
      | ((refine own_load (T := 23) HO rfl rfl rfl (by first | exact .head _ | exact .tail _ (.head _) | exact .tail _ (.tail _ (.head _)) | exact .tail _ (.tail _ (.tail _ (.head _))) | exact .tail _ (.tail _ (.tail _ (.tail _ (.head _)))) | exact .tail _ (.tail _ (.tail _ (.tail _ (.tail _ (.head _)))))) Try.isAgg23 Try.sizeOf23 (by repeat constructor) ?_); (try simp only [Act.put, List.setIfInBounds_toArray, List.set_cons_zero, List.set_cons_succ]))
      | ((refine own_load1 (T := 3) HO rfl rfl rfl (by first | exact .head _ | exact .tail _ (.head _) | exact .tail _ (.tail _ (.head _)) | exact .tail _ (.tail _ (.tail _ (.head _))) | exact .tail _ (.tail _ (.tail _ (.tail _ (.head _)))) | exact .tail _ (.tail _ (.tail _ (.tail _ (.tail _ (.head _)))))) Try.isAgg3 rfl ?_); (try simp only [Act.put, List.setIfInBounds_toArray, List.set_cons_zero, List.set_cons_succ]))
      | ((refine own_load1 (T := 4) HO rfl rfl rfl (by first | exact .head _ | exact .tail _ (.head _) | exact .tail _ (.tail _ (.head _)) | exact .tail _ (.tail _ (.tail _ (.head _))) | exact .tail _ (.tail _ (.tail _ (.tail _ (.head _)))) | exact .tail _ (.tail _ (.tail _ (.tail _ (.tail _ (.head _)))))) Try.isAgg4 rfl ?_); (try simp only [Act.put, List.setIfInBounds_toArray, List.set_cons_zero, List.set_cons_succ]))
      | ((refine own_store (T := 23) HO rfl rfl rfl rfl (by first | exact .here | exact .there (.here) | exact .there (.there (.here)) | exact .there (.there (.there (.here))) | exact .there (.there (.there (.there (.here)))) | exact .there (.there (.there (.there (.there (.here)))))) Try.sizeOf23 (by repeat constructor) rfl ?_); clear HO; intro wN HO; (try simp only [Act.put, List.setIfInBounds_toArray, List.set_cons_zero, List.set_cons_succ]))
      | ((refine own_store (T := 3) HO rfl rfl rfl rfl (by first | exact .here | exact .there (.here) | exact .there (.there (.here)) | exact .there (.there (.there (.here))) | exact .there (.there (.there (.there (.here)))) | exact .there (.there (.there (.there (.there (.here)))))) Try.sizeOf3 (by repeat constructor) rfl ?_); clear HO; intro wN HO; (try simp only [Act.put, List.setIfInBounds_toArray, List.set_cons_zero, List.set_cons_succ]))
      | ((refine own_store (T := 4) HO rfl rfl rfl rfl (by first | exact .here | exact .there (.here) | exact .there (.there (.here)) | exact .there (.there (.there (.here))) | exact .there (.there (.there (.there (.here)))) | exact .there (.there (.there (.there (.there (.here)))))) Try.sizeOf4 (by repeat constructor) rfl ?_); clear HO; intro wN HO; (try simp only [Act.put, List.setIfInBounds_toArray, List.set_cons_zero, List.set_cons_succ])))))
    refine bodyPost_ret (own_results2 HO Try.results13 rfl (by first | exact .head _ | exact .tail _ (.head _) | exact .tail _ (.tail _ (.head _)) | exact .tail _ (.tail _ (.tail _ (.head _))) | exact .tail _ (.tail _ (.tail _ (.tail _ (.head _)))) | exact .tail _ (.tail _ (.tail _ (.tail _ (.tail _ (.head _)))))) Try.isAgg23 Try.sizeOf23 (by repeat constructor)) rfl ⟨rfl, HO.below⟩

set_option maxHeartbeats 1000000 in
theorem set_choice (m : Md) (p : Bool) (n : Int) (on : Bool) (i : Nat) (w : World) (h0 : flagIx p n = none) (h : choiceIx p n = some i) :
    Calls Try.prog 13 #[m.v, .bool p, .int .i64 n, .bool on] w fun e w' => e = .returned (.tuple #[(setChoice m i n on).v, .bool true]) ∧ Below w.heap.size w w' := by
  have hi := choiceIx_78 h
  have H := Lib.hid h
  have H0 := Lib.hid h0
  clear h h0
  have HO := Mine.start w
  go_enter Try.func13, Try.ntmps13
  go_wp2_with (first
      | ((with_reducible refine gate ?_); (first
      | ((refine own_box HO rfl rfl rfl ?_); clear HO; intro gN wN hgN HO; (simp only [List.nil_append, List.cons_append] at HO); (try simp only [Act.put, List.setIfInBounds_toArray, List.set_cons_zero, List.set_cons_succ]))
      | ((refine own_alloc (T := 23) HO rfl rfl Try.zeroValue23 rfl ?_); clear HO; intro gN wN hgN HO; (simp only [List.nil_append, List.cons_append] at HO); (try simp only [Act.put, List.setIfInBounds_toArray, List.set_cons_zero, List.set_cons_succ]))
      | ((refine own_alloc (T := 3) HO rfl rfl Try.zeroValue3 rfl ?_); clear HO; intro gN wN hgN HO; (simp only [List.nil_append, List.cons_append] at HO); (try simp only [Act.put, List.setIfInBounds_toArray, List.set_cons_zero, List.set_cons_succ]))
      | ((refine own_alloc (T := 4) HO rfl rfl Try.zeroValue4 rfl ?_); clear HO; intro gN wN hgN HO; (simp only [List.nil_append, List.cons_append] at HO); (try simp only [Act.put, List.setIfInBounds_toArray, List.set_cons_zero, List.set_cons_succ]))
      | ((refine own_load (T := 23) HO rfl rfl rfl (by first | exact .head _ | exact .tail _ (.head _) | exact .tail _ (.tail _ (.head _)) | exact .tail _ (.tail _ (.tail _ (.head _))) | exact .tail _ (.tail _ (.tail _ (.tail _ (.head _)))) | exact .tail _ (.tail _ (.tail _ (.tail _ (.tail _ (.head _)))))) Try.isAgg23 Try.sizeOf23 (by repeat constructor) ?_); (try simp only [Act.put, List.setIfInBounds_toArray, List.set_cons_zero, List.set_cons_succ]))
      | ((refine own_load1 (T := 3) HO rfl rfl rfl (by first | exact .head _ | exact .tail _ (.head _) | exact .tail _ (.tail _ (.head _)) | exact .tail _ (.tail _ (.tail _ (.head _))) | exact .tail _ (.tail _ (.tail _ (.tail _ (.head _)))) | exact .tail _ (.tail _ (.tail _ (.tail _ (.tail _ (.head _)))))) Try.isAgg3 rfl ?_); (try simp only [Act.put, List.setIfInBounds_toArray, List.set_cons_zero, List.set_cons_succ]))
      | ((refine own_load1 (T := 4) HO rfl rfl rfl (by first | exact .head _ | exact .tail _ (.head _) | exact .tail _ (.tail _ (.head _)) | exact .tail _ (.tail _ (.tail _ (.head _))) | exact .tail _ (.tail _ (.tail _ (.tail _ (.head _)))) | exact .tail _ (.tail _ (.tail _ (.tail _ (.tail _ (.head _)))))) Try.isAgg4 rfl ?_); (try simp only [Act.put, List.setIfInBounds_toArray, List.set_cons_zero, List.set_cons_succ]))
      | ((refine own_store (T := 23) HO rfl rfl rfl rfl (by first | exact .here | exact .there (.here) | exact .there (.there (.here)) | exact .there (.there (.there (.here))) | exact .there (.there (.there (.there (.here)))) | exact .there (.there (.there (.there (.there (.here)))))) Try.sizeOf23 (by repeat constructor) rfl ?_); clear HO; intro wN HO; (try simp only [Act.put, List.setIfInBounds_toArray, List.set_cons_zero, List.set_cons_succ]))
      | ((refine own_store (T := 3) HO rfl rfl rfl rfl (by first | exact .here | exact .there (.here) | exact .there (.there (.here)) | exact .there (.there (.there (.here))) | exact .there (.there (.there (.there (.here)))) | exact .there (.there (.there (.there (.there (.here)))))) Try.sizeOf3 (by repeat constructor) rfl ?_); clear HO; intro wN HO; (try simp only [Act.put, List.setIfInBounds_toArray, List.set_cons_zero, List.set_cons_succ]))
      | ((refine own_store (T := 4) HO rfl rfl rfl rfl (by first | exact .here | exact .there (.here) | exact .there (.there (.here)) | exact .there (.there (.there (.here))) | exact .there (.there (.there (.there (.here)))) | exact .there (.there (.there (.there (.there (.here)))))) Try.sizeOf4 (by repeat constructor) rfl ?_); clear HO; intro wN HO; (try simp only [Act.put, List.setIfInBounds_toArray, List.set_cons_zero, List.set_cons_succ])))))
  refine (flag_calls _ p n _).mono ?_
  rintro e w1 ⟨rfl, hb⟩
  replace HO := HO.call hb
  clear hb
  rw [H0.out]
  simp only [ptrAt, Option.map_none]
  go_wp2_with (first
      | ((with_reducible refine gate ?_); (first
      | ((refine own_box HO rfl rfl rfl ?_); clear HO; intro gN wN hgN HO; (simp only [List.nil_append, List.cons_append] at HO); (try simp only [Act.put, List.setIfInBounds_toArray, List.set_cons_zero, List.set_cons_succ]))
      | ((refine own_alloc (T := 23) HO rfl rfl Try.zeroValue23 rfl ?_); clear HO; intro gN wN hgN HO; (simp only [List.nil_append, List.cons_append] at HO); (try simp only [Act.put, List.setIfInBounds_toArray, List.set_cons_zero, List.set_cons_succ]))
      | ((refine own_alloc (T := 3) HO rfl rfl Try.zeroValue3 rfl ?_); clear HO; intro gN wN hgN HO; (simp only [List.nil_append, List.cons_append] at HO); (try simp only [Act.put, List.setIfInBounds_toArray, List.set_cons_zero, List.set_cons_succ]))
      | ((refine own_alloc (T := 4) HO rfl rfl Try.zeroValue4 rfl ?_); clear HO; intro gN wN hgN HO; (simp only [List.nil_append, List.cons_append] at HO); (try simp only [Act.put, List.setIfInBounds_toArray, List.set_cons_zero, List.set_cons_succ]))
      | ((refine own_load (T := 23) HO rfl rfl rfl (by first | exact .head _ | exact .tail _ (.head _) | exact .tail _ (.tail _ (.head _)) | exact .tail _ (.tail _ (.tail _ (.head _))) | exact .tail _ (.tail _ (.tail _ (.tail _ (.head _)))) | exact .tail _ (.tail _ (.tail _ (.tail _ (.tail _ (.head _)))))) Try.isAgg23 Try.sizeOf23 (by repeat constructor) ?_); (try simp only [Act.put, List.setIfInBounds_toArray, List.set_cons_zero, List.set_cons_succ]))
      | ((refine own_load1 (T := 3) HO rfl rfl rfl (by first | exact .head _ | exact .tail _ (.head _) | exact .tail _ (.tail _ (.head _)) | exact .tail _ (.tail _ (.tail _ (.head _))) | exact .tail _ (.tail _ (.tail _ (.tail _ (.head _)))) | exact .tail _ (.tail _ (.tail _ (.tail _ (.tail _ (.head _)))))) Try.isAgg3 rfl ?_); (try simp only [Act.put, List.setIfInBounds_toArray, List.set_cons_zero, List.set_cons_succ]))
      | ((refine own_load1 (T := 4) HO rfl rfl rfl (by first | exact .head _ | exact .tail _ (.head _) | exact .tail _ (.tail _ (.head _)) | exact .tail _ (.tail _ (.tail _ (.head _))) | exact .tail _ (.tail _ (.tail _ (.tail _ (.head _)))) | exact .tail _ (.tail _ (.tail _ (.tail _ (.tail _ (.head _)))))) Try.isAgg4 rfl ?_); (try simp only [Act.put, List.setIfInBounds_toArray, List.set_cons_zero, List.set_cons_succ]))
      | ((refine own_store (T := 23) HO rfl rfl rfl rfl (by first | exact .here | exact .there (.here) | exact .there (.there (.here)) | exact .there (.there (.there (.here))) | exact .there (.there (.there (.there (.here)))) | exact .there (.there (.there (.there (.there (.here)))))) Try.sizeOf23 (by repeat constructor) rfl ?_); clear HO; intro wN HO; (try simp only [Act.put, List.setIfInBounds_toArray, List.set_cons_zero, List.set_cons_succ]))
      | ((refine own_store (T := 3) HO rfl rfl rfl rfl (by first | exact .here | exact .there (.here) | exact .there (.there (.here)) | exact .there (.there (.there (.here))) | exact .there (.there (.there (.there (.here)))) | exact .there (.there (.there (.there (.there (.here)))))) Try.sizeOf3 (by repeat constructor) rfl ?_); clear HO; intro wN HO; (try simp only [Act.put, List.setIfInBounds_toArray, List.set_cons_zero, List.set_cons_succ]))
      | ((refine own_store (T := 4) HO rfl rfl rfl rfl (by first | exact .here | exact .there (.here) | exact .there (.there (.here)) | exact .there (.there (.there (.here))) | exact .there (.there (.there (.there (.here)))) | exact .there (.there (.there (.there (.there (.here)))))) Try.sizeOf4 (by repeat constructor) rfl ?_); clear HO; intro wN HO; (try simp only [Act.put, List.setIfInBounds_toArray, List.set_cons_zero, List.set_cons_succ])))))
  refine (choice_calls _ p n _).mono ?_
  rintro e w1 ⟨rfl, hb⟩
  replace HO := HO.call hb
  clear hb
  rw [H.out]
  clear H H0
  have E1 : ∀ x : Int, oneM x n true = n := fun x => rfl
  have E2 : ∀ x : Int, x = n → oneM x n false = 0 := fun x hx => by simp [oneM, hx]
  have E3 : ∀ x : Int, x ≠ n → oneM x n false = x := fun x hx => by simp [oneM, hx]
  have HE1 := Lib.hid E1
  have HE2 := Lib.hid E2
  have HE3 := Lib.hid E3
  clear E1 E2 E3
  rcases hi with rfl | rfl
  · simp only [ptrAt, Option.map_some]
    cases on
    · by_cases hx : m.mouse = n
      · have hb1 : (m.mouse == n) = true := beq_iff_eq.2 hx
        have HX := Lib.hid hx
        clear hx
        go_wp2_with (first
      | ((with_reducible refine gate ?_); (first
      | ((refine own_box HO rfl rfl rfl ?_); clear HO; intro gN wN hgN HO; (simp only [List.nil_append, List.cons_append] at HO); (try simp only [Act.put, List.setIfInBounds_toArray, List.set_cons_zero, List.set_cons_succ]))
      | ((refine own_alloc (T := 23) HO rfl rfl Try.zeroValue23 rfl ?_); clear HO; intro gN wN hgN HO; (simp only [List.nil_append, List.cons_append] at HO); (try simp only [Act.put, List.setIfInBounds_toArray, List.set_cons_zero, List.set_cons_succ]))
      | ((refine own_alloc (T := 3) HO rfl rfl Try.zeroValue3 rfl ?_); clear HO; intro gN wN hgN HO; (simp only [List.nil_append, List.cons_append] at HO); (try simp only [Act.put, List.setIfInBounds_toArray, List.set_cons_zero, List.set_cons_succ]))
      | ((refine own_alloc (T := 4) HO rfl rfl Try.zeroValue4 rfl ?_); clear HO; intro gN wN hgN HO; (simp only [List.nil_append, List.cons_append] at HO); (try simp only [Act.put, List.setIfInBounds_toArray, List.set_cons_zero, List.set_cons_succ]))
      | ((refine own_load (T := 23) HO rfl rfl rfl (by first | exact .head _ | exact .tail _ (.head _) | exact .tail _ (.tail _ (.head _)) | exact .tail _ (.tail _ (.tail _ (.head _))) | exact .tail _ (.tail _ (.tail _ (.tail _ (.head _)))) | exact .tail _ (.tail _ (.tail _ (.tail _ (.tail _ (.head _)))))) Try.isAgg23 Try.sizeOf23 (by repeat constructor) ?_); (try simp only [Act.put, List.setIfInBounds_toArray, List.set_cons_zero, List.set_cons_succ]))
      | ((refine own_load1 (T := 3) HO rfl rfl rfl (by first | exact .head _ | exact .tail _ (.head _) | exact .tail _ (.tail _ (.head _)) | exact .tail _ (.tail _ (.tail _ (.head _))) | exact .tail _ (.tail _ (.tail _ (.tail _ (.head _)))) | exact .tail _ (.tail _ (.tail _ (.tail _ (.tail _ (.head _)))))) Try.isAgg3 rfl ?_); (try simp only [Act.put, List.setIfInBounds_toArray, List.set_cons_zero, List.set_cons_succ]))
      | ((refine own_load1 (T := 4) HO rfl rfl rfl (by first | exact .head _ | exact .tail _ (.head _) | exact .tail _ (.tail _ (.head _)) | exact .tail _ (.tail _ (.tail _ (.head _))) | exact .tail _ (.tail _ (.tail _ (.tail _ (.head _)))) | exact .tail _ (.tail _ (.tail _ (.tail _ (.tail _ (.head _)))))) Try.isAgg4 rfl ?_); (try simp only [Act.put, List.setIfInBounds_toArray, List.set_cons_zero, List.set_cons_succ]))
      | ((refine own_store (T := 23) HO rfl rfl rfl rfl (by first | exact .here | exact .there (.here) | exact .there (.there (.here)) | exact .there (.there (.there (.here))) | exact .there (.there (.there (.there (.here)))) | exact .there (.there (.there (.there (.there (.here)))))) Try.sizeOf23 (by repeat constructor) rfl ?_); clear HO; intro wN HO; (try simp only [Act.put, List.setIfInBounds_toArray, List.set_cons_zero, List.set_cons_succ]))
      | ((refine own_store (T := 3) HO rfl rfl rfl rfl (by first | exact .here | exact .there (.here) | exact .there (.there (.here)) | exact .there (.there (.there (.here))) | exact .there (.there (.there (.there (.here)))) | exact .there (.there (.there (.there (.there (.here)))))) Try.sizeOf3 (by repeat constructor) rfl ?_); clear HO; intro wN HO; (try simp only [Act.put, List.setIfInBounds_toArray, List.set_cons_zero, List.set_cons_succ]))
      | ((refine own_store (T := 4) HO rfl rfl rfl rfl (by first | exact .here | exact .there (.here) | exact .there (.there (.here)) | exact .there (.there (.there (.here))) | exact .there (.there (.there (.there (.here)))) | exact .there (.there (.there (.there (.there (.here)))))) Try.sizeOf4 (by repeat constructor) rfl ?_); clear HO; intro wN HO; (try simp only [Act.put, List.setIfInBounds_toArray, List.set_cons_zero, List.set_cons_succ])))))
        refine bodyPost_ret (own_results2 HO Try.results13 rfl (by first | exact .head _ | exact .tail _ (.head _) | exact .tail _ (.tail _ (.head _)) | exact .tail _ (.tail _ (.tail _ (.head _))) | exact .tail _ (.tail _ (.tail _ (.tail _ (.head _)))) | exact .tail _ (.tail _ (.tail _ (.tail _ (.tail _ (.head _)))))) Try.isAgg23 Try.sizeOf23 (by repeat constructor)) rfl ⟨?_, HO.below⟩
        simp only [setChoice, Md.v, HE2.out _ HX.out]
        rfl
      · have hb1 : (m.mouse == n) = false := beq_eq_false_iff_ne.2 hx
        have HX := Lib.hid hx
        clear hx
        go_wp2_with (first
      | ((with_reducible refine gate ?_); (first
      | ((refine own_box HO rfl rfl rfl ?_); clear HO; intro gN wN hgN HO; (simp only [List.nil_append, List.cons_append] at HO); (try simp only [Act.put, List.setIfInBounds_toArray, List.set_cons_zero, List.set_cons_succ]))
      | ((refine own_alloc (T := 23) HO rfl rfl Try.zeroValue23 rfl ?_); clear HO; intro gN wN hgN HO; (simp only [List.nil_append, List.cons_append] at HO); (try simp only [Act.put, List.setIfInBounds_toArray, List.set_cons_zero, List.set_cons_succ]))
      | ((refine own_alloc (T := 3) HO rfl rfl Try.zeroValue3 rfl ?_); clear HO; intro gN wN hgN HO; (simp only [List.nil_append, List.cons_append] at HO); (try simp only [Act.put, List.setIfInBounds_toArray, List.set_cons_zero, List.set_cons_succ]))
      | ((refine own_alloc (T := 4) HO rfl rfl Try.zeroValue4 rfl ?_); clear HO; intro gN wN hgN HO; (simp only [List.nil_append, List.cons_append] at HO); (try simp only [Act.put, List.setIfInBounds_toArray, List.set_cons_zero, List.set_cons_succ]))
      | ((refine own_load (T := 23) HO rfl rfl rfl (by first | exact .head _ | exact .tail _ (.head _) | exact .tail _ (.tail _ (.head _)) | exact .tail _ (.tail _ (.tail _ (.head _))) | exact .tail _ (.tail _ (.tail _ (.tail _ (.head _)))) | exact .tail _ (.tail _ (.tail _ (.tail _ (.tail _ (.head _)))))) Try.isAgg23 Try.sizeOf23 (by repeat constructor) ?_); (try simp only [Act.put, List.setIfInBounds_toArray, List.set_cons_zero, List.set_cons_succ]))
      | ((refine own_load1 (T := 3) HO rfl rfl rfl (by first | exact .head _ | exact .tail _ (.head _) | exact .tail _ (.tail _ (.head _)) | exact .tail _ (.tail _ (.tail _ (.head _))) | exact .tail _ (.tail _ (.tail _ (.tail _ (.head _)))) | exact .tail _ (.tail _ (.tail _ (.tail _ (.tail _ (.head _)))))) Try.isAgg3 rfl ?_); (try simp only [Act.put, List.setIfInBounds_toArray, List.set_cons_zero, List.set_cons_succ]))
      | ((refine own_load1 (T := 4) HO rfl rfl rfl (by first | exact .head _ | exact .tail _ (.head _) | exact .tail _ (.tail _ (.head _)) | exact .tail _ (.tail _ (.tail _ (.head _))) | exact .tail _ (.tail _ (.tail _ (.tail _ (.head _)))) | exact .tail _ (.tail _ (.tail _ (.tail _ (.tail _ (.head _)))))) Try.isAgg4 rfl ?_); (try simp only [Act.put, List.setIfInBounds_toArray, List.set_cons_zero, List.set_cons_succ]))
      | ((refine own_store (T := 23) HO rfl rfl rfl rfl (by first | exact .here | exact .there (.here) | exact .there (.there (.here)) | exact .there (.there (.there (.here))) | exact .there (.there (.there (.there (.here)))) | exact .there (.there (.there (.there (.there (.here)))))) Try.sizeOf23 (by repeat constructor) rfl ?_); clear HO; intro wN HO; (try simp only [Act.put, List.setIfInBounds_toArray, List.set_cons_zero, List.set_cons_succ]))
      | ((refine own_store (T := 3) HO rfl rfl rfl rfl (by first | exact .here | exact .there (.here) | exact .there (.there (.here)) | exact .there (.there (.there (.here))) | exact .there (.there (.there (.there (.here)))) | exact .there (.there (.there (.there (.there (.here)))))) Try.sizeOf3 (by repeat constructor) rfl ?_); clear HO; intro wN HO; (try simp only [Act.put, List.setIfInBounds_toArray, List.set_cons_zero, List.set_cons_succ]))
      | ((refine own_store (T := 4) HO rfl rfl rfl rfl (by first | exact .here | exact .there (.here) | exact .there (.there (.here)) | exact .there (.there (.there (.here))) | exact .there (.there (.there (.there (.here)))) | exact .there (.there (.there (.there (.there (.here)))))) Try.sizeOf4 (by repeat constructor) rfl ?_); clear HO; intro wN HO; (try simp only [Act.put, List.setIfInBounds_toArray, List.set_cons_zero, List.set_cons_succ])))))
        refine bodyPost_ret (own_results2 HO Try.results13 rfl (by first | exact .head _ | exact .tail _ (.head _) | exact .tail _ (.tail _ (.head _)) | exact .tail _ (.tail _ (.tail _ (.head _))) | exact .tail _ (.tail _ (.tail _ (.tail _ (.head _)))) | exact .tail _ (.tail _ (.tail _ (.tail _ (.tail _ (.head _)))))) Try.isAgg23 Try.sizeOf23 (by repeat constructor)) rfl ⟨?_, HO.below⟩
        simp only [setChoice, Md.v, HE3.out _ HX.out]
        rfl
    · go_wp2_with (first
      | ((with_reducible refine gate ?_); (first
      | ((refine own_box HO rfl rfl rfl ?_); clear HO; intro gN wN hgN HO; (simp only [List.nil_append, List.cons_append] at HO); (try simp only [Act.put, List.setIfInBounds_toArray, List.set_cons_zero, List.set_cons_succ]))
      | ((refine own_alloc (T := 23) HO rfl rfl Try.zeroValue23 rfl ?_); clear HO; intro gN wN hgN HO; (simp only [List.nil_append, List.cons_append] at HO); (try simp only [Act.put, List.setIfInBounds_toArray, List.set_cons_zero, List.set_cons_succ]))
      | ((refine own_alloc (T := 3) HO rfl rfl Try.zeroValue3 rfl ?_); clear HO; intro gN wN hgN HO; (simp only [List.nil_append, List.cons_append] at HO); (try simp only [Act.put, List.setIfInBounds_toArray, List.set_cons_zero, List.set_cons_succ]))
      | ((refine own_alloc (T := 4) HO rfl rfl Try.zeroValue4 rfl ?_); clear HO; intro gN wN hgN HO; (simp only [List.nil_append, List.cons_append] at HO); (try simp only [Act.put, List.setIfInBounds_toArray, List.set_cons_zero, List.set_cons_succ]))
      | ((refine own_load (T := 23) HO rfl rfl rfl (by first | exact .head _ | exact .tail _ (.head _) | exact .tail _ (.tail _ (.head _)) | exact .tail _ (.tail _ (.tail _ (.head _))) | exact .tail _ (.tail _ (.tail _ (.tail _ (.head _)))) | exact .tail _ (.tail _ (.tail _ (.tail _ (.tail _ (.head _)))))) Try.isAgg23 Try.sizeOf23 (by repeat constructor) ?_); (try simp only [Act.put, List.setIfInBounds_toArray, List.set_cons_zero, List.set_cons_succ]))
      | ((refine own_load1 (T := 3) HO rfl rfl rfl (by first | exact .head _ | exact .tail _ (.head _) | exact .tail _ (.tail _ (.head _)) | exact .tail _ (.tail _ (.tail _ (.head _))) | exact .tail _ (.tail _ (.tail _ (.tail _ (.head _)))) | exact .tail _ (.tail _ (.tail _ (.tail _ (.tail _ (.head _)))))) Try.isAgg3 rfl ?_); (try simp only [Act.put, List.setIfInBounds_toArray, List.set_cons_zero, List.set_cons_succ]))
      | ((refine own_load1 (T := 4) HO rfl rfl rfl (by first | exact .head _ | exact .tail _ (.head _) | exact .tail _ (.tail _ (.head _)) | exact .tail _ (.tail _ (.tail _ (.head _))) | exact .tail _ (.tail _ (.tail _ (.tail _ (.head _)))) | exact .tail _ (.tail _ (.tail _ (.tail _ (.tail _ (.head _)))))) Try.isAgg4 rfl ?_); (try simp only [Act.put, List.setIfInBounds_toArray, List.set_cons_zero, List.set_cons_succ]))
      | ((refine own_store (T := 23) HO rfl rfl rfl rfl (by first | exact .here | exact .there (.here) | exact .there (.there (.here)) | exact .there (.there (.there (.here))) | exact .there (.there (.there (.there (.here)))) | exact .there (.there (.there (.there (.there (.here)))))) Try.sizeOf23 (by repeat constructor) rfl ?_); clear HO; intro wN HO; (try simp only [Act.put, List.setIfInBounds_toArray, List.set_cons_zero, List.set_cons_succ]))
      | ((refine own_store (T := 3) HO rfl rfl rfl rfl (by first | exact .here | exact .there (.here) | exact .there (.there (.here)) | exact .there (.there (.there (.here))) | exact .there (.there (.there (.there (.here)))) | exact .there (.there (.there (.there (.there (.here)))))) Try.sizeOf3 (by repeat constructor) rfl ?_); clear HO; intro wN HO; (try simp only [Act.put, List.setIfInBounds_toArray, List.set_cons_zero, List.set_cons_succ]))
      | ((refine own_store (T := 4) HO rfl rfl rfl rfl (by first | exact .here | exact .there (.here) | exact .there (.there (.here)) | exact .there (.there (.there (.here))) | exact .there (.there (.there (.there (.here)))) | exact .there (.there (.there (.there (.there (.here)))))) Try.sizeOf4 (by repeat constructor) rfl ?_); clear HO; intro wN HO; (try simp only [Act.put, List.setIfInBounds_toArray, List.set_cons_zero, List.set_cons_succ])))))
      refine bodyPost_ret (own_results2 HO Try.results13 rfl (by first | exact .head _ | exact .tail _ (.head _) | exact .tail _ (.tail _ (.head _)) | exact .tail _ (.tail _ (.tail _ (.head _))) | exact .tail _ (.tail _ (.tail _ (.tail _ (.head _)))) | exact .tail _ (.tail _ (.tail _ (.tail _ (.tail _ (.head _)))))) Try.isAgg23 Try.sizeOf23 (by repeat constructor)) rfl ⟨rfl, HO.below⟩
  · simp only [ptrAt, Option.map_some]
    cases on
    · by_cases hx : m.coding = n
      · have hb1 : (m.coding == n) = true := beq_iff_eq.2 hx
        have HX := Lib.hid hx
        clear hx
        go_wp2_with (first
      | ((with_reducible refine gate ?_); (first
      | ((refine own_box HO rfl rfl rfl ?_); clear HO; intro gN wN hgN HO; (simp only [List.nil_append, List.cons_append] at HO); (try simp only [Act.put, List.setIfInBounds_toArray, List.set_cons_zero, List.set_cons_succ]))
      | ((refine own_alloc (T := 23) HO rfl rfl Try.zeroValue23 rfl ?_); clear HO; intro gN wN hgN HO; (simp only [List.nil_append, List.cons_append] at HO); (try simp only [Act.put, List.setIfInBounds_toArray, List.set_cons_zero, List.set_cons_succ]))
      | ((refine own_alloc (T := 3) HO rfl rfl Try.zeroValue3 rfl ?_); clear HO; intro gN wN hgN HO; (simp only [List.nil_append, List.cons_append] at HO); (try simp only [Act.put, List.setIfInBounds_toArray, List.set_cons_zero, List.set_cons_succ]))
      | ((refine own_alloc (T := 4) HO rfl rfl Try.zeroValue4 rfl ?_); clear HO; intro gN wN hgN HO; (simp only [List.nil_append, List.cons_append] at HO); (try simp only [Act.put, List.setIfInBounds_toArray, List.set_cons_zero, List.set_cons_succ]))
      | ((refine own_load (T := 23) HO rfl rfl rfl (by first | exact .head _ | exact .tail _ (.head _) | exact .tail _ (.tail _ (.head _)) | exact .tail _ (.tail _ (.tail _ (.head _))) | exact .tail _ (.tail _ (.tail _ (.tail _ (.head _)))) | exact .tail _ (.tail _ (.tail _ (.tail _ (.tail _ (.head _)))))) Try.isAgg23 Try.sizeOf23 (by repeat constructor) ?_); (try simp only [Act.put, List.setIfInBounds_toArray, List.set_cons_zero, List.set_cons_succ]))
      | ((refine own_load1 (T := 3) HO rfl rfl rfl (by first | exact .head _ | exact .tail _ (.head _) | exact .tail _ (.tail _ (.head _)) | exact .tail _ (.tail _ (.tail _ (.head _))) | exact .tail _ (.tail _ (.tail _ (.tail _ (.head _)))) | exact .tail _ (.tail _ (.tail _ (.tail _ (.tail _ (.head _)))))) Try.isAgg3 rfl ?_); (try simp only [Act.put, List.setIfInBounds_toArray, List.set_cons_zero, List.set_cons_succ]))
      | ((refine own_load1 (T := 4) HO rfl rfl rfl (by first | exact .head _ | exact .tail _ (.head _) | exact .tail _ (.tail _ (.head _)) | exact .tail _ (.tail _ (.tail _ (.head _))) | exact .tail _ (.tail _ (.tail _ (.tail _ (.head _)))) | exact .tail _ (.tail _ (.tail _ (.tail _ (.tail _ (.head _)))))) Try.isAgg4 rfl ?_); (try simp only [Act.put, List.setIfInBounds_toArray, List.set_cons_zero, List.set_cons_succ]))
      | ((refine own_store (T := 23) HO rfl rfl rfl rfl (by first | exact .here | exact .there (.here) | exact .there (.there (.here)) | exact .there (.there (.there (.here))) | exact .there (.there (.there (.there (.here)))) | exact .there (.there (.there (.there (.there (.here)))))) Try.sizeOf23 (by repeat constructor) rfl ?_); clear HO; intro wN HO; (try simp only [Act.put, List.setIfInBounds_toArray, List.set_cons_zero, List.set_cons_succ]))
      | ((refine own_store (T := 3) HO rfl rfl rfl rfl (by first | exact .here | exact .there (.here) | exact .there (.there (.here)) | exact .there (.there (.there (.here))) | exact .there (.there (.there (.there (.here)))) | exact .there (.there (.there (.there (.there (.here)))))) Try.sizeOf3 (by repeat constructor) rfl ?_); clear HO; intro wN HO; (try simp only [Act.put, List.setIfInBounds_toArray, List.set_cons_zero, List.set_cons_succ]))
      | ((refine own_store (T := 4) HO rfl rfl rfl rfl (by first | exact .here | exact .there (.here) | exact .there (.there (.here)) | exact .there (.there (.there (.here))) | exact .there (.there (.there (.there (.here)))) | exact .there (.there (.there (.there (.there (.here)))))) Try.sizeOf4 (by repeat constructor) rfl ?_); clear HO; intro wN HO; (try simp only [Act.put, List.setIfInBounds_toArray, List.set_cons_zero, List.set_cons_succ])))))
        refine bodyPost_ret (own_results2 HO Try.results13 rfl (by first | exact .head _ | exact .tail _ (.head _) | exact .tail _ (.tail _ (.head _)) | exact .tail _ (.tail _ (.tail _ (.head _))) | exact .tail _ (.tail _ (.tail _ (.tail _ (.head _)))) | exact .tail _ (.tail _ (.tail _ (.tail _ (.tail _ (.head _)))))) Try.isAgg23 Try.sizeOf23 (by repeat constructor)) rfl ⟨?_, HO.below⟩
        simp only [setChoice, Md.v, HE2.out _ HX.out]
        rfl
      · have hb1 : (m.coding == n) = false := beq_eq_false_iff_ne.2 hx
        have HX := Lib.hid hx
        clear hx
        go_wp2_with (first
      | ((with_reducible refine gate ?_); (first
      | ((refine own_box HO rfl rfl rfl ?_); clear HO; intro gN wN hgN HO; (simp only [List.nil_append, List.cons_append] at HO); (try simp only [Act.put, List.setIfInBounds_toArray, List.set_cons_zero, List.set_cons_succ]))
      | ((refine own_alloc (T := 23) HO rfl rfl Try.zeroValue23 rfl ?_); clear HO; intro gN wN hgN HO; (simp only [List.nil_append, List.cons_append] at HO); (try simp only [Act.put, List.setIfInBounds_toArray, List.set_cons_zero, List.set_cons_succ]))
      | ((refine own_alloc (T := 3) HO rfl rfl Try.zeroValue3 rfl ?_); clear HO; intro gN wN hgN HO; (simp only [List.nil_append, List.cons_append] at HO); (try simp only [Act.put, List.setIfInBounds_toArray, List.set_cons_zero, List.set_cons_succ]))
      | ((refine own_alloc (T := 4) HO rfl rfl Try.zeroValue4 rfl ?_); clear HO; intro gN wN hgN HO; (simp only [List.nil_append, List.cons_append] at HO); (try simp only [Act.put, List.setIfInBounds_toArray, List.set_cons_zero, List.set_cons_succ]))
      | ((refine own_load (T := 23) HO rfl rfl rfl (by first | exact .head _ | exact .tail _ (.head _) | exact .tail _ (.tail _ (.head _)) | exact .tail _ (.tail _ (.tail _ (.head _))) | exact .tail _ (.tail _ (.tail _ (.tail _ (.head _)))) | exact .tail _ (.tail _ (.tail _ (.tail _ (.tail _ (.head _)))))) Try.isAgg23 Try.sizeOf23 (by repeat constructor) ?_); (try simp only [Act.put, List.setIfInBounds_toArray, List.set_cons_zero, List.set_cons_succ]))
      | ((refine own_load1 (T := 3) HO rfl rfl rfl (by first | exact .head _ | exact .tail _ (.head _) | exact .tail _ (.tail _ (.head _)) | exact .tail _ (.tail _ (.tail _ (.head _))) | exact .tail _ (.tail _ (.tail _ (.tail _ (.head _)))) | exact .tail _ (.tail _ (.tail _ (.tail _ (.tail _ (.head _)))))) Try.isAgg3 rfl ?_); (try simp only [Act.put, List.setIfInBounds_toArray, List.set_cons_zero, List.set_cons_succ]))
      | ((refine own_load1 (T := 4) HO rfl rfl rfl (by first | exact .head _ | exact .tail _ (.head _) | exact .tail _ (.tail _ (.head _)) | exact .tail _ (.tail _ (.tail _ (.head _))) | exact .tail _ (.tail _ (.tail _ (.tail _ (.head _)))) | exact .tail _ (.tail _ (.tail _ (.tail _ (.tail _ (.head _)))))) Try.isAgg4 rfl ?_); (try simp only [Act.put, List.setIfInBounds_toArray, List.set_cons_zero, List.set_cons_succ]))
      | ((refine own_store (T := 23) HO rfl rfl rfl rfl (by first | exact .here | exact .there (.here) | exact .there (.there (.here)) | exact .there (.there (.there (.here))) | exact .there (.there (.there (.there (.here)))) | exact .there (.there (.there (.there (.there (.here)))))) Try.sizeOf23 (by repeat constructor) rfl ?_); clear HO; intro wN HO; (try simp only [Act.put, List.setIfInBounds_toArray, List.set_cons_zero, List.set_cons_succ]))
      | ((refine own_store (T := 3) HO rfl rfl rfl rfl (by first | exact .here | exact .there (.here) | exact .there (.there (.here)) | exact .there (.there (.there (.here))) | exact .there (.there (.there (.there (.here)))) | exact .there (.there (.there (.there (.there (.here)))))) Try.sizeOf3 (by repeat constructor) rfl ?_); clear HO; intro wN HO; (try simp only [Act.put, List.setIfInBounds_toArray, List.set_cons_zero, List.set_cons_succ]))
      | ((refine own_store (T := 4) HO rfl rfl rfl rfl (by first | exact .here | exact .there (.here) | exact .there (.there (.here)) | exact .there (.there (.there (.here))) | exact .there (.there (.there (.there (.here)))) | exact .there (.there (.there (.there (.there (.here)))))) Try.sizeOf4 (by repeat constructor) rfl ?_); clear HO; intro wN HO; (try simp only [Act.put, List.setIfInBounds_toArray, List.set_cons_zero, List.set_cons_succ])))))
        refine bodyPost_ret (own_results2 HO Try.results13 rfl (by first | exact .head _ | exact .tail _ (.head _) | exact .tail _ (.tail _ (.head _)) | exact .tail _ (.tail _ (.tail _ (.head _))) | exact .tail _ (.tail _ (.tail _ (.tail _ (.head _)))) | exact .tail _ (.tail _ (.tail _ (.tail _ (.tail _ (.head _)))))) Try.isAgg23 Try.sizeOf23 (by repeat constructor)) rfl ⟨?_, HO.below⟩
        simp only [setChoice, Md.v, HE3.out _ HX.out]
        rfl
    · go_wp2_with (first
      | ((with_reducible refine gate ?_); (first
      | ((refine own_box HO rfl rfl rfl ?_); clear HO; intro gN wN hgN HO; (simp only [List.nil_append, List.cons_append] at HO); (try simp only [Act.put, List.setIfInBounds_toArray, List.set_cons_zero, List.set_cons_succ]))
      | ((refine own_alloc (T := 23) HO rfl rfl Try.zeroValue23 rfl ?_); clear HO; intro gN wN hgN HO; (simp only [List.nil_append, List.cons_append] at HO); (try simp only [Act.put, List.setIfInBounds_toArray, List.set_cons_zero, List.set_cons_succ]))
      | ((refine own_alloc (T := 3) HO rfl rfl Try.zeroValue3 rfl ?_); clear HO; intro gN wN hgN HO; (simp only [List.nil_append, List.cons_append] at HO); (try simp only [Act.put, List.setIfInBounds_toArray, List.set_cons_zero, List.set_cons_succ]))
      | ((refine own_alloc (T := 4) HO rfl rfl Try.zeroValue4 rfl ?_); clear HO; intro gN wN hgN HO; (simp only [List.nil_append, List.cons_append] at HO); (try simp only [Act.put, List.setIfInBounds_toArray, List.set_cons_zero, List.set_cons_succ]))
      | ((refine own_load (T := 23) HO rfl rfl rfl (by first | exact .head _ | exact .tail _ (.head _) | exact .tail _ (.tail _ (.head _)) | exact .tail _ (.tail _ (.tail _ (.head _))) | exact .tail _ (.tail _ (.tail _ (.tail _ (.head _)))) | exact .tail _ (.tail _ (.tail _ (.tail _ (.tail _ (.head _)))))) Try.isAgg23 Try.sizeOf23 (by repeat constructor) ?_); (try simp only [Act.put, List.setIfInBounds_toArray, List.set_cons_zero, List.set_cons_succ]))
      | ((refine own_load1 (T := 3) HO rfl rfl rfl (by first | exact .head _ | exact .tail _ (.head _) | exact .tail _ (.tail _ (.head _)) | exact .tail _ (.tail _ (.tail _ (.head _))) | exact .tail _ (.tail _ (.tail _ (.tail _ (.head _)))) | exact .tail _ (.tail _ (.tail _ (.tail _ (.tail _ (.head _)))))) Try.isAgg3 rfl ?_); (try simp only [Act.put, List.setIfInBounds_toArray, List.set_cons_zero, List.set_cons_succ]))
      | ((refine own_load1 (T := 4) HO rfl rfl rfl (by first | exact .head _ | exact .tail _ (.head _) | exact .tail _ (.tail _ (.head _)) | exact .tail _ (.tail _ (.tail _ (.head _))) | exact .tail _ (.tail _ (.tail _ (.tail _ (.head _)))) | exact .tail _ (.tail _ (.tail _ (.tail _ (.tail _ (.head _)))))) Try.isAgg4 rfl ?_); (try simp only [Act.put, List.setIfInBounds_toArray, List.set_cons_zero, List.set_cons_succ]))
      | ((refine own_store (T := 23) HO rfl rfl rfl rfl (by first | exact .here | exact .there (.here) | exact .there (.there (.here)) | exact .there (.there (.there (.here))) | exact .there (.there (.there (.there (.here)))) | exact .there (.there (.there (.there (.there (.here)))))) Try.sizeOf23 (by repeat constructor) rfl ?_); clear HO; intro wN HO; (try simp only [Act.put, List.setIfInBounds_toArray, List.set_cons_zero, List.set_cons_succ]))
      | ((refine own_store (T := 3) HO rfl rfl rfl rfl (by first | exact .here | exact .there (.here) | exact .there (.there (.here)) | exact .there (.there (.there (.here))) | exact .there (.there (.there (.there (.here)))) | exact .there (.there (.there (.there (.there (.here)))))) Try.sizeOf3 (by repeat constructor) rfl ?_); clear HO; intro wN HO; (try simp only [Act.put, List.setIfInBounds_toArray, List.set_cons_zero, List.set_cons_succ]))
      | ((refine own_store (T := 4) HO rfl rfl rfl rfl (by first | exact .here | exact .there (.here) | exact .there (.there (.here)) | exact .there (.there (.there (.here))) | exact .there (.there (.there (.there (.here)))) | exact .there (.there (.there (.there (.there (.here)))))) Try.sizeOf4 (by repeat constructor) rfl ?_); clear HO; intro wN HO; (try simp only [Act.put, List.setIfInBounds_toArray, List.set_cons_zero, List.set_cons_succ])))))
      refine bodyPost_ret (own_results2 HO Try.results13 rfl (by first | exact .head _ | exact .tail _ (.head _) | exact .tail _ (.tail _ (.head _)) | exact .tail _ (.tail _ (.tail _ (.head _))) | exact .tail _ (.tail _ (.tail _ (.tail _ (.head _)))) | exact .tail _ (.tail _ (.tail _ (.tail _ (.tail _ (.head _)))))) Try.isAgg23 Try.sizeOf23 (by repeat constructor)) rfl ⟨rfl, HO.below⟩

set_option maxHeartbeats 1000000 in
theorem set_none (m : Md) (p : Bool) (n : Int) (on : Bool) (w : World) (h0 : flagIx p n = none) (h : choiceIx p n = none) :
    Calls Try.prog 13 #[m.v, .bool p, .int .i64 n, .bool on] w fun e w' => e = .returned (.tuple #[m.v, .bool false]) ∧ Below w.heap.size w w' := by
  have H := Lib.hid h
  have H0 := Lib.hid h0
  clear h h0
  have HO := Mine.start w
  go_enter Try.func13, Try.ntmps13
  go_wp2_with (first
      | ((with_reducible refine gate ?_); (first
      | ((refine own_box HO rfl rfl rfl ?_); clear HO; intro gN wN hgN HO; (simp only [List.nil_append, List.cons_append] at HO); (try simp only [Act.put, List.setIfInBounds_toArray, List.set_cons_zero, List.set_cons_succ]))
      | ((refine own_alloc (T := 23) HO rfl rfl Try.zeroValue23 rfl ?_); clear HO; intro gN wN hgN HO; (simp only [List.nil_append, List.cons_append] at HO); (try simp only [Act.put, List.setIfInBounds_toArray, List.set_cons_zero, List.set_cons_succ]))
      | ((refine own_alloc (T := 3) HO rfl rfl Try.zeroValue3 rfl ?_); clear HO; intro gN wN hgN HO; (simp only [List.nil_append, List.cons_append] at HO); (try simp only [Act.put, List.setIfInBounds_toArray, List.set_cons_zero, List.set_cons_succ]))
      | ((refine own_alloc (T := 4) HO rfl rfl Try.zeroValue4 rfl ?_); clear HO; intro gN wN hgN HO; (simp only [List.nil_append, List.cons_append] at HO); (try simp only [Act.put, List.setIfInBounds_toArray, List.set_cons_zero, List.set_cons_succ]))
      | ((refine own_load (T := 23) HO rfl rfl rfl (by first | exact .head _ | exact .tail _ (.head _) | exact .tail _ (.tail _ (.head _)) | exact .tail _ (.tail _ (.tail _ (.head _))) | exact .tail _ (.tail _ (.tail _ (.tail _ (.head _)))) | exact .tail _ (.tail _ (.tail _ (.tail _ (.tail _ (.head _)))))) Try.isAgg23 Try.sizeOf23 (by repeat constructor) ?_); (try simp only [Act.put, List.setIfInBounds_toArray, List.set_cons_zero, List.set_cons_succ]))
      | ((refine own_load1 (T := 3) HO rfl rfl rfl (by first | exact .head _ | exact .tail _ (.head _) | exact .tail _ (.tail _ (.head _)) | exact .tail _ (.tail _ (.tail _ (.head _))) | exact .tail _ (.tail _ (.tail _ (.tail _ (.head _)))) | exact .tail _ (.tail _ (.tail _ (.tail _ (.tail _ (.head _)))))) Try.isAgg3 rfl ?_); (try simp only [Act.put, List.setIfInBounds_toArray, List.set_cons_zero, List.set_cons_succ]))
      | ((refine own_load1 (T := 4) HO rfl rfl rfl (by first | exact .head _ | exact .tail _ (.head _) | exact .tail _ (.tail _ (.head _)) | exact .tail _ (.tail _ (.tail _ (.head _))) | exact .tail _ (.tail _ (.tail _ (.tail _ (.head _)))) | exact .tail _ (.tail _ (.tail _ (.tail _ (.tail _ (.head _)))))) Try.isAgg4 rfl ?_); (try simp only [Act.put, List.setIfInBounds_toArray, List.set_cons_zero, List.set_cons_succ]))
      | ((refine own_store (T := 23) HO rfl rfl rfl rfl (by first | exact .here | exact .there (.here) | exact .there (.there (.here)) | exact .there (.there (.there (.here))) | exact .there (.there (.there (.there (.here)))) | exact .there (.there (.there (.there (.there (.here)))))) Try.sizeOf23 (by repeat constructor) rfl ?_); clear HO; intro wN HO; (try simp only [Act.put, List.setIfInBounds_toArray, List.set_cons_zero, List.set_cons_succ]))
      | ((refine own_store (T := 3) HO rfl rfl rfl rfl (by first | exact .here | exact .there (.here) | exact .there (.there (.here)) | exact .there (.there (.there (.here))) | exact .there (.there (.there (.there (.here)))) | exact .there (.there (.there (.there (.there (.here)))))) Try.sizeOf3 (by repeat constructor) rfl ?_); clear HO; intro wN HO; (try simp only [Act.put, List.setIfInBounds_toArray, List.set_cons_zero, List.set_cons_succ]))
      | ((refine own_store (T := 4) HO rfl rfl rfl rfl (by first | exact .here | exact .there (.here) | exact .there (.there (.here)) | exact .there (.there (.there (.here))) | exact .there (.there (.there (.there (.here)))) | exact .there (.there (.there (.there (.there (.here)))))) Try.sizeOf4 (by repeat constructor) rfl ?_); clear HO; intro wN HO; (try simp only [Act.put, List.setIfInBounds_toArray, List.set_cons_zero, List.set_cons_succ])))))
  refine (flag_calls _ p n _).mono ?_
  rintro e w1 ⟨rfl, hb⟩
  replace HO := HO.call hb
  clear hb
  rw [H0.out]
  simp only [ptrAt, Option.map_none]
  go_wp2_with (first
      | ((with_reducible refine gate ?_); (first
      | ((refine own_box HO rfl rfl rfl ?_); clear HO; intro gN wN hgN HO; (simp only [List.nil_append, List.cons_append] at HO); (try simp only [Act.put, List.setIfInBounds_toArray, List.set_cons_zero, List.set_cons_succ]))
      | ((refine own_alloc (T := 23) HO rfl rfl Try.zeroValue23 rfl ?_); clear HO; intro gN wN hgN HO; (simp only [List.nil_append, List.cons_append] at HO); (try simp only [Act.put, List.setIfInBounds_toArray, List.set_cons_zero, List.set_cons_succ]))
      | ((refine own_alloc (T := 3) HO rfl rfl Try.zeroValue3 rfl ?_); clear HO; intro gN wN hgN HO; (simp only [List.nil_append, List.cons_append] at HO); (try simp only [Act.put, List.setIfInBounds_toArray, List.set_cons_zero, List.set_cons_succ]))
      | ((refine own_alloc (T := 4) HO rfl rfl Try.zeroValue4 rfl ?_); clear HO; intro gN wN hgN HO; (simp only [List.nil_append, List.cons_append] at HO); (try simp only [Act.put, List.setIfInBounds_toArray, List.set_cons_zero, List.set_cons_succ]))
      | ((refine own_load (T := 23) HO rfl rfl rfl (by first | exact .head _ | exact .tail _ (.head _) | exact .tail _ (.tail _ (.head _)) | exact .tail _ (.tail _ (.tail _ (.head _))) | exact .tail _ (.tail _ (.tail _ (.tail _ (.head _)))) | exact .tail _ (.tail _ (.tail _ (.tail _ (.tail _ (.head _)))))) Try.isAgg23 Try.sizeOf23 (by repeat constructor) ?_); (try simp only [Act.put, List.setIfInBounds_toArray, List.set_cons_zero, List.set_cons_succ]))
      | ((refine own_load1 (T := 3) HO rfl rfl rfl (by first | exact .head _ | exact .tail _ (.head _) | exact .tail _ (.tail _ (.head _)) | exact .tail _ (.tail _ (.tail _ (.head _))) | exact .tail _ (.tail _ (.tail _ (.tail _ (.head _)))) | exact .tail _ (.tail _ (.tail _ (.tail _ (.tail _ (.head _)))))) Try.isAgg3 rfl ?_); (try simp only [Act.put, List.setIfInBounds_toArray, List.set_cons_zero, List.set_cons_succ]))
      | ((refine own_load1 (T := 4) HO rfl rfl rfl (by first | exact .head _ | exact .tail _ (.head _) | exact .tail _ (.tail _ (.head _)) | exact .tail _ (.tail _ (.tail _ (.head _))) | exact .tail _ (.tail _ (.tail _ (.tail _ (.head _)))) | exact .tail _ (.tail _ (.tail _ (.tail _ (.tail _ (.head _)))))) Try.isAgg4 rfl ?_); (try simp only [Act.put, List.setIfInBounds_toArray, List.set_cons_zero, List.set_cons_succ]))
      | ((refine own_store (T := 23) HO rfl rfl rfl rfl (by first | exact .here | exact .there (.here) | exact .there (.there (.here)) | exact .there (.there (.there (.here))) | exact .there (.there (.there (.there (.here)))) | exact .there (.there (.there (.there (.there (.here)))))) Try.sizeOf23 (by repeat constructor) rfl ?_); clear HO; intro wN HO; (try simp only [Act.put, List.setIfInBounds_toArray, List.set_cons_zero, List.set_cons_succ]))
      | ((refine own_store (T := 3) HO rfl rfl rfl rfl (by first | exact .here | exact .there (.here) | exact .there (.there (.here)) | exact .there (.there (.there (.here))) | exact .there (.there (.there (.there (.here)))) | exact .there (.there (.there (.there (.there (.here)))))) Try.sizeOf3 (by repeat constructor) rfl ?_); clear HO; intro wN HO; (try simp only [Act.put, List.setIfInBounds_toArray, List.set_cons_zero, List.set_cons_succ]))
      | ((refine own_store (T := 4) HO rfl rfl rfl rfl (by first | exact .here | exact .there (.here) | exact .there (.there (.here)) | exact .there (.there (.there (.here))) | exact .there (.there (.there (.there (.here)))) | exact .there (.there (.there (.there (.there (.here)))))) Try.sizeOf4 (by repeat constructor) rfl ?_); clear HO; intro wN HO; (try simp only [Act.put, List.setIfInBounds_toArray, List.set_cons_zero, List.set_cons_succ])))))
  refine (choice_calls _ p n _).mono ?_
  rintro e w1 ⟨rfl, hb⟩
  replace HO := HO.call hb
  clear hb
  rw [H.out]
  simp only [ptrAt, Option.map_none]
  go_wp2_with (first
      | ((with_reducible refine gate ?_); (first
      | ((refine own_box HO rfl rfl rfl ?_); clear HO; intro gN wN hgN HO; (simp only [List.nil_append, List.cons_append] at HO); (try simp only [Act.put, List.setIfInBounds_toArray, List.set_cons_zero, List.set_cons_succ]))
      | ((refine own_alloc (T := 23) HO rfl rfl Try.zeroValue23 rfl ?_); clear HO; intro gN wN hgN HO; (simp only [List.nil_append, List.cons_append] at HO); (try simp only [Act.put, List.setIfInBounds_toArray, List.set_cons_zero, List.set_cons_succ]))
      | ((refine own_alloc (T := 3) HO rfl rfl Try.zeroValue3 rfl ?_); clear HO; intro gN wN hgN HO; (simp only [List.nil_append, List.cons_append] at HO); (try simp only [Act.put, List.setIfInBounds_toArray, List.set_cons_zero, List.set_cons_succ]))
      | ((refine own_alloc (T := 4) HO rfl rfl Try.zeroValue4 rfl ?_); clear HO; intro gN wN hgN HO; (simp only [List.nil_append, List.cons_append] at HO); (try simp only [Act.put, List.setIfInBounds_toArray, List.set_cons_zero, List.set_cons_succ]))
      | ((refine own_load (T := 23) HO rfl rfl rfl (by first | exact .head _ | exact .tail _ (.head _) | exact .tail _ (.tail _ (.head _)) | exact .tail _ (.tail _ (.tail _ (.head _))) | exact .tail _ (.tail _ (.tail _ (.tail _ (.head _)))) | exact .tail _ (.tail _ (.tail _ (.tail _ (.tail _ (.head _)))))) Try.isAgg23 Try.sizeOf23 (by repeat constructor) ?_); (try simp only [Act.put, List.setIfInBounds_toArray, List.set_cons_zero, List.set_cons_succ]))
      | ((refine own_load1 (T := 3) HO rfl rfl rfl (by first | exact .head _ | exact .tail _ (.head _) | exact .tail _ (.tail _ (.head _)) | exact .tail _ (.tail _ (.tail _ (.head _))) | exact .tail _ (.tail _ (.tail _ (.tail _ (.head _)))) | exact .tail _ (.tail _ (.tail _ (.tail _ (.tail _ (.head _)))))) Try.isAgg3 rfl ?_); (try simp only [Act.put, List.setIfInBounds_toArray, List.set_cons_zero, List.set_cons_succ]))
      | ((refine own_load1 (T := 4) HO rfl rfl rfl (by first | exact .head _ | exact .tail _ (.head _) | exact .tail _ (.tail _ (.head _)) | exact .tail _ (.tail _ (.tail _ (.head _))) | exact .tail _ (.tail _ (.tail _ (.tail _ (.head _)))) | exact .tail _ (.tail _ (.tail _ (.tail _ (.tail _ (.head _)))))) Try.isAgg4 rfl ?_); (try simp only [Act.put, List.setIfInBounds_toArray, List.set_cons_zero, List.set_cons_succ]))
      | ((refine own_store (T := 23) HO rfl rfl rfl rfl (by first | exact .here | exact .there (.here) | exact .there (.there (.here)) | exact .there (.there (.there (.here))) | exact .there (.there (.there (.there (.here)))) | exact .there (.there (.there (.there (.there (.here)))))) Try.sizeOf23 (by repeat constructor) rfl ?_); clear HO; intro wN HO; (try simp only [Act.put, List.setIfInBounds_toArray, List.set_cons_zero, List.set_cons_succ]))
      | ((refine own_store (T := 3) HO rfl rfl rfl rfl (by first | exact .here | exact .there (.here) | exact .there (.there (.here)) | exact .there (.there (.there (.here))) | exact .there (.there (.there (.there (.here)))) | exact .there (.there (.there (.there (.there (.here)))))) Try.sizeOf3 (by repeat constructor) rfl ?_); clear HO; intro wN HO; (try simp only [Act.put, List.setIfInBounds_toArray, List.set_cons_zero, List.set_cons_succ]))
      | ((refine own_store (T := 4) HO rfl rfl rfl rfl (by first | exact .here | exact .there (.here) | exact .there (.there (.here)) | exact .there (.there (.there (.here))) | exact .there (.there (.there (.there (.here)))) | exact .there (.there (.there (.there (.there (.here)))))) Try.sizeOf4 (by repeat constructor) rfl ?_); clear HO; intro wN HO; (try simp only [Act.put, List.setIfInBounds_toArray, List.set_cons_zero, List.set_cons_succ])))))
  refine bodyPost_ret (own_results2 HO Try.results13 rfl (by first | exact .head _ | exact .tail _ (.head _) | exact .tail _ (.tail _ (.head _)) | exact .tail _ (.tail _ (.tail _ (.head _))) | exact .tail _ (.tail _ (.tail _ (.tail _ (.head _)))) | exact .tail _ (.tail _ (.tail _ (.tail _ (.tail _ (.head _)))))) Try.isAgg23 Try.sizeOf23 (by repeat constructor)) rfl ⟨rfl, HO.below⟩

/-- modes.Set: what it computes. -/
theorem set_calls (m : Md) (p : Bool) (n : Int) (on : Bool) (w : World) :
    Calls Try.prog 13 #[m.v, .bool p, .int .i64 n, .bool on] w fun e w' => e = .returned (.tuple #[(setM m p n on).1.v, .bool (setM m p n on).2]) ∧ Below w.heap.size w w' := by
  cases h0 : flagIx p n with
  | some i => simpa [setM, h0] using set_flag m p n on i w h0
  | none =>
    cases h : choiceIx p n with
    | some i => simpa [setM, h0, h] using set_choice m p n on i w h0 h
    | none => simpa [setM, h0, h] using set_none m p n on w h0 h

end Go.Proofs.Ytllloedhlcdbjaa
