/- The walk of layer 6's awake, and modes.Set, Get, May by equations. No condition. -/
import Derived.Test.YtllloedhlcdbjaaMoE
import Derived.Test.YtllloedhlcdbjaaKitE
import Derived.Test.YtllloedhlcdbjaaMoA
import Derived.Test.YtllloedhlcdbjaaMoD
namespace Go.Proofs.Ytllloedhlcdbjaa
set_option linter.unusedVariables false
set_option linter.unusedSimpArgs false
open Go.RowKit Kit
attribute [local irreducible] wpList Calls wpQuiet

theorem set_calls' (m : Md) (p : Bool) (n : Int) (on : Bool) (r : Md) (ok : Bool) (h : setM m p n on = (r, ok)) (w : World) :
    Calls Try.prog 13 #[m.v, .bool p, .int .i64 n, .bool on] w fun e w' => e = .returned (.tuple #[r.v, .bool ok]) ∧ Below w.heap.size w w' := by
  have := set_calls m p n on w; rw [h] at this; exact this
theorem rset_calls' (m : Md) (p : Bool) (n : Int) (on : Bool) (r : Md) (ok : Bool) (h : setM m p n on = (r, ok)) (w : World) :
    Calls Try.prog 34 #[m.v, .bool p, .int .i64 n, .bool on] w fun e w' => e = .returned (.tuple #[r.v, .bool ok]) ∧ Below w.heap.size w w' := by
  have := rset_calls m p n on w; rw [h] at this; exact this
theorem get_calls' (m : Md) (p : Bool) (n : Int) (r : Int) (h : getM m p n = r) (w : World) :
    Calls Try.prog 15 #[m.v, .bool p, .int .i64 n] w fun e w' => e = .returned (.int .i64 r) ∧ Below w.heap.size w w' := by
  have := get_calls m p n w; rw [h] at this; exact this
theorem may_modes' (m : Md) (r : Bool) (h : mayM m = r) (w : World) :
    Calls Try.prog 18 #[m.v] w fun e w' => e = .returned (.bool r) ∧ Below w.heap.size w w' := by
  have := may_modes m w; rw [h] at this; exact this

def m1000 : Md := { Md.zero with mouse := 1000 }
def m1003 : Md := { Md.zero with mouse := 1003 }
set_option maxHeartbeats 1000000 in
theorem awake06_calls (w : World) :
    Calls Try.prog 12 #[] w fun e w' => e = .returned (.bool true) ∧ Below w.heap.size w w' := by
  have HO := Mine.start w
  go_enter Try.func12, Try.ntmps12
  go_wp2_with (first
      | (go_at_call 13; refine (set_calls' Md.zero true 1000 true m1000 true rfl _).mono ?_; rintro eN wN ⟨rfl, hbN⟩; have HON := HO.call hbN; clear HO hbN; have HO := HON; clear HON)
      | (go_at_call 13; refine (set_calls' m1000 true 1003 true m1003 true rfl _).mono ?_; rintro eN wN ⟨rfl, hbN⟩; have HON := HO.call hbN; clear HO hbN; have HO := HON; clear HON)
      | (go_at_call 15; refine (get_calls' m1003 true 1000 2 rfl _).mono ?_; rintro eN wN ⟨rfl, hbN⟩; have HON := HO.call hbN; clear HO hbN; have HO := HON; clear HON)
      | (go_at_call 15; refine (get_calls' m1003 true 1003 1 rfl _).mono ?_; rintro eN wN ⟨rfl, hbN⟩; have HON := HO.call hbN; clear HO hbN; have HO := HON; clear HON)
      | (go_at_call 15; refine (get_calls' m1003 true 25 3 rfl _).mono ?_; rintro eN wN ⟨rfl, hbN⟩; have HON := HO.call hbN; clear HO hbN; have HO := HON; clear HON)
      | (go_at_call 15; refine (get_calls' m1003 false 99 0 rfl _).mono ?_; rintro eN wN ⟨rfl, hbN⟩; have HON := HO.call hbN; clear HO hbN; have HO := HON; clear HON)
      | (go_at_call 18; refine (may_modes' m1003 true rfl _).mono ?_; rintro eN wN ⟨rfl, hbN⟩; have HON := HO.call hbN; clear HO hbN; have HO := HON; clear HON)
      | ((with_reducible refine gate ?_); (first
      | ((refine own_box HO rfl rfl rfl ?_); clear HO; intro gN wN hgN HO; (simp only [List.nil_append, List.cons_append] at HO); (try simp only [Act.put, List.setIfInBounds_toArray, List.set_cons_zero, List.set_cons_succ]))
      | ((refine own_alloc (T := 23) HO rfl rfl Try.zeroValue23 rfl ?_); clear HO; intro gN wN hgN HO; (simp only [List.nil_append, List.cons_append] at HO); (try simp only [Act.put, List.setIfInBounds_toArray, List.set_cons_zero, List.set_cons_succ]))
      | ((refine own_alloc (T := 3) HO rfl rfl Try.zeroValue3 rfl ?_); clear HO; intro gN wN hgN HO; (simp only [List.nil_append, List.cons_append] at HO); (try simp only [Act.put, List.setIfInBounds_toArray, List.set_cons_zero, List.set_cons_succ]))
      | ((refine own_alloc (T := 4) HO rfl rfl Try.zeroValue4 rfl ?_); clear HO; intro gN wN hgN HO; (simp only [List.nil_append, List.cons_append] at HO); (try simp only [Act.put, List.setIfInBounds_toArray, List.set_cons_zero, List.set_cons_succ]))
      | ((refine own_load (T := 23) HO rfl rfl rfl (by first | exact .head _ | exact .tail _ (.head _) | exact .tail _ (.tail _ (.head _)) | exact .tail _ (.tail _ (.tail _ (.head _))) | exact .tail _ (.tail _ (.tail _ (.tail _ (.head _)))) | exact .tail _ (.tail _ (.tail _ (.tail _ (.tail _ (.head _)))))) Try.isAgg23 Try.sizeOf23 (by repeat constructor) ?_); (try simp only [Act.put, List.setIfInBounds_toArray, List.set_cons_zero, List.set_cons_succ]))
      | ((refine own_load1 (T := 3) HO rfl rfl rfl (by first | exact .head _ | exact .tail _ (.head _) | exact .tail _ (.tail _ (.head _)) | exact .tail _ (.tail _ (.tail _ (.head _))) | exact .tail _ (.tail _ (.tail _ (.tail _ (.head _)))) | exact .tail _ (.tail _ (.tail _ (.tail _ (.tail _ (.head _)))))) Try.isAgg3 rfl ?_); (try simp only [Act.put, List.setIfInBounds_toArray, List.set_cons_zero, List.set_cons_succ]))
      | ((refine own_load1 (T := 4) HO rfl rfl rfl (by first | exact .head _ | exact .tail _ (.head _) | exact .tail _ (.tail _ (.head _)) | exact .tail _ (.tail _ (.tail _ (.head _))) | exact .tail _ (.tail _ (.tail _ (.tail _ (.head _)))) | exact .tail _ (.tail _ (.tail _ (.tail _ (.tail _ (.head _)))))) Try.isAgg4 rfl ?_); (try simp only [Act.put, List.setIfInBounds_toArray, List.set_cons_zero, List.set_cons_succ]))
      | ((refine own_store (T := 23) HO rfl rfl rfl rfl (by first | exact .here | exact .there (.here) | exact .there (.there (.here)) | exact .there (.there (.there (.here))) | exact .there (.there (.there (.there (.here)))) | exact .there (.there (.there (.there (.there (.here)))))) Try.sizeOf23 (by repeat constructor) rfl ?_); clear HO; intro wN HO; (try simp only [Act.put, List.setIfInBounds_toArray, List.set_cons_zero, List.set_cons_succ]))
      | ((refine own_store (T := 3) HO rfl rfl rfl rfl (by first | exact .here | exact .there (.here) | exact .there (.there (.here)) | exact .there (.there (.there (.here))) | exact .there (.there (.there (.there (.here)))) | exact .there (.there (.there (.there (.there (.here)))))) Try.sizeOf3 (by repeat constructor) rfl ?_); clear HO; intro wN HO; (try simp only [Act.put, List.setIfInBounds_toArray, List.set_cons_zero, List.set_cons_succ]))
      | ((refine own_store (T := 4) HO rfl rfl rfl rfl (by first | exact .here | exact .there (.here) | exact .there (.there (.here)) | exact .there (.there (.there (.here))) | exact .there (.there (.there (.there (.here)))) | exact .there (.there (.there (.there (.there (.here)))))) Try.sizeOf4 (by repeat constructor) rfl ?_); clear HO; intro wN HO; (try simp only [Act.put, List.setIfInBounds_toArray, List.set_cons_zero, List.set_cons_succ])))))
  go_ret
  exact ⟨rfl, HO.below⟩

end Go.Proofs.Ytllloedhlcdbjaa
