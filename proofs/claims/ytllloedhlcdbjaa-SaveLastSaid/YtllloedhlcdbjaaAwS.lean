/- The walk of layer 7's awake. No condition. -/
import Derived.Test.YtllloedhlcdbjaaSvD
import Derived.Test.YtllloedhlcdbjaaKitX
namespace Go.Proofs.Ytllloedhlcdbjaa
set_option linter.unusedVariables false
set_option linter.unusedSimpArgs false
open Go.RowKit Kit Go.Proofs.YtllloedhlcdbjaaW.PrintWords

theorem len12 {R : List Int} (h : R.length = 12) : (u8s R).length = 12 := by simp [h]
theorem slc12 {R : List Int} (h : R.length = 12) : Slc (u8s R) 0 12 (u8s R) := by have := Slc.all (u8s R); rwa [len12 h] at this
theorem size12 {R : List Int} (h : R.length = 12) : ∀ w, (sizeOf 39).run Try.prog w = .ok (u8s R).length w := by rw [len12 h]; exact Try.sizeOf39
theorem one12 (R : List Int) : (u8s R).all (·.oneCell') = true := by rw [List.all_eq_true]; intro v hv; obtain ⟨z, _, rfl⟩ := List.mem_map.1 hv; rfl
theorem saveL_len (m : Md) (s : List Int) (nums : List Int) : (saveL m s nums).length = s.length := foldS_len m _ s
attribute [local irreducible] wpList Calls wpQuiet

def mPaste : Md := { Md.zero with paste := true }
def sPaste : List Int := [0, 0, 0, 0, 0, 0, 0, 0, 0, 0, 0, 1]
theorem awake_save : saveL mPaste zero12 [2004] = sPaste := by decide
theorem awake_rest : restL sPaste Md.zero [1, 2004] = mPaste := by decide
set_option maxRecDepth 100000 in
set_option maxHeartbeats 4000000 in
theorem awake07_calls (w : World) :
    Calls Try.prog 19 #[] w fun e w' => e = .returned (.bool true) ∧ Below w.heap.size w w' := by
  have HO := Mine.start w
  have HE1 : Hid (∀ w, (Op.equal 39 (.agg (u8s sPaste).toArray) (.agg #[.int .u8 0, .int .u8 0, .int .u8 0, .int .u8 0, .int .u8 0, .int .u8 0, .int .u8 0, .int .u8 0, .int .u8 0, .int .u8 0, .int .u8 0, .int .u8 1])).run Try.prog w = .ok true w) := Lib.hid fun w => (equal_saved sPaste sPaste rfl rfl w).trans (by rw [decide_eq_true rfl])
  have HE2 : Hid (∀ w, (Op.equal 23 mPaste.v mPaste.v).run Try.prog w = .ok true w) := Lib.hid fun w => (equal_modes mPaste mPaste w).trans (by rw [decide_eq_true rfl])
  go_enter Try.func19, Try.ntmps19
  go_wp2_with (first
      | (go_at_call 20; refine ((save_calls zero12 rfl mPaste (some ⟨gQ, 0, none⟩) 1 [2004] (by decide) _ (Kit.lit_ints (HO.at (by first | exact .head _ | exact .tail _ (.head _) | exact .tail _ (.tail _ (.head _)) | exact .tail _ (.tail _ (.tail _ (.head _))) | exact .tail _ (.tail _ (.tail _ (.tail _ (.head _)))) | exact .tail _ (.tail _ (.tail _ (.tail _ (.tail _ (.head _))))) | exact .tail _ (.tail _ (.tail _ (.tail _ (.tail _ (.tail _ (.head _)))))) | exact .tail _ (.tail _ (.tail _ (.tail _ (.tail _ (.tail _ (.tail _ (.head _))))))))) (by decide)))).mono ?_; rw [awake_save]; rintro eN wN ⟨rfl, hbN⟩; have HON := HO.call hbN; clear HO hbN; have HO := HON; clear HON)
      | (go_at_call 22; refine ((restore_calls sPaste rfl Md.zero (some ⟨gR, 0, none⟩) 2 [1, 2004] (by decide) _ (Kit.lit_ints (HO.at (by first | exact .head _ | exact .tail _ (.head _) | exact .tail _ (.tail _ (.head _)) | exact .tail _ (.tail _ (.tail _ (.head _))) | exact .tail _ (.tail _ (.tail _ (.tail _ (.head _)))) | exact .tail _ (.tail _ (.tail _ (.tail _ (.tail _ (.head _))))) | exact .tail _ (.tail _ (.tail _ (.tail _ (.tail _ (.tail _ (.head _)))))) | exact .tail _ (.tail _ (.tail _ (.tail _ (.tail _ (.tail _ (.tail _ (.head _))))))))) (by decide)))).mono ?_; rw [awake_rest]; rintro eN wN ⟨rfl, hbN⟩; have HON := HO.call hbN; clear HO hbN; have HO := HON; clear HON)
      | ((with_reducible refine gate ?_); (first
      | ((with_reducible refine gateAt (N := 1) rfl ?_); refine own_alloc (T := 23) HO rfl rfl Try.zeroValue23 rfl ?_; clear HO; intro gM wN hggM HO; (simp only [List.nil_append, List.cons_append] at HO); (try simp only [Act.put, List.setIfInBounds_toArray, List.set_cons_zero, List.set_cons_succ]))
      | ((with_reducible refine gateAt (N := 2) rfl ?_); refine own_alloc (T := 39) HO rfl rfl Try.zeroValue39 rfl ?_; clear HO; intro gS wN hggS HO; (simp only [List.nil_append, List.cons_append] at HO); (try simp only [Act.put, List.setIfInBounds_toArray, List.set_cons_zero, List.set_cons_succ]))
      | ((with_reducible refine gateAt (N := 3) rfl ?_); refine own_alloc (T := 23) HO rfl rfl Try.zeroValue23 rfl ?_; clear HO; intro gN wN hggN HO; (simp only [List.nil_append, List.cons_append] at HO); (try simp only [Act.put, List.setIfInBounds_toArray, List.set_cons_zero, List.set_cons_succ]))
      | ((with_reducible refine gateAt (N := 7) rfl ?_); refine own_lit HO rfl (n := 1) (cs := [.int .i64 (2004)]) (T := 3) (by first | (go_simp; done) | (go_simp; rfl)) ?_; clear HO; intro gQ wN hggQ HO; (simp only [List.nil_append, List.cons_append] at HO); (try simp only [Act.put, List.setIfInBounds_toArray, List.set_cons_zero, List.set_cons_succ]))
      | ((with_reducible refine gateAt (N := 11) rfl ?_); refine own_lit HO rfl (n := 2) (cs := [.int .i64 (1), .int .i64 (2004)]) (T := 3) (by first | (go_simp; done) | (go_simp; rfl)) ?_; clear HO; intro gR wN hggR HO; (simp only [List.nil_append, List.cons_append] at HO); (try simp only [Act.put, List.setIfInBounds_toArray, List.set_cons_zero, List.set_cons_succ]))
      | ((with_reducible refine gate ?_); refine own_load (T := 39) (n := 12) (vs := u8s sPaste) HO rfl rfl rfl (by first | exact .head _ | exact .tail _ (.head _) | exact .tail _ (.tail _ (.head _)) | exact .tail _ (.tail _ (.tail _ (.head _))) | exact .tail _ (.tail _ (.tail _ (.tail _ (.head _)))) | exact .tail _ (.tail _ (.tail _ (.tail _ (.tail _ (.head _))))) | exact .tail _ (.tail _ (.tail _ (.tail _ (.tail _ (.tail _ (.head _)))))) | exact .tail _ (.tail _ (.tail _ (.tail _ (.tail _ (.tail _ (.tail _ (.head _)))))))) Try.isAgg39 Try.sizeOf39 (slc12 rfl) ?_; (try simp only [Act.put, List.setIfInBounds_toArray, List.set_cons_zero, List.set_cons_succ]))
      | ((with_reducible refine gate ?_); refine own_store (T := 39) (vs := u8s sPaste) HO rfl rfl rfl rfl (by first | exact .here | exact .there (.here) | exact .there (.there (.here)) | exact .there (.there (.there (.here))) | exact .there (.there (.there (.there (.here)))) | exact .there (.there (.there (.there (.there (.here))))) | exact .there (.there (.there (.there (.there (.there (.here)))))) | exact .there (.there (.there (.there (.there (.there (.there (.here)))))))) (size12 rfl) (by exact PutAt.all _ _ (len12 rfl)) (one12 sPaste) ?_; clear HO; intro wN HO; (try simp only [Act.put, List.setIfInBounds_toArray, List.set_cons_zero, List.set_cons_succ]))
      | ((refine own_eql (t := 39) rfl rfl rfl rfl (by kernel_rfl) HE1.out ?_); (try simp only [Act.put, List.setIfInBounds_toArray, List.set_cons_zero, List.set_cons_succ]))
      | ((refine own_eql (t := 23) rfl rfl rfl rfl (by kernel_rfl) HE2.out ?_); (try simp only [Act.put, List.setIfInBounds_toArray, List.set_cons_zero, List.set_cons_succ]))
      | ((refine own_box HO rfl rfl rfl ?_); clear HO; intro gN wN hgN HO; (simp only [List.nil_append, List.cons_append] at HO); (try simp only [Act.put, List.setIfInBounds_toArray, List.set_cons_zero, List.set_cons_succ]))
      | ((refine own_load (T := 23) HO rfl rfl rfl (by first | exact .head _ | exact .tail _ (.head _) | exact .tail _ (.tail _ (.head _)) | exact .tail _ (.tail _ (.tail _ (.head _))) | exact .tail _ (.tail _ (.tail _ (.tail _ (.head _)))) | exact .tail _ (.tail _ (.tail _ (.tail _ (.tail _ (.head _))))) | exact .tail _ (.tail _ (.tail _ (.tail _ (.tail _ (.tail _ (.head _)))))) | exact .tail _ (.tail _ (.tail _ (.tail _ (.tail _ (.tail _ (.tail _ (.head _)))))))) Try.isAgg23 Try.sizeOf23 (by repeat constructor) ?_); (try simp only [Act.put, List.setIfInBounds_toArray, List.set_cons_zero, List.set_cons_succ]))
      | ((refine own_store (T := 23) HO rfl rfl rfl rfl (by first | exact .here | exact .there (.here) | exact .there (.there (.here)) | exact .there (.there (.there (.here))) | exact .there (.there (.there (.there (.here)))) | exact .there (.there (.there (.there (.there (.here))))) | exact .there (.there (.there (.there (.there (.there (.here)))))) | exact .there (.there (.there (.there (.there (.there (.there (.here)))))))) Try.sizeOf23 (by repeat constructor) rfl ?_); clear HO; intro wN HO; (try simp only [Act.put, List.setIfInBounds_toArray, List.set_cons_zero, List.set_cons_succ])))))
  go_ret
  exact ⟨rfl, HO.below⟩

end Go.Proofs.Ytllloedhlcdbjaa
