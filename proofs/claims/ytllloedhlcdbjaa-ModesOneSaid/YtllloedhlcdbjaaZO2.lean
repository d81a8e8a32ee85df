/- O: texts run together by shake.py: MoD AwA SvC SvD KitI PMoL SvL SvQ SvR OwB. -/
import Derived.ArgAppend
import Derived.Below
import Derived.BigQuiet
import Derived.ChangeKeysEq
import Derived.Deep.AppendLies
import Derived.Deep.CutBlock
import Derived.Deep.DeepCutAuto
import Derived.Deep.Draws
import Derived.Deep.LoopGhost
import Derived.Deep.OwnRows
import Derived.Deep.Quiet
import Derived.Deep.QuietTactic
import Derived.Deep.RegionHeld3
import Derived.Ground.GgzProg
import Derived.Ground.SlgmProg
import Derived.KernelRfl
import Derived.Laws.AppendOwn
import Derived.Laws.AppendOwnNone
import Derived.Laws.BitsLemmas
import Derived.Laws.BytesArg
import Derived.Laws.CopyRow
import Derived.Laws.IdiomCopy
import Derived.Laws.IdiomStrings
import Derived.Laws.MakeOwn
import Derived.Laws.OwnMore
import Derived.Laws.Rows
import Derived.Laws.Slices
import Derived.Laws.StructEq
import Derived.Lib.AppendStr
import Derived.Lib.ConvBytes
import Derived.Lib.Hide
import Derived.Lib.SlKeysI
import Derived.LoopIn
import Derived.LoopNIn
import Derived.MapKept
import Derived.Maps.AppendAt
import Derived.Maps.Own
import Derived.Orders
import Derived.OrdersHeld
import Derived.OrdersIn
import Derived.Outline
import Derived.OwnWalk
import Derived.OwnWalkIn
import Derived.RangeFuncBound
import Derived.RangeFuncBox
import Derived.RangeFuncCalls
import Derived.RangeFuncLeaves
import Derived.RangeFuncNested
import Derived.RangeFuncWrites
import Derived.RowKit
import Derived.RowKit3
import Derived.Shelf.Abstract
import Derived.Shelf.RegionOpen
import Derived.Shelf.SlIterI.Nil
import Derived.Shelf.Slices.Turned
import Derived.Shelf.SortM.Plain
import Derived.Shelf.SortM.SortNone
import Derived.Shelf.Strconv.Itoa0
import Derived.Still
import Derived.Tactics
import Derived.TacticsIn
import Derived.TacticsInMore
import Derived.Test.YtllloedhlcdbjaaProg
import Derived.WalkKit
import Derived.WalkLawsBesides
import Derived.WalkSpells
import Derived.WideLaws
import Derived.Test.YtllloedhlcdbjaaZO1
section
namespace Go.Proofs.Ytllloedhlcdbjaa
set_option linter.unusedVariables false
set_option linter.unusedSimpArgs false
open Go.RowKit Kit
theorem Md.ext_iff' (m n : Md) : (m.cursor == n.cursor && (m.keypad == n.keypad && (m.back == n.back && (m.focus == n.focus && (m.paste == n.paste && (m.lock == n.lock && (m.line == n.line && (m.mouse == n.mouse && (m.coding == n.coding && (m.other == n.other && true)))))))))) = decide (m = n) := by
  rw [Bool.eq_iff_iff]
  cases m; cases n
  simp [and_assoc]
theorem equal_modes (m n : Md) (w : World) : (Op.equal 23 m.v n.v).run Try.prog w = .ok (decide (m = n)) w := by
  rw [← Md.ext_iff']
  refine eqStruct_of Try.underlying23 (by kernel_rfl) ?_
  refine eqF_cons (by rfl) (by go_simp; rfl) (by go_simp; rfl) (by go_simp) ?_
  refine eqF_cons (by rfl) (by go_simp; rfl) (by go_simp; rfl) (by go_simp) ?_
  refine eqF_cons (by rfl) (by go_simp; rfl) (by go_simp; rfl) (by go_simp) ?_
  refine eqF_cons (by rfl) (by go_simp; rfl) (by go_simp; rfl) (by go_simp) ?_
  refine eqF_cons (by rfl) (by go_simp; rfl) (by go_simp; rfl) (by go_simp) ?_
  refine eqF_cons (by rfl) (by go_simp; rfl) (by go_simp; rfl) (by go_simp) ?_
  refine eqF_cons (by rfl) (by go_simp; rfl) (by go_simp; rfl) (by go_simp) ?_
  refine eqF_cons (by rfl) (by go_simp; rfl) (by go_simp; rfl) (by go_simp) ?_
  refine eqF_cons (by rfl) (by go_simp; rfl) (by go_simp; rfl) (by go_simp) ?_
  refine eqF_cons (by rfl) (by go_simp; rfl) (by go_simp; rfl) (by go_simp) ?_
  exact eqF_nil
theorem fixed_says (n : Int) : ∃ ok, Says [(Value.int .i64 7, Value.int .i64 3), (.int .i64 25, .int .i64 3)] (.int .i64 n) (.int .i64 0) (.int .i64 (fixedM true n)) ok := by
  by_cases h1 : n = 7
  · subst h1; exact ⟨_, .hit _ (by simp [fixedM])⟩
  by_cases h2 : n = 25
  · subst h2; exact ⟨_, .hit _ (by simp [fixedM])⟩
  have e : fixedM true n = 0 := by simp [fixedM, h1, h2]
  rw [e]
  exact ⟨_, .miss (by simp [h1, h2, eq_comm])⟩
theorem fixed_says' (n : Int) : ∃ ok, Says [(Value.int .i64 4, Value.int .i64 4), (.int .i64 12, .int .i64 4)] (.int .i64 n) (.int .i64 0) (.int .i64 (fixedM false n)) ok := by
  by_cases h1 : n = 4
  · subst h1; exact ⟨_, .hit _ (by simp [fixedM])⟩
  by_cases h2 : n = 12
  · subst h2; exact ⟨_, .hit _ (by simp [fixedM])⟩
  have e : fixedM false n = 0 := by simp [fixedM, h1, h2]
  rw [e]
  exact ⟨_, .miss (by simp [h1, h2, eq_comm])⟩
set_option maxHeartbeats 1000000 in
theorem get_calls (m : Md) (p : Bool) (n : Int) (w : World) :
    Calls Try.prog 15 #[m.v, .bool p, .int .i64 n] w fun e w' => e = .returned (.int .i64 (getM m p n)) ∧ Below w.heap.size w w' := by
  have HO := Mine.start w
  obtain ⟨on, hon⟩ : ∃ x, setM m p n true = x := ⟨_, rfl⟩
  have hg : getM m p n = if on.2 then (if on.1 = m then 1 else 2) else fixedM p n := by simp [getM, hon]
  have HG := Lib.hid hg
  have HON' := Lib.hid hon
  clear hg hon
  go_enter Try.func15, Try.ntmps15
  go_wp2_with (first
      | ((with_reducible refine gate ?_); (first
      | ((refine own_box HO rfl rfl rfl ?_); clear HO; intro gN wN hgN HO; (simp only [List.nil_append, List.cons_append] at HO); (try simp only [Act.put, List.setIfInBounds_toArray, List.set_cons_zero, List.set_cons_succ]))
      | ((refine own_alloc (T := 23) HO rfl rfl Try.zeroValue23 rfl ?_); clear HO; intro gN wN hgN HO; (simp only [List.nil_append, List.cons_append] at HO); (try simp only [Act.put, List.setIfInBounds_toArray, List.set_cons_zero, List.set_cons_succ]))
      | ((refine own_alloc (T := 3) HO rfl rfl Try.zeroValue3 rfl ?_); clear HO; intro gN wN hgN HO; (simp only [List.nil_append, List.cons_append] at HO); (try simp only [Act.put, List.setIfInBounds_toArray, List.set_cons_zero, List.set_cons_succ]))
      | ((refine own_alloc (T := 4) HO rfl rfl Try.zeroValue4 rfl ?_); clear HO; intro gN wN hgN HO; (simp only [List.nil_append, List.cons_append] at HO); (try simp only [Act.put, List.setIfInBounds_toArray, List.set_cons_zero, List.set_cons_succ]))
      | ((refine own_load (T := 23) HO rfl rfl rfl (by first | exact .head _ | exact .tail _ (.head _) | exact .tail _ (.tail _ (.head _)) | exact .tail _ (.tail _ (.tail _ (.head _))) | exact .tail _ (.tail _ (.tail _ (.tail _ (.head _)))) | exact .tail _ (.tail _ (.tail _ (.tail _ (.tail _ (.head _)))))) Try.isAgg23 Try.sizeOf23 (by repeat constructor) ?_); (try simp only [Act.put, List.setIfInBounds_toArray, List.set_cons_zero, List.set_cons_succ]))
      | ((refine own_load1 (T := 3) HO rfl rfl rfl (by first | exact .head _ | exact .tail _ (.head _) | exact .tail _ (.tail _ (.head _)) | exact .tail _ (.tail _ (.tail _ (.head _))) | exact .tail _ (.tail _ (.tail _ (.tail _ (.head _)))) | exact .tail _ (.tail _ (.tail _ (.tail _ (.tail _ (.head _)))))) Try.isAgg3 rfl ?_); (try simp only [Act.put, List.setIfInBounds_toArray, List.set_cons_zero, List.set_cons_succ]))
      | ((refine own_load1 (T := 4) HO rfl rfl rfl (by first | exact .head _ | exact .tail _ (.head _) | exact .tail _ (.tail _ (.head _)) | exact .tail _ (.tail _ (.tail _ (.head _))) | exact .tail _ (.tail _ (.tail _ (.tail _ (.head _)))) | exact .tail _ (.tail _ (.tail _ (.tail _ (.tail _ (.head _)))))) Try.isAgg4 rfl ?_); (try simp only [Act.put, List.setIfInBounds_toArray, List.set_cons_zero, List.set_cons_succ]))
      | ((refine own_store (T := 23) HO rfl rfl rfl rfl (by first | exact .here | exact .there (.here) | exact .there (.there (.here)) | exact .there (.there (.there (.here))) | exact .there (.there (.there (.there (.here)))) | exact .there (.there (.there (.there (.there (.here)))))) Try.sizeOf23 (by repeat constructor) rfl ?_); clear HO; intro wN HO; (try simp only [Act.put, List.setIfInBounds_toArray, List.set_cons_zero, List.set_cons_succ]))
      | ((refine own_store (T := 3) HO rfl rfl rfl rfl (by first | exact .here | exact .there (.here) | exact .there (.there (.here)) | exact .there (.there (.there (.here))) | exact .there (.there (.there (.there (.here)))) | exact .there (.there (.there (.there (.there (.here)))))) Try.sizeOf3 (by repeat constructor) rfl ?_); clear HO; intro wN HO; (try simp only [Act.put, List.setIfInBounds_toArray, List.set_cons_zero, List.set_cons_succ]))
      | ((refine own_store (T := 4) HO rfl rfl rfl rfl (by first | exact .here | exact .there (.here) | exact .there (.there (.here)) | exact .there (.there (.there (.here))) | exact .there (.there (.there (.there (.here)))) | exact .there (.there (.there (.there (.there (.here)))))) Try.sizeOf4 (by repeat constructor) rfl ?_); clear HO; intro wN HO; (try simp only [Act.put, List.setIfInBounds_toArray, List.set_cons_zero, List.set_cons_succ])))))
  refine (set_calls m p n true _).mono ?_
  rintro e w1 ⟨rfl, hb⟩
  replace HO := HO.call hb
  clear hb
  rw [HON'.out]
  clear HON'
  obtain ⟨on, ok⟩ := on
  dsimp only at HG ⊢
  cases ok
  · have hgf : getM m p n = fixedM p n := by rw [HG.out]; rfl
    have HGF := Lib.hid hgf
    clear HG hgf
    cases p
    · obtain ⟨ok, hs⟩ := fixed_says' n
      have HS := Lib.hid hs
      clear hs
      go_wp2_with (first
      | ((with_reducible refine gate ?_); (first
      | ((refine own_makeMap HO rfl rfl ?_); clear HO; intro gN wN hgN HO; (simp only [List.nil_append, List.cons_append] at HO); (try simp only [Act.put, List.setIfInBounds_toArray, List.set_cons_zero, List.set_cons_succ]))
      | ((refine own_insert (mt := 62) HO rfl rfl rfl (by first | exact .const | exact .tmp rfl | exact .func) (by first | exact .const | exact .tmp rfl | exact .func) Try.underlying62 Try.underlying3 (by first | exact .here | exact .there (.here) | exact .there (.there (.here)) | exact .there (.there (.there (.here))) | exact .there (.there (.there (.there (.here)))) | exact .there (.there (.there (.there (.there (.here)))))) (by simp [MapKept.IsKey]) (by first | exact rfl | exact trivial) (by simp) ?_); clear HO; intro wN HO; (simp only [List.nil_append, List.cons_append] at HO); (try simp only [Act.put, List.setIfInBounds_toArray, List.set_cons_zero, List.set_cons_succ]))
      | ((refine own_insert (mt := 63) HO rfl rfl rfl (by first | exact .const | exact .tmp rfl | exact .func) (by first | exact .const | exact .tmp rfl | exact .func) Try.underlying63 Try.underlying4 (by first | exact .here | exact .there (.here) | exact .there (.there (.here)) | exact .there (.there (.there (.here))) | exact .there (.there (.there (.there (.here)))) | exact .there (.there (.there (.there (.there (.here)))))) (by simp [MapKept.IsKey]) (by first | exact rfl | exact trivial) (by simp) ?_); clear HO; intro wN HO; (simp only [List.nil_append, List.cons_append] at HO); (try simp only [Act.put, List.setIfInBounds_toArray, List.set_cons_zero, List.set_cons_succ]))
      | ((refine own_lookup (mt := 63) HO rfl rfl rfl (by first | exact .const | exact .tmp rfl | exact .func) Try.underlying63 Try.underlying4 Try.zeroValue62 (by first | exact .head _ | exact .tail _ (.head _) | exact .tail _ (.tail _ (.head _)) | exact .tail _ (.tail _ (.tail _ (.head _))) | exact .tail _ (.tail _ (.tail _ (.tail _ (.head _)))) | exact .tail _ (.tail _ (.tail _ (.tail _ (.tail _ (.head _)))))) (by simp) (by simp [MapKept.IsKey]) (by first | exact rfl | exact trivial) (.hit _ (by simp; rfl)) ?_); (try simp only [Act.put, List.setIfInBounds_toArray, List.set_cons_zero, List.set_cons_succ]))
      | ((refine own_lookup (mt := 62) HO rfl rfl rfl (by first | exact .const | exact .tmp rfl | exact .func) Try.underlying62 Try.underlying3 Try.zeroValue3 (by first | exact .head _ | exact .tail _ (.head _) | exact .tail _ (.tail _ (.head _)) | exact .tail _ (.tail _ (.tail _ (.head _))) | exact .tail _ (.tail _ (.tail _ (.tail _ (.head _)))) | exact .tail _ (.tail _ (.tail _ (.tail _ (.tail _ (.head _)))))) (by simp) (by simp [MapKept.IsKey]) (by first | exact rfl | exact trivial) (HS.out) ?_); (try simp only [Act.put, List.setIfInBounds_toArray, List.set_cons_zero, List.set_cons_succ]))
      | ((refine own_box HO rfl rfl rfl ?_); clear HO; intro gN wN hgN HO; (simp only [List.nil_append, List.cons_append] at HO); (try simp only [Act.put, List.setIfInBounds_toArray, List.set_cons_zero, List.set_cons_succ]))
      | ((refine own_alloc (T := 23) HO rfl rfl Try.zeroValue23 rfl ?_); clear HO; intro gN wN hgN HO; (simp only [List.nil_append, List.cons_append] at HO); (try simp only [Act.put, List.setIfInBounds_toArray, List.set_cons_zero, List.set_cons_succ]))
      | ((refine own_alloc (T := 3) HO rfl rfl Try.zeroValue3 rfl ?_); clear HO; intro gN wN hgN HO; (simp only [List.nil_append, List.cons_append] at HO); (try simp only [Act.put, List.setIfInBounds_toArray, List.set_cons_zero, List.set_cons_succ]))
      | ((refine own_alloc (T := 4) HO rfl rfl Try.zeroValue4 rfl ?_); clear HO; intro gN wN hgN HO; (simp only [List.nil_append, List.cons_append] at HO); (try simp only [Act.put, List.setIfInBounds_toArray, List.set_cons_zero, List.set_cons_succ]))
      | ((refine own_load (T := 23) HO rfl rfl rfl (by first | exact .head _ | exact .tail _ (.head _) | exact .tail _ (.tail _ (.head _)) | exact .tail _ (.tail _ (.tail _ (.head _))) | exact .tail _ (.tail _ (.tail _ (.tail _ (.head _)))) | exact .tail _ (.tail _ (.tail _ (.tail _ (.tail _ (.head _)))))) Try.isAgg23 Try.sizeOf23 (by repeat constructor) ?_); (try simp only [Act.put, List.setIfInBounds_toArray, List.set_cons_zero, List.set_cons_succ]))
      | ((refine own_load1 (T := 3) HO rfl rfl rfl (by first | exact .head _ | exact .tail _ (.head _) | exact .tail _ (.tail _ (.head _)) | exact .tail _ (.tail _ (.tail _ (.head _))) | exact .tail _ (.tail _ (.tail _ (.tail _ (.head _)))) | exact .tail _ (.tail _ (.tail _ (.tail _ (.tail _ (.head _)))))) Try.isAgg3 rfl ?_); (try simp only [Act.put, List.setIfInBounds_toArray, List.set_cons_zero, List.set_cons_succ]))
      | ((refine own_load1 (T := 4) HO rfl rfl rfl (by first | exact .head _ | exact .tail _ (.head _) | exact .tail _ (.tail _ (.head _)) | exact .tail _ (.tail _ (.tail _ (.head _))) | exact .tail _ (.tail _ (.tail _ (.tail _ (.head _)))) | exact .tail _ (.tail _ (.tail _ (.tail _ (.tail _ (.head _)))))) Try.isAgg4 rfl ?_); (try simp only [Act.put, List.setIfInBounds_toArray, List.set_cons_zero, List.set_cons_succ]))
      | ((refine own_store (T := 23) HO rfl rfl rfl rfl (by first | exact .here | exact .there (.here) | exact .there (.there (.here)) | exact .there (.there (.there (.here))) | exact .there (.there (.there (.there (.here)))) | exact .there (.there (.there (.there (.there (.here)))))) Try.sizeOf23 (by repeat constructor) rfl ?_); clear HO; intro wN HO; (try simp only [Act.put, List.setIfInBounds_toArray, List.set_cons_zero, List.set_cons_succ]))
      | ((refine own_store (T := 3) HO rfl rfl rfl rfl (by first | exact .here | exact .there (.here) | exact .there (.there (.here)) | exact .there (.there (.there (.here))) | exact .there (.there (.there (.there (.here)))) | exact .there (.there (.there (.there (.there (.here)))))) Try.sizeOf3 (by repeat constructor) rfl ?_); clear HO; intro wN HO; (try simp only [Act.put, List.setIfInBounds_toArray, List.set_cons_zero, List.set_cons_succ]))
      | ((refine own_store (T := 4) HO rfl rfl rfl rfl (by first | exact .here | exact .there (.here) | exact .there (.there (.here)) | exact .there (.there (.there (.here))) | exact .there (.there (.there (.there (.here)))) | exact .there (.there (.there (.there (.there (.here)))))) Try.sizeOf4 (by repeat constructor) rfl ?_); clear HO; intro wN HO; (try simp only [Act.put, List.setIfInBounds_toArray, List.set_cons_zero, List.set_cons_succ])))))
      go_ret
      exact ⟨ret_int HGF.out.symm, HO.below⟩
    · obtain ⟨ok, hs⟩ := fixed_says n
      have HS := Lib.hid hs
      clear hs
      go_wp2_with (first
      | ((with_reducible refine gate ?_); (first
      | ((refine own_makeMap HO rfl rfl ?_); clear HO; intro gN wN hgN HO; (simp only [List.nil_append, List.cons_append] at HO); (try simp only [Act.put, List.setIfInBounds_toArray, List.set_cons_zero, List.set_cons_succ]))
      | ((refine own_insert (mt := 62) HO rfl rfl rfl (by first | exact .const | exact .tmp rfl | exact .func) (by first | exact .const | exact .tmp rfl | exact .func) Try.underlying62 Try.underlying3 (by first | exact .here | exact .there (.here) | exact .there (.there (.here)) | exact .there (.there (.there (.here))) | exact .there (.there (.there (.there (.here)))) | exact .there (.there (.there (.there (.there (.here)))))) (by simp [MapKept.IsKey]) (by first | exact rfl | exact trivial) (by simp) ?_); clear HO; intro wN HO; (simp only [List.nil_append, List.cons_append] at HO); (try simp only [Act.put, List.setIfInBounds_toArray, List.set_cons_zero, List.set_cons_succ]))
      | ((refine own_insert (mt := 63) HO rfl rfl rfl (by first | exact .const | exact .tmp rfl | exact .func) (by first | exact .const | exact .tmp rfl | exact .func) Try.underlying63 Try.underlying4 (by first | exact .here | exact .there (.here) | exact .there (.there (.here)) | exact .there (.there (.there (.here))) | exact .there (.there (.there (.there (.here)))) | exact .there (.there (.there (.there (.there (.here)))))) (by simp [MapKept.IsKey]) (by first | exact rfl | exact trivial) (by simp) ?_); clear HO; intro wN HO; (simp only [List.nil_append, List.cons_append] at HO); (try simp only [Act.put, List.setIfInBounds_toArray, List.set_cons_zero, List.set_cons_succ]))
      | ((refine own_lookup (mt := 63) HO rfl rfl rfl (by first | exact .const | exact .tmp rfl | exact .func) Try.underlying63 Try.underlying4 Try.zeroValue62 (by first | exact .head _ | exact .tail _ (.head _) | exact .tail _ (.tail _ (.head _)) | exact .tail _ (.tail _ (.tail _ (.head _))) | exact .tail _ (.tail _ (.tail _ (.tail _ (.head _)))) | exact .tail _ (.tail _ (.tail _ (.tail _ (.tail _ (.head _)))))) (by simp) (by simp [MapKept.IsKey]) (by first | exact rfl | exact trivial) (.hit _ (by simp; rfl)) ?_); (try simp only [Act.put, List.setIfInBounds_toArray, List.set_cons_zero, List.set_cons_succ]))
      | ((refine own_lookup (mt := 62) HO rfl rfl rfl (by first | exact .const | exact .tmp rfl | exact .func) Try.underlying62 Try.underlying3 Try.zeroValue3 (by first | exact .head _ | exact .tail _ (.head _) | exact .tail _ (.tail _ (.head _)) | exact .tail _ (.tail _ (.tail _ (.head _))) | exact .tail _ (.tail _ (.tail _ (.tail _ (.head _)))) | exact .tail _ (.tail _ (.tail _ (.tail _ (.tail _ (.head _)))))) (by simp) (by simp [MapKept.IsKey]) (by first | exact rfl | exact trivial) (HS.out) ?_); (try simp only [Act.put, List.setIfInBounds_toArray, List.set_cons_zero, List.set_cons_succ]))
      | ((refine own_box HO rfl rfl rfl ?_); clear HO; intro gN wN hgN HO; (simp only [List.nil_append, List.cons_append] at HO); (try simp only [Act.put, List.setIfInBounds_toArray, List.set_cons_zero, List.set_cons_succ]))
      | ((refine own_alloc (T := 23) HO rfl rfl Try.zeroValue23 rfl ?_); clear HO; intro gN wN hgN HO; (simp only [List.nil_append, List.cons_append] at HO); (try simp only [Act.put, List.setIfInBounds_toArray, List.set_cons_zero, List.set_cons_succ]))
      | ((refine own_alloc (T := 3) HO rfl rfl Try.zeroValue3 rfl ?_); clear HO; intro gN wN hgN HO; (simp only [List.nil_append, List.cons_append] at HO); (try simp only [Act.put, List.setIfInBounds_toArray, List.set_cons_zero, List.set_cons_succ]))
      | ((refine own_alloc (T := 4) HO rfl rfl Try.zeroValue4 rfl ?_); clear HO; intro gN wN hgN HO; (simp only [List.nil_append, List.cons_append] at HO); (try simp only [Act.put, List.setIfInBounds_toArray, List.set_cons_zero, List.set_cons_succ]))
      | ((refine own_load (T := 23) HO rfl rfl rfl (by first | exact .head _ | exact .tail _ (.head _) | exact .tail _ (.tail _ (.head _)) | exact .tail _ (.tail _ (.tail _ (.head _))) | exact .tail _ (.tail _ (.tail _ (.tail _ (.head _)))) | exact .tail _ (.tail _ (.tail _ (.tail _ (.tail _ (.head _)))))) Try.isAgg23 Try.sizeOf23 (by repeat constructor) ?_); (try simp only [Act.put, List.setIfInBounds_toArray, List.set_cons_zero, List.set_cons_succ]))
      | ((refine own_load1 (T := 3) HO rfl rfl rfl (by first | exact .head _ | exact .tail _ (.head _) | exact .tail _ (.tail _ (.head _)) | exact .tail _ (.tail _ (.tail _ (.head _))) | exact .tail _ (.tail _ (.tail _ (.tail _ (.head _)))) | exact .tail _ (.tail _ (.tail _ (.tail _ (.tail _ (.head _)))))) Try.isAgg3 rfl ?_); (try simp only [Act.put, List.setIfInBounds_toArray, List.set_cons_zero, List.set_cons_succ]))
      | ((refine own_load1 (T := 4) HO rfl rfl rfl (by first | exact .head _ | exact .tail _ (.head _) | exact .tail _ (.tail _ (.head _)) | exact .tail _ (.tail _ (.tail _ (.head _))) | exact .tail _ (.tail _ (.tail _ (.tail _ (.head _)))) | exact .tail _ (.tail _ (.tail _ (.tail _ (.tail _ (.head _)))))) Try.isAgg4 rfl ?_); (try simp only [Act.put, List.setIfInBounds_toArray, List.set_cons_zero, List.set_cons_succ]))
      | ((refine own_store (T := 23) HO rfl rfl rfl rfl (by first | exact .here | exact .there (.here) | exact .there (.there (.here)) | exact .there (.there (.there (.here))) | exact .there (.there (.there (.there (.here)))) | exact .there (.there (.there (.there (.there (.here)))))) Try.sizeOf23 (by repeat constructor) rfl ?_); clear HO; intro wN HO; (try simp only [Act.put, List.setIfInBounds_toArray, List.set_cons_zero, List.set_cons_succ]))
      | ((refine own_store (T := 3) HO rfl rfl rfl rfl (by first | exact .here | exact .there (.here) | exact .there (.there (.here)) | exact .there (.there (.there (.here))) | exact .there (.there (.there (.there (.here)))) | exact .there (.there (.there (.there (.there (.here)))))) Try.sizeOf3 (by repeat constructor) rfl ?_); clear HO; intro wN HO; (try simp only [Act.put, List.setIfInBounds_toArray, List.set_cons_zero, List.set_cons_succ]))
      | ((refine own_store (T := 4) HO rfl rfl rfl rfl (by first | exact .here | exact .there (.here) | exact .there (.there (.here)) | exact .there (.there (.there (.here))) | exact .there (.there (.there (.there (.here)))) | exact .there (.there (.there (.there (.there (.here)))))) Try.sizeOf4 (by repeat constructor) rfl ?_); clear HO; intro wN HO; (try simp only [Act.put, List.setIfInBounds_toArray, List.set_cons_zero, List.set_cons_succ])))))
      go_ret
      exact ⟨ret_int HGF.out.symm, HO.below⟩
  · have hE := equal_modes on m
    by_cases he : on = m
    · have hgf : getM m p n = 1 := by rw [HG.out]; simp [he]
      have HGF := Lib.hid hgf
      have hd : decide (on = m) = true := decide_eq_true he
      rw [hd] at hE
      have HE := Lib.hid hE
      clear HG hgf hE hd he
      go_wp2_with (first
      | ((with_reducible refine gate ?_); (first
      | ((refine own_eql (t := 23) rfl rfl rfl rfl (by kernel_rfl) HE.out ?_); (try simp only [Act.put, List.setIfInBounds_toArray, List.set_cons_zero, List.set_cons_succ]))
      | ((refine own_box HO rfl rfl rfl ?_); clear HO; intro gN wN hgN HO; (simp only [List.nil_append, List.cons_append] at HO); (try simp only [Act.put, List.setIfInBounds_toArray, List.set_cons_zero, List.set_cons_succ]))
      | ((refine own_alloc (T := 23) HO rfl rfl Try.zeroValue23 rfl ?_); clear HO; intro gN wN hgN HO; (simp only [List.nil_append, List.cons_append] at HO); (try simp only [Act.put, List.setIfInBounds_toArray, List.set_cons_zero, List.set_cons_succ]))
      | ((refine own_alloc (T := 3) HO rfl rfl Try.zeroValue3 rfl ?_); clear HO; intro gN wN hgN HO; (simp only [List.nil_append, List.cons_append] at HO); (try simp only [Act.put, List.setIfInBounds_toArray, List.set_cons_zero, List.set_cons_succ]))
      | ((refine own_alloc (T := 4) HO rfl rfl Try.zeroValue4 rfl ?_); clear HO; intro gN wN hgN HO; (simp only [List.nil_append, List.cons_append] at HO); (try simp only [Act.put, List.setIfInBounds_toArray, List.set_cons_zero, List.set_cons_succ]))
      | ((refine own_load (T := 23) HO rfl rfl rfl (by first | exact .head _ | exact .tail _ (.head _) | exact .tail _ (.tail _ (.head _)) | exact .tail _ (.tail _ (.tail _ (.head _))) | exact .tail _ (.tail _ (.tail _ (.tail _ (.head _)))) | exact .tail _ (.tail _ (.tail _ (.tail _ (.tail _ (.head _)))))) Try.isAgg23 Try.sizeOf23 (by repeat constructor) ?_); (try simp only [Act.put, List.setIfInBounds_toArray, List.set_cons_zero, List.set_cons_succ]))
      | ((refine own_load1 (T := 3) HO rfl rfl rfl (by first | exact .head _ | exact .tail _ (.head _) | exact .tail _ (.tail _ (.head _)) | exact .tail _ (.tail _ (.tail _ (.head _))) | exact .tail _ (.tail _ (.tail _ (.tail _ (.head _)))) | exact .tail _ (.tail _ (.tail _ (.tail _ (.tail _ (.head _)))))) Try.isAgg3 rfl ?_); (try simp only [Act.put, List.setIfInBounds_toArray, List.set_cons_zero, List.set_cons_succ]))
      | ((refine own_load1 (T := 4) HO rfl rfl rfl (by first | exact .head _ | exact .tail _ (.head _) | exact .tail _ (.tail _ (.head _)) | exact .tail _ (.tail _ (.tail _ (.head _))) | exact .tail _ (.tail _ (.tail _ (.tail _ (.head _)))) | exact .tail _ (.tail _ (.tail _ (.tail _ (.tail _ (.head _)))))) Try.isAgg4 rfl ?_); (try simp only [Act.put, List.setIfInBounds_toArray, List.set_cons_zero, List.set_cons_succ]))
      | ((refine own_store (T := 23) HO rfl rfl rfl rfl (by first | exact .here | exact .there (.here) | exact .there (.there (.here)) | exact .there (.there (.there (.here))) | exact .there (.there (.there (.there (.here)))) | exact .there (.there (.there (.there (.there (.here)))))) Try.sizeOf23 (by repeat constructor) rfl ?_); clear HO; intro wN HO; (try simp only [Act.put, List.setIfInBounds_toArray, List.set_cons_zero, List.set_cons_succ]))
      | ((refine own_store (T := 3) HO rfl rfl rfl rfl (by first | exact .here | exact .there (.here) | exact .there (.there (.here)) | exact .there (.there (.there (.here))) | exact .there (.there (.there (.there (.here)))) | exact .there (.there (.there (.there (.there (.here)))))) Try.sizeOf3 (by repeat constructor) rfl ?_); clear HO; intro wN HO; (try simp only [Act.put, List.setIfInBounds_toArray, List.set_cons_zero, List.set_cons_succ]))
      | ((refine own_store (T := 4) HO rfl rfl rfl rfl (by first | exact .here | exact .there (.here) | exact .there (.there (.here)) | exact .there (.there (.there (.here))) | exact .there (.there (.there (.there (.here)))) | exact .there (.there (.there (.there (.there (.here)))))) Try.sizeOf4 (by repeat constructor) rfl ?_); clear HO; intro wN HO; (try simp only [Act.put, List.setIfInBounds_toArray, List.set_cons_zero, List.set_cons_succ])))))
      go_ret
      exact ⟨ret_int HGF.out.symm, HO.below⟩
    · have hgf : getM m p n = 2 := by rw [HG.out]; simp [he]
      have HGF := Lib.hid hgf
      have hd : decide (on = m) = false := decide_eq_false he
      rw [hd] at hE
      have HE := Lib.hid hE
      clear HG hgf hE hd he
      go_wp2_with (first
      | ((with_reducible refine gate ?_); (first
      | ((refine own_eql (t := 23) rfl rfl rfl rfl (by kernel_rfl) HE.out ?_); (try simp only [Act.put, List.setIfInBounds_toArray, List.set_cons_zero, List.set_cons_succ]))
      | ((refine own_box HO rfl rfl rfl ?_); clear HO; intro gN wN hgN HO; (simp only [List.nil_append, List.cons_append] at HO); (try simp only [Act.put, List.setIfInBounds_toArray, List.set_cons_zero, List.set_cons_succ]))
      | ((refine own_alloc (T := 23) HO rfl rfl Try.zeroValue23 rfl ?_); clear HO; intro gN wN hgN HO; (simp only [List.nil_append, List.cons_append] at HO); (try simp only [Act.put, List.setIfInBounds_toArray, List.set_cons_zero, List.set_cons_succ]))
      | ((refine own_alloc (T := 3) HO rfl rfl Try.zeroValue3 rfl ?_); clear HO; intro gN wN hgN HO; (simp only [List.nil_append, List.cons_append] at HO); (try simp only [Act.put, List.setIfInBounds_toArray, List.set_cons_zero, List.set_cons_succ]))
      | ((refine own_alloc (T := 4) HO rfl rfl Try.zeroValue4 rfl ?_); clear HO; intro gN wN hgN HO; (simp only [List.nil_append, List.cons_append] at HO); (try simp only [Act.put, List.setIfInBounds_toArray, List.set_cons_zero, List.set_cons_succ]))
      | ((refine own_load (T := 23) HO rfl rfl rfl (by first | exact .head _ | exact .tail _ (.head _) | exact .tail _ (.tail _ (.head _)) | exact .tail _ (.tail _ (.tail _ (.head _))) | exact .tail _ (.tail _ (.tail _ (.tail _ (.head _)))) | exact .tail _ (.tail _ (.tail _ (.tail _ (.tail _ (.head _)))))) Try.isAgg23 Try.sizeOf23 (by repeat constructor) ?_); (try simp only [Act.put, List.setIfInBounds_toArray, List.set_cons_zero, List.set_cons_succ]))
      | ((refine own_load1 (T := 3) HO rfl rfl rfl (by first | exact .head _ | exact .tail _ (.head _) | exact .tail _ (.tail _ (.head _)) | exact .tail _ (.tail _ (.tail _ (.head _))) | exact .tail _ (.tail _ (.tail _ (.tail _ (.head _)))) | exact .tail _ (.tail _ (.tail _ (.tail _ (.tail _ (.head _)))))) Try.isAgg3 rfl ?_); (try simp only [Act.put, List.setIfInBounds_toArray, List.set_cons_zero, List.set_cons_succ]))
      | ((refine own_load1 (T := 4) HO rfl rfl rfl (by first | exact .head _ | exact .tail _ (.head _) | exact .tail _ (.tail _ (.head _)) | exact .tail _ (.tail _ (.tail _ (.head _))) | exact .tail _ (.tail _ (.tail _ (.tail _ (.head _)))) | exact .tail _ (.tail _ (.tail _ (.tail _ (.tail _ (.head _)))))) Try.isAgg4 rfl ?_); (try simp only [Act.put, List.setIfInBounds_toArray, List.set_cons_zero, List.set_cons_succ]))
      | ((refine own_store (T := 23) HO rfl rfl rfl rfl (by first | exact .here | exact .there (.here) | exact .there (.there (.here)) | exact .there (.there (.there (.here))) | exact .there (.there (.there (.there (.here)))) | exact .there (.there (.there (.there (.there (.here)))))) Try.sizeOf23 (by repeat constructor) rfl ?_); clear HO; intro wN HO; (try simp only [Act.put, List.setIfInBounds_toArray, List.set_cons_zero, List.set_cons_succ]))
      | ((refine own_store (T := 3) HO rfl rfl rfl rfl (by first | exact .here | exact .there (.here) | exact .there (.there (.here)) | exact .there (.there (.there (.here))) | exact .there (.there (.there (.there (.here)))) | exact .there (.there (.there (.there (.there (.here)))))) Try.sizeOf3 (by repeat constructor) rfl ?_); clear HO; intro wN HO; (try simp only [Act.put, List.setIfInBounds_toArray, List.set_cons_zero, List.set_cons_succ]))
      | ((refine own_store (T := 4) HO rfl rfl rfl rfl (by first | exact .here | exact .there (.here) | exact .there (.there (.here)) | exact .there (.there (.there (.here))) | exact .there (.there (.there (.there (.here)))) | exact .there (.there (.there (.there (.there (.here)))))) Try.sizeOf4 (by repeat constructor) rfl ?_); clear HO; intro wN HO; (try simp only [Act.put, List.setIfInBounds_toArray, List.set_cons_zero, List.set_cons_succ])))))
      go_ret
      exact ⟨ret_int HGF.out.symm, HO.below⟩
end Go.Proofs.Ytllloedhlcdbjaa
end
section
namespace Go.Proofs.Ytllloedhlcdbjaa
set_option linter.unusedVariables false
set_option linter.unusedSimpArgs false
open Go.RowKit Kit
attribute [local irreducible] wpList Calls wpQuiet
theorem set_calls' (m : Md) (p : Bool) (n : Int) (on : Bool) (r : Md) (ok : Bool) (h : setM m p n on = (r, ok)) (w : World) :
    Calls Try.prog 13 #[m.v, .bool p, .int .i64 n, .bool on] w fun e w' => e = .returned (.tuple #[r.v, .bool ok]) ∧ Below w.heap.size w w' := by
  have := set_calls m p n on w; rw [h] at this; exact this
theorem get_calls' (m : Md) (p : Bool) (n : Int) (r : Int) (h : getM m p n = r) (w : World) :
    Calls Try.prog 15 #[m.v, .bool p, .int .i64 n] w fun e w' => e = .returned (.int .i64 r) ∧ Below w.heap.size w w' := by
  have := get_calls m p n w; rw [h] at this; exact this
theorem may_modes' (m : Md) (r : Bool) (h : mayM m = r) (w : World) :
    Calls Try.prog 18 #[m.v] w fun e w' => e = .returned (.bool r) ∧ Below w.heap.size w w' := by
  have := may_modes m w; rw [h] at this; exact this
def m1000 : Md := { Md.zero with mouse := 1000 }
def m1003 : Md := { Md.zero with mouse := 1003 }
set_option maxHeartbeats 1000000 in
theorem awake06_calls (w : World) :
    Calls Try.prog 12 #[] w fun e w' => e = .returned (.bool true) ∧ Below w.heap.size w w' := by
  have HO := Mine.start w
  go_enter Try.func12, Try.ntmps12
  go_wp2_with (first
      | (go_at_call 13; refine (set_calls' Md.zero true 1000 true m1000 true rfl _).mono ?_; rintro eN wN ⟨rfl, hbN⟩; have HON := HO.call hbN; clear HO hbN; have HO := HON; clear HON)
      | (go_at_call 13; refine (set_calls' m1000 true 1003 true m1003 true rfl _).mono ?_; rintro eN wN ⟨rfl, hbN⟩; have HON := HO.call hbN; clear HO hbN; have HO := HON; clear HON)
      | (go_at_call 15; refine (get_calls' m1003 true 1000 2 rfl _).mono ?_; rintro eN wN ⟨rfl, hbN⟩; have HON := HO.call hbN; clear HO hbN; have HO := HON; clear HON)
      | (go_at_call 15; refine (get_calls' m1003 true 1003 1 rfl _).mono ?_; rintro eN wN ⟨rfl, hbN⟩; have HON := HO.call hbN; clear HO hbN; have HO := HON; clear HON)
      | (go_at_call 15; refine (get_calls' m1003 true 25 3 rfl _).mono ?_; rintro eN wN ⟨rfl, hbN⟩; have HON := HO.call hbN; clear HO hbN; have HO := HON; clear HON)
      | (go_at_call 15; refine (get_calls' m1003 false 99 0 rfl _).mono ?_; rintro eN wN ⟨rfl, hbN⟩; have HON := HO.call hbN; clear HO hbN; have HO := HON; clear HON)
      | (go_at_call 18; refine (may_modes' m1003 true rfl _).mono ?_; rintro eN wN ⟨rfl, hbN⟩; have HON := HO.call hbN; clear HO hbN; have HO := HON; clear HON)
      | ((with_reducible refine gate ?_); (first
      | ((refine own_box HO rfl rfl rfl ?_); clear HO; intro gN wN hgN HO; (simp only [List.nil_append, List.cons_append] at HO); (try simp only [Act.put, List.setIfInBounds_toArray, List.set_cons_zero, List.set_cons_succ]))
      | ((refine own_alloc (T := 23) HO rfl rfl Try.zeroValue23 rfl ?_); clear HO; intro gN wN hgN HO; (simp only [List.nil_append, List.cons_append] at HO); (try simp only [Act.put, List.setIfInBounds_toArray, List.set_cons_zero, List.set_cons_succ]))
      | ((refine own_alloc (T := 3) HO rfl rfl Try.zeroValue3 rfl ?_); clear HO; intro gN wN hgN HO; (simp only [List.nil_append, List.cons_append] at HO); (try simp only [Act.put, List.setIfInBounds_toArray, List.set_cons_zero, List.set_cons_succ]))
      | ((refine own_alloc (T := 4) HO rfl rfl Try.zeroValue4 rfl ?_); clear HO; intro gN wN hgN HO; (simp only [List.nil_append, List.cons_append] at HO); (try simp only [Act.put, List.setIfInBounds_toArray, List.set_cons_zero, List.set_cons_succ]))
      | ((refine own_load (T := 23) HO rfl rfl rfl (by first | exact .head _ | exact .tail _ (.head _) | exact .tail _ (.tail _ (.head _)) | exact .tail _ (.tail _ (.tail _ (.head _))) | exact .tail _ (.tail _ (.tail _ (.tail _ (.head _)))) | exact .tail _ (.tail _ (.tail _ (.tail _ (.tail _ (.head _)))))) Try.isAgg23 Try.sizeOf23 (by repeat constructor) ?_); (try simp only [Act.put, List.setIfInBounds_toArray, List.set_cons_zero, List.set_cons_succ]))
      | ((refine own_load1 (T := 3) HO rfl rfl rfl (by first | exact .head _ | exact .tail _ (.head _) | exact .tail _ (.tail _ (.head _)) | exact .tail _ (.tail _ (.tail _ (.head _))) | exact .tail _ (.tail _ (.tail _ (.tail _ (.head _)))) | exact .tail _ (.tail _ (.tail _ (.tail _ (.tail _ (.head _)))))) Try.isAgg3 rfl ?_); (try simp only [Act.put, List.setIfInBounds_toArray, List.set_cons_zero, List.set_cons_succ]))
      | ((refine own_load1 (T := 4) HO rfl rfl rfl (by first | exact .head _ | exact .tail _ (.head _) | exact .tail _ (.tail _ (.head _)) | exact .tail _ (.tail _ (.tail _ (.head _))) | exact .tail _ (.tail _ (.tail _ (.tail _ (.head _)))) | exact .tail _ (.tail _ (.tail _ (.tail _ (.tail _ (.head _)))))) Try.isAgg4 rfl ?_); (try simp only [Act.put, List.setIfInBounds_toArray, List.set_cons_zero, List.set_cons_succ]))
      | ((refine own_store (T := 23) HO rfl rfl rfl rfl (by first | exact .here | exact .there (.here) | exact .there (.there (.here)) | exact .there (.there (.there (.here))) | exact .there (.there (.there (.there (.here)))) | exact .there (.there (.there (.there (.there (.here)))))) Try.sizeOf23 (by repeat constructor) rfl ?_); clear HO; intro wN HO; (try simp only [Act.put, List.setIfInBounds_toArray, List.set_cons_zero, List.set_cons_succ]))
      | ((refine own_store (T := 3) HO rfl rfl rfl rfl (by first | exact .here | exact .there (.here) | exact .there (.there (.here)) | exact .there (.there (.there (.here))) | exact .there (.there (.there (.there (.here)))) | exact .there (.there (.there (.there (.there (.here)))))) Try.sizeOf3 (by repeat constructor) rfl ?_); clear HO; intro wN HO; (try simp only [Act.put, List.setIfInBounds_toArray, List.set_cons_zero, List.set_cons_succ]))
      | ((refine own_store (T := 4) HO rfl rfl rfl rfl (by first | exact .here | exact .there (.here) | exact .there (.there (.here)) | exact .there (.there (.there (.here))) | exact .there (.there (.there (.there (.here)))) | exact .there (.there (.there (.there (.there (.here)))))) Try.sizeOf4 (by repeat constructor) rfl ?_); clear HO; intro wN HO; (try simp only [Act.put, List.setIfInBounds_toArray, List.set_cons_zero, List.set_cons_succ])))))
  go_ret
  exact ⟨rfl, HO.below⟩
end Go.Proofs.Ytllloedhlcdbjaa
end
section
namespace Go.Proofs.Ytllloedhlcdbjaa
set_option linter.unusedVariables false
set_option linter.unusedSimpArgs false
open Go.RowKit Kit Go.Shelf Go.Proofs.YtllloedhlcdbjaaW.PrintWords
attribute [local go_sem] Oper.semAt_some
theorem Slc.all {α : Type} : ∀ (l : List α), Slc l 0 l.length l
  | [] => .nil
  | _ :: l => .take (Slc.all l)
theorem PutAt.all {α : Type} : ∀ (l vs : List α), vs.length = l.length → PutAt l 0 vs vs
  | [], [], _ => .nil
  | _ :: l, _ :: vs, h => .put (PutAt.all l vs (by simpa using h))
theorem Keep.setRow {g : Nat} {A B : World} (h : Keep g A B) (cs : Array Value) : Keep g A (B.setRow g cs) :=
  ⟨by rw [size_setRow]; exact h.size, fun k hk hne => (setRow_other B g k _ hne).trans (h.same k hk hne)⟩
theorem rd_int' (l : List Int) (i : Nat) (h : i < l.length) : rd l (i : Int) = l.getD i 0 := by
  simp [rd, List.getD, h]
attribute [local irreducible] wpList Calls wpQuiet
end Go.Proofs.Ytllloedhlcdbjaa
end
section
namespace Go.Proofs.Ytllloedhlcdbjaa
set_option linter.unusedVariables false
set_option linter.unusedSimpArgs false
open Go.RowKit Kit Go.Shelf Go.Proofs.YtllloedhlcdbjaaW.PrintWords
attribute [local go_sem] Oper.semAt_some
namespace Kit
section
variable {P : Program} {l : List Oper} {s i : Nat} {os o : Oper} {W0 w0 : World} {bs bs' : Res} {fs fs' : List Fact} {vals : Nat → Value} {A : Act}
theorem Owes.before (h1 : i ≠ s) (h2 : waits l.toArray os i = true) (h : ∀ w, (∀ j, waits l.toArray o j = true → Facts fs j (vals j) w) → Mine W0 w bs → Below w0.heap.size w0 w → StepOk P l.toArray o A w fun v w' => Below w.heap.size w w' ∧ Facts fs i v w') : Owes P l s os W0 w0 bs bs' fs fs' vals A i o := by
  unfold Owes; rw [if_neg h1, if_pos h2]; exact h
theorem Owes.after (h1 : i ≠ s) (h2 : waits l.toArray os i = false) (h : ∀ w, (∀ j, waits l.toArray o j = true → Facts fs j (vals j) w ∨ Facts fs' j (vals j) w) → StepOk P l.toArray o A w fun v w' => w' = w ∧ Facts fs i v w ∧ Facts fs' i v w) : Owes P l s os W0 w0 bs bs' fs fs' vals A i o := by
  unfold Owes; rw [if_neg h1, if_neg (by rw [h2]; decide)]; exact h
theorem Owes.store (h : ∀ w, (∀ j, waits l.toArray o j = true → Facts fs j (vals j) w) → Mine W0 w bs → Below w0.heap.size w0 w → StepOk P l.toArray o A w fun v w' => Mine W0 w' bs' ∧ Facts fs' s v w' ∧ ∀ j, j ≠ s → Facts fs j (vals j) w → Facts fs' j (vals j) w') : Owes P l s os W0 w0 bs bs' fs fs' vals A s o := by
  unfold Owes; rw [if_pos rfl]; exact h
theorem Keep.stored {g : Nat} {A B C : World} (h : Keep g A B) (hs : C.heap.size = B.heap.size) (hc : ∀ b, B.heap.size ≤ b ∨ b ≠ g → C.heap[b]? = B.heap[b]?) : Keep g A C :=
  ⟨by rw [hs]; exact h.size, fun k hk hne => (hc k (.inr hne)).trans (h.same k hk hne)⟩
end
end Kit
attribute [local irreducible] wpList Calls wpQuiet
end Go.Proofs.Ytllloedhlcdbjaa
end
section
namespace Go.Proofs.Ytllloedhlcdbjaa.Kit
set_option linter.unusedVariables false
set_option linter.unusedSimpArgs false
open Go Go.RowKit MapKept
variable {P : Program} {ops : Array Oper} {R : Act → Prop} {a : Act} {rest : List Oper} {C : World → Prop}
theorem qg_move {d ty ps af gg} {x : Operand} (h : wpQuiet P ops C R (Oper.mk d (.move x) ty ps af gg :: rest) a) : wpQuiet P ops C R (Oper.mk d (.move x) ty ps af gg :: rest) a := h
theorem qg_assign {d ty ps af gg} {x : Operand} (h : wpQuiet P ops C R (Oper.mk d (.assign x) ty ps af gg :: rest) a) : wpQuiet P ops C R (Oper.mk d (.assign x) ty ps af gg :: rest) a := h
theorem qg_pick {d ty ps af gg} {c x y : Operand} (h : wpQuiet P ops C R (Oper.mk d (.pick c x y) ty ps af gg :: rest) a) : wpQuiet P ops C R (Oper.mk d (.pick c x y) ty ps af gg :: rest) a := h
theorem qg_load {d ty ps af gg} {T : TypeId} {x : Operand} (h : wpQuiet P ops C R (Oper.mk d (.load T x) ty ps af gg :: rest) a) : wpQuiet P ops C R (Oper.mk d (.load T x) ty ps af gg :: rest) a := h
theorem qg_call {d ty ps af gg c} (h : wpQuiet P ops C R (Oper.mk d (.call c) ty ps af gg :: rest) a) : wpQuiet P ops C R (Oper.mk d (.call c) ty ps af gg :: rest) a := h
end Go.Proofs.Ytllloedhlcdbjaa.Kit
end
section
namespace Go.Proofs.Ytllloedhlcdbjaa
theorem flagIx_lt' {p : Bool} {n : Int} {i : Nat} (h : flagIx p n = some i) : i = 0 ∨ i = 1 ∨ i = 2 ∨ i = 3 ∨ i = 4 ∨ i = 5 ∨ i = 6 := by
  unfold flagIx at h
  repeat' split at h
  all_goals simp at h <;> omega
theorem choiceIx_spec {p : Bool} {n : Int} {i : Nat} (h : choiceIx p n = some i) : p = true ∧ ((i = 7 ∧ isMouse n = true) ∨ (i = 8 ∧ isCoding n = true)) := by
  unfold choiceIx at h
  repeat' split at h
  all_goals simp at h
  · subst h; exact ⟨by assumption, .inl ⟨rfl, by assumption⟩⟩
  · subst h; exact ⟨by assumption, .inr ⟨rfl, by assumption⟩⟩
theorem setM_cases (m : Md) (p : Bool) (n : Int) (on : Bool) :
    (∃ i, flagIx p n = some i ∧ setM m p n on = (setFlag m i on, true)) ∨ (flagIx p n = none ∧ ∃ i, choiceIx p n = some i ∧ setM m p n on = (setChoice m i n on, true)) ∨ (flagIx p n = none ∧ choiceIx p n = none ∧ setM m p n on = (m, false)) := by
  cases hf : flagIx p n with
  | some i => exact .inl ⟨i, rfl, by simp [setM, hf]⟩
  | none =>
    cases hc : choiceIx p n with
    | some i => exact .inr (.inl ⟨rfl, i, rfl, by simp [setM, hf, hc]⟩)
    | none => exact .inr (.inr ⟨rfl, rfl, by simp [setM, hf, hc]⟩)
theorem mayM_set {m : Md} (p : Bool) (n : Int) (on : Bool) (h : mayM m = true) : mayM (setM m p n on).1 = true := by
  rcases setM_cases m p n on with ⟨i, hf, e⟩ | ⟨hf, i, hc, e⟩ | ⟨_, _, e⟩
  · rw [e]
    rcases flagIx_lt' hf with rfl | rfl | rfl | rfl | rfl | rfl | rfl <;> exact h
  · rw [e]
    simp only [mayM, Bool.and_eq_true, Bool.or_eq_true] at h ⊢
    rcases (choiceIx_spec hc).2 with ⟨rfl, hm⟩ | ⟨rfl, hm⟩
    · refine ⟨?_, h.2⟩
      simp only [setChoice, oneM]
      cases on
      · by_cases hx : m.mouse = n
        · simp [hx]
        · simp only [Bool.false_eq_true, if_false, hx]; simpa using h.1
      · exact .inr hm
    · refine ⟨h.1, ?_, h.2.2⟩
      simp only [setChoice, oneM]
      cases on
      · by_cases hx : m.coding = n
        · simp [hx]
        · simp only [Bool.false_eq_true, if_false, hx]; simpa using h.2.1
      · exact .inr hm
  · rw [e]; exact h
end Go.Proofs.Ytllloedhlcdbjaa
end
section
namespace Go.Proofs.Ytllloedhlcdbjaa
set_option linter.unusedVariables false
set_option linter.unusedSimpArgs false
open Go
def tOn (m : Md) (x : Int) : Bool := decide (getM m true x = 1)
theorem get_choice (m : Md) (x : Int) (i : Nat) (h0 : flagIx true x = none) (h : choiceIx true x = some i) : getM m true x = if (setChoice m i x true) = m then 1 else 2 := by
  unfold getM setM
  rw [h0, h]
  simp
theorem tOn_mouse (m : Md) (x : Int) (h0 : flagIx true x = none) (h : choiceIx true x = some 7) : tOn m x = decide (m.mouse = x) := by
  obtain ⟨a0, a1, a2, a3, a4, a5, a6, a7, a8, a9⟩ := m
  unfold tOn
  rw [get_choice _ x 7 h0 h]
  by_cases e : a7 = x
  · simp [setChoice, oneM, e]
  · have : ¬ x = a7 := fun h => e h.symm
    simp [setChoice, oneM, e, this]
theorem tOn_coding (m : Md) (x : Int) (h0 : flagIx true x = none) (h : choiceIx true x = some 8) : tOn m x = decide (m.coding = x) := by
  obtain ⟨a0, a1, a2, a3, a4, a5, a6, a7, a8, a9⟩ := m
  unfold tOn
  rw [get_choice _ x 8 h0 h]
  by_cases e : a8 = x
  · simp [setChoice, oneM, e]
  · have : ¬ x = a8 := fun h => e h.symm
    simp [setChoice, oneM, e, this]
theorem may_sets {m : Md} (h : mayM m = true) : (m.mouse = 0 ∨ m.mouse = 9 ∨ m.mouse = 1000 ∨ m.mouse = 1002 ∨ m.mouse = 1003) ∧ (m.coding = 0 ∨ m.coding = 1005 ∨ m.coding = 1006 ∨ m.coding = 1015) := by
  simp only [mayM, isMouse, isCoding, Bool.and_eq_true, Bool.or_eq_true, beq_iff_eq] at h
  exact ⟨h.1, h.2.1⟩
end Go.Proofs.Ytllloedhlcdbjaa
end
section
namespace Go.Proofs.Ytllloedhlcdbjaa
set_option linter.unusedVariables false
set_option linter.unusedSimpArgs false
open Go.RowKit Kit Go.Proofs.YtllloedhlcdbjaaW.PrintWords
namespace Kit
theorem Pure.fAny : Pure fAny := fun _ _ _ h => h
theorem facts_mid {L1 L2 : List Fact} {p p' : Fact} (h1 : ∀ q ∈ L1, Pure q) (h2 : ∀ q ∈ L2, Pure q) {k : Nat} (hk : k ≠ L1.length) {v : Value} {w w' : World} (h : Facts (L1 ++ p :: L2) k v w) : Facts (L1 ++ p' :: L2) k v w' := by
  unfold Facts at h ⊢
  rw [List.getD_eq_getElem?_getD] at h ⊢
  by_cases hlt : k < L1.length
  · rw [List.getElem?_append_left hlt] at h ⊢
    have e : L1[k]? = some L1[k] := by simp [hlt]
    rw [e] at h ⊢
    exact h1 _ (List.getElem_mem hlt) _ _ _ h
  · rw [List.getElem?_append_right (by omega)] at h ⊢
    obtain ⟨i, hi⟩ : ∃ i, k - L1.length = i + 1 := ⟨k - L1.length - 1, by omega⟩
    rw [hi, List.getElem?_cons_succ] at h ⊢
    cases e : L2[i]? with
    | none => trivial
    | some q =>
      rw [e] at h
      exact h2 q (List.mem_of_getElem? e) _ _ _ h
theorem facts_at {L1 L2 : List Fact} {p : Fact} {v : Value} {w : World} : Facts (L1 ++ p :: L2) L1.length v w = p v w := by
  unfold Facts
  rw [List.getD_eq_getElem?_getD, List.getElem?_append_right (by omega)]
  simp
theorem new_stored {P : Program} {ops : Array Oper} {o : Oper} {w : World} {A : Act} {W0 : World} {bs : Res} {B iA s : Nat} {L1 L2 : List Fact} {T : TypeId} {Z cs : List Value} {x y : Operand} {vals : Nat → Value} (hM : Mine W0 w bs) (hlt : ∀ q ∈ bs, q.1 < B) (hW : W0.heap.size ≤ B)
    (hv : fVar B T Z (vals iA) w) (hiA : iA = L1.length) (hg : Region.wanted o (yielded ops A.tmps) = true) (ho : o.op = .store T x y) (hx : A.eval x = vals iA) (hy : (A.eval y).cells = cs.toArray)
    (hsz : ∀ w, (sizeOf T).run P w = .ok cs.length w) (hp : PutAt Z 0 cs cs) (h1 : cs.all (·.oneCell') = true) (hp1 : ∀ q ∈ L1, Pure q) (hp2 : ∀ q ∈ L2, Pure q) (hs : ∀ v w, Facts (L1 ++ fVar B T cs :: L2) s v w) :
    StepOk P ops o A w fun v w' => Mine W0 w' bs ∧ Facts (L1 ++ fVar B T cs :: L2) s v w' ∧ ∀ j, j ≠ s → Facts (L1 ++ fVar B T Z :: L2) j (vals j) w → Facts (L1 ++ fVar B T cs :: L2) j (vals j) w' := by
  obtain ⟨b, e, hge, hb⟩ := hv
  have hM2 := hM.take (p := IsCells Z T) hlt hW hge ⟨_, hb, rfl⟩
  have hu : ∀ (l : Res), Upd (l ++ [(b, IsCells Z T)]) b (IsCells Z T) (IsCells cs T) (l ++ [(b, IsCells cs T)]) := by
    intro l
    induction l with
    | nil => exact .here
    | cons x l ih => exact .there ih
  refine st_store (T := T) hM2 hg ho (by rw [hx, e]) hy (hu bs) hsz hp h1 ?_
  intro w' hM3 _ _ _
  have hblk := hM3.at (g := b) (cs := cs) (T := T) (List.mem_append_right _ (.head _))
  refine ⟨hM3.less (List.sublist_append_left _ _), hs _ _, fun j _ hf => ?_⟩
  by_cases hj : j = L1.length
  · subst hj
    rw [facts_at]
    exact ⟨b, by rw [← hiA]; exact e, hge, hblk⟩
  · exact facts_mid hp1 hp2 hj hf
end Kit
end Go.Proofs.Ytllloedhlcdbjaa
end
section
namespace Go.Proofs.Ytllloedhlcdbjaa
set_option linter.unusedVariables false
set_option linter.unusedSimpArgs false
open Go.RowKit Kit Go.Proofs.YtllloedhlcdbjaaW.PrintWords
theorem meas_wrap (len k : Nat) (h : k < len) (hl : len < 4611686018427387904) : len - (intOf (.int .i64 (wrap64 ((k : Int) + 1)))).toNat < len - (intOf (.int .i64 (k : Int))).toNat := by
  have e : wrap64 ((k : Int) + 1) = ((k + 1 : Nat) : Int) := by unfold wrap64; omega
  rw [e]
  show len - (((k + 1 : Nat) : Int)).toNat < len - ((k : Int)).toNat
  rw [Int.toNat_natCast, Int.toNat_natCast]
  omega
attribute [local irreducible] wpList Calls wpQuiet
end Go.Proofs.Ytllloedhlcdbjaa
end
section
namespace Go.Proofs.Ytllloedhlcdbjaa
set_option linter.unusedVariables false
set_option linter.unusedSimpArgs false
open Go.RowKit Kit
theorem meas12 (k : Nat) (h : k < 12) : 12 - (intOf (.int .i64 ((k + 1 : Nat) : Int))).toNat < 12 - (intOf (.int .i64 (k : Int))).toNat := by
  show 12 - (((k + 1 : Nat) : Int)).toNat < 12 - ((k : Int)).toNat
  rw [Int.toNat_natCast, Int.toNat_natCast]
  omega
attribute [local irreducible] wpList Calls wpQuiet
end Go.Proofs.Ytllloedhlcdbjaa
end
