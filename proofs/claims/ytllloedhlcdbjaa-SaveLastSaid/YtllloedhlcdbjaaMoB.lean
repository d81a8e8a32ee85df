/- The walks of layer 6: modes.flag and modes.choice: where a mode's field is. No condition. -/
import Derived.Test.YtllloedhlcdbjaaProg
import Derived.Test.YtllloedhlcdbjaaPMo
import Derived.Test.YtllloedhlcdbjaaKitB
import Derived.Test.YtllloedhlcdbjaaKitP
import Derived.WalkKit
import Derived.WalkSpells
import Derived.WalkLawsBesides
import Derived.Lib.Hide
import Derived.Outline
namespace Go.Proofs.Ytllloedhlcdbjaa
set_option linter.unusedVariables false
set_option linter.unusedSimpArgs false
set_option maxRecDepth 100000
open Go.RowKit Kit

theorem flagIx_says (b : Nat) (n : Int) : ∃ ok, Says [(Value.int .i64 1, ptrAt b (some 0)), (.int .i64 66, ptrAt b (some 1)), (.int .i64 67, ptrAt b (some 2)), (.int .i64 1004, ptrAt b (some 3)), (.int .i64 2004, ptrAt b (some 4))] (.int .i64 n) (.pointer none) (ptrAt b (flagIx true n)) ok := by
  simp only [flagIx, if_true]
  by_cases h1 : n = 1
  · subst h1; exact ⟨_, .hit _ (by simp)⟩
  by_cases h2 : n = 66
  · subst h2; exact ⟨_, .hit _ (by simp)⟩
  by_cases h3 : n = 67
  · subst h3; exact ⟨_, .hit _ (by simp)⟩
  by_cases h4 : n = 1004
  · subst h4; exact ⟨_, .hit _ (by simp)⟩
  by_cases h5 : n = 2004
  · subst h5; exact ⟨_, .hit _ (by simp)⟩
  rw [if_neg h1, if_neg h2, if_neg h3, if_neg h4, if_neg h5]
  exact ⟨_, .miss (by simp [h1, h2, h3, h4, h5, eq_comm])⟩
theorem flagIx_says' (b : Nat) (n : Int) : ∃ ok, Says [(Value.int .i64 2, ptrAt b (some 5)), (.int .i64 20, ptrAt b (some 6))] (.int .i64 n) (.pointer none) (ptrAt b (flagIx false n)) ok := by
  simp only [flagIx, Bool.false_eq_true, if_false]
  by_cases h1 : n = 2
  · subst h1; exact ⟨_, .hit _ (by simp)⟩
  by_cases h2 : n = 20
  · subst h2; exact ⟨_, .hit _ (by simp)⟩
  rw [if_neg h1, if_neg h2]
  exact ⟨_, .miss (by simp [h1, h2, eq_comm])⟩
theorem choiceIx_says (b : Nat) (n : Int) : ∃ ok, Says [(Value.int .i64 9, ptrAt b (some 7)), (.int .i64 1000, ptrAt b (some 7)), (.int .i64 1002, ptrAt b (some 7)), (.int .i64 1003, ptrAt b (some 7)), (.int .i64 1005, ptrAt b (some 8)), (.int .i64 1006, ptrAt b (some 8)), (.int .i64 1015, ptrAt b (some 8))]
    (.int .i64 n) (.pointer none) (ptrAt b (choiceIx true n)) ok := by
  by_cases h1 : n = 9
  · subst h1; exact ⟨_, .hit _ (by simp [choiceIx, isMouse, isCoding])⟩
  by_cases h2 : n = 1000
  · subst h2; exact ⟨_, .hit _ (by simp [choiceIx, isMouse, isCoding])⟩
  by_cases h3 : n = 1002
  · subst h3; exact ⟨_, .hit _ (by simp [choiceIx, isMouse, isCoding])⟩
  by_cases h4 : n = 1003
  · subst h4; exact ⟨_, .hit _ (by simp [choiceIx, isMouse, isCoding])⟩
  by_cases h5 : n = 1005
  · subst h5; exact ⟨_, .hit _ (by simp [choiceIx, isMouse, isCoding])⟩
  by_cases h6 : n = 1006
  · subst h6; exact ⟨_, .hit _ (by simp [choiceIx, isMouse, isCoding])⟩
  by_cases h7 : n = 1015
  · subst h7; exact ⟨_, .hit _ (by simp [choiceIx, isMouse, isCoding])⟩
  have e1 : isMouse n = false := by simp [isMouse, h1, h2, h3, h4]
  have e2 : isCoding n = false := by simp [isCoding, h5, h6, h7]
  have e3 : choiceIx true n = none := by simp [choiceIx, e1, e2]
  rw [e3]
  exact ⟨_, .miss (by simp [h1, h2, h3, h4, h5, h6, h7, eq_comm])⟩

theorem flag_calls (b : Nat) (p : Bool) (n : Int) (w : World) :
    Calls Try.prog 25 #[.pointer (some ⟨b, 0, none⟩), .bool p, .int .i64 n] w fun e w' => e = .returned (ptrAt b (flagIx p n)) ∧ Below w.heap.size w w' := by
  cases p
  · obtain ⟨ok, hs⟩ := flagIx_says' b n
    have HS := Lib.hid hs
    clear hs
    go_enter Try.func25, Try.ntmps25
    go_wp2
    have hok : LitsOk (.int .i64) [(4, Value.int .i64 2, ptrAt b (some 5)), (8, Value.int .i64 20, ptrAt b (some 6))] 0 := ⟨by simp, by simp, by simp [MapKept.IsKey], by simp⟩
    have HOK := Lib.hid hok
    clear hok
    refine wp_region_fixed (by kernel_rfl) (by kernel_rfl) (fun i => [Value.map (some w.heap.size), Value.pointer (some ⟨b, 0, none⟩), Value.pointer (some ⟨b, 0, none⟩), Value.pointer (some ⟨b, 5, none⟩), undef, Value.pointer (some ⟨b, 0, none⟩), Value.pointer (some ⟨b, 0, none⟩), Value.pointer (some ⟨b, 6, none⟩), undef, Value.map (some w.heap.size), Value.int .i64 n, ptrAt b (flagIx false n), ptrAt b (flagIx false n)].getD i undef) (LitMap w.drew [(4, Value.int .i64 2, ptrAt b (some 5)), (8, Value.int .i64 20, ptrAt b (some 6))] 0) LitMap.start ?_
    intro A hA
    simp [fillL, dstOf, List.range, List.range.loop, Act.put] at hA
    subst hA
    refine ⟨?steps, ?fin⟩
    case steps =>
      refine ⟨?_, ?_, ?_, ?_, ?_, ?_, ?_, ?_, ?_, ?_, ?_, ?_, ?_, trivial⟩
      all_goals intro js w1 hni hdep hC
      case refine_1 => exact hC.step_make HOK.out rfl rfl hni
      case refine_12 => exact hC.step_lookup HOK.out Try.underlying71 Try.underlying3 (z := .pointer none) (fun w => by kernel_rfl) rfl rfl rfl rfl (show MapKept.IsKey (.int .i64) (.int .i64 n) from rfl) (hdep 0 (by kernel_rfl)) (by simp; exact ⟨hdep 4 (by kernel_rfl), hdep 8 (by kernel_rfl)⟩) (by decide) (by simp) HS.out
      all_goals first
        | exact hC.step_insert HOK.out Try.underlying71 Try.underlying3 rfl rfl rfl rfl rfl (hdep 0 (by kernel_rfl)) hni (by first | exact .head _ | exact .tail _ (.head _))
        | exact hC.step_light rfl (by simp only [execOp]; first | (go_simp; done) | (go_simp; rfl)) (by decide) (by simp)
    case fin =>
      intro js w1 hall hC
      obtain ⟨es, c, rfl, hp⟩ := hC.whole (hall 0 (by decide)) (by intro l hl; refine hall l.1 ?_; simp at hl; rcases hl with rfl | rfl <;> simp)
      go_wp2
      go_ret
      exact ⟨rfl, (Below.refl _ _).drew.alloc (Nat.le_refl _) _⟩
  · obtain ⟨ok, hs⟩ := flagIx_says b n
    have HS := Lib.hid hs
    clear hs
    go_enter Try.func25, Try.ntmps25
    go_wp2
    have hok : LitsOk (.int .i64) [(4, Value.int .i64 1, ptrAt b (some 0)), (8, Value.int .i64 66, ptrAt b (some 1)), (12, Value.int .i64 67, ptrAt b (some 2)), (16, Value.int .i64 1004, ptrAt b (some 3)), (20, Value.int .i64 2004, ptrAt b (some 4))] 0 := ⟨by simp, by simp, by simp [MapKept.IsKey], by simp⟩
    have HOK := Lib.hid hok
    clear hok
    refine wp_region_fixed (by kernel_rfl) (by kernel_rfl) (fun i => [Value.map (some w.heap.size), Value.pointer (some ⟨b, 0, none⟩), Value.pointer (some ⟨b, 0, none⟩), Value.pointer (some ⟨b, 0, none⟩), undef, Value.pointer (some ⟨b, 0, none⟩), Value.pointer (some ⟨b, 0, none⟩), Value.pointer (some ⟨b, 1, none⟩), undef, Value.pointer (some ⟨b, 0, none⟩), Value.pointer (some ⟨b, 0, none⟩), Value.pointer (some ⟨b, 2, none⟩), undef, Value.pointer (some ⟨b, 0, none⟩), Value.pointer (some ⟨b, 0, none⟩), Value.pointer (some ⟨b, 3, none⟩), undef, Value.pointer (some ⟨b, 0, none⟩), Value.pointer (some ⟨b, 0, none⟩), Value.pointer (some ⟨b, 4, none⟩), undef, Value.map (some w.heap.size), Value.int .i64 n, ptrAt b (flagIx true n), ptrAt b (flagIx true n)].getD i undef) (LitMap w.drew [(4, Value.int .i64 1, ptrAt b (some 0)), (8, Value.int .i64 66, ptrAt b (some 1)), (12, Value.int .i64 67, ptrAt b (some 2)), (16, Value.int .i64 1004, ptrAt b (some 3)), (20, Value.int .i64 2004, ptrAt b (some 4))] 0) LitMap.start ?_
    intro A hA
    simp [fillL, dstOf, List.range, List.range.loop, Act.put] at hA
    subst hA
    refine ⟨?steps, ?fin⟩
    case steps =>
      refine ⟨?_, ?_, ?_, ?_, ?_, ?_, ?_, ?_, ?_, ?_, ?_, ?_, ?_, ?_, ?_, ?_, ?_, ?_, ?_, ?_, ?_, ?_, ?_, ?_, ?_, trivial⟩
      all_goals intro js w1 hni hdep hC
      case refine_1 => exact hC.step_make HOK.out rfl rfl hni
      case refine_24 => exact hC.step_lookup HOK.out Try.underlying71 Try.underlying3 (z := .pointer none) (fun w => by kernel_rfl) rfl rfl rfl rfl (show MapKept.IsKey (.int .i64) (.int .i64 n) from rfl) (hdep 0 (by kernel_rfl)) (by simp; exact ⟨hdep 4 (by kernel_rfl), hdep 8 (by kernel_rfl), hdep 12 (by kernel_rfl), hdep 16 (by kernel_rfl), hdep 20 (by kernel_rfl)⟩) (by decide) (by simp) HS.out
      all_goals first
        | exact hC.step_insert HOK.out Try.underlying71 Try.underlying3 rfl rfl rfl rfl rfl (hdep 0 (by kernel_rfl)) hni (by first | exact .head _ | exact .tail _ (.head _) | exact .tail _ (.tail _ (.head _)) | exact .tail _ (.tail _ (.tail _ (.head _))) | exact .tail _ (.tail _ (.tail _ (.tail _ (.head _)))))
        | exact hC.step_light rfl (by simp only [execOp]; first | (go_simp; done) | (go_simp; rfl)) (by decide) (by simp)
    case fin =>
      intro js w1 hall hC
      obtain ⟨es, c, rfl, hp⟩ := hC.whole (hall 0 (by decide)) (by intro l hl; refine hall l.1 ?_; simp at hl; rcases hl with rfl | rfl | rfl | rfl | rfl <;> simp)
      go_wp2
      go_ret
      exact ⟨rfl, (Below.refl _ _).drew.alloc (Nat.le_refl _) _⟩

theorem choice_calls (b : Nat) (p : Bool) (n : Int) (w : World) :
    Calls Try.prog 26 #[.pointer (some ⟨b, 0, none⟩), .bool p, .int .i64 n] w fun e w' => e = .returned (ptrAt b (choiceIx p n)) ∧ Below w.heap.size w w' := by
  cases p
  · go_enter Try.func26, Try.ntmps26
    go_wp2
    go_ret
    exact ⟨rfl, Below.refl _ _⟩
  · obtain ⟨ok, hs⟩ := choiceIx_says b n
    have HS := Lib.hid hs
    clear hs
    go_enter Try.func26, Try.ntmps26
    go_wp2
    have hok : LitsOk (.int .i64) [(4, Value.int .i64 9, ptrAt b (some 7)), (8, Value.int .i64 1000, ptrAt b (some 7)), (12, Value.int .i64 1002, ptrAt b (some 7)), (16, Value.int .i64 1003, ptrAt b (some 7)), (20, Value.int .i64 1005, ptrAt b (some 8)), (24, Value.int .i64 1006, ptrAt b (some 8)), (28, Value.int .i64 1015, ptrAt b (some 8))] 0 := ⟨by simp, by simp, by simp [MapKept.IsKey], by simp⟩
    have HOK := Lib.hid hok
    clear hok
    refine wp_region_fixed (by kernel_rfl) (by kernel_rfl) (fun i => [Value.map (some w.heap.size), Value.pointer (some ⟨b, 0, none⟩), Value.pointer (some ⟨b, 0, none⟩), Value.pointer (some ⟨b, 7, none⟩), undef, Value.pointer (some ⟨b, 0, none⟩), Value.pointer (some ⟨b, 0, none⟩), Value.pointer (some ⟨b, 7, none⟩), undef, Value.pointer (some ⟨b, 0, none⟩), Value.pointer (some ⟨b, 0, none⟩), Value.pointer (some ⟨b, 7, none⟩), undef, Value.pointer (some ⟨b, 0, none⟩), Value.pointer (some ⟨b, 0, none⟩), Value.pointer (some ⟨b, 7, none⟩), undef, Value.pointer (some ⟨b, 0, none⟩), Value.pointer (some ⟨b, 0, none⟩), Value.pointer (some ⟨b, 8, none⟩), undef, Value.pointer (some ⟨b, 0, none⟩), Value.pointer (some ⟨b, 0, none⟩), Value.pointer (some ⟨b, 8, none⟩), undef, Value.pointer (some ⟨b, 0, none⟩), Value.pointer (some ⟨b, 0, none⟩), Value.pointer (some ⟨b, 8, none⟩), undef, Value.map (some w.heap.size), Value.int .i64 n, ptrAt b (choiceIx true n), ptrAt b (choiceIx true n)].getD i undef) (LitMap w.drew [(4, Value.int .i64 9, ptrAt b (some 7)), (8, Value.int .i64 1000, ptrAt b (some 7)), (12, Value.int .i64 1002, ptrAt b (some 7)), (16, Value.int .i64 1003, ptrAt b (some 7)), (20, Value.int .i64 1005, ptrAt b (some 8)), (24, Value.int .i64 1006, ptrAt b (some 8)), (28, Value.int .i64 1015, ptrAt b (some 8))] 0) LitMap.start ?_
    intro A hA
    simp [fillL, dstOf, List.range, List.range.loop, Act.put] at hA
    subst hA
    refine ⟨?steps, ?fin⟩
    case steps =>
      refine ⟨?_, ?_, ?_, ?_, ?_, ?_, ?_, ?_, ?_, ?_, ?_, ?_, ?_, ?_, ?_, ?_, ?_, ?_, ?_, ?_, ?_, ?_, ?_, ?_, ?_, ?_, ?_, ?_, ?_, ?_, ?_, ?_, ?_, trivial⟩
      all_goals intro js w1 hni hdep hC
      case refine_1 => exact hC.step_make HOK.out rfl rfl hni
      case refine_32 => exact hC.step_lookup HOK.out Try.underlying72 Try.underlying3 (z := .pointer none) (fun w => by kernel_rfl) rfl rfl rfl rfl (show MapKept.IsKey (.int .i64) (.int .i64 n) from rfl) (hdep 0 (by kernel_rfl)) (by simp; exact ⟨hdep 4 (by kernel_rfl), hdep 8 (by kernel_rfl), hdep 12 (by kernel_rfl), hdep 16 (by kernel_rfl), hdep 20 (by kernel_rfl), hdep 24 (by kernel_rfl), hdep 28 (by kernel_rfl)⟩) (by decide) (by simp) HS.out
      all_goals first
        | exact hC.step_insert HOK.out Try.underlying72 Try.underlying3 rfl rfl rfl rfl rfl (hdep 0 (by kernel_rfl)) hni (by first | exact .head _ | exact .tail _ (.head _) | exact .tail _ (.tail _ (.head _)) | exact .tail _ (.tail _ (.tail _ (.head _))) | exact .tail _ (.tail _ (.tail _ (.tail _ (.head _)))) | exact .tail _ (.tail _ (.tail _ (.tail _ (.tail _ (.head _))))) | exact .tail _ (.tail _ (.tail _ (.tail _ (.tail _ (.tail _ (.head _)))))))
        | exact hC.step_light rfl (by simp only [execOp]; first | (go_simp; done) | (go_simp; rfl)) (by decide) (by simp)
    case fin =>
      intro js w1 hall hC
      obtain ⟨es, c, rfl, hp⟩ := hC.whole (hall 0 (by decide)) (by intro l hl; refine hall l.1 ?_; simp at hl; rcases hl with rfl | rfl | rfl | rfl | rfl | rfl | rfl <;> simp)
      go_wp2
      go_ret
      exact ⟨rfl, (Below.refl _ _).drew.alloc (Nat.le_refl _) _⟩

end Go.Proofs.Ytllloedhlcdbjaa
