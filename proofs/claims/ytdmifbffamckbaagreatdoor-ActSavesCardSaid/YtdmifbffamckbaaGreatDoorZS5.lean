/- S: texts run together by shake.py: AcN Gclavierref08a AcO AcQ AcR AcZ AcT KitSq AcU SvD AdA AcV AcW AcX PMoL AdB AcY AdC. -/
import Derived.ArgAppend
import Derived.Below
import Derived.BigFrameIn
import Derived.BigQuiet
import Derived.ChangeKeysEq
import Derived.Deep.AppendLies
import Derived.Deep.CutBlock
import Derived.Deep.DeepCutAuto
import Derived.Deep.Draws
import Derived.Deep.LoopGhost
import Derived.Deep.OwnRows
import Derived.Deep.Quiet
import Derived.Deep.QuietTactic
import Derived.Deep.RegionHeld3
import Derived.DeepKeys3
import Derived.Ground.GgzProg
import Derived.Ground.Names2Prog
import Derived.Ground.SlgnProg
import Derived.KernelRfl
import Derived.Laws.AppendOwn
import Derived.Laws.AppendOwnNone
import Derived.Laws.BitsLemmas
import Derived.Laws.BytesArg
import Derived.Laws.Concat
import Derived.Laws.CopyRow
import Derived.Laws.IdiomCopy
import Derived.Laws.IdiomStrings
import Derived.Laws.MakeOwn
import Derived.Laws.OwnMore
import Derived.Laws.Rows
import Derived.Laws.Slices
import Derived.Laws.StructEq
import Derived.Laws.Tables
import Derived.Lib.AppendIntMem
import Derived.Lib.AppendStr
import Derived.Lib.ConvBytes
import Derived.Lib.Hide
import Derived.Lib.ItoaLen
import Derived.Lib.ItoaNum
import Derived.Lib.LaidTab
import Derived.Lib.SlKeysI
import Derived.LoopIn
import Derived.LoopNIn
import Derived.MapKept
import Derived.Maps.AppendAt
import Derived.Maps.Own
import Derived.Orders
import Derived.OrdersHeld
import Derived.OrdersIn
import Derived.Outline
import Derived.OwnWalk
import Derived.OwnWalkIn
import Derived.RangeFuncBound
import Derived.RangeFuncBox
import Derived.RangeFuncCalls
import Derived.RangeFuncLeaves
import Derived.RangeFuncNested
import Derived.RangeFuncWrites
import Derived.RowKit
import Derived.RowKit3
import Derived.Shelf.Abstract
import Derived.Shelf.LaysM
import Derived.Shelf.RegionOpen
import Derived.Shelf.SlIterI.Nil
import Derived.Shelf.Slices.Clone
import Derived.Shelf.Slices.Empties2
import Derived.Shelf.Slices.Equal
import Derived.Shelf.Slices.In.SortNone
import Derived.Shelf.Slices.SearchI
import Derived.Shelf.Slices.Turned
import Derived.Shelf.SlicesE.Clone
import Derived.Shelf.Small.Bits
import Derived.Shelf.Small.Strs
import Derived.Shelf.Small.Utf8
import Derived.Shelf.Small.Wraps
import Derived.Shelf.Sort.Plain
import Derived.Shelf.SortM.Plain
import Derived.Shelf.SortM.SortNone
import Derived.Shelf.Strconv.Itoa0
import Derived.Shelf.Strconv.Itoa1
import Derived.Shelf.Strconv.Itoa2
import Derived.Shelf.Strconv.Itoa3
import Derived.Shelf.Strings.Builder1
import Derived.Shelf.Strings.Builder2
import Derived.Shelf.Strings.Builder2Cap
import Derived.Shelf.Strings.BuilderCap
import Derived.Shelf.Strings.BuilderF
import Derived.Shelf.Strings.BuilderK
import Derived.Shelf.Strings.OnBuilder
import Derived.Shelf.Strings.Runes
import Derived.Shelf.Strings.Search1
import Derived.Shelf.Strings.Search2
import Derived.Shelf.Strings.Search3
import Derived.Shelf.Strings.Shaped
import Derived.Shelf.Unicode.Decode
import Derived.Shelf.Unicode.DecodeAny
import Derived.Shelf.Unicode.DecodeSlow
import Derived.Still
import Derived.Tactics
import Derived.TacticsIn
import Derived.TacticsInMore
import Derived.Test.YtdmifbffamckbaaGreatDoorProg
import Derived.WalkKit
import Derived.WalkLawsBesides
import Derived.WalkSpells
import Derived.WideLaws
import Derived.Test.YtdmifbffamckbaaGreatDoorZS1
import Derived.Test.YtdmifbffamckbaaGreatDoorZS2
import Derived.Test.YtdmifbffamckbaaGreatDoorZS3
import Derived.Test.YtdmifbffamckbaaGreatDoorZS4
section
namespace Go.Proofs.YtdmifbffamckbaaGreatDoor
set_option linter.unusedVariables false
set_option linter.unusedSimpArgs false
open Go.RowKit Kit Go.Proofs.YtdmifbffamckbaaGreatDoorW.PrintWords
theorem twelve {l : List Int} (h : l.length = 12) : ∃ s0 s1 s2 s3 s4 s5 s6 s7 s8 s9 s10 s11, l = [s0, s1, s2, s3, s4, s5, s6, s7, s8, s9, s10, s11] := by
  match l, h with
  | [s0, s1, s2, s3, s4, s5, s6, s7, s8, s9, s10, s11], _ => exact ⟨s0, s1, s2, s3, s4, s5, s6, s7, s8, s9, s10, s11, rfl⟩
attribute [local irreducible] wpList Calls wpQuiet
set_option maxRecDepth 100000 in
set_option maxHeartbeats 8000000 in
theorem made_explicit (m : Md) (s0 s1 s2 s3 s4 s5 s6 s7 s8 s9 s10 s11 x : Int) (p : Option Addr) (n c : Nat) (w : World) : Calls Tryz.prog 13 #[.agg #[.bool m.cursor, .bool m.keypad, .bool m.back, .bool m.focus, .bool m.paste, .bool m.lock, .bool m.line, .int .i64 m.mouse, .int .i64 m.coding, .int .i64 m.other, .int .u8 s0, .int .u8 s1, .int .u8 s2, .int .u8 s3, .int .u8 s4, .int .u8 s5, .int .u8 s6, .int .u8 s7, .int .u8 s8, .int .u8 s9, .int .u8 s10, .int .u8 s11, .int .i64 x, .slice p n c]] w fun e w' => e = .returned (.agg #[.bool m.cursor, .bool m.keypad, .bool m.back, .bool m.focus, .bool m.paste, .bool m.lock, .bool m.line, .int .i64 m.mouse, .int .i64 m.coding, .int .i64 m.other, .int .u8 s0, .int .u8 s1, .int .u8 s2, .int .u8 s3, .int .u8 s4, .int .u8 s5, .int .u8 s6, .int .u8 s7, .int .u8 s8, .int .u8 s9, .int .u8 s10, .int .u8 s11, .int .i64 x, .slice p n c]) ∧ Below w.heap.size w w' := by
  have HO := Mine.start w
  go_enter Tryz.func13, Tryz.ntmps13
  go_wp2_with (first
    | ((with_reducible refine gateAt (N := 1) rfl ?_); refine own_boxF (T := 30) (cs := [.bool m.cursor, .bool m.keypad, .bool m.back, .bool m.focus, .bool m.paste, .bool m.lock, .bool m.line, .int .i64 m.mouse, .int .i64 m.coding, .int .i64 m.other, .int .u8 s0, .int .u8 s1, .int .u8 s2, .int .u8 s3, .int .u8 s4, .int .u8 s5, .int .u8 s6, .int .u8 s7, .int .u8 s8, .int .u8 s9, .int .u8 s10, .int .u8 s11, .int .i64 x, .slice p n c]) HO rfl rfl rfl ?_; clear HO; intro g1 wN hgg1 HO; (try simp only [Act.put, List.setIfInBounds_toArray, List.set_cons_zero, List.set_cons_succ]))
    | (first
      | ((with_reducible refine gate ?_); (first
      | ((with_reducible refine gateAt (N := 2) rfl ?_); refine own_allocF (T := 44) HO rfl rfl Tryz.zeroValue44 rfl ?_; clear HO; intro gR wN hggR HO; (try simp only [Act.put, List.setIfInBounds_toArray, List.set_cons_zero, List.set_cons_succ]))
      | ((refine own_load (T := 23) HO rfl rfl rfl (by first | exact .head _ | exact .tail _ (.head _) | exact .tail _ (.tail _ (.head _))) Tryz.isAgg23 Tryz.sizeOf23 (by repeat constructor) ?_); (try simp only [Act.put, List.setIfInBounds_toArray, List.set_cons_zero, List.set_cons_succ]))
      | ((refine own_load (T := 25) HO rfl rfl rfl (by first | exact .head _ | exact .tail _ (.head _) | exact .tail _ (.tail _ (.head _))) Tryz.isAgg25 Tryz.sizeOf25 (by repeat constructor) ?_); (try simp only [Act.put, List.setIfInBounds_toArray, List.set_cons_zero, List.set_cons_succ]))
      | ((refine own_load (T := 44) HO rfl rfl rfl (by first | exact .head _ | exact .tail _ (.head _) | exact .tail _ (.tail _ (.head _))) Tryz.isAgg44 Tryz.sizeOf44 (by repeat constructor) ?_); (try simp only [Act.put, List.setIfInBounds_toArray, List.set_cons_zero, List.set_cons_succ]))
      | ((refine own_load1 (T := 3) HO rfl rfl rfl (by first | exact .head _ | exact .tail _ (.head _) | exact .tail _ (.tail _ (.head _))) Tryz.isAgg3 rfl ?_); (try simp only [Act.put, List.setIfInBounds_toArray, List.set_cons_zero, List.set_cons_succ]))
      | ((refine own_load1 (T := 26) HO rfl rfl rfl (by first | exact .head _ | exact .tail _ (.head _) | exact .tail _ (.tail _ (.head _))) Tryz.isAgg26 rfl ?_); (try simp only [Act.put, List.setIfInBounds_toArray, List.set_cons_zero, List.set_cons_succ]))
      | ((refine own_store1 (T := 3) HO rfl rfl rfl (by first | exact .const | exact .tmp rfl | exact .func) (by rfl) (by first | exact .here | exact .there (.here) | exact .there (.there (.here))) Tryz.sizeOf3 (by repeat constructor) (by rfl) ?_); clear HO; intro wN HO; (try simp only [Act.put, List.setIfInBounds_toArray, List.set_cons_zero, List.set_cons_succ]))
      | ((refine own_store1 (T := 26) HO rfl rfl rfl (by first | exact .const | exact .tmp rfl | exact .func) (by rfl) (by first | exact .here | exact .there (.here) | exact .there (.there (.here))) Tryz.sizeOf26 (by repeat constructor) (by rfl) ?_); clear HO; intro wN HO; (try simp only [Act.put, List.setIfInBounds_toArray, List.set_cons_zero, List.set_cons_succ]))
      | ((refine own_store (T := 23) HO rfl rfl rfl rfl (by first | exact .here | exact .there (.here) | exact .there (.there (.here))) Tryz.sizeOf23 (by repeat constructor) rfl ?_); clear HO; intro wN HO; (try simp only [Act.put, List.setIfInBounds_toArray, List.set_cons_zero, List.set_cons_succ]))
      | ((refine own_store (T := 25) HO rfl rfl rfl rfl (by first | exact .here | exact .there (.here) | exact .there (.there (.here))) Tryz.sizeOf25 (by repeat constructor) rfl ?_); clear HO; intro wN HO; (try simp only [Act.put, List.setIfInBounds_toArray, List.set_cons_zero, List.set_cons_succ]))
      | ((refine own_store (T := 44) HO rfl rfl rfl rfl (by first | exact .here | exact .there (.here) | exact .there (.there (.here))) Tryz.sizeOf44 (by repeat constructor) rfl ?_); clear HO; intro wN HO; (try simp only [Act.put, List.setIfInBounds_toArray, List.set_cons_zero, List.set_cons_succ]))))))
  refine bodyPost_ret (own_results1 HO Tryz.results13 rfl (.head _) Tryz.isAgg44 Tryz.sizeOf44 (by repeat constructor)) rfl ⟨rfl, HO.below⟩
theorem made_calls (m : Md) (s : List Int) (hs : s.length = 12) (x : Int) (p : Option Addr) (n c : Nat) (w : World) : Calls Tryz.prog 13 #[.agg (stS m s x (.slice p n c)).toArray] w fun e w' => e = .returned (.agg (stS m s x (.slice p n c)).toArray) ∧ Below w.heap.size w w' := by
  obtain ⟨s0, s1, s2, s3, s4, s5, s6, s7, s8, s9, s10, s11, rfl⟩ := twelve hs
  exact made_explicit m s0 s1 s2 s3 s4 s5 s6 s7 s8 s9 s10 s11 x p n c w
end Go.Proofs.YtdmifbffamckbaaGreatDoor
end
section
namespace Go.Proofs.YtdmifbffamckbaaGreatDoor.G
open Go.RowKit Go.Proofs.YtdmifbffamckbaaGreatDoorW.PrintWords Go.Proofs.YtdmifbffamckbaaGreatDoorW.PrintLast Go.Proofs.YtdmifbffamckbaaGreatDoorW.PrintMore
attribute [local go_sem] max2_int min2_int max_two min_two max_three min_three max_four min_four
set_option linter.unusedVariables false
set_option linter.unusedSimpArgs false
def clavierref08_Flags.f (a0 : Int) : Option (Int) := some ((mx a0 0) % 32)
set_option maxHeartbeats 8000000 in
set_option maxRecDepth 100000 in
theorem clavierref08_Flags.calls (a0 : Int) (r : Int) (w : World) (h : clavierref08_Flags.f a0 = some r) :
    Calls Tryz.prog 23 #[.int .i64 a0] w fun e w' => e = .returned (.int .i64 r) ∧ Below w.heap.size w w' := by
  have HB := Aside0.mk (Below.refl w.heap.size w)
  have H : (some ((mx a0 0) % 32)) = some r := h
  clear h
  obtain ⟨ji2, hji2⟩ : ∃ j_ : Int, (mx a0 0) = j_ := ⟨_, rfl⟩
  replace H : (some ((ji2) % 32)) = some r := by first | (rw [hji2] at H; exact H) | (simp only [hji2] at H ⊢; exact H)
  (try (have hji2l : 0 ≤ ji2 := by (rw [← hji2]; unfold mx; (repeat' split) <;> omega)))
  (try (have hji2m : 0 ≤ ji2 := by omega))
  have hji2_ : (if a0 < 0 then 0 else a0) = ji2 := hji2
  obtain rfl := Option.some.inj H
  go_enter Tryz.func23, Tryz.ntmps23
  go_wp2
  go_ret
  exact ⟨by first | rfl | (simp [errW_none, errW_some] <;> rfl) | (simp only [← hji2]; first | rfl | (simp [errW_none, errW_some] <;> rfl)) | (simp [*, errW_none, errW_some] <;> rfl), by repeat (first | (with_reducible first | exact HB.out | apply below_alloc | apply pw_below_drewN | apply below_drew1) | exact HB.out)⟩
end Go.Proofs.YtdmifbffamckbaaGreatDoor.G
end
section
namespace Go.Proofs.YtdmifbffamckbaaGreatDoor
set_option linter.unusedVariables false
set_option linter.unusedSimpArgs false
open Go.RowKit Kit Go.Proofs.YtdmifbffamckbaaGreatDoorW.PrintWords
def flagsI (n : Int) : Int := (mx n 0) % 32
def tameL (l : List Int) : List Int := (l.take 8).map flagsI
theorem rd_intA (l : List Int) (i : Nat) (h : i < l.length) : rd l (i : Int) = l.getD i 0 := by
  simp [rd, List.getD, h]
theorem flags08_calls (n : Int) (W : World) : Calls Tryz.prog 23 #[.int .i64 n] W fun e w' => e = .returned (.int .i64 (flagsI n)) ∧ Below W.heap.size W w' := G.clavierref08_Flags.calls n _ W rfl
attribute [local irreducible] wpList Calls wpQuiet
set_option maxRecDepth 100000 in
set_option maxHeartbeats 8000000 in
theorem tame_explicit (m : Md) (s0 s1 s2 s3 s4 s5 s6 s7 s8 s9 s10 s11 x : Int) (A : Option Addr) (c : Nat) (l : List Int) (hc : l.length ≤ c) (w : World) (hr : Kd.C (Kd.int .i64) w A l.length l) : Calls Tryz.prog 11 #[.agg #[.bool m.cursor, .bool m.keypad, .bool m.back, .bool m.focus, .bool m.paste, .bool m.lock, .bool m.line, .int .i64 m.mouse, .int .i64 m.coding, .int .i64 m.other, .int .u8 s0, .int .u8 s1, .int .u8 s2, .int .u8 s3, .int .u8 s4, .int .u8 s5, .int .u8 s6, .int .u8 s7, .int .u8 s8, .int .u8 s9, .int .u8 s10, .int .u8 s11, .int .i64 x, .slice A l.length c]] w fun e w' => ∃ p n c2 R, e = .returned (.agg #[.bool m.cursor, .bool m.keypad, .bool m.back, .bool m.focus, .bool m.paste, .bool m.lock, .bool m.line, .int .i64 m.mouse, .int .i64 m.coding, .int .i64 m.other, .int .u8 s0, .int .u8 s1, .int .u8 s2, .int .u8 s3, .int .u8 s4, .int .u8 s5, .int .u8 s6, .int .u8 s7, .int .u8 s8, .int .u8 s9, .int .u8 s10, .int .u8 s11, .int .i64 (flagsI x), .slice p n c2]) ∧ GRow 3 (.slice p n c2) ((tameL l).map (Value.int .i64)) R ∧ Mine w w' R := by
  have HO := Mine.start w
  have HC := Lib.hid hr
  clear hr
  go_enter Tryz.func11, Tryz.ntmps11
  go_wp2_with (first
    | ((with_reducible refine gateAt (N := 1) rfl ?_); refine own_boxF (T := 30) (cs := [.bool m.cursor, .bool m.keypad, .bool m.back, .bool m.focus, .bool m.paste, .bool m.lock, .bool m.line, .int .i64 m.mouse, .int .i64 m.coding, .int .i64 m.other, .int .u8 s0, .int .u8 s1, .int .u8 s2, .int .u8 s3, .int .u8 s4, .int .u8 s5, .int .u8 s6, .int .u8 s7, .int .u8 s8, .int .u8 s9, .int .u8 s10, .int .u8 s11, .int .i64 x, .slice A l.length c]) HO rfl rfl rfl ?_; clear HO; intro g1 wN hgg1 HO; (try simp only [Act.put, List.setIfInBounds_toArray, List.set_cons_zero, List.set_cons_succ]))
    | (first
      | ((with_reducible refine gate ?_); (first
      | ((with_reducible refine gateAt (N := 2) rfl ?_); refine own_allocF (T := 30) HO rfl rfl Tryz.zeroValue30 rfl ?_; clear HO; intro g2 wN hgg2 HO; (try simp only [Act.put, List.setIfInBounds_toArray, List.set_cons_zero, List.set_cons_succ]))))))
  go_loopw [3, 4] (fun a i wr => ∃ k : Nat, k ≤ l.length ∧ k ≤ 8 ∧ i = .int .i64 k ∧ ∃ p q cc R, a = .slice p q cc ∧ GRow 3 (.slice p q cc) (((l.take k).map flagsI).map (Value.int .i64)) R ∧ Mine w wr ((g2, IsCells stZero 30) :: (g1, IsCells [.bool m.cursor, .bool m.keypad, .bool m.back, .bool m.focus, .bool m.paste, .bool m.lock, .bool m.line, .int .i64 m.mouse, .int .i64 m.coding, .int .i64 m.other, .int .u8 s0, .int .u8 s1, .int .u8 s2, .int .u8 s3, .int .u8 s4, .int .u8 s5, .int .u8 s6, .int .u8 s7, .int .u8 s8, .int .u8 s9, .int .u8 s10, .int .u8 s11, .int .i64 x, .slice A l.length c] 30) :: R)) (fun _ i _ => 8 - (intOf i).toNat)
  case atStart => exact ⟨0, Nat.zero_le _, Nat.zero_le _, rfl, none, 0, 0, [], rfl, by simpa using GRow.nil _, HO⟩
  case round =>
    obtain ⟨k, hk, hk8, rfl, p, q, cc, R, rfl, hG, HO2⟩ := hrel
    clear HO
    have HO := HO2
    clear HO2
    by_cases hlt : k < l.length
    · by_cases hl8 : k < 8
      · obtain ⟨ad, e, hcell⟩ := Kd.at_int HC.out (k : Int) (by omega) (by omega)
        subst e
        rw [Int.toNat_natCast, rd_intA l k hlt] at hcell
        obtain ⟨z, hz⟩ : ∃ z, l.getD k 0 = z := ⟨_, rfl⟩
        rw [hz] at hcell
        have hcw := (HO.below.cell (World.block_lt_of_cell? w _ hcell)).trans hcell
        have d1 : decide ((k : Int) < (l.length : Int)) = true := decide_eq_true (by omega)
        have d2 : decide ((k : Int) < 8) = true := decide_eq_true (by omega)
        have d3 : decide (k < l.length) = true := decide_eq_true hlt
        have hki : (k : Int) < (l.length : Int) := by omega
        have hst : (l.take (k + 1)).map flagsI = (l.take k).map flagsI ++ [flagsI z] := by
          rw [List.take_add_one, List.map_append]
          congr 1
          have : l[k]? = some z := by rw [← hz]; simp [List.getD, hlt]
          rw [this]
          rfl
        have HST := Lib.hid hst
        have HGR := Lib.hid hG
        have H65 : Hid ((((l.take k).map flagsI).map (Value.int .i64)).length + 1 ≤ maxLen ∧ ((((l.take k).map flagsI).map (Value.int .i64)).length + 1) * 8 ≤ 140737488355328) := Lib.hid (by rw [List.length_map, List.length_map, List.length_take]; unfold maxLen; omega)
        have HLT := Lib.hid hlt
        have HL8 := Lib.hid hl8
        clear hst hG hz hk hk8 hc hcell
        go_wp2_with (first
          | (go_at_call 23; refine (flags08_calls z _).mono ?_; rintro eN wN ⟨rfl, hbN⟩; have HON := HO.call hbN; clear HO hbN; have HO := HON; clear HON)
          | (first
      | ((with_reducible refine gate ?_); (first
      | ((with_reducible refine gateAt (N := 25) rfl ?_); refine own_litF HO rfl (n := 1) (cs := [.int .i64 (flagsI z)]) (T := 3) (by first | (go_simp; done) | (go_simp; rfl)) ?_; clear HO; intro gE wN hggE HO; (try simp only [Act.put, List.setIfInBounds_toArray, List.set_cons_zero, List.set_cons_succ]))
      | ((with_reducible refine gateAt (N := 26) rfl ?_); refine own_append1 (T := 3) (t := 26) (z := .int .i64 0) (bytes := 8) HO HGR.out (by repeat (first | exact Tl.here | exact Tl.app | apply Tl.cons)) rfl rfl (.tmp rfl) (.tmp rfl) (by first | exact .head _ | exact .tail _ (.head _) | exact .tail _ (.tail _ (.head _)) | exact .tail _ (.tail _ (.tail _ (.head _))) | exact .tail _ (.tail _ (.tail _ (.tail _ (.head _)))) | exact .tail _ (.tail _ (.tail _ (.tail _ (.tail _ (.head _))))) | exact .tail _ (.tail _ (.tail _ (.tail _ (.tail _ (.tail _ (.head _)))))) | exact .tail _ (.tail _ (.tail _ (.tail _ (.tail _ (.tail _ (.tail _ (.head _)))))))) Tryz.underlying26 (by kernel_rfl) (by rfl) (by rfl) H65.out ?_; clear HO; intro p2 n2 c2 wN R2 hR2 HO; (simp only [List.nil_append, List.cons_append] at HO); (try simp only [Act.put, List.setIfInBounds_toArray, List.set_cons_zero, List.set_cons_succ]))
      | ((refine own_load1 (T := 26) HO rfl rfl rfl (by first | exact .head _ | exact .tail _ (.head _)) Tryz.isAgg26 rfl ?_); (try simp only [Act.put, List.setIfInBounds_toArray, List.set_cons_zero, List.set_cons_succ]))
      | ((refine own_store1 (T := 26) HO rfl rfl rfl (by first | exact .const | exact .tmp rfl | exact .func) (by rfl) (by first | exact .here | exact .there (.here)) Tryz.sizeOf26 (by repeat constructor) (by rfl) ?_); clear HO; intro wN HO; (try simp only [Act.put, List.setIfInBounds_toArray, List.set_cons_zero, List.set_cons_succ]))))))
        go_roundw
        case rel => exact ⟨k + 1, HLT.out, HL8.out, by first | rfl | (refine congrArg (Value.int .i64) ?_; have := HL8.out; unfold wrap64; omega), p2, n2, c2, R2, rfl, by rw [HST.out, List.map_append]; exact hR2, HO.less (List.sublist_cons_self _ _)⟩
        case measure => have := HL8.out; simp [intOf]; first | omega | (unfold wrap64; omega)
      · obtain rfl : k = 8 := by omega
        have d1 : decide (((8 : Nat) : Int) < (l.length : Int)) = true := decide_eq_true (by omega)
        have d2 : decide (((8 : Nat) : Int) < 8) = false := by decide
        have HT := Lib.hid (show (l.take 8).map flagsI = tameL l by unfold tameL; rfl)
        have HGR := Lib.hid hG
        clear hG hk hk8 hc
        go_wp2_with (first
          | (go_at_call 23; refine (flags08_calls x _).mono ?_; rintro eN wN ⟨rfl, hbN⟩; have HON := HO.call hbN; clear HO hbN; have HO := HON; clear HON)
          | (first
      | ((with_reducible refine gate ?_); (first
      | ((refine own_load (T := 30) HO rfl rfl rfl (by first | exact .head _ | exact .tail _ (.head _)) Tryz.isAgg30 Tryz.sizeOf30 (by repeat constructor) ?_); (try simp only [Act.put, List.setIfInBounds_toArray, List.set_cons_zero, List.set_cons_succ]))
      | ((refine own_load (T := 28) HO rfl rfl rfl (by first | exact .head _ | exact .tail _ (.head _)) Tryz.isAgg28 Tryz.sizeOf28 (by repeat constructor) ?_); (try simp only [Act.put, List.setIfInBounds_toArray, List.set_cons_zero, List.set_cons_succ]))
      | ((refine own_load1 (T := 26) HO rfl rfl rfl (by first | exact .head _ | exact .tail _ (.head _)) Tryz.isAgg26 rfl ?_); (try simp only [Act.put, List.setIfInBounds_toArray, List.set_cons_zero, List.set_cons_succ]))
      | ((refine own_load1 (T := 3) HO rfl rfl rfl (by first | exact .head _ | exact .tail _ (.head _)) Tryz.isAgg3 rfl ?_); (try simp only [Act.put, List.setIfInBounds_toArray, List.set_cons_zero, List.set_cons_succ]))
      | ((refine own_store1 (T := 26) HO rfl rfl rfl (by first | exact .const | exact .tmp rfl | exact .func) (by rfl) (by first | exact .here | exact .there (.here)) Tryz.sizeOf26 (by repeat constructor) (by rfl) ?_); clear HO; intro wN HO; (try simp only [Act.put, List.setIfInBounds_toArray, List.set_cons_zero, List.set_cons_succ]))
      | ((refine own_store1 (T := 3) HO rfl rfl rfl (by first | exact .const | exact .tmp rfl | exact .func) (by rfl) (by first | exact .here | exact .there (.here)) Tryz.sizeOf3 (by repeat constructor) (by rfl) ?_); clear HO; intro wN HO; (try simp only [Act.put, List.setIfInBounds_toArray, List.set_cons_zero, List.set_cons_succ]))
      | ((refine own_store (T := 30) HO rfl rfl rfl rfl (by first | exact .here | exact .there (.here)) Tryz.sizeOf30 (by repeat constructor) rfl ?_); clear HO; intro wN HO; (try simp only [Act.put, List.setIfInBounds_toArray, List.set_cons_zero, List.set_cons_succ]))
      | ((refine own_store (T := 28) HO rfl rfl rfl rfl (by first | exact .here | exact .there (.here)) Tryz.sizeOf28 (by repeat constructor) rfl ?_); clear HO; intro wN HO; (try simp only [Act.put, List.setIfInBounds_toArray, List.set_cons_zero, List.set_cons_succ]))))))
        refine bodyPost_ret (own_results1 HO Tryz.results11 rfl (.head _) Tryz.isAgg30 Tryz.sizeOf30 (by repeat constructor)) rfl ⟨p, q, cc, R, rfl, ?_, HO.less (.cons _ (.cons _ (.refl _)))⟩
        rw [← HT.out]
        exact HGR.out
    · obtain rfl : k = l.length := by omega
      have d1 : decide ((l.length : Int) < (l.length : Int)) = false := decide_eq_false (by omega)
      have HT := Lib.hid (show (l.take l.length).map flagsI = tameL l by unfold tameL; rw [List.take_of_length_le (Nat.le_refl _), List.take_of_length_le hk8])
      have HGR := Lib.hid hG
      clear hG hk hk8 hc
      go_wp2_with (first
        | (go_at_call 23; refine (flags08_calls x _).mono ?_; rintro eN wN ⟨rfl, hbN⟩; have HON := HO.call hbN; clear HO hbN; have HO := HON; clear HON)
        | (first
      | ((with_reducible refine gate ?_); (first
      | ((refine own_load (T := 30) HO rfl rfl rfl (by first | exact .head _ | exact .tail _ (.head _)) Tryz.isAgg30 Tryz.sizeOf30 (by repeat constructor) ?_); (try simp only [Act.put, List.setIfInBounds_toArray, List.set_cons_zero, List.set_cons_succ]))
      | ((refine own_load (T := 28) HO rfl rfl rfl (by first | exact .head _ | exact .tail _ (.head _)) Tryz.isAgg28 Tryz.sizeOf28 (by repeat constructor) ?_); (try simp only [Act.put, List.setIfInBounds_toArray, List.set_cons_zero, List.set_cons_succ]))
      | ((refine own_load1 (T := 26) HO rfl rfl rfl (by first | exact .head _ | exact .tail _ (.head _)) Tryz.isAgg26 rfl ?_); (try simp only [Act.put, List.setIfInBounds_toArray, List.set_cons_zero, List.set_cons_succ]))
      | ((refine own_load1 (T := 3) HO rfl rfl rfl (by first | exact .head _ | exact .tail _ (.head _)) Tryz.isAgg3 rfl ?_); (try simp only [Act.put, List.setIfInBounds_toArray, List.set_cons_zero, List.set_cons_succ]))
      | ((refine own_store1 (T := 26) HO rfl rfl rfl (by first | exact .const | exact .tmp rfl | exact .func) (by rfl) (by first | exact .here | exact .there (.here)) Tryz.sizeOf26 (by repeat constructor) (by rfl) ?_); clear HO; intro wN HO; (try simp only [Act.put, List.setIfInBounds_toArray, List.set_cons_zero, List.set_cons_succ]))
      | ((refine own_store1 (T := 3) HO rfl rfl rfl (by first | exact .const | exact .tmp rfl | exact .func) (by rfl) (by first | exact .here | exact .there (.here)) Tryz.sizeOf3 (by repeat constructor) (by rfl) ?_); clear HO; intro wN HO; (try simp only [Act.put, List.setIfInBounds_toArray, List.set_cons_zero, List.set_cons_succ]))
      | ((refine own_store (T := 30) HO rfl rfl rfl rfl (by first | exact .here | exact .there (.here)) Tryz.sizeOf30 (by repeat constructor) rfl ?_); clear HO; intro wN HO; (try simp only [Act.put, List.setIfInBounds_toArray, List.set_cons_zero, List.set_cons_succ]))
      | ((refine own_store (T := 28) HO rfl rfl rfl rfl (by first | exact .here | exact .there (.here)) Tryz.sizeOf28 (by repeat constructor) rfl ?_); clear HO; intro wN HO; (try simp only [Act.put, List.setIfInBounds_toArray, List.set_cons_zero, List.set_cons_succ]))))))
      refine bodyPost_ret (own_results1 HO Tryz.results11 rfl (.head _) Tryz.isAgg30 Tryz.sizeOf30 (by repeat constructor)) rfl ⟨p, q, cc, R, rfl, ?_, HO.less (.cons _ (.cons _ (.refl _)))⟩
      rw [← HT.out]
      exact HGR.out
theorem tame_calls (m : Md) (s : List Int) (hs : s.length = 12) (x : Int) (A : Option Addr) (c : Nat) (l : List Int) (hc : l.length ≤ c) (w : World) (hr : Kd.C (Kd.int .i64) w A l.length l) : Calls Tryz.prog 11 #[.agg (stS m s x (.slice A l.length c)).toArray] w fun e w' => ∃ p n c2 R, e = .returned (.agg (stS m s (flagsI x) (.slice p n c2)).toArray) ∧ GRow 3 (.slice p n c2) ((tameL l).map (Value.int .i64)) R ∧ Mine w w' R := by
  obtain ⟨s0, s1, s2, s3, s4, s5, s6, s7, s8, s9, s10, s11, rfl⟩ := twelve hs
  exact tame_explicit m s0 s1 s2 s3 s4 s5 s6 s7 s8 s9 s10 s11 x A c l hc w hr
end Go.Proofs.YtdmifbffamckbaaGreatDoor
end
section
namespace Go.Proofs.YtdmifbffamckbaaGreatDoor
set_option linter.unusedVariables false
set_option linter.unusedSimpArgs false
open Go.RowKit Kit Go.Proofs.YtdmifbffamckbaaGreatDoorW.PrintWords
def z12 : List Int := [0, 0, 0, 0, 0, 0, 0, 0, 0, 0, 0, 0]
def restZ : List Value := [.int .u8 0, .int .u8 0, .int .u8 0, .int .u8 0, .int .u8 0, .int .u8 0, .int .u8 0, .int .u8 0, .int .u8 0, .int .u8 0, .int .u8 0, .int .u8 0, .int .i64 0, .slice none 0 0]
def mPaste : Md := { Md.zero with paste := true }
theorem rows_at {w : World} {g1 g2 : Nat} {n : Int} (h1 : w.heap[g1]? = some (.cells [Value.int .i64 n].toArray 3 (0, 0))) (h2 : w.heap[g2]? = some (.cells [Value.slice (some ⟨g1, 0, none⟩) 1 1].toArray 26 (0, 0))) : SeqAt w (some ⟨g2, 0, none⟩) [[n]] :=
  lit_row (xs := [n]) (n := 1) rfl (by decide) h1 h2
theorem noRow (w : World) : Kd.C (Kd.int .i64) w none ([] : List Int).length ([] : List Int) := ⟨rfl, by simp, fun h => by simp at h⟩
theorem do_set (m : Md) (rest : List Value) (hrest : rest.length = 14) (hone : rest.all (·.oneCell') = true) (sc : List Value) (hsc : sc.length = 19) (k p f : Int) (i dt : ByteArray) (A : Option Addr) (c : Nat) (l : List (List Int)) (hc : l.length ≤ c) (h63 : l.length ≤ 4611686018427387904) (hok : askOk k p i f) (hdf : deedOf k p i.data.toList f = some (.plain 46)) (hk3 : k ≠ 3) (w : World) (hr : SeqAt w A l) :
    Calls Tryz.prog 12 #[.agg (stM m rest).toArray, .agg sc.toArray, .agg #[.int .i64 k, .int .u8 p, .slice A l.length c, .string i, .int .u8 f, .string dt]] w fun e w' => e = .returned (.tuple #[.agg (stM (setAll (p == 63) (f == 104) m (nums l)) rest).toArray, .slice none 0 0, .bool true]) ∧ Below w.heap.size w w' :=
  (do_some (stM m rest) sc (by simp [stM, hrest]) hsc k p f i dt A l.length c hok _ hdf (fun h => hk3 h.1) w _ (by simp [stM, hrest]) (by unfold stM; simp only [List.all_cons, hone]; rfl) _ (set_ok w m rest hrest sc k p f i dt A c l hc h63 hr)).mono fun e w' ⟨v, R, h1, h2, h3⟩ => ⟨by rw [h1, h3], h2.below⟩
theorem do_awake1 (a b : Nat) (w : World) (h1 : w.heap[a]? = some (.cells [Value.int .i64 2004].toArray 3 (0, 0))) (h2 : w.heap[b]? = some (.cells [Value.slice (some ⟨a, 0, none⟩) 1 1].toArray 26 (0, 0))) :
    Calls Tryz.prog 12 #[.agg #[.bool false, .bool false, .bool false, .bool false, .bool false, .bool false, .bool false, .int .i64 0, .int .i64 0, .int .i64 0, .int .u8 0, .int .u8 0, .int .u8 0, .int .u8 0, .int .u8 0, .int .u8 0, .int .u8 0, .int .u8 0, .int .u8 0, .int .u8 0, .int .u8 0, .int .u8 0, .int .i64 0, .slice none 0 0], .agg #[.int .i64 0, .int .i64 0, .int .i64 0, .int .i64 0, .int .i64 0, .int .i64 0, .int .i64 0, .int .i64 0, .int .i64 0, .bool false, .bool false, .bool false, .bool false, .bool false, .bool false, .bool false, .int .i64 0, .int .i64 0, .int .i64 0], .agg #[.int .i64 1, .int .u8 63, .slice (some ⟨b, 0, none⟩) 1 1, .string ⟨#[]⟩, .int .u8 104, .string ⟨#[]⟩]] w fun e w' => e = .returned (.tuple #[.agg #[.bool false, .bool false, .bool false, .bool false, .bool true, .bool false, .bool false, .int .i64 0, .int .i64 0, .int .i64 0, .int .u8 0, .int .u8 0, .int .u8 0, .int .u8 0, .int .u8 0, .int .u8 0, .int .u8 0, .int .u8 0, .int .u8 0, .int .u8 0, .int .u8 0, .int .u8 0, .int .i64 0, .slice none 0 0], .slice none 0 0, .bool true]) ∧ Below w.heap.size w w' :=
  do_set Md.zero restZ rfl rfl [.int .i64 0, .int .i64 0, .int .i64 0, .int .i64 0, .int .i64 0, .int .i64 0, .int .i64 0, .int .i64 0, .int .i64 0, .bool false, .bool false, .bool false, .bool false, .bool false, .bool false, .bool false, .int .i64 0, .int .i64 0, .int .i64 0] rfl 1 63 104 ⟨#[]⟩ ⟨#[]⟩ (some ⟨b, 0, none⟩) 1 [[2004]] (by decide) (by decide) ⟨rfl, rfl, by decide, rfl⟩ rfl (by decide) w (rows_at h1 h2)
theorem do_awake2 (a b : Nat) (w : World) (h1 : w.heap[a]? = some (.cells [Value.int .i64 6].toArray 3 (0, 0))) (h2 : w.heap[b]? = some (.cells [Value.slice (some ⟨a, 0, none⟩) 1 1].toArray 26 (0, 0))) :
    Calls Tryz.prog 12 #[.agg #[.bool false, .bool false, .bool false, .bool false, .bool true, .bool false, .bool false, .int .i64 0, .int .i64 0, .int .i64 0, .int .u8 0, .int .u8 0, .int .u8 0, .int .u8 0, .int .u8 0, .int .u8 0, .int .u8 0, .int .u8 0, .int .u8 0, .int .u8 0, .int .u8 0, .int .u8 0, .int .i64 0, .slice none 0 0], .agg #[.int .i64 0, .int .i64 0, .int .i64 2, .int .i64 3, .int .i64 0, .int .i64 0, .int .i64 0, .int .i64 0, .int .i64 0, .bool false, .bool false, .bool false, .bool false, .bool false, .bool false, .bool false, .int .i64 0, .int .i64 0, .int .i64 0], .agg #[.int .i64 1, .int .u8 0, .slice (some ⟨b, 0, none⟩) 1 1, .string ⟨#[]⟩, .int .u8 110, .string ⟨#[]⟩]] w fun e w' => ∃ gA v2, e = .returned (.tuple #[.agg #[.bool false, .bool false, .bool false, .bool false, .bool true, .bool false, .bool false, .int .i64 0, .int .i64 0, .int .i64 0, .int .u8 0, .int .u8 0, .int .u8 0, .int .u8 0, .int .u8 0, .int .u8 0, .int .u8 0, .int .u8 0, .int .u8 0, .int .u8 0, .int .u8 0, .int .u8 0, .int .i64 0, .slice none 0 0], .slice (some ⟨gA, 0, none⟩) 1 1, .bool true]) ∧ Mine w w' [(gA, IsCells [.int .i64 1, .int .u8 0, v2, .string ⟨#[]⟩, .int .u8 82, .string ⟨#[]⟩] 37)] := by
  have hP : G.report_Place.f 10 0 0 2 3 0 0 0 0 0 false false false false false false false 0 0 0 ((0 : Int) == 63) = some (1, 0, [[2], [3]], ⟨#[]⟩, 82, ⟨#[]⟩) := by kernel_rfl
  refine (do_some [.bool false, .bool false, .bool false, .bool false, .bool true, .bool false, .bool false, .int .i64 0, .int .i64 0, .int .i64 0, .int .u8 0, .int .u8 0, .int .u8 0, .int .u8 0, .int .u8 0, .int .u8 0, .int .u8 0, .int .u8 0, .int .u8 0, .int .u8 0, .int .u8 0, .int .u8 0, .int .i64 0, .slice none 0 0] [.int .i64 0, .int .i64 0, .int .i64 2, .int .i64 3, .int .i64 0, .int .i64 0, .int .i64 0, .int .i64 0, .int .i64 0, .bool false, .bool false, .bool false, .bool false, .bool false, .bool false, .bool false, .int .i64 0, .int .i64 0, .int .i64 0] rfl rfl 1 0 110 ⟨#[]⟩ ⟨#[]⟩ (some ⟨b, 0, none⟩) 1 1 ⟨rfl, rfl, by decide, rfl⟩ (.plain 51) rfl (fun h => absurd h.1 (by decide)) w [.bool false, .bool false, .bool false, .bool false, .bool true, .bool false, .bool false, .int .i64 0, .int .i64 0, .int .i64 0, .int .u8 0, .int .u8 0, .int .u8 0, .int .u8 0, .int .u8 0, .int .u8 0, .int .u8 0, .int .u8 0, .int .u8 0, .int .u8 0, .int .u8 0, .int .u8 0, .int .i64 0, .slice none 0 0] rfl rfl _
    (status_place w [.bool false, .bool false, .bool false, .bool false, .bool true, .bool false, .bool false, .int .i64 0, .int .i64 0, .int .i64 0, .int .u8 0, .int .u8 0, .int .u8 0, .int .u8 0, .int .u8 0, .int .u8 0, .int .u8 0, .int .u8 0, .int .u8 0, .int .u8 0, .int .u8 0, .int .u8 0, .int .i64 0, .slice none 0 0] 0 0 2 3 0 0 0 0 0 0 0 0 false false false false false false false 1 0 110 ⟨#[]⟩ ⟨#[]⟩ (some ⟨b, 0, none⟩) 1 [[6]] (by decide) (rows_at h1 h2) rfl 10 _ _ _ _ _ _ hP)).mono ?_
  rintro e w' ⟨v, R, h3, h4, gA, v2, rfl, rfl⟩
  exact ⟨gA, v2, h3, h4⟩
theorem same_awake (w : World) : Calls Tryz.prog 18 #[.agg #[.bool false, .bool false, .bool false, .bool false, .bool true, .bool false, .bool false, .int .i64 0, .int .i64 0, .int .i64 0, .int .u8 0, .int .u8 0, .int .u8 0, .int .u8 0, .int .u8 0, .int .u8 0, .int .u8 0, .int .u8 0, .int .u8 0, .int .u8 0, .int .u8 0, .int .u8 0, .int .i64 0, .slice none 0 0], .agg #[.bool false, .bool false, .bool false, .bool false, .bool true, .bool false, .bool false, .int .i64 0, .int .i64 0, .int .i64 0, .int .u8 0, .int .u8 0, .int .u8 0, .int .u8 0, .int .u8 0, .int .u8 0, .int .u8 0, .int .u8 0, .int .u8 0, .int .u8 0, .int .u8 0, .int .u8 0, .int .i64 0, .slice none 0 0]] w fun e w' => e = .returned (.bool true) ∧ Below w.heap.size w w' :=
  actSame_calls mPaste mPaste z12 z12 rfl rfl 0 0 none none 0 0 [] [] (by decide) (by decide) (by decide) w (noRow w) (noRow w)
attribute [local irreducible] wpList Calls wpQuiet
set_option maxRecDepth 100000 in
set_option maxHeartbeats 8000000 in
theorem awake21_calls (w : World) : Calls Tryz.prog 9 #[] w fun e w' => e = .returned (.bool true) ∧ Below w.heap.size w w' := by
  have HO := Mine.start w
  go_enter Tryz.func9, Tryz.ntmps9
  go_wp2_with (first
    | (go_at_call 12; refine (do_awake1 g10 g11 _ (HO.at (by first | exact .head _ | exact .tail _ (.head _) | exact .tail _ (.tail _ (.head _)))) (HO.at (by first | exact .head _ | exact .tail _ (.head _) | exact .tail _ (.tail _ (.head _))))).mono ?_; rintro eN wN ⟨rfl, hbN⟩; have HON := HO.call hbN; clear HO hbN; have HO := HON; clear HON)
    | (go_at_call 12; refine (do_awake2 g20 g21 _ (HO.at (by first | exact .head _ | exact .tail _ (.head _) | exact .tail _ (.tail _ (.head _)) | exact .tail _ (.tail _ (.tail _ (.head _))) | exact .tail _ (.tail _ (.tail _ (.tail _ (.head _)))))) (HO.at (by first | exact .head _ | exact .tail _ (.head _) | exact .tail _ (.tail _ (.head _)) | exact .tail _ (.tail _ (.tail _ (.head _))) | exact .tail _ (.tail _ (.tail _ (.tail _ (.head _))))))).mono ?_; rintro eN wN ⟨gA, v2, rfl, HM⟩; have HON := HO.join HM; clear HO HM; have HO := HON; clear HON)
    | (go_at_call 18; refine (same_awake _).mono ?_; rintro eN wN ⟨rfl, hbN⟩; have HON := HO.call hbN; clear HO hbN; have HO := HON; clear HON)
    | (first
      | ((with_reducible refine gate ?_); (first
      | ((with_reducible refine gateAt (N := 10) rfl ?_); refine own_litF HO rfl (n := 1) (cs := [.int .i64 2004]) (T := 3) (by first | (go_simp; done) | (go_simp; rfl)) ?_; clear HO; intro g10 wN hgg10 HO; (try simp only [Act.put, List.setIfInBounds_toArray, List.set_cons_zero, List.set_cons_succ]))
      | ((with_reducible refine gateAt (N := 11) rfl ?_); refine own_litF HO rfl (n := 1) (cs := [.slice (some ⟨g10, 0, none⟩) 1 1]) (T := 26) (by first | (go_simp; done) | (go_simp; rfl)) ?_; clear HO; intro g11 wN hgg11 HO; (try simp only [Act.put, List.setIfInBounds_toArray, List.set_cons_zero, List.set_cons_succ]))
      | ((with_reducible refine gateAt (N := 20) rfl ?_); refine own_litF HO rfl (n := 1) (cs := [.int .i64 6]) (T := 3) (by first | (go_simp; done) | (go_simp; rfl)) ?_; clear HO; intro g20 wN hgg20 HO; (try simp only [Act.put, List.setIfInBounds_toArray, List.set_cons_zero, List.set_cons_succ]))
      | ((with_reducible refine gateAt (N := 21) rfl ?_); refine own_litF HO rfl (n := 1) (cs := [.slice (some ⟨g20, 0, none⟩) 1 1]) (T := 26) (by first | (go_simp; done) | (go_simp; rfl)) ?_; clear HO; intro g21 wN hgg21 HO; (try simp only [Act.put, List.setIfInBounds_toArray, List.set_cons_zero, List.set_cons_succ]))
      | ((with_reducible refine gateAt (N := 1) rfl ?_); refine own_allocF (T := 44) HO rfl rfl Tryz.zeroValue44 rfl ?_; clear HO; intro g1 wN hgg1 HO; (try simp only [Act.put, List.setIfInBounds_toArray, List.set_cons_zero, List.set_cons_succ]))
      | ((with_reducible refine gateAt (N := 4) rfl ?_); refine own_allocF (T := 44) HO rfl rfl Tryz.zeroValue44 rfl ?_; clear HO; intro g4 wN hgg4 HO; (try simp only [Act.put, List.setIfInBounds_toArray, List.set_cons_zero, List.set_cons_succ]))
      | ((refine own_load (T := 44) HO rfl rfl rfl (by first | exact .head _ | exact .tail _ (.head _) | exact .tail _ (.tail _ (.head _)) | exact .tail _ (.tail _ (.tail _ (.head _))) | exact .tail _ (.tail _ (.tail _ (.tail _ (.head _)))) | exact .tail _ (.tail _ (.tail _ (.tail _ (.tail _ (.head _))))) | exact .tail _ (.tail _ (.tail _ (.tail _ (.tail _ (.tail _ (.head _))))))) Tryz.isAgg44 Tryz.sizeOf44 (by repeat constructor) ?_); (try simp only [Act.put, List.setIfInBounds_toArray, List.set_cons_zero, List.set_cons_succ]))
      | ((refine own_load1 (T := 4) HO rfl rfl rfl (by first | exact .head _ | exact .tail _ (.head _) | exact .tail _ (.tail _ (.head _)) | exact .tail _ (.tail _ (.tail _ (.head _))) | exact .tail _ (.tail _ (.tail _ (.tail _ (.head _)))) | exact .tail _ (.tail _ (.tail _ (.tail _ (.tail _ (.head _))))) | exact .tail _ (.tail _ (.tail _ (.tail _ (.tail _ (.tail _ (.head _))))))) Tryz.isAgg4 rfl ?_); (try simp only [Act.put, List.setIfInBounds_toArray, List.set_cons_zero, List.set_cons_succ]))
      | ((refine own_load1 (T := 5) HO rfl rfl rfl (by first | exact .head _ | exact .tail _ (.head _) | exact .tail _ (.tail _ (.head _)) | exact .tail _ (.tail _ (.tail _ (.head _))) | exact .tail _ (.tail _ (.tail _ (.tail _ (.head _)))) | exact .tail _ (.tail _ (.tail _ (.tail _ (.tail _ (.head _))))) | exact .tail _ (.tail _ (.tail _ (.tail _ (.tail _ (.tail _ (.head _))))))) Tryz.isAgg5 rfl ?_); (try simp only [Act.put, List.setIfInBounds_toArray, List.set_cons_zero, List.set_cons_succ]))
      | ((refine own_store1 (T := 4) HO rfl rfl rfl (by first | exact .const | exact .tmp rfl | exact .func) (by rfl) (by first | exact .here | exact .there (.here) | exact .there (.there (.here)) | exact .there (.there (.there (.here))) | exact .there (.there (.there (.there (.here)))) | exact .there (.there (.there (.there (.there (.here))))) | exact .there (.there (.there (.there (.there (.there (.here))))))) Tryz.sizeOf4 (by repeat constructor) (by rfl) ?_); clear HO; intro wN HO; (try simp only [Act.put, List.setIfInBounds_toArray, List.set_cons_zero, List.set_cons_succ]))
      | ((refine own_store1 (T := 5) HO rfl rfl rfl (by first | exact .const | exact .tmp rfl | exact .func) (by rfl) (by first | exact .here | exact .there (.here) | exact .there (.there (.here)) | exact .there (.there (.there (.here))) | exact .there (.there (.there (.there (.here)))) | exact .there (.there (.there (.there (.there (.here))))) | exact .there (.there (.there (.there (.there (.there (.here))))))) Tryz.sizeOf5 (by repeat constructor) (by rfl) ?_); clear HO; intro wN HO; (try simp only [Act.put, List.setIfInBounds_toArray, List.set_cons_zero, List.set_cons_succ]))
      | ((refine own_store (T := 44) HO rfl rfl rfl rfl (by first | exact .here | exact .there (.here) | exact .there (.there (.here)) | exact .there (.there (.there (.here))) | exact .there (.there (.there (.there (.here)))) | exact .there (.there (.there (.there (.there (.here))))) | exact .there (.there (.there (.there (.there (.there (.here))))))) Tryz.sizeOf44 (by repeat constructor) rfl ?_); clear HO; intro wN HO; (try simp only [Act.put, List.setIfInBounds_toArray, List.set_cons_zero, List.set_cons_succ]))))))
  go_ret
  exact ⟨by first | rfl | (simp; done), HO.below⟩
end Go.Proofs.YtdmifbffamckbaaGreatDoor
end
section
namespace Go.Proofs.YtdmifbffamckbaaGreatDoor
set_option linter.unusedVariables false
set_option linter.unusedSimpArgs false
open Go.RowKit Kit Go.Proofs.YtdmifbffamckbaaGreatDoorW.PrintWords
theorem grow_len {p : Option Addr} {n c : Nat} {l : List Int} {R : Res} (h : GRow 3 (.slice p n c) (l.map (Value.int .i64)) R) : n = l.length := by rw [h.len, List.length_map]
theorem grow_kd {W0 w : World} {bs : Res} {p : Option Addr} {n c : Nat} {l : List Int} {R : Res} (h : GRow 3 (.slice p n c) (l.map (Value.int .i64)) R) (HO : Mine W0 w (bs ++ R)) : l.length ≤ c ∧ Kd.C (Kd.int .i64) w p l.length l := by
  obtain ⟨h1, h2, h3, h4⟩ := h.reads HO
  rw [List.length_map] at h1 h3
  refine ⟨h3, Kd.C_of_reads (d := (0 : Int)) ⟨rfl, by unfold maxLen at h4; omega, fun h0 => ?_⟩⟩
  have get : ∀ j (hj : j < l.length), (l.map (Value.int .i64))[j]? = some (.int .i64 (l.getD j 0)) := fun j hj => by simp [hj, List.getD]
  obtain ⟨b, o, rfl, _⟩ := h2 0 _ (get 0 h0)
  refine ⟨⟨b, o, none⟩, rfl, fun j hj => ?_⟩
  obtain ⟨b', o', e, hc⟩ := h2 j _ (get j hj)
  injection e with e
  injection e with e1 e2
  subst e1 e2
  have : (⟨b, o, none⟩ : Addr).add j = ⟨b, o + j, none⟩ := by unfold Addr.add; split <;> simp_all
  rw [this]
  exact hc
theorem u8s_one (s : List Int) : (u8s s).all (·.oneCell') = true := by
  rw [List.all_eq_true]
  intro v hv
  obtain ⟨z, _, rfl⟩ := List.mem_map.1 hv
  rfl
theorem stS_one (m : Md) (s : List Int) (x : Int) {K : Value} (h : K.oneCell' = true) : (stS m s x K).all (·.oneCell') = true := by
  unfold stS stM
  rw [List.all_eq_true]
  intro v hv
  simp only [List.mem_cons, List.mem_append, List.not_mem_nil, or_false] at hv
  rcases hv with rfl | rfl | rfl | rfl | rfl | rfl | rfl | rfl | rfl | rfl | hv | rfl | rfl
  case inr.inr.inr.inr.inr.inr.inr.inr.inr.inr.inl => exact List.all_eq_true.1 (u8s_one s) v hv
  all_goals first | rfl | exact h
attribute [local irreducible] wpList Calls wpQuiet
end Go.Proofs.YtdmifbffamckbaaGreatDoor
end
section
namespace Go.Proofs.YtdmifbffamckbaaGreatDoor
set_option linter.unusedVariables false
set_option linter.unusedSimpArgs false
open Go.RowKit Kit Go.Shelf Go.Proofs.YtdmifbffamckbaaGreatDoorW.PrintWords
attribute [local go_sem] Oper.semAt_some
attribute [local irreducible] wpList Calls wpQuiet
set_option maxRecDepth 100000 in
set_option maxHeartbeats 8000000 in
theorem actAll_calls (w : World) (k p f : Int) (i dt : ByteArray) (A : Option Addr) (c : Nat) (l : List (List Int)) (hc : l.length ≤ c) (h63 : l.length ≤ 100000) (hr : SeqAt w A l) :
    Calls Tryz.prog 84 #[.agg #[.int .i64 k, .int .u8 p, .slice A l.length c, .string i, .int .u8 f, .string dt]] w fun e w' => ∃ v R, e = .returned v ∧ GRow 3 v ((nums l).map (Value.int .i64)) R ∧ Mine w w' R := by
  refine (callsIn_wide (n := 5)).1 ?_
  have HO := Mine.start w
  have HY0 := fun gD => each_yields w k p f i dt A c l hc (by omega) hr gD
  have HY := Lib.hid HY0
  have H5 : Hid ((nums l).length ≤ 100000) := Lib.hid (by unfold nums; rw [List.length_map]; exact h63)
  clear hc h63 hr HY0
  refine callsIn_of_wp_marks Tryz.func84 rfl trivial ?_ rfl
  simp only [Tryz.ntmps84, List.size_toArray, List.length_cons, List.length_nil, Nat.reduceAdd, Nat.reduceSub, Array.replicate_succ, Array.replicate_zero, List.push_toArray, List.append_toArray, List.nil_append, List.cons_append]
  refine wpIn_seq ?_
  refine wideRegion ?_
  go_wp2_with ((with_reducible refine gateAt (N := 1) rfl ?_); refine own_boxF (T := 37) (cs := [.int .i64 k, .int .u8 p, .slice A l.length c, .string i, .int .u8 f, .string dt]) HO rfl rfl rfl ?_; clear HO; intro gq wN hggq HO; (try simp only [Act.put, List.setIfInBounds_toArray, List.set_cons_zero, List.set_cons_succ]))
  refine wpIn_seq ?_
  refine wideRegion ?_
  go_wp2_with (first
      | ((with_reducible refine gate ?_); (first
      | ((with_reducible refine gateAt (N := 3) rfl ?_); refine own_allocF (T := 26) HO rfl rfl Tryz.zeroValue26 rfl ?_; clear HO; intro gL wN hggL HO; (try simp only [Act.put, List.setIfInBounds_toArray, List.set_cons_zero, List.set_cons_succ])))))
  refine wpIn_seq ?_
  refine wpIn_seq ?_
  refine wideRegion ?_
  go_wp2_with (first
    | (go_at_call 81; refine (each_calls k p f i dt A l.length c _).mono ?_; rintro eN wN ⟨gD, rfl, HM⟩; have HON := HO.join HM; clear HO HM; have HO := HON; clear HON)
    | (first
      | ((with_reducible refine gate ?_); (first
      | ((refine own_load (T := 37) HO rfl rfl rfl (by first | exact .head _ | exact .tail _ (.head _) | exact .tail _ (.tail _ (.head _))) Tryz.isAgg37 Tryz.sizeOf37 (by repeat constructor) ?_); (try simp only [Act.put, List.setIfInBounds_toArray, List.set_cons_zero, List.set_cons_succ]))
      | ((refine own_store (T := 37) HO rfl rfl rfl rfl (by first | exact .here | exact .there (.here) | exact .there (.there (.here))) Tryz.sizeOf37 (by repeat constructor) rfl ?_); clear HO; intro wN HO; (try simp only [Act.put, List.setIfInBounds_toArray, List.set_cons_zero, List.set_cons_succ]))))))
  refine wpIn_block ?_
  have HO2 : Mine w wN (((gL, IsCells [.slice none 0 0] 26) :: [(gq, IsCells [.int .i64 k, .int .u8 p, .slice A l.length c, .string i, .int .u8 f, .string dt] 37)]) ++ [(gD, IsCells [.int .i64 k, .int .u8 p, .slice A l.length c, .string i, .int .u8 f, .string dt] 37)]) := HO
  clear HO
  refine wpIn_range_mine (gf := 122) (lb := #[.pointer (some ⟨gD, 0, none⟩)]) rfl (enters_of Tryz.func122 (by kernel_rfl) rfl) (HY.out gD) (fun _ => rfl)
    (fun pre b2 => ∃ pp n c2 R, GRow 3 (.slice pp n c2) (pre.map (Value.int .i64)) R ∧ b2 = (gL, IsCells [.slice pp n c2] 26) :: ((gq, IsCells [.int .i64 k, .int .u8 p, .slice A l.length c, .string i, .int .u8 f, .string dt] 37) :: R)) (fun c pre b2 => False) HO2 ⟨none, 0, 0, [], GRow.nil _, rfl⟩
    (fun x => { tmps := #[.agg #[.int .i64 k, .int .u8 p, .slice A l.length c, .string i, .int .u8 f, .string dt], .pointer (some ⟨gq, 0, none⟩), .slice none 0 0, .pointer (some ⟨gL, 0, none⟩), .int .i64 x, .agg #[.int .i64 k, .int .u8 p, .slice A l.length c, .string i, .int .u8 f, .string dt], .func (.func 122) #[] #[.pointer (some ⟨gD, 0, none⟩)], .int .i64 x, undef, undef, undef, undef, undef], defers := [] }) ?assign ?body ?done ?stop
  case assign =>
    intro m l2 x W3 K hK
    gi_wp2
    exact hK
  case body =>
    rintro m l2 pre x post W2 bs2 fr hxs ⟨pp, n, c2, R, hR, rfl⟩ HM
    have H65 : Hid ((pre.map (Value.int .i64)).length + 1 ≤ maxLen ∧ ((pre.map (Value.int .i64)).length + 1) * 8 ≤ 140737488355328) := Lib.hid (by
      have h1 := H5.out
      rw [hxs] at h1
      simp only [List.length_append, List.length_cons] at h1
      rw [List.length_map]
      unfold maxLen
      omega)
    have HR := Lib.hid hR
    have HO : Mine w W2 ((gL, IsCells [.slice pp n c2] 26) :: ((gq, IsCells [.int .i64 k, .int .u8 p, .slice A l.length c, .string i, .int .u8 f, .string dt] 37) :: (fr ++ R))) := HM.perm (.cons _ (.cons _ List.perm_append_comm))
    clear HM hR hxs HO2
    refine wpIn_block ?_
    refine inRegion (fun ⟨_, _, h⟩ => h) rfl ?_
    go_wp2_with (first
      | ((with_reducible refine gate ?_); (first
      | ((with_reducible refine gateAt (N := 10) rfl ?_); refine own_litF HO rfl (n := 1) (cs := [.int .i64 x]) (T := 3) (by first | (go_simp; done) | (go_simp; rfl)) ?_; clear HO; intro gE wN hggE HO; (try simp only [Act.put, List.setIfInBounds_toArray, List.set_cons_zero, List.set_cons_succ]))
      | ((with_reducible refine gateAt (N := 11) rfl ?_); refine own_append1 (T := 3) (t := 26) (z := .int .i64 0) (bytes := 8) HO HR.out (by repeat (first | exact Tl.here | exact Tl.app | apply Tl.cons)) rfl rfl (.tmp rfl) (.tmp rfl) (by first | exact .head _ | exact .tail _ (.head _) | exact .tail _ (.tail _ (.head _)) | exact .tail _ (.tail _ (.tail _ (.head _))) | exact .tail _ (.tail _ (.tail _ (.tail _ (.head _)))) | exact .tail _ (.tail _ (.tail _ (.tail _ (.tail _ (.head _))))) | exact .tail _ (.tail _ (.tail _ (.tail _ (.tail _ (.tail _ (.head _)))))) | exact .tail _ (.tail _ (.tail _ (.tail _ (.tail _ (.tail _ (.tail _ (.head _)))))))) Tryz.underlying26 (by kernel_rfl) (by rfl) (by rfl) H65.out ?_; clear HO; intro p2 n2 c3 wN R2 hR2 HO; (simp only [List.nil_append, List.cons_append] at HO); (try simp only [Act.put, List.setIfInBounds_toArray, List.set_cons_zero, List.set_cons_succ]))
      | ((refine own_load1 (T := 26) HO rfl rfl rfl (by first | exact .head _ | exact .tail _ (.head _)) Tryz.isAgg26 rfl ?_); (try simp only [Act.put, List.setIfInBounds_toArray, List.set_cons_zero, List.set_cons_succ]))
      | ((refine own_store1 (T := 26) HO rfl rfl rfl (by first | exact .const | exact .tmp rfl | exact .func) (by rfl) (by first | exact .here | exact .there (.here)) Tryz.sizeOf26 (by repeat constructor) (by rfl) ?_); clear HO; intro wN HO; (try simp only [Act.put, List.setIfInBounds_toArray, List.set_cons_zero, List.set_cons_succ])))))
    refine ⟨(gL, IsCells [.slice p2 n2 c3] 26) :: ((gq, IsCells [.int .i64 k, .int .u8 p, .slice A l.length c, .string i, .int .u8 f, .string dt] 37) :: R2), ⟨p2, n2, c3, R2, by rw [List.map_append]; exact hR2, rfl⟩, ?_⟩
    exact (HO.less (List.sublist_cons_self _ _)).perm (.cons _ (.cons _ List.perm_append_comm))
  case done =>
    rintro D W2 bs2 ⟨pp, n, c2, R, hR, rfl⟩ HM
    have HR := Lib.hid hR
    have HO : Mine w W2 ((gL, IsCells [.slice pp n c2] 26) :: ((gq, IsCells [.int .i64 k, .int .u8 p, .slice A l.length c, .string i, .int .u8 f, .string dt] 37) :: (D, IsDef) :: R)) := HM.perm (.cons _ (.cons _ List.perm_append_comm))
    clear HM HO2 hR
    refine wpIn_seq ?_
    refine wideRegion ?_
    go_wp2_with (first
      | ((with_reducible refine gate ?_); (first
      | ((refine own_load1 (T := 26) HO rfl rfl rfl (by first | exact .head _) Tryz.isAgg26 rfl ?_); (try simp only [Act.put, List.setIfInBounds_toArray, List.set_cons_zero, List.set_cons_succ]))
      | ((refine own_store1 (T := 26) HO rfl rfl rfl (by first | exact .const | exact .tmp rfl | exact .func) (by rfl) (by first | exact .here) Tryz.sizeOf26 (by repeat constructor) (by rfl) ?_); clear HO; intro wN HO; (try simp only [Act.put, List.setIfInBounds_toArray, List.set_cons_zero, List.set_cons_succ])))))
    refine wpIn_ret ?_
    refine leaves_mark (bs := R) ((HO.less (.cons _ (.cons _ (.refl _)))).perm (List.perm_append_comm (l₁ := [(D, IsDef)]))) fun W3 HM3 => ?_
    exact ⟨_, results_tmp rfl _ _ _, .slice pp n c2, R, rfl, HR.out, HM3⟩
  case stop =>
    rintro D cc pre W2 bs2 hpre h HM
    exact h.elim
end Go.Proofs.YtdmifbffamckbaaGreatDoor
end
section
namespace Go.Proofs.YtdmifbffamckbaaGreatDoor
set_option linter.unusedVariables false
set_option linter.unusedSimpArgs false
open Go.RowKit Kit Go.Proofs.YtdmifbffamckbaaGreatDoorW.PrintWords
def DeedX (w : World) (st : List Value) (d : Deed) (sc q : Value) (Post : Value → List Value → Res → World → Prop) : Prop := ∀ gs bs v W, d.val w.heap.size v W → Mine w W ((gs, IsCells st 44) :: bs) →
  ∃ fn caps, v = .func (.func fn) #[] caps ∧ (∀ args w, (callFunc fn args).run Tryz.prog w = .ok (.enter fn args) w) ∧ Calls Tryz.prog fn (#[.pointer (some ⟨gs, 0, none⟩), sc, q] ++ caps) W fun e W' => ∃ v st' R, e = .returned v ∧ Mine w W' ((gs, IsCells st' 44) :: (bs ++ R)) ∧ Post v st' R W'
theorem DeedOk.x {w : World} {st st' : List Value} {d : Deed} {sc q : Value} {Post : Value → Res → Prop} (h : DeedOk w st st' d sc q Post) : DeedX w st d sc q (fun v s R _ => s = st' ∧ Post v R) := by
  intro gs bs v W hv HM
  obtain ⟨fn, caps, h1, h2, h3⟩ := h gs bs v W hv HM
  exact ⟨fn, caps, h1, h2, h3.mono fun e W' ⟨v, R, h4, h5, h6⟩ => ⟨v, st', R, h4, h5, rfl, h6⟩⟩
theorem XS.const {E : TypeId} (p : Prop) : XS E (fun _ => p) := fun _ _ _ _ h _ => h
attribute [local irreducible] wpList Calls wpQuiet
end Go.Proofs.YtdmifbffamckbaaGreatDoor
end
section
namespace Go.Proofs.YtdmifbffamckbaaGreatDoor
set_option linter.unusedVariables false
set_option linter.unusedSimpArgs false
open Go.RowKit Kit Go.Proofs.YtdmifbffamckbaaGreatDoorW.PrintWords
structure Sr where
  kind : Int
  priv : Int
  rows : List (List Int)
  inter : ByteArray
  fin : Int
  data : ByteArray
  deriving DecidableEq
def Sr.v (q : Sr) (A : Option Addr) (c : Nat) : Value := .agg #[.int .i64 q.kind, .int .u8 q.priv, .slice A q.rows.length c, .string q.inter, .int .u8 q.fin, .string q.data]
def Sr.cells (q : Sr) (A : Option Addr) (c : Nat) : List Value := [.int .i64 q.kind, .int .u8 q.priv, .slice A q.rows.length c, .string q.inter, .int .u8 q.fin, .string q.data]
abbrev RowsC (w : World) (A : Option Addr) (l : List (List Int)) : Prop := (Kd.slice 3 (Kd.int .i64)).C w A l.length l
def SrAt (q : Sr) : Fact := fun v w => ∃ A c, v = q.v A c ∧ q.rows.length ≤ c ∧ RowsC w A q.rows
theorem Stays.SrAt (q : Sr) : Stays (SrAt q) := fun v w w' h hb => by
  obtain ⟨A, c, h1, h2, h3⟩ := h
  exact ⟨A, c, h1, h2, Kd.C_below h3 hb⟩
theorem SrAt.below {q : Sr} {v : Value} {w w' : World} (h : SrAt q v w) (hb : Below w.heap.size w w') : SrAt q v w' := Stays.SrAt q v w w' h hb
end Go.Proofs.YtdmifbffamckbaaGreatDoor
end
section
namespace Go.Proofs.YtdmifbffamckbaaGreatDoor
set_option linter.unusedVariables false
set_option linter.unusedSimpArgs false
open Go.RowKit Kit Go.Shelf Go.Proofs.YtdmifbffamckbaaGreatDoorW.PrintWords
theorem IntsI.below {w w' : World} {p : Option Addr} {l : List Int} (h : IntsI w p l) (hb : Below w.heap.size w w') : IntsI w' p l := by
  rcases h with h | ⟨g, o, cs, h1, h2, h3⟩
  · exact .inl h
  · exact .inr ⟨g, o, cs, h1, (hb.block g (lt_of_get h2)).trans h2, h3⟩
theorem IntsI.xs' {E : TypeId} (hE : E ≠ 3) (p : Option Addr) (l : List Int) : XS E (fun w => IntsI w p l) := by
  intro w g cs cs' h hg
  rcases h with h | ⟨g2, o, cs2, h1, h2, h3⟩
  · exact .inl h
  · refine .inr ⟨g2, o, cs2, h1, ?_, h3⟩
    rw [setRow_other w g g2 _ (fun e => ?_)]
    · exact h2
    · subst e
      rw [h2] at hg
      cases hg
      exact hE rfl
theorem IntsI.xs (p : Option Addr) (l : List Int) : XS 44 (fun w => IntsI w p l) := IntsI.xs' (by decide) p l
theorem IntsI.reads {w : World} {p : Option Addr} {l : List Int} (h : IntsI w p l) : Reads w p (intsV l) := by
  intro j x hj
  rcases h with rfl | ⟨g, o, cs, rfl, h2, h3⟩
  · simp [intsV] at hj
  · have hjl : j < l.length := by
      have := (List.getElem?_eq_some_iff.1 hj).1
      simpa [intsV] using this
    have hx : x = .int .i64 (l.getD j 0) := by
      have : (intsV l)[j]? = some (.int .i64 (l.getD j 0)) := by simp [intsV, hjl, List.getD]
      rw [this] at hj
      exact (Option.some.inj hj).symm
    exact ⟨g, o, rfl, by simp [World.cell?, h2, h3 j hjl, hx]⟩
theorem IntsI.take {w : World} {p : Option Addr} {l : List Int} (h : IntsI w p l) (k : Nat) : IntsI w p (l.take k) := by
  rcases h with rfl | ⟨g, o, cs, h1, h2, h3⟩
  · exact .inl (by simp)
  · refine .inr ⟨g, o, cs, h1, h2, fun j hj => ?_⟩
    rw [List.length_take] at hj
    rw [h3 j (by omega)]
    have hj2 : j < k := by omega
    have hj3 : j < l.length := by omega
    simp [List.getD, List.getElem?_take, hj2, hj3]
def AnsX (q : Sr) (v : Value) (R : Res) (w : World) : Prop := ∃ gA u B, v = .slice (some ⟨gA, 0, none⟩) 1 1 ∧ R = [(gA, IsCells [.int .i64 q.kind, .int .u8 q.priv, u, .string q.inter, .int .u8 q.fin, .string q.data] 37)] ∧ Kd.S (Kd.slice 3 (Kd.int .i64)) 26 w B (fun _ => True) u q.rows
theorem AnsX.xs (q : Sr) (v : Value) (R : Res) : XS 44 (AnsX q v R) := by
  rintro w g cs cs' ⟨gA, u, B, h1, h2, h3⟩ hg
  exact ⟨gA, u, B, h1, h2, XS.rows _ _ _ _ _ _ (T := 44) (by decide) w g cs cs' h3 hg⟩
attribute [local irreducible] wpList Calls wpQuiet
end Go.Proofs.YtdmifbffamckbaaGreatDoor
end
section
namespace Go.Proofs.YtdmifbffamckbaaGreatDoor
set_option linter.unusedVariables false
set_option linter.unusedSimpArgs false
open Go.RowKit Kit Go.Shelf Go.Proofs.YtdmifbffamckbaaGreatDoorW.PrintWords
attribute [local go_sem] Oper.semAt_some
def stepR (s : List Int) (m : Md) (p : Fin 12 × Int) : Md := if s.getD p.1.val 0 = 1 ∨ s.getD p.1.val 0 = 2 then (setM m true p.2 (s.getD p.1.val 0 == 1)).1 else m
def restL (s : List Int) (m : Md) (nums : List Int) : Md := (pairsL nums).foldl (stepR s) m
def zero12 : List Int := [0, 0, 0, 0, 0, 0, 0, 0, 0, 0, 0, 0]
theorem stepR_zero (m : Md) (p : Fin 12 × Int) : stepR zero12 m p = m := by
  obtain ⟨⟨j, hj⟩, y⟩ := p
  have : ∀ j : Fin 12, zero12.getD j.val 0 = 0 := by decide
  have h := this ⟨j, hj⟩
  unfold stepR
  simp only at h ⊢
  rw [h]
  simp
theorem restL_zero (m : Md) (nums : List Int) : restL zero12 m nums = m := by
  unfold restL
  generalize pairsL nums = l
  induction l with
  | nil => rfl
  | cons p l ih => rw [List.foldl_cons, stepR_zero, ih]
namespace Kit
section
variable {P : Program} {l : List Oper} {s i : Nat} {os o : Oper} {W0 w0 : World} {bs bs' : Res} {fs fs' : List Fact} {vals : Nat → Value} {A : Act}
theorem Owes.before (h1 : i ≠ s) (h2 : waits l.toArray os i = true) (h : ∀ w, (∀ j, waits l.toArray o j = true → Facts fs j (vals j) w) → Mine W0 w bs → Below w0.heap.size w0 w → StepOk P l.toArray o A w fun v w' => Below w.heap.size w w' ∧ Facts fs i v w') : Owes P l s os W0 w0 bs bs' fs fs' vals A i o := by
  unfold Owes; rw [if_neg h1, if_pos h2]; exact h
theorem Owes.after (h1 : i ≠ s) (h2 : waits l.toArray os i = false) (h : ∀ w, (∀ j, waits l.toArray o j = true → Facts fs j (vals j) w ∨ Facts fs' j (vals j) w) → StepOk P l.toArray o A w fun v w' => w' = w ∧ Facts fs i v w ∧ Facts fs' i v w) : Owes P l s os W0 w0 bs bs' fs fs' vals A i o := by
  unfold Owes; rw [if_neg h1, if_neg (by rw [h2]; decide)]; exact h
theorem Owes.store (h : ∀ w, (∀ j, waits l.toArray o j = true → Facts fs j (vals j) w) → Mine W0 w bs → Below w0.heap.size w0 w → StepOk P l.toArray o A w fun v w' => Mine W0 w' bs' ∧ Facts fs' s v w' ∧ ∀ j, j ≠ s → Facts fs j (vals j) w → Facts fs' j (vals j) w') : Owes P l s os W0 w0 bs bs' fs fs' vals A s o := by
  unfold Owes; rw [if_pos rfl]; exact h
theorem Keep.stored {g : Nat} {A B C : World} (h : Keep g A B) (hs : C.heap.size = B.heap.size) (hc : ∀ b, B.heap.size ≤ b ∨ b ≠ g → C.heap[b]? = B.heap[b]?) : Keep g A C :=
  ⟨by rw [hs]; exact h.size, fun k hk hne => (hc k (.inr hne)).trans (h.same k hk hne)⟩
theorem Stays.keep (g : Nat) (A : World) : Stays (fun _ w => Keep g A w) := fun _ _ _ h hb => h.below hb
end
end Kit
attribute [local irreducible] wpList Calls wpQuiet
set_option maxRecDepth 100000 in
set_option maxHeartbeats 4000000 in
theorem restore_calls (s : List Int) (hs : s.length = 12) (m : Md) (A : Option Addr) (c : Nat) (nums : List Int) (hn : nums.length ≤ 1000000) (w : World) (hC : (Kd.int .i64).C w A nums.length nums) :
    Calls Tryz.prog 85 #[.agg (u8s s).toArray, m.v, .slice A nums.length c] w fun e w' => e = .returned (restL s m nums).v ∧ Below w.heap.size w w' := by
  refine (callsIn_wide (n := 5)).1 ?_
  have HO := Mine.start w
  have HS := Lib.hid hs
  have HC := Lib.hid hC
  have HN := Lib.hid hn
  obtain ⟨b0, hb0⟩ : ∃ b, decide (s = zero12) = b := ⟨_, rfl⟩
  have HE : Hid (∀ w, (Op.equal 41 (.agg (u8s s).toArray) (.agg #[.int .u8 0, .int .u8 0, .int .u8 0, .int .u8 0, .int .u8 0, .int .u8 0, .int .u8 0, .int .u8 0, .int .u8 0, .int .u8 0, .int .u8 0, .int .u8 0])).run Tryz.prog w = .ok b0 w) := Lib.hid fun w => (equal_saved s zero12 hs rfl w).trans (by rw [hb0])
  have HB := Lib.hid hb0
  have HSL : Hid (Slc (u8s s) 0 12 (u8s s)) := Lib.hid (by have := Slc.all (u8s s); rwa [show (u8s s).length = 12 by simp [hs]] at this)
  clear hs hC hn hb0
  refine callsIn_of_wp_marks Tryz.func85 rfl trivial ?_ rfl
  simp only [Tryz.ntmps85, List.size_toArray, List.length_cons, List.length_nil, Nat.reduceAdd, Nat.reduceSub, Array.replicate_succ, Array.replicate_zero, List.push_toArray, List.append_toArray, List.nil_append, List.cons_append]
  refine wpIn_seq ?_
  refine wideRegionS ?_
  go_wp2_with (first
      | ((with_reducible refine gate ?_); (first
      | ((with_reducible refine gateAt (N := 4) rfl ?_); refine own_box HO rfl rfl (cs := [.bool m.cursor, .bool m.keypad, .bool m.back, .bool m.focus, .bool m.paste, .bool m.lock, .bool m.line, .int .i64 m.mouse, .int .i64 m.coding, .int .i64 m.other]) rfl ?_; clear HO; intro gM wN hgN HO; (simp only [List.nil_append, List.cons_append] at HO); (try simp only [Act.put, List.setIfInBounds_toArray, List.set_cons_zero, List.set_cons_succ]))
      | ((with_reducible refine gateAt (N := 3) rfl ?_); refine own_box HO rfl rfl (cs := u8s s) rfl ?_; clear HO; intro gS wN hgN HO; (simp only [List.nil_append, List.cons_append] at HO); (try simp only [Act.put, List.setIfInBounds_toArray, List.set_cons_zero, List.set_cons_succ]))
      | ((refine own_box HO rfl rfl rfl ?_); clear HO; intro gR wN hgR HO; (simp only [List.nil_append, List.cons_append] at HO); (try simp only [Act.put, List.setIfInBounds_toArray, List.set_cons_zero, List.set_cons_succ]))
      | ((refine own_alloc (T := 23) HO rfl rfl Tryz.zeroValue23 rfl ?_); clear HO; intro gR wN hgR HO; (simp only [List.nil_append, List.cons_append] at HO); (try simp only [Act.put, List.setIfInBounds_toArray, List.set_cons_zero, List.set_cons_succ]))
      | ((refine own_load (T := 23) HO rfl rfl rfl (by first | exact .head _ | exact .tail _ (.head _) | exact .tail _ (.tail _ (.head _)) | exact .tail _ (.tail _ (.tail _ (.head _))) | exact .tail _ (.tail _ (.tail _ (.tail _ (.head _)))) | exact .tail _ (.tail _ (.tail _ (.tail _ (.tail _ (.head _)))))) Tryz.isAgg23 Tryz.sizeOf23 (by repeat constructor) ?_); (try simp only [Act.put, List.setIfInBounds_toArray, List.set_cons_zero, List.set_cons_succ]))
      | ((refine own_store (T := 23) HO rfl rfl rfl rfl (by first | exact .here | exact .there (.here) | exact .there (.there (.here)) | exact .there (.there (.there (.here))) | exact .there (.there (.there (.there (.here)))) | exact .there (.there (.there (.there (.there (.here)))))) Tryz.sizeOf23 (by repeat constructor) rfl ?_); clear HO; intro wN HO; (try simp only [Act.put, List.setIfInBounds_toArray, List.set_cons_zero, List.set_cons_succ])))))
  refine wpIn_seq ?_
  refine wpIn_seq ?_
  refine wideRegionS ?_
  go_wp2_with ((with_reducible refine gate ?_); (first
    | (refine own_load (T := 41) (n := 12) (vs := u8s s) HO rfl rfl rfl (.head _) Tryz.isAgg41 Tryz.sizeOf41 HSL.out ?_; (try simp only [Act.put, List.setIfInBounds_toArray, List.set_cons_zero, List.set_cons_succ]))
    | (refine own_eql (t := 41) rfl rfl rfl rfl (by kernel_rfl) HE.out ?_; (try simp only [Act.put, List.setIfInBounds_toArray, List.set_cons_zero, List.set_cons_succ]))))
  cases b0
  case true =>
    have hz : s = zero12 := of_decide_eq_true HB.out
    subst hz
    rw [restL_zero]
    refine wpIn_cond_true rfl ?_
    refine wpIn_seq ?_
    refine wideRegionS ?_
    go_wp2_with (first
      | ((with_reducible refine gate ?_); (first
      | ((refine own_box HO rfl rfl rfl ?_); clear HO; intro gN wN hgN HO; (simp only [List.nil_append, List.cons_append] at HO); (try simp only [Act.put, List.setIfInBounds_toArray, List.set_cons_zero, List.set_cons_succ]))
      | ((refine own_load (T := 23) HO rfl rfl rfl (by first | exact .head _ | exact .tail _ (.head _) | exact .tail _ (.tail _ (.head _)) | exact .tail _ (.tail _ (.tail _ (.head _))) | exact .tail _ (.tail _ (.tail _ (.tail _ (.head _)))) | exact .tail _ (.tail _ (.tail _ (.tail _ (.tail _ (.head _)))))) Tryz.isAgg23 Tryz.sizeOf23 (by repeat constructor) ?_); (try simp only [Act.put, List.setIfInBounds_toArray, List.set_cons_zero, List.set_cons_succ]))
      | ((refine own_store (T := 23) HO rfl rfl rfl rfl (by first | exact .here | exact .there (.here) | exact .there (.there (.here)) | exact .there (.there (.there (.here))) | exact .there (.there (.there (.there (.here)))) | exact .there (.there (.there (.there (.there (.here)))))) Tryz.sizeOf23 (by repeat constructor) rfl ?_); clear HO; intro wN HO; (try simp only [Act.put, List.setIfInBounds_toArray, List.set_cons_zero, List.set_cons_succ])))))
    refine wpIn_ret ?_
    exact ⟨_, own_results1 HO Tryz.results85 rfl (.tail _ (.tail _ (.head _))) Tryz.isAgg23 Tryz.sizeOf23 (by repeat constructor), rfl, HO.below⟩
  case false =>
    refine wpIn_cond_false rfl ?_
    refine wpIn_skip ?_
    refine wpIn_seq ?_
    refine wpIn_seq ?_
    refine wideRegionS ?_
    go_wp2_with (go_at_call 125; refine (places_calls A _ c _).mono ?_; rintro eN wN ⟨v, rfl, ⟨g1, g3, gL, cap, rest, rfl, hg1, hg3, hgL, hc1, hc3, hcL, hcap⟩, hbN⟩; have hlt : gM < _ := HO.lt (.tail _ (.head _)); have HON := HO.call hbN; have HX := Lib.hid (And.intro (Nat.ne_of_gt (Nat.lt_of_lt_of_le hlt hg3)) (And.intro (Nat.ne_of_gt (Nat.lt_of_lt_of_le hlt hgL)) (And.intro hc1 (And.intro hc3 hcL)))); clear HO hbN hlt hg1 hg3 hgL hc1 hc3 hcL hcap; have HO := HON; clear HON)
    refine wpIn_block ?_
    obtain ⟨hX3, hXL, hc1, hc3, hcL⟩ := HX.out
    have hge : w.heap.size ≤ gM := (HO.held _ (.tail _ (.head _))).1
    have hlt : gM < wN.heap.size := HO.lt (.tail _ (.head _))
    refine wpIn_rangeFunc_ownG (F := Fence.wide) rfl (by omega) (gf := 158) (lb := #[.pointer (some ⟨g1, 0, none⟩), .pointer (some ⟨g3, 0, none⟩)]) rfl trivial (enters_of Tryz.func158 (by kernel_rfl) rfl)
      (places_stops 4 (by omega) wN.heap.size gM g1 g3 gL cap c rest A nums HN.out wN hc1 hc3 hcL ⟨(Array.getElem?_eq_some_iff.1 hc3).1, hX3⟩ ⟨(Array.getElem?_eq_some_iff.1 hcL).1, hXL⟩ (nums_of HC.out HO.below hge hlt)) (fun h k => h.trans k) (fun W l o o' hl _ _ _ k o2 hk hne h => (World.putObj_heap_other (show k ≠ l by omega)).trans h) (Below.refl _ _) (fun _ => rfl)
      (fun pre W => Mine w W [(gS, IsCells (u8s s) 41), (gM, IsCells [.bool (pre.foldl (stepR s) m).cursor, .bool (pre.foldl (stepR s) m).keypad, .bool (pre.foldl (stepR s) m).back, .bool (pre.foldl (stepR s) m).focus, .bool (pre.foldl (stepR s) m).paste, .bool (pre.foldl (stepR s) m).lock, .bool (pre.foldl (stepR s) m).line, .int .i64 (pre.foldl (stepR s) m).mouse, .int .i64 (pre.foldl (stepR s) m).coding, .int .i64 (pre.foldl (stepR s) m).other] 23), (gR, IsCells [.bool false, .bool false, .bool false, .bool false, .bool false, .bool false, .bool false, .int .i64 0, .int .i64 0, .int .i64 0] 23)])
      (fun _ _ _ => False)
      (mine_own _ (fun s p hp o ho => by
        simp only [List.mem_cons, List.not_mem_nil, or_false] at hp
        rcases hp with rfl | rfl | rfl <;> exact cells_isCells ho) (by have := HO.below.size; omega))
      (fun _ _ _ _ _ hs _ _ => hs) HO
      (fun x => { tmps := #[.agg (u8s s).toArray, m.v, .slice A nums.length c, .pointer (some ⟨gS, 0, none⟩), .pointer (some ⟨gM, 0, none⟩), undef, .pointer (some ⟨gR, 0, none⟩), .int .i64 (x.1.val : Int), .int .i64 x.2, .agg (u8s s).toArray, .agg #[.int .u8 0, .int .u8 0, .int .u8 0, .int .u8 0, .int .u8 0, .int .u8 0, .int .u8 0, .int .u8 0, .int .u8 0, .int .u8 0, .int .u8 0, .int .u8 0], .bool false, undef, .slice A nums.length c, .func (.func 158) #[] #[.pointer (some ⟨g1, 0, none⟩), .pointer (some ⟨g3, 0, none⟩)], .int .i64 (x.1.val : Int), .int .i64 x.2, undef, undef, undef, undef, undef, undef, undef, undef, undef, undef, undef, undef, undef, undef, undef, undef, undef, undef, undef, undef, undef], defers := [] }) ?assign ?body ?done ?stop
    case assign =>
      intro l x W K hK
      gi_wp2
      exact hK
    case body =>
      rintro l pre x W hI _
      clear HO hc1 hc3 hcL
      have HO := hI
      have HK := Keep.refl gM W
      clear hI
      obtain ⟨⟨j, hj⟩, y⟩ := x
      obtain ⟨F, hF⟩ : ∃ F, List.foldl (stepR s) m pre = F := ⟨_, rfl⟩
      obtain ⟨b, hb⟩ : ∃ b, s.getD j 0 = b := ⟨_, rfl⟩
      have hcell : (u8s s)[j]? = some (.int .u8 b) := by
        rw [← hb]
        have := HS.out
        simp [List.getD, show j < s.length by omega]
      have HCELL := Lib.hid hcell
      have hst : List.foldl (stepR s) m (pre ++ [(⟨j, hj⟩, y)]) = if b = 1 ∨ b = 2 then (setM F true y (b == 1)).1 else F := by
        rw [List.foldl_append, hF]
        show stepR s F (⟨j, hj⟩, y) = _
        unfold stepR
        simp only [hb]
      rw [hF] at HO
      have hj0 : (j : Int) < 12 := by omega
      clear hF hb hcell
      have HST := Lib.hid hst
      clear hst
      refine wpIn_block ?_
      refine wpIn_seq ?_
      refine inRegion (fun ⟨_, _, h⟩ => h) rfl ?_
      have h3 : b = 1 ∨ (b ≠ 1 ∧ b = 2) ∨ (b ≠ 1 ∧ b ≠ 2) := by omega
      rcases h3 with h1 | ⟨h1, h2⟩ | ⟨h1, h2⟩
      · subst h1
        obtain ⟨⟨r, ok⟩, hr⟩ : ∃ r, setM F true y true = r := ⟨_, rfl⟩
        have H3 : Hid (List.foldl (stepR s) m (pre ++ [(⟨j, hj⟩, y)]) = r) := Lib.hid (HST.out.trans (by rw [if_pos (by decide)]; show (setM F true y true).1 = r; rw [hr]))
        have HR := Lib.hid hr
        clear HST hr
        go_wp2_with ((with_reducible refine gate ?_); refine own_load1 (T := 5) HO rfl rfl rfl (.head _) Tryz.isAgg5 HCELL.out ?_; (try simp only [Act.put, List.setIfInBounds_toArray, List.set_cons_zero, List.set_cons_succ]))
        refine wpIn_cond_true rfl ?_
        refine region_putIn rfl 10 _ [fIs F.v, fIs (.int .i64 y), fIs (.int .i64 (j : Int)), fIs (.pointer (some ⟨gS, j, none⟩)), fIs (.int .u8 1), fIs (.bool true), fIs (.tuple #[r.v, .bool ok]), fIs (.tuple #[r.v, .bool ok]), fIs r.v, fIs (.bool ok)] ([fIs F.v, fIs (.int .i64 y), fIs (.int .i64 (j : Int)), fIs (.pointer (some ⟨gS, j, none⟩)), fIs (.int .u8 1), fIs (.bool true), fIs (.tuple #[r.v, .bool ok]), fIs (.tuple #[r.v, .bool ok]), fIs r.v, fIs (.bool ok)] ++ [fun _ w => Keep gM W w]) HO (by kernel_rfl) (by kernel_rfl) rfl (stays_cons (Stays.fIs _) (stays_cons (Stays.fIs _) (stays_cons (Stays.fIs _) (stays_cons (Stays.fIs _) (stays_cons (Stays.fIs _) (stays_cons (Stays.fIs _) (stays_cons (Stays.fIs _) (stays_cons (Stays.fIs _) (stays_cons (Stays.fIs _) (stays_cons (Stays.fIs _) stays_nil)))))))))) (stays_cons (Stays.fIs _) (stays_cons (Stays.fIs _) (stays_cons (Stays.fIs _) (stays_cons (Stays.fIs _) (stays_cons (Stays.fIs _) (stays_cons (Stays.fIs _) (stays_cons (Stays.fIs _) (stays_cons (Stays.fIs _) (stays_cons (Stays.fIs _) (stays_cons (Stays.fIs _) (stays_cons (Stays.keep gM W) stays_nil))))))))))) (bs' := [(gS, IsCells (u8s s) 41), (gM, IsCells [.bool r.cursor, .bool r.keypad, .bool r.back, .bool r.focus, .bool r.paste, .bool r.lock, .bool r.line, .int .i64 r.mouse, .int .i64 r.coding, .int .i64 r.other] 23), (gR, IsCells [.bool false, .bool false, .bool false, .bool false, .bool false, .bool false, .bool false, .int .i64 0, .int .i64 0, .int .i64 0] 23)]) ?_
        intro vals A hA
        simp [fillL, dstOf, List.range, List.range.loop, Act.put] at hA
        subst hA
        refine ⟨⟨?_, ?_, ?_, ?_, ?_, ?_, ?_, ?_, ?_, ?_, ?_, trivial⟩, ?_⟩
        case refine_1 =>
          refine Owes.before (by decide) (by kernel_rfl) ?_
          intro W2 hd hM hb0
          exact st_load hM rfl rfl rfl (.tail _ (.head _)) Tryz.isAgg23 Tryz.sizeOf23 (by repeat constructor) rfl
        case refine_2 =>
          refine Owes.before (by decide) (by kernel_rfl) ?_
          intro W2 hd hM hb0
          exact st_val rfl (by simp only [execOp]; first | (go_simp; done) | (go_simp; rfl)) rfl
        case refine_3 =>
          refine Owes.before (by decide) (by kernel_rfl) ?_
          intro W2 hd hM hb0
          exact st_val rfl (by simp only [execOp]; first | (go_simp; done) | (go_simp; rfl)) rfl
        case refine_4 =>
          refine Owes.before (by decide) (by kernel_rfl) ?_
          intro W2 hd hM hb0
          have v2 : vals 2 = .int .i64 (j : Int) := hd 2 (by kernel_rfl)
          rw [v2]
          exact st_val rfl (by simp only [execOp]; first | (go_simp; done) | (go_simp; rfl)) rfl
        case refine_5 =>
          refine Owes.before (by decide) (by kernel_rfl) ?_
          intro W2 hd hM hb0
          have v3 : vals 3 = .pointer (some ⟨gS, j, none⟩) := hd 3 (by kernel_rfl)
          rw [v3]
          exact st_load1 hM rfl rfl rfl (.head _) Tryz.isAgg5 HCELL.out rfl
        case refine_6 =>
          refine Owes.before (by decide) (by kernel_rfl) ?_
          intro W2 hd hM hb0
          have v4 : vals 4 = .int .u8 1 := hd 4 (by kernel_rfl)
          rw [v4]
          exact st_val rfl (by simp only [execOp]; first | (go_simp; done) | (go_simp; rfl)) rfl
        case refine_7 =>
          refine Owes.before (by decide) (by kernel_rfl) ?_
          intro W2 hd hM hb0
          have v0 : vals 0 = F.v := hd 0 (by kernel_rfl)
          have v1 : vals 1 = .int .i64 y := hd 1 (by kernel_rfl)
          have v5 : vals 5 = .bool true := hd 5 (by kernel_rfl)
          rw [v0, v1, v5]
          exact st_call rfl (by simp only [execOp]; first | (go_simp; done) | (go_simp; rfl)) (set_calls' F true y true r ok HR.out W2) (by rintro e w' ⟨rfl, hb⟩; exact ⟨_, rfl, hb, rfl⟩)
        case refine_8 =>
          refine Owes.before (by decide) (by kernel_rfl) ?_
          intro W2 hd hM hb0
          have v6 : vals 6 = .tuple #[r.v, .bool ok] := hd 6 (by kernel_rfl)
          rw [v6]
          exact st_val rfl (by simp only [execOp]; first | (go_simp; done) | (go_simp; rfl)) rfl
        case refine_9 =>
          refine Owes.before (by decide) (by kernel_rfl) ?_
          intro W2 hd hM hb0
          have v7 : vals 7 = .tuple #[r.v, .bool ok] := hd 7 (by kernel_rfl)
          rw [v7]
          exact st_val rfl (by simp only [execOp]; first | (go_simp; done) | (go_simp; rfl)) rfl
        case refine_10 =>
          refine Owes.after (by decide) (by kernel_rfl) ?_
          intro W2 hd
          have v7 : vals 7 = .tuple #[r.v, .bool ok] := (hd 7 (by kernel_rfl)).elim id id
          rw [v7]
          exact st_pure rfl (fun w => by simp only [execOp]; first | (go_simp; done) | (go_simp; rfl)) ⟨rfl, rfl⟩
        case refine_11 =>
          refine Owes.store ?_
          intro W2 hd hM hb0
          have v8 : vals 8 = r.v := hd 8 (by kernel_rfl)
          rw [v8]
          refine st_store (T := 23) (vs := [.bool r.cursor, .bool r.keypad, .bool r.back, .bool r.focus, .bool r.paste, .bool r.lock, .bool r.line, .int .i64 r.mouse, .int .i64 r.coding, .int .i64 r.other]) hM rfl rfl rfl rfl (.there .here) Tryz.sizeOf23 (by repeat constructor) rfl ?_
          intro W3 hM3 hb3 hoth hsz
          refine ⟨hM3, Kit.Keep.stored (HK.below hb0) hsz hoth, fun k hk hf => facts_turn (pure_cons (Pure.fIs _) (pure_cons (Pure.fIs _) (pure_cons (Pure.fIs _) (pure_cons (Pure.fIs _) (pure_cons (Pure.fIs _) (pure_cons (Pure.fIs _) (pure_cons (Pure.fIs _) (pure_cons (Pure.fIs _) (pure_cons (Pure.fIs _) (pure_cons (Pure.fIs _) pure_nil)))))))))) hk hf⟩
        case refine_12 =>
          intro W2 hd hM
          have HK2 : Keep gM W W2 := hd 10 (by decide)
          refine ⟨HK2.from hlt, HK2.kp _, ?_⟩
          dsimp only
          rw [H3.out]
          exact hM
      · subst h2
        clear h1
        obtain ⟨⟨r, ok⟩, hr⟩ : ∃ r, setM F true y false = r := ⟨_, rfl⟩
        have H3 : Hid (List.foldl (stepR s) m (pre ++ [(⟨j, hj⟩, y)]) = r) := Lib.hid (HST.out.trans (by rw [if_pos (by decide)]; show (setM F true y false).1 = r; rw [hr]))
        have HR := Lib.hid hr
        clear HST hr
        go_wp2_with ((with_reducible refine gate ?_); refine own_load1 (T := 5) HO rfl rfl rfl (.head _) Tryz.isAgg5 HCELL.out ?_; (try simp only [Act.put, List.setIfInBounds_toArray, List.set_cons_zero, List.set_cons_succ]))
        refine wpIn_cond_true rfl ?_
        refine region_putIn rfl 10 _ [fIs F.v, fIs (.int .i64 y), fIs (.int .i64 (j : Int)), fIs (.pointer (some ⟨gS, j, none⟩)), fIs (.int .u8 2), fIs (.bool false), fIs (.tuple #[r.v, .bool ok]), fIs (.tuple #[r.v, .bool ok]), fIs r.v, fIs (.bool ok)] ([fIs F.v, fIs (.int .i64 y), fIs (.int .i64 (j : Int)), fIs (.pointer (some ⟨gS, j, none⟩)), fIs (.int .u8 2), fIs (.bool false), fIs (.tuple #[r.v, .bool ok]), fIs (.tuple #[r.v, .bool ok]), fIs r.v, fIs (.bool ok)] ++ [fun _ w => Keep gM W w]) HO (by kernel_rfl) (by kernel_rfl) rfl (stays_cons (Stays.fIs _) (stays_cons (Stays.fIs _) (stays_cons (Stays.fIs _) (stays_cons (Stays.fIs _) (stays_cons (Stays.fIs _) (stays_cons (Stays.fIs _) (stays_cons (Stays.fIs _) (stays_cons (Stays.fIs _) (stays_cons (Stays.fIs _) (stays_cons (Stays.fIs _) stays_nil)))))))))) (stays_cons (Stays.fIs _) (stays_cons (Stays.fIs _) (stays_cons (Stays.fIs _) (stays_cons (Stays.fIs _) (stays_cons (Stays.fIs _) (stays_cons (Stays.fIs _) (stays_cons (Stays.fIs _) (stays_cons (Stays.fIs _) (stays_cons (Stays.fIs _) (stays_cons (Stays.fIs _) (stays_cons (Stays.keep gM W) stays_nil))))))))))) (bs' := [(gS, IsCells (u8s s) 41), (gM, IsCells [.bool r.cursor, .bool r.keypad, .bool r.back, .bool r.focus, .bool r.paste, .bool r.lock, .bool r.line, .int .i64 r.mouse, .int .i64 r.coding, .int .i64 r.other] 23), (gR, IsCells [.bool false, .bool false, .bool false, .bool false, .bool false, .bool false, .bool false, .int .i64 0, .int .i64 0, .int .i64 0] 23)]) ?_
        intro vals A hA
        simp [fillL, dstOf, List.range, List.range.loop, Act.put] at hA
        subst hA
        refine ⟨⟨?_, ?_, ?_, ?_, ?_, ?_, ?_, ?_, ?_, ?_, ?_, trivial⟩, ?_⟩
        case refine_1 =>
          refine Owes.before (by decide) (by kernel_rfl) ?_
          intro W2 hd hM hb0
          exact st_load hM rfl rfl rfl (.tail _ (.head _)) Tryz.isAgg23 Tryz.sizeOf23 (by repeat constructor) rfl
        case refine_2 =>
          refine Owes.before (by decide) (by kernel_rfl) ?_
          intro W2 hd hM hb0
          exact st_val rfl (by simp only [execOp]; first | (go_simp; done) | (go_simp; rfl)) rfl
        case refine_3 =>
          refine Owes.before (by decide) (by kernel_rfl) ?_
          intro W2 hd hM hb0
          exact st_val rfl (by simp only [execOp]; first | (go_simp; done) | (go_simp; rfl)) rfl
        case refine_4 =>
          refine Owes.before (by decide) (by kernel_rfl) ?_
          intro W2 hd hM hb0
          have v2 : vals 2 = .int .i64 (j : Int) := hd 2 (by kernel_rfl)
          rw [v2]
          exact st_val rfl (by simp only [execOp]; first | (go_simp; done) | (go_simp; rfl)) rfl
        case refine_5 =>
          refine Owes.before (by decide) (by kernel_rfl) ?_
          intro W2 hd hM hb0
          have v3 : vals 3 = .pointer (some ⟨gS, j, none⟩) := hd 3 (by kernel_rfl)
          rw [v3]
          exact st_load1 hM rfl rfl rfl (.head _) Tryz.isAgg5 HCELL.out rfl
        case refine_6 =>
          refine Owes.before (by decide) (by kernel_rfl) ?_
          intro W2 hd hM hb0
          have v4 : vals 4 = .int .u8 2 := hd 4 (by kernel_rfl)
          rw [v4]
          exact st_val rfl (by simp only [execOp]; first | (go_simp; done) | (go_simp; rfl)) rfl
        case refine_7 =>
          refine Owes.before (by decide) (by kernel_rfl) ?_
          intro W2 hd hM hb0
          have v0 : vals 0 = F.v := hd 0 (by kernel_rfl)
          have v1 : vals 1 = .int .i64 y := hd 1 (by kernel_rfl)
          have v5 : vals 5 = .bool false := hd 5 (by kernel_rfl)
          rw [v0, v1, v5]
          exact st_call rfl (by simp only [execOp]; first | (go_simp; done) | (go_simp; rfl)) (set_calls' F true y false r ok HR.out W2) (by rintro e w' ⟨rfl, hb⟩; exact ⟨_, rfl, hb, rfl⟩)
        case refine_8 =>
          refine Owes.before (by decide) (by kernel_rfl) ?_
          intro W2 hd hM hb0
          have v6 : vals 6 = .tuple #[r.v, .bool ok] := hd 6 (by kernel_rfl)
          rw [v6]
          exact st_val rfl (by simp only [execOp]; first | (go_simp; done) | (go_simp; rfl)) rfl
        case refine_9 =>
          refine Owes.before (by decide) (by kernel_rfl) ?_
          intro W2 hd hM hb0
          have v7 : vals 7 = .tuple #[r.v, .bool ok] := hd 7 (by kernel_rfl)
          rw [v7]
          exact st_val rfl (by simp only [execOp]; first | (go_simp; done) | (go_simp; rfl)) rfl
        case refine_10 =>
          refine Owes.after (by decide) (by kernel_rfl) ?_
          intro W2 hd
          have v7 : vals 7 = .tuple #[r.v, .bool ok] := (hd 7 (by kernel_rfl)).elim id id
          rw [v7]
          exact st_pure rfl (fun w => by simp only [execOp]; first | (go_simp; done) | (go_simp; rfl)) ⟨rfl, rfl⟩
        case refine_11 =>
          refine Owes.store ?_
          intro W2 hd hM hb0
          have v8 : vals 8 = r.v := hd 8 (by kernel_rfl)
          rw [v8]
          refine st_store (T := 23) (vs := [.bool r.cursor, .bool r.keypad, .bool r.back, .bool r.focus, .bool r.paste, .bool r.lock, .bool r.line, .int .i64 r.mouse, .int .i64 r.coding, .int .i64 r.other]) hM rfl rfl rfl rfl (.there .here) Tryz.sizeOf23 (by repeat constructor) rfl ?_
          intro W3 hM3 hb3 hoth hsz
          refine ⟨hM3, Kit.Keep.stored (HK.below hb0) hsz hoth, fun k hk hf => facts_turn (pure_cons (Pure.fIs _) (pure_cons (Pure.fIs _) (pure_cons (Pure.fIs _) (pure_cons (Pure.fIs _) (pure_cons (Pure.fIs _) (pure_cons (Pure.fIs _) (pure_cons (Pure.fIs _) (pure_cons (Pure.fIs _) (pure_cons (Pure.fIs _) (pure_cons (Pure.fIs _) pure_nil)))))))))) hk hf⟩
        case refine_12 =>
          intro W2 hd hM
          have HK2 : Keep gM W W2 := hd 10 (by decide)
          refine ⟨HK2.from hlt, HK2.kp _, ?_⟩
          dsimp only
          rw [H3.out]
          exact hM
      · have b1 : (b == 1) = false := beq_eq_false_iff_ne.2 h1
        have b2 : (b == 2) = false := beq_eq_false_iff_ne.2 h2
        have H3 : Hid (List.foldl (stepR s) m (pre ++ [(⟨j, hj⟩, y)]) = F) := Lib.hid (HST.out.trans (by rw [if_neg (by omega)]))
        clear HST h1 h2
        go_wp2_with ((with_reducible refine gate ?_); refine own_load1 (T := 5) HO rfl rfl rfl (.head _) Tryz.isAgg5 HCELL.out ?_; (try simp only [Act.put, List.setIfInBounds_toArray, List.set_cons_zero, List.set_cons_succ]))
        refine wpIn_cond_false rfl ?_
        refine wpIn_skip ?_
        refine ⟨HK.from hlt, HK.kp _, ?_⟩
        dsimp only
        rw [H3.out]
        exact HO
    case done =>
      rintro D ys W hD rfl hI hK
      clear HO hc1 hc3 hcL
      have HO := hI
      clear hI
      obtain ⟨F, hF⟩ : ∃ F, List.foldl (stepR s) m (pairsL nums) = F := ⟨_, rfl⟩
      rw [hF] at HO
      have hsv : restL s m nums = F := hF
      rw [hsv]
      have HXS : XS 23 (fun w : World => w.heap[D]? = some (.deferred (some []))) := fun w g cs cs' h hg => (setRow_other w g D _ (fun e => by subst e; dsimp only at h; rw [hg] at h; cases h)).trans h
      have hD2 : w.heap.size ≤ D := by omega
      clear hF hsv
      refine wpIn_seq ?_
      refine wideRegionS ?_
      go_wp2_with ((with_reducible refine gate ?_); (first
        | (refine own_load (T := 23) HO rfl rfl rfl (.tail _ (.head _)) Tryz.isAgg23 Tryz.sizeOf23 (by repeat constructor) ?_; (try simp only [Act.put, List.setIfInBounds_toArray, List.set_cons_zero, List.set_cons_succ]))
        | (refine own_storeX (T := 23) (vs := [.bool F.cursor, .bool F.keypad, .bool F.back, .bool F.focus, .bool F.paste, .bool F.lock, .bool F.line, .int .i64 F.mouse, .int .i64 F.coding, .int .i64 F.other]) HO (X := fun w : World => w.heap[D]? = some (.deferred (some []))) hK rfl rfl rfl rfl (.there (.there .here)) HXS Tryz.sizeOf23 (by repeat constructor) rfl ?_; clear HO hK; intro wN HO hK; (try simp only [Act.put, List.setIfInBounds_toArray, List.set_cons_zero, List.set_cons_succ]))))
      refine wpIn_ret ?_
      have HO2 : Mine w (wN.putObj D (.deferred none)) _ := (mine_own (β := Unit) (B := w.heap.size) (fun _ => _) (fun s p hp o ho => by
        simp only [List.mem_cons, List.not_mem_nil, or_false] at hp
        rcases hp with rfl | rfl | rfl <;> exact cells_isCells ho) (Nat.le_refl _)).putObj (s := ()) _ HO hD2 hK rfl
      refine ⟨by simp, .inl ⟨_, _, rfl, run_takeDeferred hK, ?_⟩⟩
      exact ⟨_, own_results1 HO2 Tryz.results85 rfl (.tail _ (.tail _ (.head _))) Tryz.isAgg23 Tryz.sizeOf23 (by repeat constructor), rfl, HO2.below⟩
    case stop =>
      rintro D c pre W _ _ h _
      exact h.elim
end Go.Proofs.YtdmifbffamckbaaGreatDoor
end
section
namespace Go.Proofs.YtdmifbffamckbaaGreatDoor
set_option linter.unusedVariables false
set_option linter.unusedSimpArgs false
open Go.RowKit Kit Go.Shelf Go.Proofs.YtdmifbffamckbaaGreatDoorW.PrintWords
theorem PutAt.mid {α : Type} : ∀ (a b b' c : List α), b'.length = b.length → PutAt (a ++ (b ++ c)) a.length b' (a ++ (b' ++ c))
  | [], [], [], c, _ => .nil
  | [], x :: b, v :: b', c, h => .put (PutAt.mid [] b b' c (by simpa using h))
  | x :: a, b, b', c, h => .skip (PutAt.mid a b b' c h)
theorem put_sv {m : Md} {s S : List Int} {x : Int} {K : Value} (h : s.length = 12) (h' : S.length = 12) : PutAt (stS m s x K) 10 (u8s S) (stS m S x K) := PutAt.mid (mdL m) (u8s s) (u8s S) [.int .i64 x, K] (by simp [h, h'])
theorem put_md {m m' : Md} {rest : List Value} : PutAt (stM m rest) 0 (mdL m') (stM m' rest) := by
  unfold stM mdL
  repeat constructor
def fIntsK (l : List Int) : Fact := fun v w => ∃ A c, v = .slice A l.length c ∧ l.length ≤ c ∧ Kd.C (Kd.int .i64) w A l.length l
theorem Stays.fIntsK (l : List Int) : Stays (fIntsK l) := fun v w w' ⟨A, c, h1, h2, h3⟩ hb => ⟨A, c, h1, h2, Kd.C_below h3 hb⟩
theorem all_gives (w : World) (k p f : Int) (i dt : ByteArray) (A : Option Addr) (c : Nat) (l : List (List Int)) (hc : l.length ≤ c) (h63 : l.length ≤ 100000) (hr : SeqAt w A l) :
    Calls Tryz.prog 84 #[.agg #[.int .i64 k, .int .u8 p, .slice A l.length c, .string i, .int .u8 f, .string dt]] w fun e w' => ∃ v, e = .returned v ∧ fIntsK (nums l) v w' ∧ Below w.heap.size w w' :=
  (actAll_calls w k p f i dt A c l hc h63 hr).mono fun e w' ⟨v, R, h1, h2, h3⟩ => by
    obtain ⟨p', n', c', rfl⟩ := h2.form
    obtain rfl := grow_len h2
    obtain ⟨h4, h5⟩ := grow_kd (bs := []) h2 h3
    exact ⟨_, h1, ⟨p', c', rfl, h4, h5⟩, h3.below⟩
theorem nums_len (l : List (List Int)) : (nums l).length = l.length := by unfold nums; rw [List.length_map]
attribute [local irreducible] wpList Calls wpQuiet
set_option maxRecDepth 100000 in
set_option maxHeartbeats 8000000 in
theorem saves_ok (w : World) (m : Md) (s : List Int) (hs : s.length = 12) (x : Int) (K : Value) (sc : List Value) (k p f : Int) (i dt : ByteArray) (qA : Option Addr) (qc : Nat) (rows : List (List Int)) (hqc : rows.length ≤ qc) (h63 : rows.length ≤ 100000) (hqr : SeqAt w qA rows) :
    DeedOk w (stS m s x K) (stS m (saveL m s (nums rows)) x K) (.plain 47) (.agg sc.toArray) (.agg #[.int .i64 k, .int .u8 p, .slice qA rows.length qc, .string i, .int .u8 f, .string dt]) (fun v R => v = .slice none 0 0 ∧ R = []) := by
  intro gs bs v W hv HO
  obtain rfl : v = .func (.func 47) #[] #[] := hv
  refine ⟨_, _, rfl, enters_of Tryz.func47 (by kernel_rfl) rfl, ?_⟩
  rw [Array.append_empty]
  have HAL := Lib.hid fun W (hW : Below w.heap.size w W) => all_gives W k p f i dt qA qc rows hqc h63 (Kd.C_below hqr hW)
  have HLN := Lib.hid (show (nums rows).length ≤ 1000000 by rw [nums_len]; omega)
  obtain ⟨S, hS⟩ : ∃ S, saveL m s (nums rows) = S := ⟨_, rfl⟩
  have hS12 : S.length = 12 := by rw [← hS, saveL, foldS_len, hs]
  rw [hS]
  have HS := Lib.hid hS
  clear hqr hqc h63 hS
  go_enter Tryz.func47, Tryz.ntmps47
  go_wp2_with (first
    | ((with_reducible refine gateAt (N := 4) rfl ?_); refine own_boxF (T := 34) (cs := sc) HO rfl rfl rfl ?_; clear HO; intro gf wN hggf HO; (try simp only [Act.put, List.setIfInBounds_toArray, List.set_cons_zero, List.set_cons_succ]))
    | ((with_reducible refine gateAt (N := 5) rfl ?_); refine own_boxF (T := 37) (cs := [.int .i64 k, .int .u8 p, .slice qA rows.length qc, .string i, .int .u8 f, .string dt]) HO rfl rfl rfl ?_; clear HO; intro gq wN hggq HO; (try simp only [Act.put, List.setIfInBounds_toArray, List.set_cons_zero, List.set_cons_succ])))
  refine region_law 12 [fIs (.pointer (some ⟨gs, 0, none⟩)), fIs (.pointer (some ⟨gs, 0, none⟩)), fIs (.pointer (some ⟨gs, 0, none⟩)), fIs (.pointer (some ⟨gs, 10, none⟩)), fIs (.agg (u8s s).toArray), fIs (.pointer (some ⟨gs, 0, none⟩)), fIs (.pointer (some ⟨gs, 0, none⟩)), fIs (.pointer (some ⟨gs, 0, none⟩)), fIs (m.v), fIs (.agg #[.int .i64 k, .int .u8 p, .slice qA rows.length qc, .string i, .int .u8 f, .string dt]), fIntsK (nums rows), fIs (.agg (u8s S).toArray)] HO (by kernel_rfl) (by kernel_rfl) (by decide) (by kernel_rfl)
    (stays_cons (Stays.fIs _) (stays_cons (Stays.fIs _) (stays_cons (Stays.fIs _) (stays_cons (Stays.fIs _) (stays_cons (Stays.fIs _) (stays_cons (Stays.fIs _) (stays_cons (Stays.fIs _) (stays_cons (Stays.fIs _) (stays_cons (Stays.fIs _) (stays_cons (Stays.fIs _) (stays_cons (Stays.fIntsK _) (stays_cons (Stays.fIs _) stays_nil)))))))))))) ?_
  intro vals A hA
  simp [fillL, dstOf, List.range, List.range.loop, Act.put] at hA
  subst hA
  refine ⟨⟨?_, ?_, ?_, ?_, ?_, ?_, ?_, ?_, ?_, ?_, ?_, ?_, trivial⟩, ?_⟩
  all_goals intro W hd hM hb0
  case refine_1 =>
    skip
    exact st_val rfl (by simp only [execOp]; first | (go_simp; done) | (go_simp; rfl)) rfl
  case refine_2 =>
    skip
    exact st_val rfl (by simp only [execOp]; first | (go_simp; done) | (go_simp; rfl)) rfl
  case refine_3 =>
    have v1 : vals 1 = .pointer (some ⟨gs, 0, none⟩) := hd 1 (by kernel_rfl)
    rw [v1]
    exact st_val rfl (by simp only [execOp]; first | (go_simp; done) | (go_simp; rfl)) rfl
  case refine_4 =>
    have v2 : vals 2 = .pointer (some ⟨gs, 0, none⟩) := hd 2 (by kernel_rfl)
    rw [v2]
    exact st_val rfl (by simp only [execOp]; first | (go_simp; done) | (go_simp; rfl)) rfl
  case refine_5 =>
    have v3 : vals 3 = .pointer (some ⟨gs, 10, none⟩) := hd 3 (by kernel_rfl)
    rw [v3]
    exact st_load (vs := u8s s) hM rfl rfl rfl (.tail _ (.tail _ (.head _))) Tryz.isAgg41 Tryz.sizeOf41 (slc_sv m s _ hs) rfl
  case refine_6 =>
    skip
    exact st_val rfl (by simp only [execOp]; first | (go_simp; done) | (go_simp; rfl)) rfl
  case refine_7 =>
    have v5 : vals 5 = .pointer (some ⟨gs, 0, none⟩) := hd 5 (by kernel_rfl)
    rw [v5]
    exact st_val rfl (by simp only [execOp]; first | (go_simp; done) | (go_simp; rfl)) rfl
  case refine_8 =>
    have v6 : vals 6 = .pointer (some ⟨gs, 0, none⟩) := hd 6 (by kernel_rfl)
    rw [v6]
    exact st_val rfl (by simp only [execOp]; first | (go_simp; done) | (go_simp; rfl)) rfl
  case refine_9 =>
    have v7 : vals 7 = .pointer (some ⟨gs, 0, none⟩) := hd 7 (by kernel_rfl)
    rw [v7]
    exact st_load (vs := mdL m) hM rfl rfl rfl (.tail _ (.tail _ (.head _))) Tryz.isAgg23 Tryz.sizeOf23 (slc_m m _) rfl
  case refine_10 =>
    skip
    exact st_load hM rfl rfl rfl (.head _) Tryz.isAgg37 Tryz.sizeOf37 (by repeat constructor) rfl
  case refine_11 =>
    have v9 : vals 9 = .agg #[.int .i64 k, .int .u8 p, .slice qA rows.length qc, .string i, .int .u8 f, .string dt] := hd 9 (by kernel_rfl)
    rw [v9]
    exact st_call rfl (by simp only [execOp]; first | (go_simp; done) | (go_simp; rfl)) (HAL.out W hM.below) (by rintro e w' ⟨v, rfl, hS, hb⟩; exact ⟨_, rfl, hb, hS⟩)
  case refine_12 =>
    have v4 : vals 4 = .agg (u8s s).toArray := hd 4 (by kernel_rfl)
    have v8 : vals 8 = m.v := hd 8 (by kernel_rfl)
    rw [v4, v8]
    obtain ⟨A2, c2, e10, h1, h2⟩ : fIntsK (nums rows) (vals 10) W := hd 10 (by kernel_rfl)
    rw [e10]
    have hq := save_calls s hs m A2 c2 (nums rows) HLN.out W h2
    rw [HS.out] at hq
    exact st_call rfl (by simp only [execOp]; first | (go_simp; done) | (go_simp; rfl)) hq (by rintro e w' ⟨rfl, hb⟩; exact ⟨_, rfl, hb, rfl⟩)
  case refine_13 =>
    have v0 : vals 0 = .pointer (some ⟨gs, 0, none⟩) := hd 0 (by omega)
    have v11 : vals 11 = .agg (u8s S).toArray := hd 11 (by omega)
    rw [v0, v11]
    simp only [List.drop_succ_cons, List.drop_zero]
    have HO := hM
    clear hd hM hb0
    go_wp2_with ((with_reducible refine gate ?_); refine own_store (T := 41) (vs := u8s S) HO rfl rfl rfl rfl (by first | exact .here | exact .there (.here) | exact .there (.there (.here)) | exact .there (.there (.there (.here)))) (size_at (n := 12) (by simp [hS12]) Tryz.sizeOf41) (put_sv hs hS12) (u8s_one _) ?_; clear HO; intro wN HO; (try simp only [Act.put, List.setIfInBounds_toArray, List.set_cons_zero, List.set_cons_succ]))
    go_ret
    exact ⟨_, [], rfl, by rw [List.append_nil]; exact HO.less (.cons _ (.cons _ (.refl _))), rfl, rfl⟩
set_option maxRecDepth 100000 in
set_option maxHeartbeats 8000000 in
theorem restores_ok (w : World) (m : Md) (s : List Int) (hs : s.length = 12) (x : Int) (K : Value) (sc : List Value) (k p f : Int) (i dt : ByteArray) (qA : Option Addr) (qc : Nat) (rows : List (List Int)) (hqc : rows.length ≤ qc) (h63 : rows.length ≤ 100000) (hqr : SeqAt w qA rows) :
    DeedOk w (stS m s x K) (stS (restL s m (nums rows)) s x K) (.plain 48) (.agg sc.toArray) (.agg #[.int .i64 k, .int .u8 p, .slice qA rows.length qc, .string i, .int .u8 f, .string dt]) (fun v R => v = .slice none 0 0 ∧ R = []) := by
  intro gs bs v W hv HO
  obtain rfl : v = .func (.func 48) #[] #[] := hv
  refine ⟨_, _, rfl, enters_of Tryz.func48 (by kernel_rfl) rfl, ?_⟩
  rw [Array.append_empty]
  have HAL := Lib.hid fun W (hW : Below w.heap.size w W) => all_gives W k p f i dt qA qc rows hqc h63 (Kd.C_below hqr hW)
  have HLN := Lib.hid (show (nums rows).length ≤ 1000000 by rw [nums_len]; omega)
  obtain ⟨S, hS⟩ : ∃ S, restL s m (nums rows) = S := ⟨_, rfl⟩
  rw [hS]
  have HS := Lib.hid hS
  clear hqr hqc h63 hS
  go_enter Tryz.func48, Tryz.ntmps48
  go_wp2_with (first
    | ((with_reducible refine gateAt (N := 4) rfl ?_); refine own_boxF (T := 34) (cs := sc) HO rfl rfl rfl ?_; clear HO; intro gf wN hggf HO; (try simp only [Act.put, List.setIfInBounds_toArray, List.set_cons_zero, List.set_cons_succ]))
    | ((with_reducible refine gateAt (N := 5) rfl ?_); refine own_boxF (T := 37) (cs := [.int .i64 k, .int .u8 p, .slice qA rows.length qc, .string i, .int .u8 f, .string dt]) HO rfl rfl rfl ?_; clear HO; intro gq wN hggq HO; (try simp only [Act.put, List.setIfInBounds_toArray, List.set_cons_zero, List.set_cons_succ])))
  refine region_law 12 [fIs (.pointer (some ⟨gs, 0, none⟩)), fIs (.pointer (some ⟨gs, 0, none⟩)), fIs (.pointer (some ⟨gs, 0, none⟩)), fIs (.pointer (some ⟨gs, 10, none⟩)), fIs (.agg (u8s s).toArray), fIs (.pointer (some ⟨gs, 0, none⟩)), fIs (.pointer (some ⟨gs, 0, none⟩)), fIs (.pointer (some ⟨gs, 0, none⟩)), fIs (m.v), fIs (.agg #[.int .i64 k, .int .u8 p, .slice qA rows.length qc, .string i, .int .u8 f, .string dt]), fIntsK (nums rows), fIs (S.v)] HO (by kernel_rfl) (by kernel_rfl) (by decide) (by kernel_rfl)
    (stays_cons (Stays.fIs _) (stays_cons (Stays.fIs _) (stays_cons (Stays.fIs _) (stays_cons (Stays.fIs _) (stays_cons (Stays.fIs _) (stays_cons (Stays.fIs _) (stays_cons (Stays.fIs _) (stays_cons (Stays.fIs _) (stays_cons (Stays.fIs _) (stays_cons (Stays.fIs _) (stays_cons (Stays.fIntsK _) (stays_cons (Stays.fIs _) stays_nil)))))))))))) ?_
  intro vals A hA
  simp [fillL, dstOf, List.range, List.range.loop, Act.put] at hA
  subst hA
  refine ⟨⟨?_, ?_, ?_, ?_, ?_, ?_, ?_, ?_, ?_, ?_, ?_, ?_, trivial⟩, ?_⟩
  all_goals intro W hd hM hb0
  case refine_1 =>
    skip
    exact st_val rfl (by simp only [execOp]; first | (go_simp; done) | (go_simp; rfl)) rfl
  case refine_2 =>
    skip
    exact st_val rfl (by simp only [execOp]; first | (go_simp; done) | (go_simp; rfl)) rfl
  case refine_3 =>
    have v1 : vals 1 = .pointer (some ⟨gs, 0, none⟩) := hd 1 (by kernel_rfl)
    rw [v1]
    exact st_val rfl (by simp only [execOp]; first | (go_simp; done) | (go_simp; rfl)) rfl
  case refine_4 =>
    have v2 : vals 2 = .pointer (some ⟨gs, 0, none⟩) := hd 2 (by kernel_rfl)
    rw [v2]
    exact st_val rfl (by simp only [execOp]; first | (go_simp; done) | (go_simp; rfl)) rfl
  case refine_5 =>
    have v3 : vals 3 = .pointer (some ⟨gs, 10, none⟩) := hd 3 (by kernel_rfl)
    rw [v3]
    exact st_load (vs := u8s s) hM rfl rfl rfl (.tail _ (.tail _ (.head _))) Tryz.isAgg41 Tryz.sizeOf41 (slc_sv m s _ hs) rfl
  case refine_6 =>
    skip
    exact st_val rfl (by simp only [execOp]; first | (go_simp; done) | (go_simp; rfl)) rfl
  case refine_7 =>
    have v5 : vals 5 = .pointer (some ⟨gs, 0, none⟩) := hd 5 (by kernel_rfl)
    rw [v5]
    exact st_val rfl (by simp only [execOp]; first | (go_simp; done) | (go_simp; rfl)) rfl
  case refine_8 =>
    have v6 : vals 6 = .pointer (some ⟨gs, 0, none⟩) := hd 6 (by kernel_rfl)
    rw [v6]
    exact st_val rfl (by simp only [execOp]; first | (go_simp; done) | (go_simp; rfl)) rfl
  case refine_9 =>
    have v7 : vals 7 = .pointer (some ⟨gs, 0, none⟩) := hd 7 (by kernel_rfl)
    rw [v7]
    exact st_load (vs := mdL m) hM rfl rfl rfl (.tail _ (.tail _ (.head _))) Tryz.isAgg23 Tryz.sizeOf23 (slc_m m _) rfl
  case refine_10 =>
    skip
    exact st_load hM rfl rfl rfl (.head _) Tryz.isAgg37 Tryz.sizeOf37 (by repeat constructor) rfl
  case refine_11 =>
    have v9 : vals 9 = .agg #[.int .i64 k, .int .u8 p, .slice qA rows.length qc, .string i, .int .u8 f, .string dt] := hd 9 (by kernel_rfl)
    rw [v9]
    exact st_call rfl (by simp only [execOp]; first | (go_simp; done) | (go_simp; rfl)) (HAL.out W hM.below) (by rintro e w' ⟨v, rfl, hS, hb⟩; exact ⟨_, rfl, hb, hS⟩)
  case refine_12 =>
    have v4 : vals 4 = .agg (u8s s).toArray := hd 4 (by kernel_rfl)
    have v8 : vals 8 = m.v := hd 8 (by kernel_rfl)
    rw [v4, v8]
    obtain ⟨A2, c2, e10, h1, h2⟩ : fIntsK (nums rows) (vals 10) W := hd 10 (by kernel_rfl)
    rw [e10]
    have hq := restore_calls s hs m A2 c2 (nums rows) HLN.out W h2
    rw [HS.out] at hq
    exact st_call rfl (by simp only [execOp]; first | (go_simp; done) | (go_simp; rfl)) hq (by rintro e w' ⟨rfl, hb⟩; exact ⟨_, rfl, hb, rfl⟩)
  case refine_13 =>
    have v0 : vals 0 = .pointer (some ⟨gs, 0, none⟩) := hd 0 (by omega)
    have v11 : vals 11 = S.v := hd 11 (by omega)
    rw [v0, v11]
    simp only [List.drop_succ_cons, List.drop_zero]
    have HO := hM
    clear hd hM hb0
    go_wp2_with ((with_reducible refine gate ?_); refine own_store (T := 23) (vs := mdL S) HO rfl rfl rfl rfl (by first | exact .here | exact .there (.here) | exact .there (.there (.here)) | exact .there (.there (.there (.here)))) (Tryz.sizeOf23) (put_md) (rfl) ?_; clear HO; intro wN HO; (try simp only [Act.put, List.setIfInBounds_toArray, List.set_cons_zero, List.set_cons_succ]))
    go_ret
    exact ⟨_, [], rfl, by rw [List.append_nil]; exact HO.less (.cons _ (.cons _ (.refl _))), rfl, rfl⟩
end Go.Proofs.YtdmifbffamckbaaGreatDoor
end
section
namespace Go.Proofs.YtdmifbffamckbaaGreatDoor
set_option linter.unusedVariables false
set_option linter.unusedSimpArgs false
open Go.RowKit Kit Go.Shelf Go.Proofs.YtdmifbffamckbaaGreatDoorW.PrintWords Go.Proofs.YtdmifbffamckbaaGreatDoorW.PrintMore
theorem max2_mx' (k k' : IntKind) (x y : Int) : Builtin.max2 (.int k x) (.int k' y) = pure (.int k (mx x y)) := max2_int k k' x y
theorem min2_mn' (k k' : IntKind) (x y : Int) : Builtin.min2 (.int k x) (.int k' y) = pure (.int k (mn x y)) := min2_int k k' x y
attribute [local irreducible] wpList Calls wpQuiet
attribute [local go_sem] max2_mx' min2_mn' max_two min_two
end Go.Proofs.YtdmifbffamckbaaGreatDoor
end
section
namespace Go.Proofs.YtdmifbffamckbaaGreatDoor
set_option linter.unusedVariables false
set_option linter.unusedSimpArgs false
open Go.RowKit Kit Go.Shelf Go.Proofs.YtdmifbffamckbaaGreatDoorW.PrintWords
def StkX (m : Md) (s : List Int) (x : Int) (l : List Int) (s' : List Value) (w : World) : Prop := ∃ A c, s' = stS m s x (.slice A l.length c) ∧ l.length ≤ c ∧ IntsI w A l
theorem StkX.xs (m : Md) (s : List Int) (x : Int) (l : List Int) (s' : List Value) : XS 44 (StkX m s x l s') := by
  rintro w g cs cs' ⟨A, c, h1, h2, h3⟩ hg
  exact ⟨A, c, h1, h2, IntsI.xs A l w g cs cs' h3 hg⟩
attribute [local irreducible] wpList Calls wpQuiet
end Go.Proofs.YtdmifbffamckbaaGreatDoor
end
section
namespace Go.Proofs.YtdmifbffamckbaaGreatDoor
set_option linter.unusedVariables false
set_option linter.unusedSimpArgs false
open Go.RowKit Kit Go.Shelf Go.Proofs.YtdmifbffamckbaaGreatDoorW.PrintWords
namespace Kit
def Turn (vals : Nat → Value) (w w' : World) : List Fact → List Fact → Nat → Prop
  | [], [], _ => True
  | p :: fs, p' :: fs', o => (p (vals o) w → p' (vals o) w') ∧ Turn vals w w' fs fs' (o + 1)
  | _, _, _ => False
theorem Turn.all {vals : Nat → Value} {w w' : World} : ∀ {fs fs' : List Fact} {o : Nat}, Turn vals w w' fs fs' o → ∀ k, Facts fs k (vals (o + k)) w → Facts fs' k (vals (o + k)) w'
  | [], [], _, _, k, _ => by unfold Facts; simp [fAny]
  | p :: fs, p' :: fs', o, h, 0, hf => h.1 hf
  | p :: fs, p' :: fs', o, h, k + 1, hf => by
    have := Turn.all h.2 k (by rw [show o + 1 + k = o + (k + 1) by omega]; exact hf)
    rw [show o + 1 + k = o + (k + 1) by omega] at this
    exact this
  | [], _ :: _, _, h, _, _ => h.elim
  | _ :: _, [], _, h, _, _ => h.elim
section
variable {P : Program} {l : List Oper} {s i : Nat} {os o : Oper} {W0 w0 : World} {bs bs' : Res} {fs fs' : List Fact} {vals : Nat → Value} {A : Act}
theorem owesB (h1 : i ≠ s) (h2 : waits l.toArray os i = true) (h : ∀ w, (∀ j, waits l.toArray o j = true → Facts fs j (vals j) w) → Mine W0 w bs → Below w0.heap.size w0 w → StepOk P l.toArray o A w fun v w' => Below w.heap.size w w' ∧ Facts fs i v w') : Owes P l s os W0 w0 bs bs' fs fs' vals A i o := by
  unfold Owes; rw [if_neg h1, if_pos h2]; exact h
theorem owesA (h1 : i ≠ s) (h2 : waits l.toArray os i = false) (h : ∀ w, (∀ j, waits l.toArray o j = true → Facts fs j (vals j) w ∨ Facts fs' j (vals j) w) → StepOk P l.toArray o A w fun v w' => w' = w ∧ Facts fs i v w ∧ Facts fs' i v w) : Owes P l s os W0 w0 bs bs' fs fs' vals A i o := by
  unfold Owes; rw [if_neg h1, if_neg (by rw [h2]; decide)]; exact h
theorem owesS (h : ∀ w, (∀ j, waits l.toArray o j = true → Facts fs j (vals j) w) → Mine W0 w bs → Below w0.heap.size w0 w → StepOk P l.toArray o A w fun v w' => Mine W0 w' bs' ∧ Facts fs' s v w' ∧ ∀ j, j ≠ s → Facts fs j (vals j) w → Facts fs' j (vals j) w') : Owes P l s os W0 w0 bs bs' fs fs' vals A s o := by
  unfold Owes; rw [if_pos rfl]; exact h
theorem new_storedX {ops : Array Oper} {w : World} {B b s : Nat} {T : TypeId} {Z cs : List Value} {x y : Operand} (hM : Mine W0 w bs) (hlt : ∀ q ∈ bs, q.1 < B) (hW : W0.heap.size ≤ B)
    (hge : B ≤ b) (hb : w.heap[b]? = some (.cells Z.toArray T (0, 0))) (hg : Region.wanted o (yielded ops A.tmps) = true) (ho : o.op = .store T x y) (hx : A.eval x = .pointer (some ⟨b, 0, none⟩)) (hy : (A.eval y).cells = cs.toArray)
    (hsz : ∀ w, (sizeOf T).run P w = .ok cs.length w) (hp : PutAt Z 0 cs cs) (h1 : cs.all (·.oneCell') = true) (hs : ∀ v w, Facts fs' s v w)
    (ht : ∀ w', (∀ i, i ≠ b → w'.heap[i]? = w.heap[i]?) → w'.heap[b]? = some (.cells cs.toArray T (0, 0)) → Turn vals w w' fs fs' 0) :
    StepOk P ops o A w fun v w' => Mine W0 w' bs ∧ Facts fs' s v w' ∧ ∀ j, j ≠ s → Facts fs j (vals j) w → Facts fs' j (vals j) w' := by
  have hM2 := hM.take (p := IsCells Z T) hlt hW hge ⟨_, hb, rfl⟩
  have hu : ∀ (l : Res), Upd (l ++ [(b, IsCells Z T)]) b (IsCells Z T) (IsCells cs T) (l ++ [(b, IsCells cs T)]) := by
    intro l
    induction l with
    | nil => exact .here
    | cons x l ih => exact .there ih
  refine st_store (T := T) hM2 hg ho hx hy (hu bs) hsz hp h1 ?_
  intro w' hM3 _ hoth _
  have hblk := hM3.at (g := b) (cs := cs) (T := T) (List.mem_append_right _ (.head _))
  refine ⟨hM3.less (List.sublist_append_left _ _), hs _ _, fun j _ hf => ?_⟩
  have := (ht w' (fun i hi => hoth i (.inr hi)) hblk).all j (by rw [Nat.zero_add]; exact hf)
  rwa [Nat.zero_add] at this
end
end Kit
theorem IntsI.off {w w' : World} {p : Option Addr} {l : List Int} {b : Nat} {cs : Array Value} {E : TypeId} {fz : Nat × Nat} (h : IntsI w p l) (hE : E ≠ 3) (hb : w.heap[b]? = some (.cells cs E fz)) (hoth : ∀ i, i ≠ b → w'.heap[i]? = w.heap[i]?) : IntsI w' p l := by
  rcases h with h | ⟨g2, o, cs2, h1, h2, h3⟩
  · exact .inl h
  · refine .inr ⟨g2, o, cs2, h1, ?_, h3⟩
    rw [hoth g2 (fun e => ?_)]
    · exact h2
    · subst e
      rw [h2] at hb
      cases hb
      exact hE rfl
theorem StkX.len {m : Md} {s : List Int} (hs : s.length = 12) {x : Int} {l : List Int} {s' : List Value} {w : World} (h : StkX m s x l s' w) : s'.length = 24 ∧ s'.all (·.oneCell') = true := by
  obtain ⟨A, c, rfl, _, _⟩ := h
  exact ⟨stS_len hs, stS_one _ _ _ rfl⟩
end Go.Proofs.YtdmifbffamckbaaGreatDoor
end
section
namespace Go.Proofs.YtdmifbffamckbaaGreatDoor
theorem flagIx_lt' {p : Bool} {n : Int} {i : Nat} (h : flagIx p n = some i) : i = 0 ∨ i = 1 ∨ i = 2 ∨ i = 3 ∨ i = 4 ∨ i = 5 ∨ i = 6 := by
  unfold flagIx at h
  repeat' split at h
  all_goals simp at h <;> omega
theorem choiceIx_spec {p : Bool} {n : Int} {i : Nat} (h : choiceIx p n = some i) : p = true ∧ ((i = 7 ∧ isMouse n = true) ∨ (i = 8 ∧ isCoding n = true)) := by
  unfold choiceIx at h
  repeat' split at h
  all_goals simp at h
  · subst h; exact ⟨by assumption, .inl ⟨rfl, by assumption⟩⟩
  · subst h; exact ⟨by assumption, .inr ⟨rfl, by assumption⟩⟩
theorem isMouse_ne {n : Int} (h : isMouse n = true) : n ≠ 0 := by
  intro e; subst e; simp [isMouse] at h
theorem isCoding_ne {n : Int} (h : isCoding n = true) : n ≠ 0 := by
  intro e; subst e; simp [isCoding] at h
theorem setM_some {m : Md} {p : Bool} {n : Int} {on : Bool} (h : (setM m p n on).2 = true) : ∀ m' on', (setM m' p n on').2 = true := by
  intro m' on'
  unfold setM at h ⊢
  cases hf : flagIx p n with
  | some i => simp
  | none =>
    cases hc : choiceIx p n with
    | some i => simp
    | none => simp [hf, hc] at h
theorem setM_cases (m : Md) (p : Bool) (n : Int) (on : Bool) :
    (∃ i, flagIx p n = some i ∧ setM m p n on = (setFlag m i on, true)) ∨ (flagIx p n = none ∧ ∃ i, choiceIx p n = some i ∧ setM m p n on = (setChoice m i n on, true)) ∨ (flagIx p n = none ∧ choiceIx p n = none ∧ setM m p n on = (m, false)) := by
  cases hf : flagIx p n with
  | some i => exact .inl ⟨i, rfl, by simp [setM, hf]⟩
  | none =>
    cases hc : choiceIx p n with
    | some i => exact .inr (.inl ⟨rfl, i, rfl, by simp [setM, hf, hc]⟩)
    | none => exact .inr (.inr ⟨rfl, rfl, by simp [setM, hf, hc]⟩)
theorem oneM_twice (was n : Int) (hn : n ≠ 0) (on : Bool) : oneM (oneM was n on) n on = oneM was n on := by
  cases on
  · simp only [oneM, Bool.false_eq_true, if_false]
    by_cases h : was = n
    · simp [h, Ne.symm hn]
    · simp [h]
  · rfl
theorem oneM_off (was n : Int) (hn : n ≠ 0) : oneM was n false ≠ n := by
  simp only [oneM, Bool.false_eq_true, if_false]
  by_cases h : was = n
  · simp [h, Ne.symm hn]
  · simp [h]
theorem setM_twice {m : Md} {p : Bool} {n : Int} {on : Bool} (h : (setM m p n on).2 = true) : setM (setM m p n on).1 p n on = ((setM m p n on).1, true) := by
  rcases setM_cases m p n on with ⟨i, hf, e⟩ | ⟨hf, i, hc, e⟩ | ⟨_, _, e⟩
  · rw [e]
    simp only [setM, hf]
    rcases flagIx_lt' hf with rfl | rfl | rfl | rfl | rfl | rfl | rfl <;> rfl
  · rw [e]
    simp only [setM, hf, hc]
    rcases (choiceIx_spec hc).2 with ⟨rfl, hm⟩ | ⟨rfl, hm⟩
    · simp only [setChoice, oneM_twice _ _ (isMouse_ne hm)]
    · simp only [setChoice, oneM_twice _ _ (isCoding_ne hm)]
  · rw [e] at h; cases h
theorem getM_set {m : Md} {p : Bool} {n : Int} {on : Bool} (h : (setM m p n on).2 = true) : getM (setM m p n on).1 p n = if on then 1 else 2 := by
  cases on
  · have h2 : (setM (setM m p n false).1 p n true).2 = true := setM_some h _ _
    have hne : (setM (setM m p n false).1 p n true).1 ≠ (setM m p n false).1 := by
      rcases setM_cases m p n false with ⟨i, hf, e⟩ | ⟨hf, i, hc, e⟩ | ⟨_, _, e⟩
      · rw [e]
        simp only [setM, hf]
        rcases flagIx_lt' hf with rfl | rfl | rfl | rfl | rfl | rfl | rfl <;> simp [setFlag]
      · rw [e]
        simp only [setM, hf, hc]
        rcases (choiceIx_spec hc).2 with ⟨rfl, hm⟩ | ⟨rfl, hm⟩
        · simp only [setChoice]
          intro he
          have : oneM (oneM m.mouse n false) n true = oneM m.mouse n false := congrArg Md.mouse he
          exact oneM_off m.mouse n (isMouse_ne hm) this.symm
        · simp only [setChoice]
          intro he
          have : oneM (oneM m.coding n false) n true = oneM m.coding n false := congrArg Md.coding he
          exact oneM_off m.coding n (isCoding_ne hm) this.symm
      · rw [e] at h; cases h
    simp [getM, h2, hne]
  · have h2 := setM_twice h
    simp [getM, h2]
end Go.Proofs.YtdmifbffamckbaaGreatDoor
end
section
namespace Go.Proofs.YtdmifbffamckbaaGreatDoor
set_option linter.unusedVariables false
set_option linter.unusedSimpArgs false
open Go.RowKit Kit Go.Shelf Go.Proofs.YtdmifbffamckbaaGreatDoorW.PrintWords
theorem ownL_idxA (n : Int) : 0 ≤ idxI ownL n ↔ n ∈ ownL := by
  constructor
  · intro h
    have h2 := (idxI_range ownL n).2
    apply Classical.byContradiction
    intro hn
    have := idxI_miss ownL n (fun j hj e => hn (by
      rw [← e]
      simp [List.getD, hj]))
    omega
  · intro h
    rcases mem_ownL.1 h with rfl | rfl | rfl | rfl | rfl | rfl | rfl | rfl | rfl | rfl | rfl | rfl <;> decide
theorem pairs_oneA (n : Int) : (n ∈ ownL ∧ ∃ j : Fin 12, pairsL [n] = [(j, n)] ∧ idxI ownL n = (j.val : Int)) ∨ (n ∉ ownL ∧ pairsL [n] = []) := by
  by_cases h : n ∈ ownL
  · obtain ⟨j, h1, h2⟩ := idx_fin ((ownL_idxA n).2 h)
    exact .inl ⟨h, j, by simp [pairsL, h2], h1⟩
  · exact .inr ⟨h, by simp [pairsL, idx_none (fun e => h ((ownL_idxA n).1 e))]⟩
theorem get_twoA {n : Int} (h : n ∈ ownL) (m : Md) : getM m true n = 1 ∨ getM m true n = 2 := by
  unfold getM
  rw [setM_ok, decide_eq_true h, if_pos rfl]
  split <;> simp
theorem back_lawA (m now : Md) (s : List Int) (hs : s.length = 12) (n : Int) : getM (restL (saveL m s [n]) now [n]) true n = getM m true n := by
  rcases pairs_oneA n with ⟨hin, j, hp, _⟩ | ⟨hout, hp⟩
  · obtain ⟨v, hv⟩ : ∃ v : Int, (if getM m true n = 1 then (1 : Int) else 2) = v := ⟨_, rfl⟩
    have e : saveL m s [n] = s.set j.val v := by
      unfold saveL
      rw [hp]
      show s.set j.val _ = _
      rw [hv]
    have hl : j.val < s.length := by rw [hs]; exact j.isLt
    have e1 : (s.set j.val v).getD j.val 0 = v := by simp [List.getD, hl]
    have hv2 : v = 1 ∨ v = 2 := by rw [← hv]; split <;> simp
    have hok : (setM now true n (v == 1)).2 = true := by rw [setM_ok, decide_eq_true hin]
    rw [e]
    unfold restL
    rw [hp]
    simp only [List.foldl_cons, List.foldl_nil, stepR]
    rw [e1, if_pos hv2, getM_set hok]
    rcases get_twoA hin m with h | h
    · rw [h, if_pos rfl] at hv
      rw [h, ← hv]; rfl
    · rw [h, if_neg (by decide)] at hv
      rw [h, ← hv]; rfl
  · unfold restL
    rw [hp]
    simp only [List.foldl_nil]
    unfold getM
    rw [setM_ok, setM_ok, decide_eq_false hout, if_neg (by decide), if_neg (by decide)]
theorem saveL_lenA (m : Md) (s : List Int) (l : List Int) : (saveL m s l).length = s.length := foldS_len m _ s
theorem rows_of_grow {W0 w : World} {bs : Res} {p : Option Addr} {n c b6 : Nat} {y : Int} {R : Res} (h : GRow 26 (.slice p n c) [.slice (some ⟨b6, 0, none⟩) 1 1] R) (HO : Mine W0 w (bs ++ R)) (hm : w.heap[b6]? = some (.cells [Value.int .i64 y].toArray 3 (0, 0))) : n = 1 ∧ 1 ≤ c ∧ SeqAt w p [[y]] := by
  obtain ⟨h1, h2, h3, h4⟩ := h.reads HO
  refine ⟨h1, h3, ?_⟩
  obtain ⟨b, o, rfl, hc⟩ := h2 0 _ rfl
  refine ⟨rfl, by simp, fun _ => ⟨⟨b, o, none⟩, rfl, fun j x hj => ?_⟩⟩
  cases j with
  | zero =>
    obtain rfl : [y] = x := by simpa using hj
    refine ⟨[.slice (some ⟨b6, 0, none⟩) 1 1], rfl, ⟨some ⟨b6, 0, none⟩, 1, rfl, Nat.le_refl _, ?_⟩, fun i u hu => ?_⟩
    · exact lit_ints (xs := [y]) hm (by simp)
    · cases i with
      | zero =>
        have hu' : u = .slice (some ⟨b6, 0, none⟩) 1 1 := by simpa using hu.symm
        subst hu'
        simpa [Addr.add] using hc
      | succ i => simp at hu
  | succ j => simp at hj
theorem do_saves (m : Md) (s : List Int) (hs : s.length = 12) (x : Int) (K : Value) (hK : K.oneCell' = true) (w : World) (A : Option Addr) (c : Nat) (rows : List (List Int)) (hc : rows.length ≤ c) (h63 : rows.length ≤ 100000) (hr : SeqAt w A rows) :
    Calls Tryz.prog 12 #[.agg (stS m s x K).toArray, .agg #[.int .i64 0, .int .i64 0, .int .i64 0, .int .i64 0, .int .i64 0, .int .i64 0, .int .i64 0, .int .i64 0, .int .i64 0, .bool false, .bool false, .bool false, .bool false, .bool false, .bool false, .bool false, .int .i64 0, .int .i64 0, .int .i64 0], .agg #[.int .i64 1, .int .u8 63, .slice A rows.length c, .string ⟨#[]⟩, .int .u8 115, .string ⟨#[]⟩]] w fun e w' => e = .returned (.tuple #[.agg (stS m (saveL m s (nums rows)) x K).toArray, .slice none 0 0, .bool true]) ∧ Below w.heap.size w w' :=
  (do_some (stS m s x K) [.int .i64 0, .int .i64 0, .int .i64 0, .int .i64 0, .int .i64 0, .int .i64 0, .int .i64 0, .int .i64 0, .int .i64 0, .bool false, .bool false, .bool false, .bool false, .bool false, .bool false, .bool false, .int .i64 0, .int .i64 0, .int .i64 0] (stS_len hs) rfl 1 63 115 ⟨#[]⟩ ⟨#[]⟩ A rows.length c ⟨rfl, rfl, by decide, rfl⟩ (.plain 47) rfl (fun h => absurd h.1 (by decide)) w (stS m (saveL m s (nums rows)) x K) (stS_len (by rw [saveL_lenA, hs])) (stS_one _ _ _ hK) _
    (saves_ok w m s hs x K [.int .i64 0, .int .i64 0, .int .i64 0, .int .i64 0, .int .i64 0, .int .i64 0, .int .i64 0, .int .i64 0, .int .i64 0, .bool false, .bool false, .bool false, .bool false, .bool false, .bool false, .bool false, .int .i64 0, .int .i64 0, .int .i64 0] 1 63 115 ⟨#[]⟩ ⟨#[]⟩ A c rows hc h63 hr)).mono fun e w' ⟨v, R, h1, h2, h3, _⟩ => ⟨by rw [h1, h3], h2.below⟩
theorem do_restores (m : Md) (s : List Int) (hs : s.length = 12) (x : Int) (K : Value) (hK : K.oneCell' = true) (w : World) (A : Option Addr) (c : Nat) (rows : List (List Int)) (hc : rows.length ≤ c) (h63 : rows.length ≤ 100000) (hr : SeqAt w A rows) :
    Calls Tryz.prog 12 #[.agg (stS m s x K).toArray, .agg #[.int .i64 0, .int .i64 0, .int .i64 0, .int .i64 0, .int .i64 0, .int .i64 0, .int .i64 0, .int .i64 0, .int .i64 0, .bool false, .bool false, .bool false, .bool false, .bool false, .bool false, .bool false, .int .i64 0, .int .i64 0, .int .i64 0], .agg #[.int .i64 1, .int .u8 63, .slice A rows.length c, .string ⟨#[]⟩, .int .u8 114, .string ⟨#[]⟩]] w fun e w' => e = .returned (.tuple #[.agg (stS (restL s m (nums rows)) s x K).toArray, .slice none 0 0, .bool true]) ∧ Below w.heap.size w w' :=
  (do_some (stS m s x K) [.int .i64 0, .int .i64 0, .int .i64 0, .int .i64 0, .int .i64 0, .int .i64 0, .int .i64 0, .int .i64 0, .int .i64 0, .bool false, .bool false, .bool false, .bool false, .bool false, .bool false, .bool false, .int .i64 0, .int .i64 0, .int .i64 0] (stS_len hs) rfl 1 63 114 ⟨#[]⟩ ⟨#[]⟩ A rows.length c ⟨rfl, rfl, by decide, rfl⟩ (.plain 48) rfl (fun h => absurd h.1 (by decide)) w (stS (restL s m (nums rows)) s x K) (stS_len hs) (stS_one _ _ _ hK) _
    (restores_ok w m s hs x K [.int .i64 0, .int .i64 0, .int .i64 0, .int .i64 0, .int .i64 0, .int .i64 0, .int .i64 0, .int .i64 0, .int .i64 0, .bool false, .bool false, .bool false, .bool false, .bool false, .bool false, .bool false, .int .i64 0, .int .i64 0, .int .i64 0] 1 63 114 ⟨#[]⟩ ⟨#[]⟩ A c rows hc h63 hr)).mono fun e w' ⟨v, R, h1, h2, h3, _⟩ => ⟨by rw [h1, h3], h2.below⟩
theorem do_setQ (m : Md) (s : List Int) (hs : s.length = 12) (x : Int) (K : Value) (hK : K.oneCell' = true) (f : Int) (hf : f = 104 ∨ f = 108) (w : World) (A : Option Addr) (y : Int) (hr : SeqAt w A [[y]]) :
    Calls Tryz.prog 12 #[.agg (stS m s x K).toArray, .agg #[.int .i64 0, .int .i64 0, .int .i64 0, .int .i64 0, .int .i64 0, .int .i64 0, .int .i64 0, .int .i64 0, .int .i64 0, .bool false, .bool false, .bool false, .bool false, .bool false, .bool false, .bool false, .int .i64 0, .int .i64 0, .int .i64 0], .agg #[.int .i64 1, .int .u8 63, .slice A 1 1, .string ⟨#[]⟩, .int .u8 f, .string ⟨#[]⟩]] w fun e w' => e = .returned (.tuple #[.agg (stS (setAll true (f == 104) m (nums [[y]])) s x K).toArray, .slice none 0 0, .bool true]) ∧ Below w.heap.size w w' := by
  have hrest : (u8s s ++ [.int .i64 x, K]).length = 14 := by simp [hs]
  have hone : (u8s s ++ [.int .i64 x, K]).all (·.oneCell') = true := by
    rw [List.all_append, u8s_one, List.all_cons, List.all_cons, hK]
    rfl
  rcases hf with rfl | rfl
  · exact do_set m (u8s s ++ [.int .i64 x, K]) hrest hone [.int .i64 0, .int .i64 0, .int .i64 0, .int .i64 0, .int .i64 0, .int .i64 0, .int .i64 0, .int .i64 0, .int .i64 0, .bool false, .bool false, .bool false, .bool false, .bool false, .bool false, .bool false, .int .i64 0, .int .i64 0, .int .i64 0] rfl 1 63 104 ⟨#[]⟩ ⟨#[]⟩ A 1 [[y]] (Nat.le_refl _) (by simp) ⟨rfl, rfl, by decide, rfl⟩ rfl (by decide) w hr
  · exact do_set m (u8s s ++ [.int .i64 x, K]) hrest hone [.int .i64 0, .int .i64 0, .int .i64 0, .int .i64 0, .int .i64 0, .int .i64 0, .int .i64 0, .int .i64 0, .int .i64 0, .bool false, .bool false, .bool false, .bool false, .bool false, .bool false, .bool false, .int .i64 0, .int .i64 0, .int .i64 0] rfl 1 63 108 ⟨#[]⟩ ⟨#[]⟩ A 1 [[y]] (Nat.le_refl _) (by simp) ⟨rfl, rfl, by decide, rfl⟩ rfl (by decide) w hr
end Go.Proofs.YtdmifbffamckbaaGreatDoor
end
section
namespace Go.Proofs.YtdmifbffamckbaaGreatDoor
set_option linter.unusedVariables false
set_option linter.unusedSimpArgs false
open Go.RowKit Kit Go.Shelf Go.Proofs.YtdmifbffamckbaaGreatDoorW.PrintWords
def fRows1 (y : Int) : Fact := fun v w => ∃ g1 g2, v = .slice (some ⟨g2, 0, none⟩) 1 1 ∧ w.heap[g2]? = some (.cells [Value.slice (some ⟨g1, 0, none⟩) 1 1].toArray 26 (0, 0)) ∧ w.heap[g1]? = some (.cells [Value.int .i64 y].toArray 3 (0, 0))
theorem Stays.fRows1 (y : Int) : Stays (fRows1 y) := fun v w w' ⟨g1, g2, h1, h2, h3⟩ hb => ⟨g1, g2, h1, (hb.block g2 (lt_of_get h2)).trans h2, (hb.block g1 (lt_of_get h3)).trans h3⟩
attribute [local irreducible] wpList Calls wpQuiet
end Go.Proofs.YtdmifbffamckbaaGreatDoor
end
section
namespace Go.Proofs.YtdmifbffamckbaaGreatDoor
set_option linter.unusedVariables false
set_option linter.unusedSimpArgs false
open Go.RowKit Kit Go.Shelf Go.Proofs.YtdmifbffamckbaaGreatDoorW.PrintWords
def fRowN (B : Nat) (y : Int) : Fact := fun v w => ∃ b, v = .slice (some ⟨b, 0, none⟩) 1 1 ∧ B ≤ b ∧ w.heap[b]? = some (.cells [Value.int .i64 y].toArray 3 (0, 0))
theorem Stays.fRowN (B : Nat) (y : Int) : Stays (fRowN B y) := fun v w w' ⟨b, h1, h2, h3⟩ hb => ⟨b, h1, h2, (hb.block b (lt_of_get h3)).trans h3⟩
def fRows2 (B : Nat) (y : Int) : Fact := fun v w => ∃ g1 g2, v = .slice (some ⟨g2, 0, none⟩) 1 1 ∧ w.heap[g2]? = some (.cells [Value.slice (some ⟨g1, 0, none⟩) 1 1].toArray 26 (0, 0)) ∧ B ≤ g1 ∧ w.heap[g1]? = some (.cells [Value.int .i64 y].toArray 3 (0, 0))
theorem Stays.fRows2 (B : Nat) (y : Int) : Stays (fRows2 B y) := fun v w w' ⟨g1, g2, h1, h2, h3, h4⟩ hb => ⟨g1, g2, h1, (hb.block g2 (lt_of_get h2)).trans h2, h3, (hb.block g1 (lt_of_get h4)).trans h4⟩
def fQf (f : Int) (y : Int) : Fact := fun v w => ∃ qA, v = .agg #[.int .i64 1, .int .u8 63, .slice qA 1 1, .string ⟨#[]⟩, .int .u8 f, .string ⟨#[]⟩] ∧ SeqAt w qA [[y]]
theorem Stays.fQf (p y : Int) : Stays (fQf p y) := fun v w w' ⟨qA, h1, h2⟩ hb => ⟨qA, h1, Kd.C_below h2 hb⟩
theorem rgetA (m : Md) (n r : Int) (h : getM m true n = r) (w : World) : Calls Tryz.prog 20 #[m.v, .bool true, .int .i64 n] w fun e w' => e = .returned (.int .i64 r) ∧ Below w.heap.size w w' := by
  have := rget_calls m true n w; rw [h] at this; exact this
attribute [local irreducible] wpList Calls wpQuiet
set_option maxRecDepth 100000 in
set_option maxHeartbeats 32000000 in
theorem actSaves_calls (m : Md) (s : List Int) (hs : s.length = 12) (x : Int) (Ax : Option Addr) (cx : Nat) (lx : List Int) (hcx : lx.length ≤ cx) (B : Option Addr) (cB : Nat) (l : List Int) (hcB : l.length ≤ cB) (D : Option Addr) (cD : Nat) (q : List Int) (hcD : q.length ≤ cD) (w : World)
    (hrx : Kd.C (Kd.int .i64) w Ax lx.length lx) (hB : Kd.C (Kd.int .i64) w B l.length l) (hD : Kd.C (Kd.int .i64) w D q.length q) :
    Calls Tryz.prog 6 #[.agg (stS m s x (.slice Ax lx.length cx)).toArray, .slice B l.length cB, .slice D q.length cD] w fun e w' => e = .returned (.bool true) ∧ Below w.heap.size w w' := by
  have HO := Mine.start w
  obtain ⟨a, ha⟩ : ∃ a, l.length = a := ⟨_, rfl⟩
  obtain ⟨b, hb⟩ : ∃ b, q.length = b := ⟨_, rfl⟩
  have HA := Lib.hid ha
  have HB := Lib.hid hb
  rw [ha] at hcB hB ⊢
  rw [hb] at hcD hD ⊢
  by_cases h1 : a ≤ 1
  case neg =>
    have d1 : decide ((a : Int) > 1) = true := decide_eq_true (by omega)
    have d1' : decide ((1 : Int) < (a : Int)) = true := decide_eq_true (by omega)
    clear hrx hB hD hcx hcB hcD
    go_enter Tryz.func6, Tryz.ntmps6
    go_wp2_with (first
      | ((with_reducible refine gateAt (N := 3) rfl ?_); refine own_boxF (T := 30) (cs := (stS m s x (.slice Ax lx.length cx))) HO rfl rfl rfl ?_; clear HO; intro g3 wN hgg3 HO; (try simp only [Act.put, List.setIfInBounds_toArray, List.set_cons_zero, List.set_cons_succ]))
      | (go_at_call 9; refine (awake21_calls _).mono ?_; rintro eN wN ⟨rfl, hbN⟩; have HON := HO.call hbN; clear HO hbN; have HO := HON; clear HON))
    go_ret
    exact ⟨rfl, HO.below⟩
  have d1 : decide ((a : Int) > 1) = false := decide_eq_false (by omega)
  have d1' : decide ((1 : Int) < (a : Int)) = false := decide_eq_false (by omega)
  by_cases h2 : b ≤ 10
  case neg =>
    have d2 : decide ((b : Int) > 10) = true := decide_eq_true (by omega)
    have d2' : decide ((10 : Int) < (b : Int)) = true := decide_eq_true (by omega)
    clear hrx hB hD hcx hcB hcD
    go_enter Tryz.func6, Tryz.ntmps6
    go_wp2_with (first
      | ((with_reducible refine gateAt (N := 3) rfl ?_); refine own_boxF (T := 30) (cs := (stS m s x (.slice Ax lx.length cx))) HO rfl rfl rfl ?_; clear HO; intro g3 wN hgg3 HO; (try simp only [Act.put, List.setIfInBounds_toArray, List.set_cons_zero, List.set_cons_succ]))
      | (go_at_call 9; refine (awake21_calls _).mono ?_; rintro eN wN ⟨rfl, hbN⟩; have HON := HO.call hbN; clear HO hbN; have HO := HON; clear HON))
    go_ret
    exact ⟨rfl, HO.below⟩
  have d2 : decide ((b : Int) > 10) = false := decide_eq_false (by omega)
  have d2' : decide ((10 : Int) < (b : Int)) = false := decide_eq_false (by omega)
  obtain ⟨xf, hxf⟩ : ∃ xf, flagsI x = xf := ⟨_, rfl⟩
  have HXF := Lib.hid hxf
  have HS12 := Lib.hid hs
  have HRX := Lib.hid hrx
  have HCX := Lib.hid hcx
  have HBR := Lib.hid hB
  have HDR := Lib.hid hD
  have HA1 := Lib.hid h1
  have HB1 := Lib.hid h2
  clear hs hrx hcx hB hD h1 h2 hcB hcD hxf
  go_enter Tryz.func6, Tryz.ntmps6
  go_wp2_with (first
    | ((with_reducible refine gateAt (N := 3) rfl ?_); refine own_boxF (T := 30) (cs := (stS m s x (.slice Ax lx.length cx))) HO rfl rfl rfl ?_; clear HO; intro g3 wN hgg3 HO; (try simp only [Act.put, List.setIfInBounds_toArray, List.set_cons_zero, List.set_cons_succ]))
    | (go_at_call 9; refine (awake21_calls _).mono ?_; rintro eN wN ⟨rfl, hbN⟩; have HON := HO.call hbN; clear HO hbN; have HO := HON; clear HON)
    | (go_at_call 11; refine (tame_calls m s HS12.out x Ax cx lx HCX.out _ (Kd.C_below HRX.out HO.below)).mono ?_; rintro eN wN ⟨px, nx, ax, Rx, rfl, hGx, HM⟩; clear hGx; rw [HXF.out]; have HON := HO.join HM; clear HO HM; have HO := HON; clear HON)
    | (go_at_call 13; refine (made_calls m s HS12.out xf px nx ax _).mono ?_; rintro eN wN ⟨rfl, hbN⟩; have HON := HO.call hbN; clear HO hbN; have HO := HON; clear HON)
    | ((with_reducible refine gate ?_); (first
      | ((refine own_load (T := 30) (vs := (stS m s x (.slice Ax lx.length cx))) HO rfl rfl rfl (by first | exact .head _ | exact .tail _ (.head _) | exact .tail _ (.tail _ (.head _)) | exact .tail _ (.tail _ (.tail _ (.head _))) | exact .tail _ (.tail _ (.tail _ (.tail _ (.head _)))) | exact .tail _ (.tail _ (.tail _ (.tail _ (.tail _ (.head _)))))) Tryz.isAgg30 Tryz.sizeOf30 (Slc.fullN (stS_len HS12.out)) ?_); (try simp only [Act.put, List.setIfInBounds_toArray, List.set_cons_zero, List.set_cons_succ]))
      | ((refine own_store (T := 44) (vs := (stS m s xf (.slice px nx ax))) HO rfl rfl rfl rfl (by first | exact .here | exact .there (.here) | exact .there (.there (.here)) | exact .there (.there (.there (.here))) | exact .there (.there (.there (.there (.here)))) | exact .there (.there (.there (.there (.there (.here)))))) (size_at (stS_len HS12.out) Tryz.sizeOf44) (PutAt.full (by first | (rw [stS_len HS12.out]; rfl) | (rw [stS_len HS12.out, stS_len HS12.out]))) (stS_one _ _ _ rfl) ?_); clear HO; intro wN HO; (try simp only [Act.put, List.setIfInBounds_toArray, List.set_cons_zero, List.set_cons_succ]))
      | ((refine own_load (T := 23) (vs := mdL m) HO rfl rfl rfl (by first | exact .head _ | exact .tail _ (.head _) | exact .tail _ (.tail _ (.head _)) | exact .tail _ (.tail _ (.tail _ (.head _)))) Tryz.isAgg23 Tryz.sizeOf23 (slc_m m _) ?_); (try simp only [Act.put, List.setIfInBounds_toArray, List.set_cons_zero, List.set_cons_succ]))
      | ((refine own_store (T := 23) (vs := mdL m) HO rfl rfl rfl rfl (by first | exact .here | exact .there (.here) | exact .there (.there (.here)) | exact .there (.there (.there (.here)))) Tryz.sizeOf23 (PutAt.full (by rfl)) rfl ?_); clear HO; intro wN HO; (try simp only [Act.put, List.setIfInBounds_toArray, List.set_cons_zero, List.set_cons_succ]))))
    | ((with_reducible refine gateAt (N := 8) rfl ?_); refine own_allocF (T := 44) (cs := stZero) HO rfl rfl Tryz.zeroValue44 rfl ?_; clear HO; intro g8 wN hgg8 HO; (try simp only [Act.put, List.setIfInBounds_toArray, List.set_cons_zero, List.set_cons_succ]))
    | ((with_reducible refine gateAt (N := 9) rfl ?_); refine own_allocF (T := 23) HO rfl rfl Tryz.zeroValue23 rfl ?_; clear HO; intro g9 wN hgg9 HO; (try simp only [Act.put, List.setIfInBounds_toArray, List.set_cons_zero, List.set_cons_succ]))
    | ((with_reducible refine gateAt (N := 10) rfl ?_); refine own_allocF (T := 37) HO rfl rfl Tryz.zeroValue37 rfl ?_; clear HO; intro g10 wN hgg10 HO; (try simp only [Act.put, List.setIfInBounds_toArray, List.set_cons_zero, List.set_cons_succ]))
    | (first
      | ((with_reducible refine gate ?_); (first
      | ((refine own_load (T := 37) HO rfl rfl rfl (by first | exact .head _ | exact .tail _ (.head _)) Tryz.isAgg37 Tryz.sizeOf37 (by repeat constructor) ?_); (try simp only [Act.put, List.setIfInBounds_toArray, List.set_cons_zero, List.set_cons_succ]))
      | ((refine own_store (T := 37) HO rfl rfl rfl rfl (by first | exact .here | exact .there (.here)) Tryz.sizeOf37 (by repeat constructor) rfl ?_); clear HO; intro wN HO; (try simp only [Act.put, List.setIfInBounds_toArray, List.set_cons_zero, List.set_cons_succ]))))))
  go_loopw [11] (fun i wr => ∃ (k : Nat) (A9 : Option Addr) (c9 : Nat) (R9 : Res), k ≤ a ∧ i = .int .i64 (k : Int) ∧ k ≤ c9 ∧ (k = 0 → A9 = none ∧ c9 = 0 ∧ R9 = []) ∧ (∀ W bs, Mine w W (bs ++ R9) → SeqAt W A9 ((l.take k).map fun z => [z])) ∧ Mine w wr ((g10, IsCells [.int .i64 1, .int .u8 63, .slice A9 k c9, .string ⟨#[]⟩, .int .u8 115, .string ⟨#[]⟩] 37) :: (g9, IsCells (mdL m) 23) :: (g8, IsCells (stS m s xf (.slice px nx ax)) 44) :: R9)) (fun i _ => a - (intOf i).toNat)
  case atStart => exact ⟨0, none, 0, [], Nat.zero_le _, rfl, Nat.le_refl _, fun _ => ⟨rfl, rfl, rfl⟩, fun W bs _ => by rw [List.take_zero, List.map_nil]; exact ⟨rfl, by simp, fun h => by simp at h⟩, HO.less (.cons_cons _ (.cons_cons _ (.cons_cons _ (List.nil_sublist _))))⟩
  case round =>
    obtain ⟨k, A9, c9, R9, hk, rfl, hkc, hk0, hsq, HO2⟩ := hrel
    clear HO
    have HO := HO2
    clear HO2
    by_cases hlt : k < a
    · have e0 : k = 0 := by have := HA1.out; omega
      have HK0 := Lib.hid e0
      obtain ⟨rfl, rfl, rfl⟩ := hk0 e0
      have d3 : decide ((k : Int) < (a : Int)) = true := decide_eq_true (by omega)
      obtain ⟨ad, e, hcell⟩ := Kd.at_int HBR.out (k : Int) (by omega) (by have := HA.out; omega)
      subst e
      rw [Int.toNat_natCast, rd_intA l k (by have := HA.out; omega)] at hcell
      obtain ⟨n, hn⟩ : ∃ n, l.getD k 0 = n := ⟨_, rfl⟩
      rw [hn] at hcell
      have HCELL := Lib.hid hcell
      have htk : (l.take (k + 1)).map (fun z => [z]) = [[n]] := by
        have h1 := HA.out
        have h2 := HA1.out
        subst e0
        match l, h1 with
        | [z], _ => simp at hn ⊢; exact hn
        | [], h1 => simp at h1; omega
        | _ :: _ :: _, h1 => simp at h1; omega
      have HTK := Lib.hid htk
      have hki : (k : Int) < (a : Int) := by omega
      have hkm : k < a := hlt
      have HLT := Lib.hid hlt
      have HO2 : Mine w wr ((g10, IsCells [.int .i64 1, .int .u8 63, .slice none 0 0, .string ⟨#[]⟩, .int .u8 115, .string ⟨#[]⟩] 37) :: (g9, IsCells (mdL m) 23) :: (g8, IsCells (stS m s xf (.slice px nx ax)) 44) :: []) := by subst e0; exact HO
      clear HO
      have HO := HO2
      clear HO2
      clear hk0 hsq hcell hn htk hk hkc e0 hlt
      go_wp2
      have HL := Lib.hid (show ∀ q ∈ ((g10, IsCells [.int .i64 1, .int .u8 63, .slice none 0 0, .string ⟨#[]⟩, .int .u8 115, .string ⟨#[]⟩] 37) :: (g9, IsCells (mdL m) 23) :: (g8, IsCells (stS m s xf (.slice px nx ax)) 44) :: []), q.1 < wr.heap.size from fun q hq => HO.lt hq)
      have HW0 := Lib.hid HO.below.size
      refine region_law 8 [fIs (.pointer (some ⟨g10, 2, none⟩)), fIs (.slice none 0 0), fIs (.slice (some ad) a cB), fIs (.int .i64 (k : Int)), fIs (.pointer (some (ad.add k))), fIs (.int .i64 n), fRowN wr.heap.size n, fRows2 wr.heap.size n] HO (by kernel_rfl) (by kernel_rfl) (by decide) (by kernel_rfl)
        (stays_cons (Stays.fIs _) (stays_cons (Stays.fIs _) (stays_cons (Stays.fIs _) (stays_cons (Stays.fIs _) (stays_cons (Stays.fIs _) (stays_cons (Stays.fIs _) (stays_cons (Stays.fRowN _ _) (stays_cons (Stays.fRows2 _ _) stays_nil)))))))) ?_
      intro vals A hA
      simp [fillL, dstOf, List.range, List.range.loop, Act.put] at hA
      subst hA
      refine ⟨⟨?_, ?_, ?_, ?_, ?_, ?_, ?_, ?_, trivial⟩, ?_⟩
      all_goals intro W hd hM hb0
      case refine_1 =>
        skip
        exact st_val rfl (by simp only [execOp]; first | (go_simp; done) | (go_simp; rfl)) rfl
      case refine_2 =>
        have v0 : vals 0 = .pointer (some ⟨g10, 2, none⟩) := hd 0 (by kernel_rfl)
        rw [v0]
        exact st_load1 hM rfl rfl rfl (.head _) Tryz.isAgg35 rfl rfl
      case refine_3 =>
        skip
        exact st_val rfl (by simp only [execOp]; first | (go_simp; done) | (go_simp; rfl)) rfl
      case refine_4 =>
        skip
        exact st_val rfl (by simp only [execOp]; first | (go_simp; done) | (go_simp; rfl)) rfl
      case refine_5 =>
        have v2 : vals 2 = .slice (some ad) a cB := hd 2 (by kernel_rfl)
        have v3 : vals 3 = .int .i64 (k : Int) := hd 3 (by kernel_rfl)
        rw [v2, v3]
        exact st_val rfl (by simp only [execOp]; go_simp; first | done | rfl | (simp [hki, hkm]; done) | (simp [hki, hkm]; rfl)) rfl
      case refine_6 =>
        have v4 : vals 4 = .pointer (some (ad.add k)) := hd 4 (by kernel_rfl)
        rw [v4]
        exact st_read hM rfl rfl rfl HCELL.out Tryz.isAgg3 rfl
      case refine_7 =>
        have v5 : vals 5 = .int .i64 n := hd 5 (by kernel_rfl)
        rw [v5]
        exact st_new (ob := .cells #[.int .i64 n] 3 (0, 0)) rfl (by simp only [execOp]; first | (go_simp; done) | (go_simp; rfl)) (fun h => ⟨_, rfl, hb0.size, h⟩)
      case refine_8 =>
        skip
        obtain ⟨b6, e6, hge6, hb6⟩ : fRowN wr.heap.size n (vals 6) W := hd 6 (by kernel_rfl)
        rw [e6]
        exact st_new (ob := .cells #[.slice (some ⟨b6, 0, none⟩) 1 1] 26 (0, 0)) rfl (by simp only [execOp]; first | (go_simp; done) | (go_simp; rfl)) (fun h => ⟨b6, _, rfl, h, hge6, (Below.heap_alloc W _ b6 (lt_of_get hb6)).trans hb6⟩)
      case refine_9 =>
        have v0 : vals 0 = .pointer (some ⟨g10, 2, none⟩) := hd 0 (by omega)
        have v1 : vals 1 = .slice none 0 0 := hd 1 (by omega)
        rw [v0, v1]
        simp only [List.drop_succ_cons, List.drop_zero]
        obtain ⟨b6, b7, e7, h7, hge6, h6⟩ : fRows2 wr.heap.size n (vals 7) W := hd 7 (by omega)
        rw [e7]
        have HRD := Lib.hid (show Reads W (some ⟨b7, 0, none⟩) [.slice (some ⟨b6, 0, none⟩) 1 1] from Reads.row (n := 1) h7 (by simp))
        have HO := hM.take (p := IsCells [.int .i64 n] 3) HL.out HW0.out hge6 ⟨_, h6, rfl⟩
        simp only [List.nil_append, List.cons_append] at HO
        clear hd hM hb0 h6 h7 hge6 e7
        go_wp2_with (first | ((with_reducible refine gateAt (N := 53) rfl ?_); refine own_append (T := 26) (t := 35) (z := .slice none 0 0) (bytes := 24) (news := [.slice (some ⟨b6, 0, none⟩) 1 1]) (xs := []) HO (GRow.nil _) (by repeat (first | exact Tl.here | exact Tl.app | apply Tl.cons)) rfl rfl (.tmp rfl) (.tmp rfl) Tryz.underlying35 (by kernel_rfl) (by rfl) rfl HRD.out (by simp [Value.oneCell']) (by decide) (by decide) ?_; clear HO; intro p2 n2 c2 wN R2 hR2 HO; (simp only [List.nil_append, List.cons_append] at HO); (try simp only [Act.put, List.setIfInBounds_toArray, List.set_cons_zero, List.set_cons_succ])) | ((with_reducible refine gate ?_); refine own_store1 (T := 35) HO rfl rfl rfl (by first | exact .const | exact .tmp rfl) (by rfl) .here Tryz.sizeOf35 (by repeat constructor) (by rfl) ?_; clear HO; intro wN HO; (try simp only [Act.put, List.setIfInBounds_toArray, List.set_cons_zero, List.set_cons_succ])))
        go_roundw
        case rel =>
          have h0 := HK0.out
          have hn2 : n2 = 1 := hR2.len
          subst hn2
          have hat := HO.at (g := b6) (cs := [.int .i64 n]) (T := 3) (.tail _ (.tail _ (.tail _ (.head _))))
          have hrg := rows_of_grow (bs := [_, _, _, _]) hR2 HO hat
          refine ⟨k + 1, p2, c2, (b6, IsCells [.int .i64 n] 3) :: R2, by have := HA1.out; omega, by first | rfl | (refine congrArg (Value.int .i64) ?_; omega) | (refine congrArg (Value.int .i64) ?_; unfold wrap64; omega), by have := hrg.2.1; omega, fun h => by omega, fun W bs hM => ?_, ?_⟩
          · have hM2 : Mine w W ((bs ++ [(b6, IsCells [.int .i64 n] 3)]) ++ R2) := by rw [List.append_assoc]; exact hM
            have h6 := hM2.at (g := b6) (cs := [.int .i64 n]) (T := 3) (List.mem_append_left _ (List.mem_append_right _ (.head _)))
            rw [HTK.out]
            exact (rows_of_grow hR2 hM2 h6).2.2
          · subst h0
            exact HO
        case measure => first | exact meas_len a k HLT.out | exact meas_n (by have := HLT.out; have := HA1.out; unfold wrap64; omega) HLT.out
    · obtain rfl : k = a := by omega
      have d3 : decide ((k : Int) < (k : Int)) = false := decide_eq_false (by omega)
      obtain ⟨rows, hrw⟩ : ∃ rows, l.map (fun z => [z]) = rows := ⟨_, rfl⟩
      have hrl : rows.length = k := by rw [← hrw, List.length_map, HA.out]
      rw [List.take_of_length_le (by rw [HA.out]; exact Nat.le_refl _), hrw] at hsq
      have HSQ := Lib.hid hsq
      have HRW := Lib.hid hrw
      have HS1L := Lib.hid (show (saveL m s (nums rows)).length = 12 by rw [saveL_lenA, HS12.out])
      obtain ⟨S1, hS1⟩ : ∃ S1, saveL m s (nums rows) = S1 := ⟨_, rfl⟩
      have HS1 : Hid (S1.length = 12) := Lib.hid (by rw [← hS1]; exact HS1L.out)
      have hcc := fun (W : World) (hq : SeqAt W A9 rows) => do_saves m s HS12.out xf (.slice px nx ax) rfl W A9 c9 rows (by rw [hrl]; exact hkc) (by rw [hrl]; have := HA1.out; omega) hq
      rw [hrl, hS1] at hcc
      have HC1 := Lib.hid hcc
      have HSE := Lib.hid hS1
      have HRL := Lib.hid hrl
      have HKC := Lib.hid hkc
      clear hcc hsq hrw hS1 hrl hkc hk0 hk hlt HS1L
      go_wp2_with (first
        | (go_at_call 12; refine (HC1.out _ (HSQ.out _ [_, _, _] HO)).mono ?_; rintro eN wN ⟨rfl, hbN⟩; have HON := HO.call hbN; clear HO hbN; have HO := HON; clear HON)
        | ((with_reducible refine gate ?_); (first
          | ((refine own_load (T := 44) (vs := (stS m s xf (.slice px nx ax))) HO rfl rfl rfl (by first | exact .head _ | exact .tail _ (.head _) | exact .tail _ (.tail _ (.head _)) | exact .tail _ (.tail _ (.tail _ (.head _))) | exact .tail _ (.tail _ (.tail _ (.tail _ (.head _)))) | exact .tail _ (.tail _ (.tail _ (.tail _ (.tail _ (.head _)))))) Tryz.isAgg44 Tryz.sizeOf44 (Slc.fullN (stS_len HS12.out)) ?_); (try simp only [Act.put, List.setIfInBounds_toArray, List.set_cons_zero, List.set_cons_succ]))
          | ((refine own_load (T := 37) HO rfl rfl rfl (by first | exact .head _ | exact .tail _ (.head _) | exact .tail _ (.tail _ (.head _)) | exact .tail _ (.tail _ (.tail _ (.head _))) | exact .tail _ (.tail _ (.tail _ (.tail _ (.head _))))) Tryz.isAgg37 Tryz.sizeOf37 (by repeat constructor) ?_); (try simp only [Act.put, List.setIfInBounds_toArray, List.set_cons_zero, List.set_cons_succ]))
          | ((refine own_load (T := 44) (vs := (stS m S1 xf (.slice px nx ax))) HO rfl rfl rfl (by first | exact .head _ | exact .tail _ (.head _) | exact .tail _ (.tail _ (.head _)) | exact .tail _ (.tail _ (.tail _ (.head _))) | exact .tail _ (.tail _ (.tail _ (.tail _ (.head _)))) | exact .tail _ (.tail _ (.tail _ (.tail _ (.tail _ (.head _)))))) Tryz.isAgg44 Tryz.sizeOf44 (Slc.fullN (stS_len HS1.out)) ?_); (try simp only [Act.put, List.setIfInBounds_toArray, List.set_cons_zero, List.set_cons_succ]))
          | ((refine own_store (T := 44) (vs := (stS m S1 xf (.slice px nx ax))) HO rfl rfl rfl rfl (by first | exact .here | exact .there (.here) | exact .there (.there (.here)) | exact .there (.there (.there (.here))) | exact .there (.there (.there (.there (.here)))) | exact .there (.there (.there (.there (.there (.here)))))) (size_at (stS_len HS1.out) Tryz.sizeOf44) (PutAt.full (by first | (rw [stS_len HS1.out]; rfl) | (rw [stS_len HS12.out, stS_len HS1.out]))) (stS_one _ _ _ rfl) ?_); clear HO; intro wN HO; (try simp only [Act.put, List.setIfInBounds_toArray, List.set_cons_zero, List.set_cons_succ]))))
        | ((with_reducible refine gateAt (N := 12) rfl ?_); refine own_allocF (T := 44) (cs := stZero) HO rfl rfl Tryz.zeroValue44 rfl ?_; clear HO; intro g12 wN hgg12 HO; (try simp only [Act.put, List.setIfInBounds_toArray, List.set_cons_zero, List.set_cons_succ])))
      go_loopw [15] (fun i wr => ∃ (j : Nat) (M : Md), j ≤ b ∧ i = .int .i64 (j : Int) ∧ Mine w wr ((g10, IsCells [.int .i64 1, .int .u8 63, .slice A9 k c9, .string ⟨#[]⟩, .int .u8 115, .string ⟨#[]⟩] 37) :: (g9, IsCells (mdL m) 23) :: (g8, IsCells (stS M S1 xf (.slice px nx ax)) 44) :: R9)) (fun i _ => b - (intOf i).toNat)
      case atStart => exact ⟨0, m, Nat.zero_le _, rfl, HO.less (.cons _ (.refl _))⟩
      case round =>
        obtain ⟨j, M, hj, rfl, HO2⟩ := hrel
        clear HO
        have HO := HO2
        clear HO2
        by_cases hlt : j < b
        · obtain ⟨ad, e, hcell⟩ := Kd.at_int HDR.out (j : Int) (by omega) (by have := HB.out; omega)
          subst e
          rw [Int.toNat_natCast, rd_intA q j (by have := HB.out; omega)] at hcell
          obtain ⟨y, hy⟩ : ∃ y, q.getD j 0 = y := ⟨_, rfl⟩
          rw [hy] at hcell
          have HCELL := Lib.hid hcell
          have d4 : decide ((j : Int) < (b : Int)) = true := decide_eq_true (by omega)
          obtain ⟨r, hr⟩ : ∃ r, (j : Int).tmod 2 = r := ⟨_, rfl⟩
          have hr2 : r = 0 ∨ r = 1 := by rw [← hr, Int.tmod_eq_emod_of_nonneg (by omega)]; omega
          obtain ⟨ch, hch⟩ : ∃ ch : Int, (r = 0 ∧ ch = 104) ∨ (r = 1 ∧ ch = 108) := by
            rcases hr2 with h | h
            · exact ⟨104, .inl ⟨h, rfl⟩⟩
            · exact ⟨108, .inr ⟨h, rfl⟩⟩
          have HRC := Lib.hid hch
          have hch2 : ch = 104 ∨ ch = 108 := by omega
          have w0 : IntKind.i64.wrap r = r := by rw [IntKind.wrap_i64]; omega
          obtain ⟨M', hM'⟩ : ∃ M', setAll true (ch == 104) M (nums [[y]]) = M' := ⟨_, rfl⟩
          have hcc := fun (W : World) (qA : Option Addr) (hq : SeqAt W qA [[y]]) => do_setQ M S1 HS1.out xf (.slice px nx ax) rfl ch hch2 W qA y hq
          rw [hM'] at hcc
          have HC := Lib.hid hcc
          have hki : (j : Int) < (b : Int) := by omega
          have hkm : j < b := hlt
          have HLT := Lib.hid hlt
          clear hcc hM' hcell hy hr2 hch hch2 hj hlt
          go_wp2
          have HL := Lib.hid (show ∀ q ∈ ((g10, IsCells [.int .i64 1, .int .u8 63, .slice A9 k c9, .string ⟨#[]⟩, .int .u8 115, .string ⟨#[]⟩] 37) :: (g9, IsCells (mdL m) 23) :: (g8, IsCells (stS M S1 xf (.slice px nx ax)) 44) :: R9), q.1 < wr.heap.size from fun q hq => HO.lt hq)
          have HW0 := Lib.hid HO.below.size
          refine region_put 18 _ [fIs (.agg (stS M S1 xf (.slice px nx ax)).toArray), fIs (.agg #[.int .i64 0, .int .i64 0, .int .i64 0, .int .i64 0, .int .i64 0, .int .i64 0, .int .i64 0, .int .i64 0, .int .i64 0, .bool false, .bool false, .bool false, .bool false, .bool false, .bool false, .bool false, .int .i64 0, .int .i64 0, .int .i64 0]), fIs (.int .i64 (j : Int)), fIs (.int .i64 r), fIs (.int .u8 ch), fIs (.slice (some ad) b cD), fIs (.int .i64 (j : Int)), fIs (.pointer (some (ad.add j))), fIs (.int .i64 y), fRow 3 1 [.int .i64 y], fRows1 y, fQf ch y, fIs (.tuple #[.agg (stS M' S1 xf (.slice px nx ax)).toArray, .slice none 0 0, .bool true]), fIs (.tuple #[.agg (stS M' S1 xf (.slice px nx ax)).toArray, .slice none 0 0, .bool true]), fIs (.agg (stS M' S1 xf (.slice px nx ax)).toArray), fIs (.slice none 0 0), fIs (.bool true), fVar wr.heap.size 44 stZero, fAny, fIs (.slice none 0 0), fIs (.bool true)] [fAny, fAny, fAny, fAny, fAny, fAny, fAny, fAny, fAny, fAny, fAny, fAny, fAny, fIs (.tuple #[.agg (stS M' S1 xf (.slice px nx ax)).toArray, .slice none 0 0, .bool true]), fAny, fIs (.slice none 0 0), fIs (.bool true), fVar wr.heap.size 44 (stS M' S1 xf (.slice px nx ax)), fAny, fIs (.slice none 0 0), fIs (.bool true)] HO (by kernel_rfl) (by kernel_rfl) rfl (stays_cons (Stays.fIs _) (stays_cons (Stays.fIs _) (stays_cons (Stays.fIs _) (stays_cons (Stays.fIs _) (stays_cons (Stays.fIs _) (stays_cons (Stays.fIs _) (stays_cons (Stays.fIs _) (stays_cons (Stays.fIs _) (stays_cons (Stays.fIs _) (stays_cons (Stays.fRow _ _ _) (stays_cons (Stays.fRows1 _) (stays_cons (Stays.fQf _ _) (stays_cons (Stays.fIs _) (stays_cons (Stays.fIs _) (stays_cons (Stays.fIs _) (stays_cons (Stays.fIs _) (stays_cons (Stays.fIs _) (stays_cons (Stays.fVar _ _ _) (stays_cons (Stays.fAny) (stays_cons (Stays.fIs _) (stays_cons (Stays.fIs _) stays_nil))))))))))))))))))))) (stays_cons (Stays.fAny) (stays_cons (Stays.fAny) (stays_cons (Stays.fAny) (stays_cons (Stays.fAny) (stays_cons (Stays.fAny) (stays_cons (Stays.fAny) (stays_cons (Stays.fAny) (stays_cons (Stays.fAny) (stays_cons (Stays.fAny) (stays_cons (Stays.fAny) (stays_cons (Stays.fAny) (stays_cons (Stays.fAny) (stays_cons (Stays.fAny) (stays_cons (Stays.fIs _) (stays_cons (Stays.fAny) (stays_cons (Stays.fIs _) (stays_cons (Stays.fIs _) (stays_cons (Stays.fVar _ _ _) (stays_cons (Stays.fAny) (stays_cons (Stays.fIs _) (stays_cons (Stays.fIs _) stays_nil))))))))))))))))))))) (bs' := ((g10, IsCells [.int .i64 1, .int .u8 63, .slice A9 k c9, .string ⟨#[]⟩, .int .u8 115, .string ⟨#[]⟩] 37) :: (g9, IsCells (mdL m) 23) :: (g8, IsCells (stS M S1 xf (.slice px nx ax)) 44) :: R9)) ?_
          intro vals A hA
          simp [fillL, dstOf, List.range, List.range.loop, Act.put] at hA
          subst hA
          refine ⟨⟨?_, ?_, ?_, ?_, ?_, ?_, ?_, ?_, ?_, ?_, ?_, ?_, ?_, ?_, ?_, ?_, ?_, ?_, ?_, ?_, ?_, trivial⟩, ?_⟩
          case refine_1 =>
            refine owesB (by decide) (by kernel_rfl) ?_
            intro W hd hM hb0
            exact st_load (vs := (stS M S1 xf (.slice px nx ax))) hM rfl rfl rfl (.tail _ (.tail _ (.head _))) Tryz.isAgg44 Tryz.sizeOf44 (Slc.fullN (stS_len HS1.out)) rfl
          case refine_2 =>
            refine owesB (by decide) (by kernel_rfl) ?_
            intro W hd hM hb0
            exact st_val rfl (by simp only [execOp]; first | (go_simp; done) | (go_simp; rfl)) rfl
          case refine_3 =>
            refine owesB (by decide) (by kernel_rfl) ?_
            intro W hd hM hb0
            exact st_val rfl (by simp only [execOp]; first | (go_simp; done) | (go_simp; rfl)) rfl
          case refine_4 =>
            refine owesB (by decide) (by kernel_rfl) ?_
            intro W hd hM hb0
            have v2 : vals 2 = .int .i64 (j : Int) := hd 2 (by kernel_rfl)
            rw [v2]
            exact st_val rfl (by simp only [execOp]; first | (go_simp; done) | (go_simp; rfl)) rfl
          case refine_5 =>
            refine owesB (by decide) (by kernel_rfl) ?_
            intro W hd hM hb0
            have v3 : vals 3 = .int .i64 r := hd 3 (by kernel_rfl)
            rw [v3]
            have hrc := HRC.out
            rcases hrc with ⟨rfl, rfl⟩ | ⟨rfl, rfl⟩ <;> exact st_val rfl (by simp only [execOp]; first | (go_simp; done) | (go_simp; rfl)) rfl
          case refine_6 =>
            refine owesB (by decide) (by kernel_rfl) ?_
            intro W hd hM hb0
            exact st_val rfl (by simp only [execOp]; first | (go_simp; done) | (go_simp; rfl)) rfl
          case refine_7 =>
            refine owesB (by decide) (by kernel_rfl) ?_
            intro W hd hM hb0
            exact st_val rfl (by simp only [execOp]; first | (go_simp; done) | (go_simp; rfl)) rfl
          case refine_8 =>
            refine owesB (by decide) (by kernel_rfl) ?_
            intro W hd hM hb0
            have v5 : vals 5 = .slice (some ad) b cD := hd 5 (by kernel_rfl)
            have v6 : vals 6 = .int .i64 (j : Int) := hd 6 (by kernel_rfl)
            rw [v5, v6]
            exact st_val rfl (by simp only [execOp]; go_simp; first | done | rfl | (simp [hki, hkm]; done) | (simp [hki, hkm]; rfl)) rfl
          case refine_9 =>
            refine owesB (by decide) (by kernel_rfl) ?_
            intro W hd hM hb0
            have v7 : vals 7 = .pointer (some (ad.add j)) := hd 7 (by kernel_rfl)
            rw [v7]
            exact st_read hM rfl rfl rfl HCELL.out Tryz.isAgg3 rfl
          case refine_10 =>
            refine owesB (by decide) (by kernel_rfl) ?_
            intro W hd hM hb0
            have v8 : vals 8 = .int .i64 y := hd 8 (by kernel_rfl)
            rw [v8]
            exact st_new (ob := .cells #[.int .i64 y] 3 (0, 0)) rfl (by simp only [execOp]; first | (go_simp; done) | (go_simp; rfl)) (fun h => ⟨_, rfl, h⟩)
          case refine_11 =>
            refine owesB (by decide) (by kernel_rfl) ?_
            intro W hd hM hb0
            obtain ⟨b7, e7, hb7⟩ : fRow 3 1 [.int .i64 y] (vals 9) W := hd 9 (by kernel_rfl)
            rw [e7]
            exact st_new (ob := .cells #[.slice (some ⟨b7, 0, none⟩) 1 1] 26 (0, 0)) rfl (by simp only [execOp]; first | (go_simp; done) | (go_simp; rfl)) (fun h => ⟨b7, _, rfl, h, (Below.heap_alloc W _ b7 (lt_of_get hb7)).trans hb7⟩)
          case refine_12 =>
            refine owesB (by decide) (by kernel_rfl) ?_
            intro W hd hM hb0
            have v4 : vals 4 = .int .u8 ch := hd 4 (by kernel_rfl)
            rw [v4]
            obtain ⟨b7, b8, e8, hb8, hb7⟩ : fRows1 y (vals 10) W := hd 10 (by kernel_rfl)
            rw [e8]
            exact st_val rfl (by simp only [execOp]; first | (go_simp; done) | (go_simp; rfl)) ⟨_, rfl, rows_at hb7 hb8⟩
          case refine_13 =>
            refine owesB (by decide) (by kernel_rfl) ?_
            intro W hd hM hb0
            have v0 : vals 0 = .agg (stS M S1 xf (.slice px nx ax)).toArray := hd 0 (by kernel_rfl)
            have v1 : vals 1 = .agg #[.int .i64 0, .int .i64 0, .int .i64 0, .int .i64 0, .int .i64 0, .int .i64 0, .int .i64 0, .int .i64 0, .int .i64 0, .bool false, .bool false, .bool false, .bool false, .bool false, .bool false, .bool false, .int .i64 0, .int .i64 0, .int .i64 0] := hd 1 (by kernel_rfl)
            rw [v0, v1]
            obtain ⟨qA, e9, hq⟩ : fQf ch y (vals 11) W := hd 11 (by kernel_rfl)
            rw [e9]
            exact st_call rfl (by simp only [execOp]; first | (go_simp; done) | (go_simp; rfl)) (HC.out W qA hq) (by rintro e w' ⟨rfl, hb⟩; exact ⟨_, rfl, hb, rfl⟩)
          case refine_14 =>
            refine owesB (by decide) (by kernel_rfl) ?_
            intro W hd hM hb0
            have v12 : vals 12 = .tuple #[.agg (stS M' S1 xf (.slice px nx ax)).toArray, .slice none 0 0, .bool true] := hd 12 (by kernel_rfl)
            rw [v12]
            exact st_val rfl (by simp only [execOp]; first | (go_simp; done) | (go_simp; rfl)) rfl
          case refine_15 =>
            refine owesB (by decide) (by kernel_rfl) ?_
            intro W hd hM hb0
            have v13 : vals 13 = .tuple #[.agg (stS M' S1 xf (.slice px nx ax)).toArray, .slice none 0 0, .bool true] := hd 13 (by kernel_rfl)
            rw [v13]
            exact st_val rfl (by simp only [execOp]; first | (go_simp; done) | (go_simp; rfl)) rfl
          case refine_16 =>
            refine owesA (by decide) (by kernel_rfl) ?_
            intro W hd
            have v13 : vals 13 = .tuple #[.agg (stS M' S1 xf (.slice px nx ax)).toArray, .slice none 0 0, .bool true] := (hd 13 (by kernel_rfl)).elim id id
            rw [v13]
            exact st_pure rfl (fun w => by simp only [execOp]; first | (go_simp; done) | (go_simp; rfl)) ⟨rfl, rfl⟩
          case refine_17 =>
            refine owesA (by decide) (by kernel_rfl) ?_
            intro W hd
            have v13 : vals 13 = .tuple #[.agg (stS M' S1 xf (.slice px nx ax)).toArray, .slice none 0 0, .bool true] := (hd 13 (by kernel_rfl)).elim id id
            rw [v13]
            exact st_pure rfl (fun w => by simp only [execOp]; first | (go_simp; done) | (go_simp; rfl)) ⟨rfl, rfl⟩
          case refine_18 =>
            refine owesB (by decide) (by kernel_rfl) ?_
            intro W hd hM hb0
            exact st_new (ob := .cells stZero.toArray 44 (0, 0)) rfl (by simp only [execOp]; first | (go_simp; done) | (go_simp; rfl)) (fun h => ⟨_, rfl, hb0.size, h⟩)
          case refine_19 =>
            refine owesS ?_
            intro W hd hM hb0
            have v14 : vals 14 = .agg (stS M' S1 xf (.slice px nx ax)).toArray := hd 14 (by kernel_rfl)
            rw [v14]
            obtain ⟨b', e15, hge, hb⟩ : fVar wr.heap.size 44 stZero (vals 17) W := hd 17 (by kernel_rfl)
            rw [e15]
            exact new_storedX (cs := (stS M' S1 xf (.slice px nx ax))) hM HL.out HW0.out hge hb rfl rfl rfl rfl (size_at (stS_len HS1.out) Tryz.sizeOf44) (PutAt.full (by rw [stS_len HS1.out]; rfl)) (stS_one _ _ _ rfl) (fun _ _ => trivial) (fun w' hoth hblk => ⟨fun _ => trivial, fun _ => trivial, fun _ => trivial, fun _ => trivial, fun _ => trivial, fun _ => trivial, fun _ => trivial, fun _ => trivial, fun _ => trivial, fun _ => trivial, fun _ => trivial, fun _ => trivial, fun _ => trivial, id, fun _ => trivial, id, id, fun _ => ⟨b', e15, hge, hblk⟩, fun _ => trivial, id, id, trivial⟩)
          case refine_20 =>
            refine owesA (by decide) (by kernel_rfl) ?_
            intro W hd
            have v15 : vals 15 = .slice none 0 0 := (hd 15 (by kernel_rfl)).elim id id
            rw [v15]
            exact st_pure rfl (fun w => by simp only [execOp]; first | (go_simp; done) | (go_simp; rfl)) ⟨rfl, rfl⟩
          case refine_21 =>
            refine owesA (by decide) (by kernel_rfl) ?_
            intro W hd
            have v16 : vals 16 = .bool true := (hd 16 (by kernel_rfl)).elim id id
            rw [v16]
            exact st_pure rfl (fun w => by simp only [execOp]; first | (go_simp; done) | (go_simp; rfl)) ⟨rfl, rfl⟩
          case refine_22 =>
            intro W hd hM
            obtain ⟨b', e15, hge, hb⟩ : fVar wr.heap.size 44 (stS M' S1 xf (.slice px nx ax)) (vals 17) W := hd 17 (by decide)
            have v19 : vals 19 = .slice none 0 0 := hd 19 (by decide)
            have v20 : vals 20 = .bool true := hd 20 (by decide)
            have HO : Mine w W ((b', IsCells (stS M' S1 xf (.slice px nx ax)) 44) :: ((g10, IsCells [.int .i64 1, .int .u8 63, .slice A9 k c9, .string ⟨#[]⟩, .int .u8 115, .string ⟨#[]⟩] 37) :: (g9, IsCells (mdL m) 23) :: (g8, IsCells (stS M S1 xf (.slice px nx ax)) 44) :: R9)) := (hM.take (p := IsCells (stS M' S1 xf (.slice px nx ax)) 44) HL.out HW0.out hge ⟨_, hb, rfl⟩).perm List.perm_append_comm
            rw [e15, v19, v20]
            clear hd hM hb e15 v19 v20 HC HL HW0
            go_wp2_with ((with_reducible refine gate ?_); (first | ((refine own_load (T := 44) (vs := (stS M' S1 xf (.slice px nx ax))) HO rfl rfl rfl (by first | exact .head _ | exact .tail _ (.head _) | exact .tail _ (.tail _ (.head _)) | exact .tail _ (.tail _ (.tail _ (.head _))) | exact .tail _ (.tail _ (.tail _ (.tail _ (.head _))))) Tryz.isAgg44 Tryz.sizeOf44 (Slc.fullN (stS_len HS1.out)) ?_); (try simp only [Act.put, List.setIfInBounds_toArray, List.set_cons_zero, List.set_cons_succ])) | ((refine own_store (T := 44) (vs := (stS M' S1 xf (.slice px nx ax))) HO rfl rfl rfl rfl (by first | exact .here | exact .there (.here) | exact .there (.there (.here)) | exact .there (.there (.there (.here))) | exact .there (.there (.there (.there (.here))))) (size_at (stS_len HS1.out) Tryz.sizeOf44) (PutAt.full (by first | (rw [stS_len HS1.out]; rfl) | (rw [stS_len HS1.out, stS_len HS1.out]))) (stS_one _ _ _ rfl) ?_); clear HO; intro wN HO; (try simp only [Act.put, List.setIfInBounds_toArray, List.set_cons_zero, List.set_cons_succ]))))
            go_roundw
            case rel => exact ⟨j + 1, M', by have := HLT.out; omega, by first | rfl | (refine congrArg (Value.int .i64) ?_; have := HLT.out; have := HB1.out; omega) | (refine congrArg (Value.int .i64) ?_; have := HLT.out; have := HB1.out; unfold wrap64; omega), HO.less (.cons _ (.refl _))⟩
            case measure => first | exact meas_len b j HLT.out | exact meas_n (by have := HLT.out; have := HB1.out; unfold wrap64; omega) HLT.out
        · obtain rfl : j = b := by omega
          have d4 : decide ((j : Int) < (j : Int)) = false := decide_eq_false (by omega)
          obtain ⟨M3, hM3⟩ : ∃ M3, restL S1 M (nums rows) = M3 := ⟨_, rfl⟩
          have hcc := fun (W : World) (hq : SeqAt W A9 rows) => do_restores M S1 HS1.out xf (.slice px nx ax) rfl W A9 c9 rows (by rw [HRL.out]; exact HKC.out) (by rw [HRL.out]; have := HA1.out; omega) hq
          rw [HRL.out, hM3] at hcc
          clear HC1
          have HC1 := Lib.hid hcc
          have HM3 := Lib.hid hM3
          clear hcc hM3 hlt hj
          go_wp2_with (first
            | (go_at_call 12; refine (HC1.out _ (HSQ.out _ [_, _, _] HO)).mono ?_; rintro eN wN ⟨rfl, hbN⟩; have HON := HO.call hbN; clear HO hbN; have HO := HON; clear HON)
            | ((with_reducible refine gate ?_); (first
              | ((refine own_load (T := 44) (vs := (stS M S1 xf (.slice px nx ax))) HO rfl rfl rfl (by first | exact .head _ | exact .tail _ (.head _) | exact .tail _ (.tail _ (.head _)) | exact .tail _ (.tail _ (.tail _ (.head _))) | exact .tail _ (.tail _ (.tail _ (.tail _ (.head _)))) | exact .tail _ (.tail _ (.tail _ (.tail _ (.tail _ (.head _)))))) Tryz.isAgg44 Tryz.sizeOf44 (Slc.fullN (stS_len HS1.out)) ?_); (try simp only [Act.put, List.setIfInBounds_toArray, List.set_cons_zero, List.set_cons_succ]))
              | ((refine own_load (T := 37) HO rfl rfl rfl (by first | exact .head _ | exact .tail _ (.head _) | exact .tail _ (.tail _ (.head _)) | exact .tail _ (.tail _ (.tail _ (.head _))) | exact .tail _ (.tail _ (.tail _ (.tail _ (.head _))))) Tryz.isAgg37 Tryz.sizeOf37 (by repeat constructor) ?_); (try simp only [Act.put, List.setIfInBounds_toArray, List.set_cons_zero, List.set_cons_succ]))
              | ((refine own_load (T := 44) (vs := (stS M3 S1 xf (.slice px nx ax))) HO rfl rfl rfl (by first | exact .head _ | exact .tail _ (.head _) | exact .tail _ (.tail _ (.head _)) | exact .tail _ (.tail _ (.tail _ (.head _))) | exact .tail _ (.tail _ (.tail _ (.tail _ (.head _)))) | exact .tail _ (.tail _ (.tail _ (.tail _ (.tail _ (.head _)))))) Tryz.isAgg44 Tryz.sizeOf44 (Slc.fullN (stS_len HS1.out)) ?_); (try simp only [Act.put, List.setIfInBounds_toArray, List.set_cons_zero, List.set_cons_succ]))
              | ((refine own_store (T := 44) (vs := (stS M3 S1 xf (.slice px nx ax))) HO rfl rfl rfl rfl (by first | exact .here | exact .there (.here) | exact .there (.there (.here)) | exact .there (.there (.there (.here))) | exact .there (.there (.there (.there (.here)))) | exact .there (.there (.there (.there (.there (.here)))))) (size_at (stS_len HS1.out) Tryz.sizeOf44) (PutAt.full (by first | (rw [stS_len HS1.out]; rfl) | (rw [stS_len HS1.out, stS_len HS1.out]))) (stS_one _ _ _ rfl) ?_); clear HO; intro wN HO; (try simp only [Act.put, List.setIfInBounds_toArray, List.set_cons_zero, List.set_cons_succ]))
              | ((refine own_store1 (T := 5) HO rfl rfl rfl (by first | exact .const | exact .tmp rfl) (by rfl) .here Tryz.sizeOf5 (by repeat constructor) (by rfl) ?_); clear HO; intro wN HO; (try simp only [Act.put, List.setIfInBounds_toArray, List.set_cons_zero, List.set_cons_succ]))))
            | ((with_reducible refine gateAt (N := 19) rfl ?_); refine own_allocF (T := 44) (cs := stZero) HO rfl rfl Tryz.zeroValue44 rfl ?_; clear HO; intro g19 wN hgg19 HO; (try simp only [Act.put, List.setIfInBounds_toArray, List.set_cons_zero, List.set_cons_succ])))
          go_loopw [22] (fun i wr => ∃ (k' : Nat), k' ≤ k ∧ i = .int .i64 (k' : Int) ∧ Mine w wr ((g10, IsCells [.int .i64 1, .int .u8 63, .slice A9 k c9, .string ⟨#[]⟩, .int .u8 114, .string ⟨#[]⟩] 37) :: (g9, IsCells (mdL m) 23) :: (g8, IsCells (stS M3 S1 xf (.slice px nx ax)) 44) :: R9)) (fun i _ => k - (intOf i).toNat)
          case atStart => exact ⟨0, Nat.zero_le _, rfl, HO.less (.cons _ (.refl _))⟩
          case round =>
            obtain ⟨k', hk', rfl, HO2⟩ := hrel
            clear HO
            have HO := HO2
            clear HO2
            by_cases hlt : k' < k
            · have d5 : decide ((k' : Int) < (k : Int)) = true := decide_eq_true (by omega)
              obtain ⟨ad, e, hcell⟩ := Kd.at_int HBR.out (k' : Int) (by omega) (by have := HA.out; omega)
              subst e
              rw [Int.toNat_natCast, rd_intA l k' (by have := HA.out; omega)] at hcell
              obtain ⟨n, hn⟩ : ∃ n, l.getD k' 0 = n := ⟨_, rfl⟩
              rw [hn] at hcell
              have HCELL := Lib.hid hcell
              have hrows : rows = [[n]] := by
                have h1 := HA.out
                have h2 := HA1.out
                have h3 : k' = 0 := by omega
                subst h3
                rw [← HRW.out]
                match l, h1 with
                | [z], _ => simp at hn ⊢; exact hn
                | [], h1 => simp at h1; omega
                | _ :: _ :: _, h1 => simp at h1; omega
              have hki : (k' : Int) < (k : Int) := by omega
              have hkm : k' < k := hlt
              have HLT := Lib.hid hlt
              by_cases hn0 : 0 ≤ n
              · have e1 : decide (n ≥ 0) = true := decide_eq_true hn0
                have e2 : decide (0 ≤ n) = true := decide_eq_true hn0
                obtain ⟨gv, hgv⟩ : ∃ gv, getM m true n = gv := ⟨_, rfl⟩
                have hnums : nums rows = [n] := by
                  rw [hrows]
                  simp only [nums, List.map_cons, List.map_nil, numOf]
                  rw [if_neg (by omega)]
                have hg3 : getM M3 true n = gv := by
                  rw [← HM3.out, ← HSE.out, hnums, back_lawA m M s HS12.out n, hgv]
                have HG0 := Lib.hid fun W => rgetA m n gv hgv W
                have HG3 := Lib.hid fun W => rgetA M3 n gv hg3 W
                clear hgv hg3 hnums hrows hn hcell hn0 hk' hlt
                go_wp2
                refine region_law 21 [fIs (.slice (some ad) k cB), fIs (.int .i64 (k' : Int)), fIs (.pointer (some (ad.add k'))), fIs (.int .i64 n), fIs (.bool true), fIs (.bool true), fIs (.pointer (some ⟨g8, 0, none⟩)), fIs (M3.v), fIs (.slice (some ad) k cB), fIs (.int .i64 (k' : Int)), fIs (.pointer (some (ad.add k'))), fIs (.int .i64 n), fIs (.int .i64 gv), fIs (m.v), fIs (.slice (some ad) k cB), fIs (.int .i64 (k' : Int)), fIs (.pointer (some (ad.add k'))), fIs (.int .i64 n), fIs (.int .i64 gv), fIs (.bool false), fIs (.bool false)] HO (by kernel_rfl) (by kernel_rfl) (by decide) (by kernel_rfl)
                  (stays_cons (Stays.fIs _) (stays_cons (Stays.fIs _) (stays_cons (Stays.fIs _) (stays_cons (Stays.fIs _) (stays_cons (Stays.fIs _) (stays_cons (Stays.fIs _) (stays_cons (Stays.fIs _) (stays_cons (Stays.fIs _) (stays_cons (Stays.fIs _) (stays_cons (Stays.fIs _) (stays_cons (Stays.fIs _) (stays_cons (Stays.fIs _) (stays_cons (Stays.fIs _) (stays_cons (Stays.fIs _) (stays_cons (Stays.fIs _) (stays_cons (Stays.fIs _) (stays_cons (Stays.fIs _) (stays_cons (Stays.fIs _) (stays_cons (Stays.fIs _) (stays_cons (Stays.fIs _) (stays_cons (Stays.fIs _) stays_nil))))))))))))))))))))) ?_
                intro vals A hA
                simp [fillL, dstOf, List.range, List.range.loop, Act.put] at hA
                subst hA
                refine ⟨⟨?_, ?_, ?_, ?_, ?_, ?_, ?_, ?_, ?_, ?_, ?_, ?_, ?_, ?_, ?_, ?_, ?_, ?_, ?_, ?_, ?_, trivial⟩, ?_⟩
                all_goals intro W hd hM hb0
                case refine_1 =>
                  skip
                  exact st_val rfl (by simp only [execOp]; first | (go_simp; done) | (go_simp; rfl)) rfl
                case refine_2 =>
                  skip
                  exact st_val rfl (by simp only [execOp]; first | (go_simp; done) | (go_simp; rfl)) rfl
                case refine_3 =>
                  have v0 : vals 0 = .slice (some ad) k cB := hd 0 (by kernel_rfl)
                  have v1 : vals 1 = .int .i64 (k' : Int) := hd 1 (by kernel_rfl)
                  rw [v0, v1]
                  exact st_val rfl (by simp only [execOp]; go_simp; first | done | rfl | (simp [hki, hkm]; done) | (simp [hki, hkm]; rfl)) rfl
                case refine_4 =>
                  have v2 : vals 2 = .pointer (some (ad.add k')) := hd 2 (by kernel_rfl)
                  rw [v2]
                  exact st_read hM rfl rfl rfl HCELL.out Tryz.isAgg3 rfl
                case refine_5 =>
                  have v3 : vals 3 = .int .i64 n := hd 3 (by kernel_rfl)
                  rw [v3]
                  exact st_val rfl (by simp only [execOp]; first | (go_simp; done) | (go_simp; rfl)) rfl
                case refine_6 =>
                  have v4 : vals 4 = .bool true := hd 4 (by kernel_rfl)
                  rw [v4]
                  exact st_val rfl (by simp only [execOp]; first | (go_simp; done) | (go_simp; rfl)) rfl
                case refine_7 =>
                  have v5 : vals 5 = .bool true := hd 5 (by kernel_rfl)
                  rw [v5]
                  exact st_val rfl (by simp only [execOp]; first | (go_simp; done) | (go_simp; rfl)) rfl
                case refine_8 =>
                  have v5 : vals 5 = .bool true := hd 5 (by kernel_rfl)
                  have v6 : vals 6 = .pointer (some ⟨g8, 0, none⟩) := hd 6 (by kernel_rfl)
                  rw [v5, v6]
                  exact st_load (vs := mdL M3) hM rfl rfl rfl (.tail _ (.tail _ (.head _))) Tryz.isAgg23 Tryz.sizeOf23 (slc_m M3 _) rfl
                case refine_9 =>
                  have v5 : vals 5 = .bool true := hd 5 (by kernel_rfl)
                  rw [v5]
                  exact st_val rfl (by simp only [execOp]; first | (go_simp; done) | (go_simp; rfl)) rfl
                case refine_10 =>
                  have v5 : vals 5 = .bool true := hd 5 (by kernel_rfl)
                  rw [v5]
                  exact st_val rfl (by simp only [execOp]; first | (go_simp; done) | (go_simp; rfl)) rfl
                case refine_11 =>
                  have v5 : vals 5 = .bool true := hd 5 (by kernel_rfl)
                  have v8 : vals 8 = .slice (some ad) k cB := hd 8 (by kernel_rfl)
                  have v9 : vals 9 = .int .i64 (k' : Int) := hd 9 (by kernel_rfl)
                  rw [v5, v8, v9]
                  exact st_val rfl (by simp only [execOp]; go_simp; first | done | rfl | (simp [hki, hkm]; done) | (simp [hki, hkm]; rfl)) rfl
                case refine_12 =>
                  have v5 : vals 5 = .bool true := hd 5 (by kernel_rfl)
                  have v10 : vals 10 = .pointer (some (ad.add k')) := hd 10 (by kernel_rfl)
                  rw [v5, v10]
                  exact st_read hM rfl rfl rfl HCELL.out Tryz.isAgg3 rfl
                case refine_13 =>
                  have v5 : vals 5 = .bool true := hd 5 (by kernel_rfl)
                  have v7 : vals 7 = M3.v := hd 7 (by kernel_rfl)
                  have v11 : vals 11 = .int .i64 n := hd 11 (by kernel_rfl)
                  rw [v5, v7, v11]
                  exact st_call rfl (by simp only [execOp]; first | (go_simp; done) | (go_simp; rfl)) (HG3.out W) (by rintro e w' ⟨rfl, hb⟩; exact ⟨_, rfl, hb, rfl⟩)
                case refine_14 =>
                  have v5 : vals 5 = .bool true := hd 5 (by kernel_rfl)
                  rw [v5]
                  exact st_load (vs := mdL m) hM rfl rfl rfl (.tail _ (.head _)) Tryz.isAgg23 Tryz.sizeOf23 (Slc.full (mdL m)) rfl
                case refine_15 =>
                  have v5 : vals 5 = .bool true := hd 5 (by kernel_rfl)
                  rw [v5]
                  exact st_val rfl (by simp only [execOp]; first | (go_simp; done) | (go_simp; rfl)) rfl
                case refine_16 =>
                  have v5 : vals 5 = .bool true := hd 5 (by kernel_rfl)
                  rw [v5]
                  exact st_val rfl (by simp only [execOp]; first | (go_simp; done) | (go_simp; rfl)) rfl
                case refine_17 =>
                  have v5 : vals 5 = .bool true := hd 5 (by kernel_rfl)
                  have v14 : vals 14 = .slice (some ad) k cB := hd 14 (by kernel_rfl)
                  have v15 : vals 15 = .int .i64 (k' : Int) := hd 15 (by kernel_rfl)
                  rw [v5, v14, v15]
                  exact st_val rfl (by simp only [execOp]; go_simp; first | done | rfl | (simp [hki, hkm]; done) | (simp [hki, hkm]; rfl)) rfl
                case refine_18 =>
                  have v5 : vals 5 = .bool true := hd 5 (by kernel_rfl)
                  have v16 : vals 16 = .pointer (some (ad.add k')) := hd 16 (by kernel_rfl)
                  rw [v5, v16]
                  exact st_read hM rfl rfl rfl HCELL.out Tryz.isAgg3 rfl
                case refine_19 =>
                  have v5 : vals 5 = .bool true := hd 5 (by kernel_rfl)
                  have v13 : vals 13 = m.v := hd 13 (by kernel_rfl)
                  have v17 : vals 17 = .int .i64 n := hd 17 (by kernel_rfl)
                  rw [v5, v13, v17]
                  exact st_call rfl (by simp only [execOp]; first | (go_simp; done) | (go_simp; rfl)) (HG0.out W) (by rintro e w' ⟨rfl, hb⟩; exact ⟨_, rfl, hb, rfl⟩)
                case refine_20 =>
                  have v5 : vals 5 = .bool true := hd 5 (by kernel_rfl)
                  have v12 : vals 12 = .int .i64 gv := hd 12 (by kernel_rfl)
                  have v18 : vals 18 = .int .i64 gv := hd 18 (by kernel_rfl)
                  rw [v5, v12, v18]
                  exact st_val rfl (by simp only [execOp]; first | (go_simp; done) | (go_simp; rfl)) rfl
                case refine_21 =>
                  have v5 : vals 5 = .bool true := hd 5 (by kernel_rfl)
                  have v19 : vals 19 = .bool false := hd 19 (by kernel_rfl)
                  rw [v5, v19]
                  exact st_val rfl (by simp only [execOp]; first | (go_simp; done) | (go_simp; rfl)) rfl
                case refine_22 =>
                  have v20 : vals 20 = .bool false := hd 20 (by omega)
                  rw [v20]
                  simp only [List.drop_succ_cons, List.drop_zero]
                  have HO := hM
                  clear hd hb0 hM
                  go_wp2
                  go_roundw
                  case rel => exact ⟨k' + 1, by have := HLT.out; omega, by first | rfl | (refine congrArg (Value.int .i64) ?_; have := HLT.out; have := HA1.out; omega) | (refine congrArg (Value.int .i64) ?_; have := HLT.out; have := HA1.out; unfold wrap64; omega), HO⟩
                  case measure => first | exact meas_len k k' HLT.out | exact meas_n (by have := HLT.out; have := HA1.out; unfold wrap64; omega) HLT.out
              · have e1 : decide (n ≥ 0) = false := decide_eq_false hn0
                have e2 : decide (0 ≤ n) = false := decide_eq_false hn0
                clear hrows hn hcell hn0 hk' hlt
                go_wp2
                refine region_law 21 [fIs (.slice (some ad) k cB), fIs (.int .i64 (k' : Int)), fIs (.pointer (some (ad.add k'))), fIs (.int .i64 n), fIs (.bool false), fIs (.bool false), fIs (undef), fIs (undef), fIs (undef), fIs (undef), fIs (undef), fIs (undef), fIs (undef), fIs (undef), fIs (undef), fIs (undef), fIs (undef), fIs (undef), fIs (undef), fIs (undef), fIs (.bool false)] HO (by kernel_rfl) (by kernel_rfl) (by decide) (by kernel_rfl)
                  (stays_cons (Stays.fIs _) (stays_cons (Stays.fIs _) (stays_cons (Stays.fIs _) (stays_cons (Stays.fIs _) (stays_cons (Stays.fIs _) (stays_cons (Stays.fIs _) (stays_cons (Stays.fIs _) (stays_cons (Stays.fIs _) (stays_cons (Stays.fIs _) (stays_cons (Stays.fIs _) (stays_cons (Stays.fIs _) (stays_cons (Stays.fIs _) (stays_cons (Stays.fIs _) (stays_cons (Stays.fIs _) (stays_cons (Stays.fIs _) (stays_cons (Stays.fIs _) (stays_cons (Stays.fIs _) (stays_cons (Stays.fIs _) (stays_cons (Stays.fIs _) (stays_cons (Stays.fIs _) (stays_cons (Stays.fIs _) stays_nil))))))))))))))))))))) ?_
                intro vals A hA
                simp [fillL, dstOf, List.range, List.range.loop, Act.put] at hA
                subst hA
                refine ⟨⟨?_, ?_, ?_, ?_, ?_, ?_, ?_, ?_, ?_, ?_, ?_, ?_, ?_, ?_, ?_, ?_, ?_, ?_, ?_, ?_, ?_, trivial⟩, ?_⟩
                all_goals intro W hd hM hb0
                case refine_1 =>
                  skip
                  exact st_val rfl (by simp only [execOp]; first | (go_simp; done) | (go_simp; rfl)) rfl
                case refine_2 =>
                  skip
                  exact st_val rfl (by simp only [execOp]; first | (go_simp; done) | (go_simp; rfl)) rfl
                case refine_3 =>
                  have v0 : vals 0 = .slice (some ad) k cB := hd 0 (by kernel_rfl)
                  have v1 : vals 1 = .int .i64 (k' : Int) := hd 1 (by kernel_rfl)
                  rw [v0, v1]
                  exact st_val rfl (by simp only [execOp]; go_simp; first | done | rfl | (simp [hki, hkm]; done) | (simp [hki, hkm]; rfl)) rfl
                case refine_4 =>
                  have v2 : vals 2 = .pointer (some (ad.add k')) := hd 2 (by kernel_rfl)
                  rw [v2]
                  exact st_read hM rfl rfl rfl HCELL.out Tryz.isAgg3 rfl
                case refine_5 =>
                  have v3 : vals 3 = .int .i64 n := hd 3 (by kernel_rfl)
                  rw [v3]
                  exact st_val rfl (by simp only [execOp]; first | (go_simp; done) | (go_simp; rfl)) rfl
                case refine_6 =>
                  have v4 : vals 4 = .bool false := hd 4 (by kernel_rfl)
                  rw [v4]
                  exact st_val rfl (by simp only [execOp]; first | (go_simp; done) | (go_simp; rfl)) rfl
                case refine_7 =>
                  have v5 : vals 5 = .bool false := hd 5 (by kernel_rfl)
                  rw [v5]
                  exact st_pass rfl rfl
                case refine_8 =>
                  have v5 : vals 5 = .bool false := hd 5 (by kernel_rfl)
                  rw [v5]
                  exact st_pass rfl rfl
                case refine_9 =>
                  have v5 : vals 5 = .bool false := hd 5 (by kernel_rfl)
                  rw [v5]
                  exact st_pass rfl rfl
                case refine_10 =>
                  have v5 : vals 5 = .bool false := hd 5 (by kernel_rfl)
                  rw [v5]
                  exact st_pass rfl rfl
                case refine_11 =>
                  have v5 : vals 5 = .bool false := hd 5 (by kernel_rfl)
                  rw [v5]
                  exact st_pass rfl rfl
                case refine_12 =>
                  have v5 : vals 5 = .bool false := hd 5 (by kernel_rfl)
                  rw [v5]
                  exact st_pass rfl rfl
                case refine_13 =>
                  have v5 : vals 5 = .bool false := hd 5 (by kernel_rfl)
                  rw [v5]
                  exact st_pass rfl rfl
                case refine_14 =>
                  have v5 : vals 5 = .bool false := hd 5 (by kernel_rfl)
                  rw [v5]
                  exact st_pass rfl rfl
                case refine_15 =>
                  have v5 : vals 5 = .bool false := hd 5 (by kernel_rfl)
                  rw [v5]
                  exact st_pass rfl rfl
                case refine_16 =>
                  have v5 : vals 5 = .bool false := hd 5 (by kernel_rfl)
                  rw [v5]
                  exact st_pass rfl rfl
                case refine_17 =>
                  have v5 : vals 5 = .bool false := hd 5 (by kernel_rfl)
                  rw [v5]
                  exact st_pass rfl rfl
                case refine_18 =>
                  have v5 : vals 5 = .bool false := hd 5 (by kernel_rfl)
                  rw [v5]
                  exact st_pass rfl rfl
                case refine_19 =>
                  have v5 : vals 5 = .bool false := hd 5 (by kernel_rfl)
                  rw [v5]
                  exact st_pass rfl rfl
                case refine_20 =>
                  have v5 : vals 5 = .bool false := hd 5 (by kernel_rfl)
                  rw [v5]
                  exact st_pass rfl rfl
                case refine_21 =>
                  have v5 : vals 5 = .bool false := hd 5 (by kernel_rfl)
                  have v19 : vals 19 = undef := hd 19 (by kernel_rfl)
                  rw [v5, v19]
                  exact st_val rfl (by simp only [execOp]; first | (go_simp; done) | (go_simp; rfl)) rfl
                case refine_22 =>
                  have v20 : vals 20 = .bool false := hd 20 (by omega)
                  rw [v20]
                  simp only [List.drop_succ_cons, List.drop_zero]
                  have HO := hM
                  clear hd hb0 hM
                  go_wp2
                  go_roundw
                  case rel => exact ⟨k' + 1, by have := HLT.out; omega, by first | rfl | (refine congrArg (Value.int .i64) ?_; have := HLT.out; have := HA1.out; omega) | (refine congrArg (Value.int .i64) ?_; have := HLT.out; have := HA1.out; unfold wrap64; omega), HO⟩
                  case measure => first | exact meas_len k k' HLT.out | exact meas_n (by have := HLT.out; have := HA1.out; unfold wrap64; omega) HLT.out
            · obtain rfl : k' = k := by omega
              have d5 : decide ((k' : Int) < (k' : Int)) = false := decide_eq_false (by omega)
              go_wp2
              go_ret
              exact ⟨rfl, HO.below⟩
end Go.Proofs.YtdmifbffamckbaaGreatDoor
end
