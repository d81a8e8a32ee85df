/- N: texts run together by shake.py: StD WTab WEqStruct WRepsOne WInv WGuard StC Gx0 GgnumText GgstringsJoin. -/
import Derived.ArgAppend
import Derived.Below
import Derived.BigQuiet
import Derived.Deep.AppendLies
import Derived.Deep.CutBlock
import Derived.Deep.DeepCutAuto
import Derived.Deep.Draws
import Derived.Deep.LoopGhost
import Derived.Deep.OwnRows
import Derived.Deep.Quiet
import Derived.Deep.QuietTactic
import Derived.Deep.RegionHeld3
import Derived.KernelRfl
import Derived.Laws.AppendOwn
import Derived.Laws.AppendOwnNone
import Derived.Laws.BitsLemmas
import Derived.Laws.BytesArg
import Derived.Laws.Concat
import Derived.Laws.CopyRow
import Derived.Laws.IdiomCopy
import Derived.Laws.IdiomStrings
import Derived.Laws.MakeOwn
import Derived.Laws.OwnMore
import Derived.Laws.Rows
import Derived.Laws.Slices
import Derived.Laws.StructEq
import Derived.Lib.AppendIntMem
import Derived.Lib.AppendStr
import Derived.Lib.ConvBytes
import Derived.Lib.Hide
import Derived.Lib.ItoaLen
import Derived.Lib.ItoaNum
import Derived.Lib.LaidTab
import Derived.MapKept
import Derived.Maps.AppendAt
import Derived.Orders
import Derived.OrdersHeld
import Derived.Outline
import Derived.OwnWalk
import Derived.RowKit
import Derived.RowKit3
import Derived.Shelf.LaysM
import Derived.Shelf.Strconv.Itoa0
import Derived.Shelf.Strconv.Itoa1
import Derived.Shelf.Strconv.Itoa2
import Derived.Shelf.Strconv.Itoa3
import Derived.Shelf.Strings.Builder1
import Derived.Shelf.Strings.Builder2
import Derived.Shelf.Strings.Builder2Cap
import Derived.Shelf.Strings.BuilderCap
import Derived.Shelf.Strings.BuilderF
import Derived.Shelf.Strings.BuilderK
import Derived.Shelf.Strings.OnBuilder
import Derived.Still
import Derived.Tactics
import Derived.Test.YtbaigfoioiklkaaDoorProg
import Derived.WalkKit
import Derived.WalkLawsBesides
import Derived.WalkSpells
import Derived.WideLaws
import Derived.Test.YtbaigfoioiklkaaDoorZN1
section
namespace Go.Proofs.YtbaigfoioiklkaaDoor
set_option linter.unusedVariables false
set_option linter.unusedSimpArgs false
open Go.RowKit Kit Go.Proofs.YtbaigfoioiklkaaDoorW.PrintWords Go.Proofs.YtbaigfoioiklkaaDoorW.PrintMore
attribute [local irreducible] wpList Calls
theorem infoRows : (Tryd.prog.info? 35).map (fun i => (i.zero, i.size, i.bytes)) = some (some (.slice none 0 0), 1, 24) := by kernel_rfl
theorem parts_calls (v : Value) (w : World) : Calls Tryd.prog 22 #[v] w fun e w' => e = .returned v ∧ w' = w := by
  go_enter Tryd.func22, Tryd.ntmps22
  go_wp2
  go_ret
  exact ⟨rfl, rfl⟩
def partN (b0 b1 b2 b3 b4 b5 b6 : Bool) (u : Int) (n : Nat) : List (List Int) :=
  if n = 1 then markL b0 1 else if n = 2 then markL b1 2 else if n = 3 then markL b2 3 else if n = 4 then underL u else if n = 5 then markL b3 5 else if n = 7 then markL b4 7 else if n = 8 then markL b5 8 else if n = 9 then markL b6 9 else []
def upTo (b0 b1 b2 b3 b4 b5 b6 : Bool) (u : Int) : Nat → List (List Int)
  | 0 => [[0]]
  | n + 1 => upTo b0 b1 b2 b3 b4 b5 b6 u n ++ partN b0 b1 b2 b3 b4 b5 b6 u n
theorem upTo_len (b0 b1 b2 b3 b4 b5 b6 : Bool) (u : Int) (n : Nat) : (upTo b0 b1 b2 b3 b4 b5 b6 u n).length ≤ n + 1 := by
  induction n with
  | zero => simp [upTo]
  | succ n ih =>
    have h : (partN b0 b1 b2 b3 b4 b5 b6 u n).length ≤ 1 := by
      unfold partN markL underL
      repeat' split
      all_goals simp
    simp only [upTo, List.length_append]
    omega
theorem upTo_all (b0 b1 b2 b3 b4 b5 b6 : Bool) (u f b : Int) : upTo b0 b1 b2 b3 b4 b5 b6 u 10 ++ colourL f 30 ++ colourL b 40 = paramsL b0 b1 b2 b3 b4 b5 b6 u f b := by
  simp [upTo, partN, paramsL]
def TintAt (base n : Int) (r : List Int) : Prop :=
  ∀ W, Calls Tryd.prog 23 #[.int .i64 n, .int .i64 base] W fun e w' => ∃ v0 : Value, e = .returned v0 ∧ Kd.R (Kd.int .i64) 3 w' W.heap.size (fun _ => True) v0 r ∧ Below W.heap.size W w'
def MayAt (b0 b1 b2 b3 b4 b5 b6 : Bool) (u f b : Int) (r : Bool) : Prop :=
  ∀ W, Calls Tryd.prog 12 #[stV b0 b1 b2 b3 b4 b5 b6 u f b] W fun e w' => e = .returned (.bool r) ∧ Below W.heap.size W w'
def ParamsAns (w : World) (xs : List (List Int)) (e : Ending) (w' : World) : Prop :=
  ∃ v : Value, e = .returned v ∧ Kd.S (Kd.slice 3 (Kd.int .i64)) 35 w' w.heap.size (fun _ => True) v xs ∧ Below w.heap.size w w'
set_option maxRecDepth 100000 in
set_option maxHeartbeats 2000000 in
theorem params_not (b0 b1 b2 b3 b4 b5 b6 : Bool) (u f b : Int) (hm : MayAt b0 b1 b2 b3 b4 b5 b6 u f b false) (w : World) :
    Calls Tryd.prog 10 #[stV b0 b1 b2 b3 b4 b5 b6 u f b] w (ParamsAns w []) := by
  have HO := Mine.start w
  have HM := Lib.hid hm
  clear hm
  unfold stV MayAt at *
  go_enter Tryd.func10, Tryd.ntmps10
  go_wp2_with (first
      | (go_at_call 12; refine (HM.out _).mono ?_; rintro eN wN ⟨rfl, hbN⟩; have HON := HO.call hbN; clear HO hbN; have HO := HON; clear HON)
      | ((with_reducible refine gate ?_); (first
      | ((refine own_box HO rfl rfl rfl ?_); clear HO; intro gN wN hgN HO; (simp only [List.nil_append, List.cons_append] at HO); (try simp only [Act.put, List.setIfInBounds_toArray, List.set_cons_zero, List.set_cons_succ]))
      | ((refine own_alloc (T := 23) HO rfl rfl Tryd.zeroValue23 rfl ?_); clear HO; intro gN wN hgN HO; (simp only [List.nil_append, List.cons_append] at HO); (try simp only [Act.put, List.setIfInBounds_toArray, List.set_cons_zero, List.set_cons_succ]))
      | ((refine own_alloc (T := 3) HO rfl rfl Tryd.zeroValue3 rfl ?_); clear HO; intro gN wN hgN HO; (simp only [List.nil_append, List.cons_append] at HO); (try simp only [Act.put, List.setIfInBounds_toArray, List.set_cons_zero, List.set_cons_succ]))
      | ((refine own_alloc (T := 4) HO rfl rfl Tryd.zeroValue4 rfl ?_); clear HO; intro gN wN hgN HO; (simp only [List.nil_append, List.cons_append] at HO); (try simp only [Act.put, List.setIfInBounds_toArray, List.set_cons_zero, List.set_cons_succ]))
      | ((refine own_load (T := 23) HO rfl rfl rfl (by first | exact .head _ | exact .tail _ (.head _) | exact .tail _ (.tail _ (.head _)) | exact .tail _ (.tail _ (.tail _ (.head _))) | exact .tail _ (.tail _ (.tail _ (.tail _ (.head _)))) | exact .tail _ (.tail _ (.tail _ (.tail _ (.tail _ (.head _)))))) Tryd.isAgg23 Tryd.sizeOf23 (by repeat constructor) ?_); (try simp only [Act.put, List.setIfInBounds_toArray, List.set_cons_zero, List.set_cons_succ]))
      | ((refine own_load1 (T := 3) HO rfl rfl rfl (by first | exact .head _ | exact .tail _ (.head _) | exact .tail _ (.tail _ (.head _)) | exact .tail _ (.tail _ (.tail _ (.head _))) | exact .tail _ (.tail _ (.tail _ (.tail _ (.head _)))) | exact .tail _ (.tail _ (.tail _ (.tail _ (.tail _ (.head _)))))) Tryd.isAgg3 rfl ?_); (try simp only [Act.put, List.setIfInBounds_toArray, List.set_cons_zero, List.set_cons_succ]))
      | ((refine own_load1 (T := 4) HO rfl rfl rfl (by first | exact .head _ | exact .tail _ (.head _) | exact .tail _ (.tail _ (.head _)) | exact .tail _ (.tail _ (.tail _ (.head _))) | exact .tail _ (.tail _ (.tail _ (.tail _ (.head _)))) | exact .tail _ (.tail _ (.tail _ (.tail _ (.tail _ (.head _)))))) Tryd.isAgg4 rfl ?_); (try simp only [Act.put, List.setIfInBounds_toArray, List.set_cons_zero, List.set_cons_succ]))
      | ((refine own_store (T := 23) HO rfl rfl rfl rfl (by first | exact .here | exact .there (.here) | exact .there (.there (.here)) | exact .there (.there (.there (.here))) | exact .there (.there (.there (.there (.here)))) | exact .there (.there (.there (.there (.there (.here)))))) Tryd.sizeOf23 (by repeat constructor) rfl ?_); clear HO; intro wN HO; (try simp only [Act.put, List.setIfInBounds_toArray, List.set_cons_zero, List.set_cons_succ]))
      | ((refine own_store (T := 3) HO rfl rfl rfl rfl (by first | exact .here | exact .there (.here) | exact .there (.there (.here)) | exact .there (.there (.there (.here))) | exact .there (.there (.there (.there (.here)))) | exact .there (.there (.there (.there (.there (.here)))))) Tryd.sizeOf3 (by repeat constructor) rfl ?_); clear HO; intro wN HO; (try simp only [Act.put, List.setIfInBounds_toArray, List.set_cons_zero, List.set_cons_succ]))
      | ((refine own_store (T := 4) HO rfl rfl rfl rfl (by first | exact .here | exact .there (.here) | exact .there (.there (.here)) | exact .there (.there (.there (.here))) | exact .there (.there (.there (.there (.here)))) | exact .there (.there (.there (.there (.there (.here)))))) Tryd.sizeOf4 (by repeat constructor) rfl ?_); clear HO; intro wN HO; (try simp only [Act.put, List.setIfInBounds_toArray, List.set_cons_zero, List.set_cons_succ])))))
  go_ret
  exact ⟨_, rfl, Kd.S_nil _ _ _ _ _, HO.below⟩
set_option maxRecDepth 100000 in
set_option maxHeartbeats 16000000 in
theorem params_yes (b0 b1 b2 b3 b4 b5 b6 : Bool) (u f b : Int) (hu : 0 ≤ u) (hm : MayAt b0 b1 b2 b3 b4 b5 b6 u f b true) (hf : f ≠ -1 → TintAt 30 f (tintL f 30)) (hb : b ≠ -1 → TintAt 40 b (tintL b 40)) (w : World) :
    Calls Tryd.prog 10 #[stV b0 b1 b2 b3 b4 b5 b6 u f b] w (ParamsAns w (paramsL b0 b1 b2 b3 b4 b5 b6 u f b)) := by
  have HO := Mine.start w
  have HM := Lib.hid hm
  have HTF := Lib.hid hf
  have HTB := Lib.hid hb
  have HU := Lib.hid hu
  clear hm hf hb
  unfold stV MayAt at *
  go_enter Tryd.func10, Tryd.ntmps10
  go_wp2_with (first
      | (go_at_call 12; refine (HM.out _).mono ?_; rintro eN wN ⟨rfl, hbN⟩; have HON := HO.call hbN; clear HO hbN; have HO := HON; clear HON)
      | (go_at_call 21; refine (marks_calls' gB _).mono ?_; rintro e wN ⟨gM, rfl, hgN, hbN, hoN⟩; have HRN := HR.adopt hbN hgN hoN; clear HR hbN hgN hoN; have HR := HRN; clear HRN; simp only [List.nil_append, List.cons_append] at HR)
      | ((with_reducible refine gate ?_); (first
      | ((with_reducible refine gate_dst (N := 9) rfl ?_); (have HR := Rows2.start HO); clear HO; refine rows_lit [0] HR rfl (N := 9) rfl (by first | (go_simp; done) | (go_simp; rfl)) (by simp) ?_; clear HR; intro aR cR wN HR)
      | ((with_reducible refine gate_dst (N := 10) rfl ?_); refine rows_one HR rfl (N := 10) rfl (by first | (go_simp; done) | (go_simp; rfl)) ?_; clear HR; intro vL wN HR)
      | ((refine own_box HO rfl rfl rfl ?_); clear HO; intro gB wN hgN HO; (simp only [List.nil_append, List.cons_append] at HO); (try simp only [Act.put, List.setIfInBounds_toArray, List.set_cons_zero, List.set_cons_succ]))
      | ((refine own_alloc (T := 23) HO rfl rfl Tryd.zeroValue23 rfl ?_); clear HO; intro gN wN hgN HO; (simp only [List.nil_append, List.cons_append] at HO); (try simp only [Act.put, List.setIfInBounds_toArray, List.set_cons_zero, List.set_cons_succ]))
      | ((refine own_alloc (T := 3) HO rfl rfl Tryd.zeroValue3 rfl ?_); clear HO; intro gN wN hgN HO; (simp only [List.nil_append, List.cons_append] at HO); (try simp only [Act.put, List.setIfInBounds_toArray, List.set_cons_zero, List.set_cons_succ]))
      | ((refine own_alloc (T := 4) HO rfl rfl Tryd.zeroValue4 rfl ?_); clear HO; intro gN wN hgN HO; (simp only [List.nil_append, List.cons_append] at HO); (try simp only [Act.put, List.setIfInBounds_toArray, List.set_cons_zero, List.set_cons_succ]))
      | ((refine own_load (T := 23) HO rfl rfl rfl (by first | exact .head _ | exact .tail _ (.head _) | exact .tail _ (.tail _ (.head _)) | exact .tail _ (.tail _ (.tail _ (.head _))) | exact .tail _ (.tail _ (.tail _ (.tail _ (.head _)))) | exact .tail _ (.tail _ (.tail _ (.tail _ (.tail _ (.head _)))))) Tryd.isAgg23 Tryd.sizeOf23 (by repeat constructor) ?_); (try simp only [Act.put, List.setIfInBounds_toArray, List.set_cons_zero, List.set_cons_succ]))
      | ((refine own_load1 (T := 3) HO rfl rfl rfl (by first | exact .head _ | exact .tail _ (.head _) | exact .tail _ (.tail _ (.head _)) | exact .tail _ (.tail _ (.tail _ (.head _))) | exact .tail _ (.tail _ (.tail _ (.tail _ (.head _)))) | exact .tail _ (.tail _ (.tail _ (.tail _ (.tail _ (.head _)))))) Tryd.isAgg3 rfl ?_); (try simp only [Act.put, List.setIfInBounds_toArray, List.set_cons_zero, List.set_cons_succ]))
      | ((refine own_load1 (T := 4) HO rfl rfl rfl (by first | exact .head _ | exact .tail _ (.head _) | exact .tail _ (.tail _ (.head _)) | exact .tail _ (.tail _ (.tail _ (.head _))) | exact .tail _ (.tail _ (.tail _ (.tail _ (.head _)))) | exact .tail _ (.tail _ (.tail _ (.tail _ (.tail _ (.head _)))))) Tryd.isAgg4 rfl ?_); (try simp only [Act.put, List.setIfInBounds_toArray, List.set_cons_zero, List.set_cons_succ]))
      | ((refine own_store (T := 23) HO rfl rfl rfl rfl (by first | exact .here | exact .there (.here) | exact .there (.there (.here)) | exact .there (.there (.there (.here))) | exact .there (.there (.there (.there (.here)))) | exact .there (.there (.there (.there (.there (.here)))))) Tryd.sizeOf23 (by repeat constructor) rfl ?_); clear HO; intro wN HO; (try simp only [Act.put, List.setIfInBounds_toArray, List.set_cons_zero, List.set_cons_succ]))
      | ((refine own_store (T := 3) HO rfl rfl rfl rfl (by first | exact .here | exact .there (.here) | exact .there (.there (.here)) | exact .there (.there (.there (.here))) | exact .there (.there (.there (.there (.here)))) | exact .there (.there (.there (.there (.there (.here)))))) Tryd.sizeOf3 (by repeat constructor) rfl ?_); clear HO; intro wN HO; (try simp only [Act.put, List.setIfInBounds_toArray, List.set_cons_zero, List.set_cons_succ]))
      | ((refine own_store (T := 4) HO rfl rfl rfl rfl (by first | exact .here | exact .there (.here) | exact .there (.there (.here)) | exact .there (.there (.there (.here))) | exact .there (.there (.there (.there (.here)))) | exact .there (.there (.there (.there (.there (.here)))))) Tryd.sizeOf4 (by repeat constructor) rfl ?_); clear HO; intro wN HO; (try simp only [Act.put, List.setIfInBounds_toArray, List.set_cons_zero, List.set_cons_succ])))))
  go_loopw [3, 5] (fun v i wr => ∃ (n : Nat) (z : Int), 1 ≤ n ∧ n ≤ 10 ∧ z = (n : Int) ∧ i = .int .i64 z ∧ Rows2 w wr [(gB, IsCells [.bool b0, .bool b1, .bool b2, .bool b3, .bool b4, .bool b5, .bool b6, .int .i64 u, .int .i64 f, .int .i64 b] 23), (gM, IsMapOf (marksT gB))] v (upTo b0 b1 b2 b3 b4 b5 b6 u n)) (fun _ i _ => 10 - (intOf i).toNat)
  case atStart => exact ⟨1, 1, by omega, by omega, rfl, rfl, by rw [show upTo b0 b1 b2 b3 b4 b5 b6 u 1 = [[0]] from rfl]; exact HR⟩
  case round =>
    obtain ⟨n, z, h1, h10, hz, rfl, HRn⟩ := hrel
    clear HR
    have HR := HRn
    clear HRn
    have HLEN : Hid ((upTo b0 b1 b2 b3 b4 b5 b6 u n).length ≤ 1000000) := Lib.hid (by have := upTo_len b0 b1 b2 b3 b4 b5 b6 u n; omega)
    by_cases hlt : n < 10
    · obtain rfl | rfl | rfl | rfl | rfl | rfl | rfl | rfl | rfl : n = 1 ∨ n = 2 ∨ n = 3 ∨ n = 4 ∨ n = 5 ∨ n = 6 ∨ n = 7 ∨ n = 8 ∨ n = 9 := by omega
      · obtain rfl : z = 1 := hz
        have HSAY : Hid (Says (marksT gB) (.int .i64 1) (.pointer none) (.pointer (some ⟨gB, 0, none⟩)) true) := Lib.hid (.hit _ (by simp [marksT, ptrAt]))
        cases b0
        · go_wp2_with (first
          | ((refine own_lookup (mt := 41) HR.mine rfl rfl rfl (by first | exact .const | exact .tmp rfl | exact .func) Tryd.underlying41 Tryd.underlying3 Tryd.zeroValue45 (by exact .tail _ (.head _)) (marks_keys gB) (marks_key gB) (by first | exact rfl | exact trivial) HSAY.out ?_); (try simp only [Act.put, List.setIfInBounds_toArray, List.set_cons_zero, List.set_cons_succ]))
          | ((refine own_load1 (T := 4) HR.mine rfl rfl rfl (by exact .head _) Tryd.isAgg4 rfl ?_); (try simp only [Act.put, List.setIfInBounds_toArray, List.set_cons_zero, List.set_cons_succ])))
          go_roundw
          case rel => exact ⟨2, 2, by omega, by omega, rfl, rfl, by rw [show upTo false b1 b2 b3 b4 b5 b6 u 2 = upTo false b1 b2 b3 b4 b5 b6 u 1 from by simp [upTo, partN, markL, underL]]; exact HR⟩
          case measure => simp [intOf]
        · go_wp2_with (first
          | (go_at_call 22; refine (parts_calls _ _).mono ?_; rintro e w' ⟨rfl, rfl⟩)
          | ((with_reducible refine gate_dst (N := 58) rfl ?_); refine rows_lit [1] HR rfl (N := 58) rfl (by first | (go_simp; done) | (go_simp; rfl)) (by simp) ?_; clear HR; intro aR cR wN HR)
          | (at_builtin; refine rows_push HR rfl _ _ 25 rfl Tryd.underlying25 infoRows rfl rfl HLEN.out ?_; clear HR; intro vN wN HR)
          | ((refine own_lookup (mt := 41) HR.mine rfl rfl rfl (by first | exact .const | exact .tmp rfl | exact .func) Tryd.underlying41 Tryd.underlying3 Tryd.zeroValue45 (by exact .tail _ (.head _)) (marks_keys gB) (marks_key gB) (by first | exact rfl | exact trivial) HSAY.out ?_); (try simp only [Act.put, List.setIfInBounds_toArray, List.set_cons_zero, List.set_cons_succ]))
          | ((refine own_load1 (T := 4) HR.mine rfl rfl rfl (by exact .head _) Tryd.isAgg4 rfl ?_); (try simp only [Act.put, List.setIfInBounds_toArray, List.set_cons_zero, List.set_cons_succ])))
          go_roundw
          case rel => exact ⟨2, 2, by omega, by omega, rfl, rfl, by rw [show upTo true b1 b2 b3 b4 b5 b6 u 2 = upTo true b1 b2 b3 b4 b5 b6 u 1 ++ [[1]] from by simp [upTo, partN, markL, underL]]; exact HR⟩
          case measure => simp [intOf]
      · obtain rfl : z = 2 := hz
        have HSAY : Hid (Says (marksT gB) (.int .i64 2) (.pointer none) (.pointer (some ⟨gB, 1, none⟩)) true) := Lib.hid (.hit _ (by simp [marksT, ptrAt]))
        cases b1
        · go_wp2_with (first
          | ((refine own_lookup (mt := 41) HR.mine rfl rfl rfl (by first | exact .const | exact .tmp rfl | exact .func) Tryd.underlying41 Tryd.underlying3 Tryd.zeroValue45 (by exact .tail _ (.head _)) (marks_keys gB) (marks_key gB) (by first | exact rfl | exact trivial) HSAY.out ?_); (try simp only [Act.put, List.setIfInBounds_toArray, List.set_cons_zero, List.set_cons_succ]))
          | ((refine own_load1 (T := 4) HR.mine rfl rfl rfl (by exact .head _) Tryd.isAgg4 rfl ?_); (try simp only [Act.put, List.setIfInBounds_toArray, List.set_cons_zero, List.set_cons_succ])))
          go_roundw
          case rel => exact ⟨3, 3, by omega, by omega, rfl, rfl, by rw [show upTo b0 false b2 b3 b4 b5 b6 u 3 = upTo b0 false b2 b3 b4 b5 b6 u 2 from by simp [upTo, partN, markL, underL]]; exact HR⟩
          case measure => simp [intOf]
        · go_wp2_with (first
          | (go_at_call 22; refine (parts_calls _ _).mono ?_; rintro e w' ⟨rfl, rfl⟩)
          | ((with_reducible refine gate_dst (N := 58) rfl ?_); refine rows_lit [2] HR rfl (N := 58) rfl (by first | (go_simp; done) | (go_simp; rfl)) (by simp) ?_; clear HR; intro aR cR wN HR)
          | (at_builtin; refine rows_push HR rfl _ _ 25 rfl Tryd.underlying25 infoRows rfl rfl HLEN.out ?_; clear HR; intro vN wN HR)
          | ((refine own_lookup (mt := 41) HR.mine rfl rfl rfl (by first | exact .const | exact .tmp rfl | exact .func) Tryd.underlying41 Tryd.underlying3 Tryd.zeroValue45 (by exact .tail _ (.head _)) (marks_keys gB) (marks_key gB) (by first | exact rfl | exact trivial) HSAY.out ?_); (try simp only [Act.put, List.setIfInBounds_toArray, List.set_cons_zero, List.set_cons_succ]))
          | ((refine own_load1 (T := 4) HR.mine rfl rfl rfl (by exact .head _) Tryd.isAgg4 rfl ?_); (try simp only [Act.put, List.setIfInBounds_toArray, List.set_cons_zero, List.set_cons_succ])))
          go_roundw
          case rel => exact ⟨3, 3, by omega, by omega, rfl, rfl, by rw [show upTo b0 true b2 b3 b4 b5 b6 u 3 = upTo b0 true b2 b3 b4 b5 b6 u 2 ++ [[2]] from by simp [upTo, partN, markL, underL]]; exact HR⟩
          case measure => simp [intOf]
      · obtain rfl : z = 3 := hz
        have HSAY : Hid (Says (marksT gB) (.int .i64 3) (.pointer none) (.pointer (some ⟨gB, 2, none⟩)) true) := Lib.hid (.hit _ (by simp [marksT, ptrAt]))
        cases b2
        · go_wp2_with (first
          | ((refine own_lookup (mt := 41) HR.mine rfl rfl rfl (by first | exact .const | exact .tmp rfl | exact .func) Tryd.underlying41 Tryd.underlying3 Tryd.zeroValue45 (by exact .tail _ (.head _)) (marks_keys gB) (marks_key gB) (by first | exact rfl | exact trivial) HSAY.out ?_); (try simp only [Act.put, List.setIfInBounds_toArray, List.set_cons_zero, List.set_cons_succ]))
          | ((refine own_load1 (T := 4) HR.mine rfl rfl rfl (by exact .head _) Tryd.isAgg4 rfl ?_); (try simp only [Act.put, List.setIfInBounds_toArray, List.set_cons_zero, List.set_cons_succ])))
          go_roundw
          case rel => exact ⟨4, 4, by omega, by omega, rfl, rfl, by rw [show upTo b0 b1 false b3 b4 b5 b6 u 4 = upTo b0 b1 false b3 b4 b5 b6 u 3 from by simp [upTo, partN, markL, underL]]; exact HR⟩
          case measure => simp [intOf]
        · go_wp2_with (first
          | (go_at_call 22; refine (parts_calls _ _).mono ?_; rintro e w' ⟨rfl, rfl⟩)
          | ((with_reducible refine gate_dst (N := 58) rfl ?_); refine rows_lit [3] HR rfl (N := 58) rfl (by first | (go_simp; done) | (go_simp; rfl)) (by simp) ?_; clear HR; intro aR cR wN HR)
          | (at_builtin; refine rows_push HR rfl _ _ 25 rfl Tryd.underlying25 infoRows rfl rfl HLEN.out ?_; clear HR; intro vN wN HR)
          | ((refine own_lookup (mt := 41) HR.mine rfl rfl rfl (by first | exact .const | exact .tmp rfl | exact .func) Tryd.underlying41 Tryd.underlying3 Tryd.zeroValue45 (by exact .tail _ (.head _)) (marks_keys gB) (marks_key gB) (by first | exact rfl | exact trivial) HSAY.out ?_); (try simp only [Act.put, List.setIfInBounds_toArray, List.set_cons_zero, List.set_cons_succ]))
          | ((refine own_load1 (T := 4) HR.mine rfl rfl rfl (by exact .head _) Tryd.isAgg4 rfl ?_); (try simp only [Act.put, List.setIfInBounds_toArray, List.set_cons_zero, List.set_cons_succ])))
          go_roundw
          case rel => exact ⟨4, 4, by omega, by omega, rfl, rfl, by rw [show upTo b0 b1 true b3 b4 b5 b6 u 4 = upTo b0 b1 true b3 b4 b5 b6 u 3 ++ [[3]] from by simp [upTo, partN, markL, underL]]; exact HR⟩
          case measure => simp [intOf]
      · obtain rfl : z = 4 := hz
        have HSAY : Hid (Says (marksT gB) (.int .i64 4) (.pointer none) (.pointer none) false) := Lib.hid (.miss (by simp [marksT]))
        by_cases hu1 : u = 1
        · have q1 : (u == 1) = true := beq_iff_eq.2 hu1
          have q2 : decide (1 < u) = false := decide_eq_false (by omega)
          have HU1 := Lib.hid hu1
          clear hu1
          go_wp2_with (first
          | (go_at_call 22; refine (parts_calls _ _).mono ?_; rintro e w' ⟨rfl, rfl⟩)
          | ((with_reducible refine gate_dst (N := 25) rfl ?_); refine rows_lit [4] HR rfl (N := 25) rfl (by first | (go_simp; done) | (go_simp; rfl)) (by simp) ?_; clear HR; intro aR cR wN HR)
          | (at_builtin; refine rows_push HR rfl _ _ 25 rfl Tryd.underlying25 infoRows rfl rfl HLEN.out ?_; clear HR; intro vN wN HR)
          | ((refine own_lookup (mt := 41) HR.mine rfl rfl rfl (by first | exact .const | exact .tmp rfl | exact .func) Tryd.underlying41 Tryd.underlying3 Tryd.zeroValue45 (by exact .tail _ (.head _)) (marks_keys gB) (marks_key gB) (by first | exact rfl | exact trivial) HSAY.out ?_); (try simp only [Act.put, List.setIfInBounds_toArray, List.set_cons_zero, List.set_cons_succ]))
          | ((refine own_load1 (T := 3) HR.mine rfl rfl rfl (by exact .head _) Tryd.isAgg3 rfl ?_); (try simp only [Act.put, List.setIfInBounds_toArray, List.set_cons_zero, List.set_cons_succ])))
          go_roundw
          case rel => exact ⟨5, 5, by omega, by omega, rfl, rfl, by rw [show upTo b0 b1 b2 b3 b4 b5 b6 u 5 = upTo b0 b1 b2 b3 b4 b5 b6 u 4 ++ [[4]] from by simp [upTo, partN, markL, underL, HU1.out]]; exact HR⟩
          case measure => simp [intOf]
        · have q1 : (u == 1) = false := beq_eq_false_iff_ne.2 hu1
          by_cases hu2 : 1 < u
          · have q2 : decide (1 < u) = true := decide_eq_true hu2
            have HU1 := Lib.hid hu1
            have HU2 := Lib.hid hu2
            clear hu1 hu2
            go_wp2_with (first
          | (go_at_call 22; refine (parts_calls _ _).mono ?_; rintro e w' ⟨rfl, rfl⟩)
          | ((with_reducible refine gate_dst (N := 40) rfl ?_); refine rows_lit [4, u] HR rfl (N := 40) rfl (by first | (go_simp; done) | (go_simp; rfl)) (by simp) ?_; clear HR; intro aR cR wN HR)
          | (at_builtin; refine rows_push HR rfl _ _ 25 rfl Tryd.underlying25 infoRows rfl rfl HLEN.out ?_; clear HR; intro vN wN HR)
          | ((refine own_lookup (mt := 41) HR.mine rfl rfl rfl (by first | exact .const | exact .tmp rfl | exact .func) Tryd.underlying41 Tryd.underlying3 Tryd.zeroValue45 (by exact .tail _ (.head _)) (marks_keys gB) (marks_key gB) (by first | exact rfl | exact trivial) HSAY.out ?_); (try simp only [Act.put, List.setIfInBounds_toArray, List.set_cons_zero, List.set_cons_succ]))
          | ((refine own_load1 (T := 3) HR.mine rfl rfl rfl (by exact .head _) Tryd.isAgg3 rfl ?_); (try simp only [Act.put, List.setIfInBounds_toArray, List.set_cons_zero, List.set_cons_succ])))
            go_roundw
            case rel => exact ⟨5, 5, by omega, by omega, rfl, rfl, by rw [show upTo b0 b1 b2 b3 b4 b5 b6 u 5 = upTo b0 b1 b2 b3 b4 b5 b6 u 4 ++ [[4, u]] from by simp [upTo, partN, markL, underL, HU1.out, HU2.out]]; exact HR⟩
            case measure => simp [intOf]
          · have q2 : decide (1 < u) = false := decide_eq_false hu2
            have HU1 := Lib.hid hu1
            have HU2 := Lib.hid hu2
            clear hu1 hu2
            go_wp2_with (first
          | ((refine own_lookup (mt := 41) HR.mine rfl rfl rfl (by first | exact .const | exact .tmp rfl | exact .func) Tryd.underlying41 Tryd.underlying3 Tryd.zeroValue45 (by exact .tail _ (.head _)) (marks_keys gB) (marks_key gB) (by first | exact rfl | exact trivial) HSAY.out ?_); (try simp only [Act.put, List.setIfInBounds_toArray, List.set_cons_zero, List.set_cons_succ]))
          | ((refine own_load1 (T := 4) HR.mine rfl rfl rfl (by exact .head _) Tryd.isAgg4 rfl ?_); (try simp only [Act.put, List.setIfInBounds_toArray, List.set_cons_zero, List.set_cons_succ]))
          | ((refine own_load1 (T := 3) HR.mine rfl rfl rfl (by exact .head _) Tryd.isAgg3 rfl ?_); (try simp only [Act.put, List.setIfInBounds_toArray, List.set_cons_zero, List.set_cons_succ])))
            go_roundw
            case rel => exact ⟨5, 5, by omega, by omega, rfl, rfl, by rw [show upTo b0 b1 b2 b3 b4 b5 b6 u 5 = upTo b0 b1 b2 b3 b4 b5 b6 u 4 from by simp [upTo, partN, markL, underL, HU1.out, HU2.out]]; exact HR⟩
            case measure => simp [intOf]
      · obtain rfl : z = 5 := hz
        have HSAY : Hid (Says (marksT gB) (.int .i64 5) (.pointer none) (.pointer (some ⟨gB, 3, none⟩)) true) := Lib.hid (.hit _ (by simp [marksT, ptrAt]))
        cases b3
        · go_wp2_with (first
          | ((refine own_lookup (mt := 41) HR.mine rfl rfl rfl (by first | exact .const | exact .tmp rfl | exact .func) Tryd.underlying41 Tryd.underlying3 Tryd.zeroValue45 (by exact .tail _ (.head _)) (marks_keys gB) (marks_key gB) (by first | exact rfl | exact trivial) HSAY.out ?_); (try simp only [Act.put, List.setIfInBounds_toArray, List.set_cons_zero, List.set_cons_succ]))
          | ((refine own_load1 (T := 4) HR.mine rfl rfl rfl (by exact .head _) Tryd.isAgg4 rfl ?_); (try simp only [Act.put, List.setIfInBounds_toArray, List.set_cons_zero, List.set_cons_succ])))
          go_roundw
          case rel => exact ⟨6, 6, by omega, by omega, rfl, rfl, by rw [show upTo b0 b1 b2 false b4 b5 b6 u 6 = upTo b0 b1 b2 false b4 b5 b6 u 5 from by simp [upTo, partN, markL, underL]]; exact HR⟩
          case measure => simp [intOf]
        · go_wp2_with (first
          | (go_at_call 22; refine (parts_calls _ _).mono ?_; rintro e w' ⟨rfl, rfl⟩)
          | ((with_reducible refine gate_dst (N := 58) rfl ?_); refine rows_lit [5] HR rfl (N := 58) rfl (by first | (go_simp; done) | (go_simp; rfl)) (by simp) ?_; clear HR; intro aR cR wN HR)
          | (at_builtin; refine rows_push HR rfl _ _ 25 rfl Tryd.underlying25 infoRows rfl rfl HLEN.out ?_; clear HR; intro vN wN HR)
          | ((refine own_lookup (mt := 41) HR.mine rfl rfl rfl (by first | exact .const | exact .tmp rfl | exact .func) Tryd.underlying41 Tryd.underlying3 Tryd.zeroValue45 (by exact .tail _ (.head _)) (marks_keys gB) (marks_key gB) (by first | exact rfl | exact trivial) HSAY.out ?_); (try simp only [Act.put, List.setIfInBounds_toArray, List.set_cons_zero, List.set_cons_succ]))
          | ((refine own_load1 (T := 4) HR.mine rfl rfl rfl (by exact .head _) Tryd.isAgg4 rfl ?_); (try simp only [Act.put, List.setIfInBounds_toArray, List.set_cons_zero, List.set_cons_succ])))
          go_roundw
          case rel => exact ⟨6, 6, by omega, by omega, rfl, rfl, by rw [show upTo b0 b1 b2 true b4 b5 b6 u 6 = upTo b0 b1 b2 true b4 b5 b6 u 5 ++ [[5]] from by simp [upTo, partN, markL, underL]]; exact HR⟩
          case measure => simp [intOf]
      · obtain rfl : z = 6 := hz
        have HSAY : Hid (Says (marksT gB) (.int .i64 6) (.pointer none) (.pointer none) false) := Lib.hid (.miss (by simp [marksT]))
        go_wp2_with (first
          | ((refine own_lookup (mt := 41) HR.mine rfl rfl rfl (by first | exact .const | exact .tmp rfl | exact .func) Tryd.underlying41 Tryd.underlying3 Tryd.zeroValue45 (by exact .tail _ (.head _)) (marks_keys gB) (marks_key gB) (by first | exact rfl | exact trivial) HSAY.out ?_); (try simp only [Act.put, List.setIfInBounds_toArray, List.set_cons_zero, List.set_cons_succ]))
          | ((refine own_load1 (T := 4) HR.mine rfl rfl rfl (by exact .head _) Tryd.isAgg4 rfl ?_); (try simp only [Act.put, List.setIfInBounds_toArray, List.set_cons_zero, List.set_cons_succ])))
        go_roundw
        case rel => exact ⟨7, 7, by omega, by omega, rfl, rfl, by rw [show upTo b0 b1 b2 b3 b4 b5 b6 u 7 = upTo b0 b1 b2 b3 b4 b5 b6 u 6 from by simp [upTo, partN, markL, underL]]; exact HR⟩
        case measure => simp [intOf]
      · obtain rfl : z = 7 := hz
        have HSAY : Hid (Says (marksT gB) (.int .i64 7) (.pointer none) (.pointer (some ⟨gB, 4, none⟩)) true) := Lib.hid (.hit _ (by simp [marksT, ptrAt]))
        cases b4
        · go_wp2_with (first
          | ((refine own_lookup (mt := 41) HR.mine rfl rfl rfl (by first | exact .const | exact .tmp rfl | exact .func) Tryd.underlying41 Tryd.underlying3 Tryd.zeroValue45 (by exact .tail _ (.head _)) (marks_keys gB) (marks_key gB) (by first | exact rfl | exact trivial) HSAY.out ?_); (try simp only [Act.put, List.setIfInBounds_toArray, List.set_cons_zero, List.set_cons_succ]))
          | ((refine own_load1 (T := 4) HR.mine rfl rfl rfl (by exact .head _) Tryd.isAgg4 rfl ?_); (try simp only [Act.put, List.setIfInBounds_toArray, List.set_cons_zero, List.set_cons_succ])))
          go_roundw
          case rel => exact ⟨8, 8, by omega, by omega, rfl, rfl, by rw [show upTo b0 b1 b2 b3 false b5 b6 u 8 = upTo b0 b1 b2 b3 false b5 b6 u 7 from by simp [upTo, partN, markL, underL]]; exact HR⟩
          case measure => simp [intOf]
        · go_wp2_with (first
          | (go_at_call 22; refine (parts_calls _ _).mono ?_; rintro e w' ⟨rfl, rfl⟩)
          | ((with_reducible refine gate_dst (N := 58) rfl ?_); refine rows_lit [7] HR rfl (N := 58) rfl (by first | (go_simp; done) | (go_simp; rfl)) (by simp) ?_; clear HR; intro aR cR wN HR)
          | (at_builtin; refine rows_push HR rfl _ _ 25 rfl Tryd.underlying25 infoRows rfl rfl HLEN.out ?_; clear HR; intro vN wN HR)
          | ((refine own_lookup (mt := 41) HR.mine rfl rfl rfl (by first | exact .const | exact .tmp rfl | exact .func) Tryd.underlying41 Tryd.underlying3 Tryd.zeroValue45 (by exact .tail _ (.head _)) (marks_keys gB) (marks_key gB) (by first | exact rfl | exact trivial) HSAY.out ?_); (try simp only [Act.put, List.setIfInBounds_toArray, List.set_cons_zero, List.set_cons_succ]))
          | ((refine own_load1 (T := 4) HR.mine rfl rfl rfl (by exact .head _) Tryd.isAgg4 rfl ?_); (try simp only [Act.put, List.setIfInBounds_toArray, List.set_cons_zero, List.set_cons_succ])))
          go_roundw
          case rel => exact ⟨8, 8, by omega, by omega, rfl, rfl, by rw [show upTo b0 b1 b2 b3 true b5 b6 u 8 = upTo b0 b1 b2 b3 true b5 b6 u 7 ++ [[7]] from by simp [upTo, partN, markL, underL]]; exact HR⟩
          case measure => simp [intOf]
      · obtain rfl : z = 8 := hz
        have HSAY : Hid (Says (marksT gB) (.int .i64 8) (.pointer none) (.pointer (some ⟨gB, 5, none⟩)) true) := Lib.hid (.hit _ (by simp [marksT, ptrAt]))
        cases b5
        · go_wp2_with (first
          | ((refine own_lookup (mt := 41) HR.mine rfl rfl rfl (by first | exact .const | exact .tmp rfl | exact .func) Tryd.underlying41 Tryd.underlying3 Tryd.zeroValue45 (by exact .tail _ (.head _)) (marks_keys gB) (marks_key gB) (by first | exact rfl | exact trivial) HSAY.out ?_); (try simp only [Act.put, List.setIfInBounds_toArray, List.set_cons_zero, List.set_cons_succ]))
          | ((refine own_load1 (T := 4) HR.mine rfl rfl rfl (by exact .head _) Tryd.isAgg4 rfl ?_); (try simp only [Act.put, List.setIfInBounds_toArray, List.set_cons_zero, List.set_cons_succ])))
          go_roundw
          case rel => exact ⟨9, 9, by omega, by omega, rfl, rfl, by rw [show upTo b0 b1 b2 b3 b4 false b6 u 9 = upTo b0 b1 b2 b3 b4 false b6 u 8 from by simp [upTo, partN, markL, underL]]; exact HR⟩
          case measure => simp [intOf]
        · go_wp2_with (first
          | (go_at_call 22; refine (parts_calls _ _).mono ?_; rintro e w' ⟨rfl, rfl⟩)
          | ((with_reducible refine gate_dst (N := 58) rfl ?_); refine rows_lit [8] HR rfl (N := 58) rfl (by first | (go_simp; done) | (go_simp; rfl)) (by simp) ?_; clear HR; intro aR cR wN HR)
          | (at_builtin; refine rows_push HR rfl _ _ 25 rfl Tryd.underlying25 infoRows rfl rfl HLEN.out ?_; clear HR; intro vN wN HR)
          | ((refine own_lookup (mt := 41) HR.mine rfl rfl rfl (by first | exact .const | exact .tmp rfl | exact .func) Tryd.underlying41 Tryd.underlying3 Tryd.zeroValue45 (by exact .tail _ (.head _)) (marks_keys gB) (marks_key gB) (by first | exact rfl | exact trivial) HSAY.out ?_); (try simp only [Act.put, List.setIfInBounds_toArray, List.set_cons_zero, List.set_cons_succ]))
          | ((refine own_load1 (T := 4) HR.mine rfl rfl rfl (by exact .head _) Tryd.isAgg4 rfl ?_); (try simp only [Act.put, List.setIfInBounds_toArray, List.set_cons_zero, List.set_cons_succ])))
          go_roundw
          case rel => exact ⟨9, 9, by omega, by omega, rfl, rfl, by rw [show upTo b0 b1 b2 b3 b4 true b6 u 9 = upTo b0 b1 b2 b3 b4 true b6 u 8 ++ [[8]] from by simp [upTo, partN, markL, underL]]; exact HR⟩
          case measure => simp [intOf]
      · obtain rfl : z = 9 := hz
        have HSAY : Hid (Says (marksT gB) (.int .i64 9) (.pointer none) (.pointer (some ⟨gB, 6, none⟩)) true) := Lib.hid (.hit _ (by simp [marksT, ptrAt]))
        cases b6
        · go_wp2_with (first
          | ((refine own_lookup (mt := 41) HR.mine rfl rfl rfl (by first | exact .const | exact .tmp rfl | exact .func) Tryd.underlying41 Tryd.underlying3 Tryd.zeroValue45 (by exact .tail _ (.head _)) (marks_keys gB) (marks_key gB) (by first | exact rfl | exact trivial) HSAY.out ?_); (try simp only [Act.put, List.setIfInBounds_toArray, List.set_cons_zero, List.set_cons_succ]))
          | ((refine own_load1 (T := 4) HR.mine rfl rfl rfl (by exact .head _) Tryd.isAgg4 rfl ?_); (try simp only [Act.put, List.setIfInBounds_toArray, List.set_cons_zero, List.set_cons_succ])))
          go_roundw
          case rel => exact ⟨10, 10, by omega, by omega, rfl, rfl, by rw [show upTo b0 b1 b2 b3 b4 b5 false u 10 = upTo b0 b1 b2 b3 b4 b5 false u 9 from by simp [upTo, partN, markL, underL]]; exact HR⟩
          case measure => simp [intOf]
        · go_wp2_with (first
          | (go_at_call 22; refine (parts_calls _ _).mono ?_; rintro e w' ⟨rfl, rfl⟩)
          | ((with_reducible refine gate_dst (N := 58) rfl ?_); refine rows_lit [9] HR rfl (N := 58) rfl (by first | (go_simp; done) | (go_simp; rfl)) (by simp) ?_; clear HR; intro aR cR wN HR)
          | (at_builtin; refine rows_push HR rfl _ _ 25 rfl Tryd.underlying25 infoRows rfl rfl HLEN.out ?_; clear HR; intro vN wN HR)
          | ((refine own_lookup (mt := 41) HR.mine rfl rfl rfl (by first | exact .const | exact .tmp rfl | exact .func) Tryd.underlying41 Tryd.underlying3 Tryd.zeroValue45 (by exact .tail _ (.head _)) (marks_keys gB) (marks_key gB) (by first | exact rfl | exact trivial) HSAY.out ?_); (try simp only [Act.put, List.setIfInBounds_toArray, List.set_cons_zero, List.set_cons_succ]))
          | ((refine own_load1 (T := 4) HR.mine rfl rfl rfl (by exact .head _) Tryd.isAgg4 rfl ?_); (try simp only [Act.put, List.setIfInBounds_toArray, List.set_cons_zero, List.set_cons_succ])))
          go_roundw
          case rel => exact ⟨10, 10, by omega, by omega, rfl, rfl, by rw [show upTo b0 b1 b2 b3 b4 b5 true u 10 = upTo b0 b1 b2 b3 b4 b5 true u 9 ++ [[9]] from by simp [upTo, partN, markL, underL]]; exact HR⟩
          case measure => simp [intOf]
    · obtain rfl : n = 10 := by omega
      obtain rfl : z = 10 := hz
      have HLEN2 : Hid ((upTo b0 b1 b2 b3 b4 b5 b6 u 10).length ≤ 11) := Lib.hid (upTo_len b0 b1 b2 b3 b4 b5 b6 u 10)
      have HALL := Lib.hid (upTo_all b0 b1 b2 b3 b4 b5 b6 u f b)
      clear hlt
      by_cases hf1 : f = -1
      all_goals
        by_cases hb1 : b = -1
      · have HC1 : Hid (colourL f 30 = []) := Lib.hid (by unfold colourL; rw [if_pos hf1])
        have HC2 : Hid (colourL b 40 = []) := Lib.hid (by unfold colourL; rw [if_pos hb1])
        have qf : (f == -1) = true := beq_iff_eq.2 hf1
        have pf : (f != -1) = false := bne_eq_false_iff_eq.2 hf1
        have qb : (b == -1) = true := beq_iff_eq.2 hb1
        have pb : (b != -1) = false := bne_eq_false_iff_eq.2 hb1
        clear hf1 hb1
        go_wp2_with (first
          | ((refine own_load1 (T := 3) HR.mine rfl rfl rfl (by exact .head _) Tryd.isAgg3 rfl ?_); (try simp only [Act.put, List.setIfInBounds_toArray, List.set_cons_zero, List.set_cons_succ])))
        go_ret
        refine ⟨_, rfl, ?_, HR.mine.below⟩
        rw [← HALL.out, HC1.out, HC2.out, List.append_nil, List.append_nil]
        exact HR.rows
      · have HC1 : Hid (colourL f 30 = []) := Lib.hid (by unfold colourL; rw [if_pos hf1])
        have HC2 : Hid (colourL b 40 = [tintL b 40]) := Lib.hid (by unfold colourL; rw [if_neg hb1])
        have qf : (f == -1) = true := beq_iff_eq.2 hf1
        have pf : (f != -1) = false := bne_eq_false_iff_eq.2 hf1
        have qb : (b == -1) = false := beq_eq_false_iff_ne.2 hb1
        have pb : (b != -1) = true := bne_iff_ne.2 hb1
        have HT2 := Lib.hid (HTB.out hb1)
        clear hf1 hb1
        go_wp2_with (first
          | (go_at_call 23; refine (HT2.out _).mono ?_; rintro e wN ⟨v0, rfl, hrN, hbN⟩; obtain ⟨aR, cR, rfl⟩ := Kd.R_slice hrN; have HRN := HR.row hbN hrN; clear HR hrN hbN; have HR := HRN; clear HRN)
          | (at_builtin; refine rows_push HR rfl _ _ 25 rfl Tryd.underlying25 infoRows rfl rfl (by have hq := HLEN2.out; (try simp only [List.length_append, List.length_singleton]); omega) ?_; clear HR; intro vN wN HR)
          | ((refine own_load1 (T := 3) HR.mine rfl rfl rfl (by exact .head _) Tryd.isAgg3 rfl ?_); (try simp only [Act.put, List.setIfInBounds_toArray, List.set_cons_zero, List.set_cons_succ])))
        go_ret
        refine ⟨_, rfl, ?_, HR.mine.below⟩
        rw [← HALL.out, HC1.out, HC2.out, List.append_nil]
        exact HR.rows
      · have HC1 : Hid (colourL f 30 = [tintL f 30]) := Lib.hid (by unfold colourL; rw [if_neg hf1])
        have HC2 : Hid (colourL b 40 = []) := Lib.hid (by unfold colourL; rw [if_pos hb1])
        have qf : (f == -1) = false := beq_eq_false_iff_ne.2 hf1
        have pf : (f != -1) = true := bne_iff_ne.2 hf1
        have qb : (b == -1) = true := beq_iff_eq.2 hb1
        have pb : (b != -1) = false := bne_eq_false_iff_eq.2 hb1
        have HT1 := Lib.hid (HTF.out hf1)
        clear hf1 hb1
        go_wp2_with (first
          | (go_at_call 23; refine (HT1.out _).mono ?_; rintro e wN ⟨v0, rfl, hrN, hbN⟩; obtain ⟨aR, cR, rfl⟩ := Kd.R_slice hrN; have HRN := HR.row hbN hrN; clear HR hrN hbN; have HR := HRN; clear HRN)
          | (at_builtin; refine rows_push HR rfl _ _ 25 rfl Tryd.underlying25 infoRows rfl rfl (by have hq := HLEN2.out; (try simp only [List.length_append, List.length_singleton]); omega) ?_; clear HR; intro vN wN HR)
          | ((refine own_load1 (T := 3) HR.mine rfl rfl rfl (by exact .head _) Tryd.isAgg3 rfl ?_); (try simp only [Act.put, List.setIfInBounds_toArray, List.set_cons_zero, List.set_cons_succ])))
        go_ret
        refine ⟨_, rfl, ?_, HR.mine.below⟩
        rw [← HALL.out, HC1.out, HC2.out, List.append_nil]
        exact HR.rows
      · have HC1 : Hid (colourL f 30 = [tintL f 30]) := Lib.hid (by unfold colourL; rw [if_neg hf1])
        have HC2 : Hid (colourL b 40 = [tintL b 40]) := Lib.hid (by unfold colourL; rw [if_neg hb1])
        have qf : (f == -1) = false := beq_eq_false_iff_ne.2 hf1
        have pf : (f != -1) = true := bne_iff_ne.2 hf1
        have qb : (b == -1) = false := beq_eq_false_iff_ne.2 hb1
        have pb : (b != -1) = true := bne_iff_ne.2 hb1
        have HT1 := Lib.hid (HTF.out hf1)
        have HT2 := Lib.hid (HTB.out hb1)
        clear hf1 hb1
        go_wp2_with (first
          | (go_at_call 23; refine (HT1.out _).mono ?_; rintro e wN ⟨v0, rfl, hrN, hbN⟩; obtain ⟨aR, cR, rfl⟩ := Kd.R_slice hrN; have HRN := HR.row hbN hrN; clear HR hrN hbN; have HR := HRN; clear HRN)
          | (go_at_call 23; refine (HT2.out _).mono ?_; rintro e wN ⟨v0, rfl, hrN, hbN⟩; obtain ⟨aR, cR, rfl⟩ := Kd.R_slice hrN; have HRN := HR.row hbN hrN; clear HR hrN hbN; have HR := HRN; clear HRN)
          | (at_builtin; refine rows_push HR rfl _ _ 25 rfl Tryd.underlying25 infoRows rfl rfl (by have hq := HLEN2.out; (try simp only [List.length_append, List.length_singleton]); omega) ?_; clear HR; intro vN wN HR)
          | ((refine own_load1 (T := 3) HR.mine rfl rfl rfl (by exact .head _) Tryd.isAgg3 rfl ?_); (try simp only [Act.put, List.setIfInBounds_toArray, List.set_cons_zero, List.set_cons_succ])))
        go_ret
        refine ⟨_, rfl, ?_, HR.mine.below⟩
        rw [← HALL.out, HC1.out, HC2.out]
        exact HR.rows
end Go.Proofs.YtbaigfoioiklkaaDoor
end
section
namespace Go.Proofs.YtbaigfoioiklkaaDoorW.PrintLast
open Go.Proofs.YtbaigfoioiklkaaDoorW.PrintWords (Aside0)
def needsOf (md : Region.Mode) (o : Oper) : List Nat := (o.after.toList.filter (fun e => Region.binds md e)).map (fun e => e.on)
def clashOf (md : Region.Mode) (ops : Array Oper) (i : Nat) (oi : Oper) : List Nat := (List.range ops.size).filter fun j => !(j == i) && match ops[j]? with
  | some oj => !(oj.after.any (fun e => Region.binds md e && e.on == i) || oi.apart ops oj)
  | none => false
def rtab (md : Region.Mode) (ops : Array Oper) : Bool × List (List Nat × List Nat) := (Region.noSelect ops, (List.range ops.size).map fun i => match ops[i]? with
  | some o => (needsOf md o, clashOf md ops i o)
  | none => ([], []))
def readyAt (T : List (List Nat × List Nat)) (l : List Bool) (i : Nat) : Bool := !l.getD i true && match T[i]? with
  | some r => r.1.all (fun j => l.getD j false)
  | none => false
def readyT (T : List (List Nat × List Nat)) (l : List Bool) : List Nat := (List.range T.length).filter (readyAt T l)
def freeT (T : List (List Nat × List Nat)) (l : List Bool) (i : Nat) : Bool := match T[i]? with
  | some r => r.2.all (fun j => l.getD j true)
  | none => false
def closedT (T : List (List Nat × List Nat)) (l : List Bool) : Bool := (List.range T.length).all fun j => !l.getD j false || match T[j]? with
  | some r => r.1.all (fun k => l.getD k false)
  | none => true
def reachT (T : List (List Nat × List Nat)) (i : Nat) : Nat → Nat → Bool
  | 0, _ => false
  | fuel + 1, d => match T[d]? with
    | some r => r.1.any fun j => j == i || reachT T i fuel j
    | none => false
def lastT (T : List (List Nat × List Nat)) (l : List Bool) (ds : List Nat) (i : Nat) : Bool := ds.all fun d => l.getD d true || reachT T i T.length d
section
variable {md : Region.Mode} {ops : Array Oper} {T : Bool × List (List Nat × List Nat)} {l l' li lj lk : Array Bool} {ds : List Nat} {i j k : Nat}
theorem gd (l : Array Bool) (j : Nat) (b : Bool) : l.getD j b = l.toList.getD j b := by simp [Array.getD_eq_getD_getElem?, List.getD_eq_getElem?_getD]
theorem needs_all (o : Oper) (p : Nat → Bool) : o.after.all (fun e => !Region.binds md e || p e.on) = (needsOf md o).all p := by
  unfold needsOf
  rw [← Array.all_toList]
  induction o.after.toList with
  | nil => rfl
  | cons e r ih =>
    rw [List.all_cons, ih, List.filter_cons]
    cases h : Region.binds md e <;> simp
theorem needs_any (o : Oper) (p : Nat → Bool) : o.after.any (fun e => Region.binds md e && p e.on) = (needsOf md o).any p := by
  unfold needsOf
  rw [← Array.any_toList]
  induction o.after.toList with
  | nil => rfl
  | cons e r ih =>
    rw [List.any_cons, ih, List.filter_cons]
    cases h : Region.binds md e <;> simp
theorem rtab_length : (rtab md ops).2.length = ops.size := by simp [rtab]
theorem rtab_some {o : Oper} (h : ops[i]? = some o) : (rtab md ops).2[i]? = some (needsOf md o, clashOf md ops i o) := by
  have hi := (Array.getElem?_eq_some_iff.1 h).1
  unfold rtab
  rw [List.getElem?_map, List.getElem?_range hi, Option.map_some, h]
theorem rtab_none (h : ops[i]? = none) : (rtab md ops).2[i]? = none := by
  have hi : ops.size ≤ i := Array.getElem?_eq_none_iff.1 h
  exact List.getElem?_eq_none (by rw [rtab_length]; exact hi)
theorem readyAt_eq : readyAt (rtab md ops).2 l.toList i = (!l.getD i true && ((ops[i]?).map (·.after.all fun e => !Region.binds md e || l.getD e.on false)).getD false) := by
  unfold readyAt
  rw [gd]
  cases h : ops[i]? with
  | none => rw [rtab_none h]; rfl
  | some o =>
    rw [rtab_some h]
    simp only [Option.map_some, Option.getD_some]
    rw [← needs_all]
    simp only [gd]
theorem ready_eq : Region.ready md ops l = readyT (rtab md ops).2 l.toList := by
  unfold Region.ready readyT
  rw [rtab_length]
  refine List.filter_congr (fun i _ => ?_)
  rw [readyAt_eq]
theorem free_eq : Region.free md ops l i = freeT (rtab md ops).2 l.toList i := by
  unfold Region.free freeT
  cases h : ops[i]? with
  | none => rw [rtab_none h]
  | some oi =>
    rw [rtab_some h]
    simp only [clashOf]
    rw [List.all_filter]
    congr 1
    funext j
    rw [gd]
    cases hj : ops[j]? with
    | none => cases (j == i) <;> cases (l.toList.getD j true) <;> simp
    | some oj =>
      cases (j == i) <;> cases (l.toList.getD j true) <;> cases (oj.after.any (fun e => Region.binds md e && e.on == i) || oi.apart ops oj) <;> simp_all
theorem closed_eq : Region.closedB md ops l = closedT (rtab md ops).2 l.toList := by
  unfold Region.closedB closedT
  rw [rtab_length]
  congr 1
  funext j
  rw [gd]
  cases h : ops[j]? with
  | none => rw [rtab_none h]
  | some o =>
    rw [rtab_some h]
    simp only
    rw [← needs_all]
    simp only [gd]
theorem reach_eq : ∀ (fuel d : Nat), Region.reachB md ops i fuel d = reachT (rtab md ops).2 i fuel d
  | 0, _ => rfl
  | fuel + 1, d => by
    unfold Region.reachB reachT
    cases h : ops[d]? with
    | none => rw [rtab_none h]
    | some o =>
      rw [rtab_some h]
      simp only
      rw [← needs_any]
      congr 1
      funext e
      rw [reach_eq fuel]
theorem last_eq : Region.lastB md ops l ds i = lastT (rtab md ops).2 l.toList ds i := by
  unfold Region.lastB lastT
  rw [rtab_length]
  congr 1
  funext d
  rw [gd, reach_eq]
theorem readyAt_mem (h : readyAt T.2 l.toList i = true) (hT : rtab md ops = T) : (Region.ready md ops l).contains i = true := by
  subst hT
  rw [ready_eq]
  unfold readyT
  rw [List.contains_iff_mem, List.mem_filter, List.mem_range]
  refine ⟨?_, h⟩
  unfold readyAt at h
  rw [Bool.and_eq_true] at h
  cases hq : (rtab md ops).2[i]? with
  | none => rw [hq] at h; simp at h
  | some r => exact (List.getElem?_eq_some_iff.1 hq).1
theorem set_of (h : (l.toList.set i true == l'.toList) = true) : (l.setIfInBounds i true == l') = true := by
  rw [beq_iff_eq] at h ⊢
  apply Array.ext'
  rw [Array.toList_setIfInBounds]
  exact h
def anyT (T : Bool × List (List Nat × List Nat)) (l l' : List Bool) (i : Nat) : Bool := T.1 && freeT T.2 l i && readyAt T.2 l i && (l.set i true == l')
theorem any_of (hT : rtab md ops = T) (h : anyT T l.toList l'.toList i = true) : anyB md ops l l' i = true := by
  simp only [anyT, Bool.and_eq_true] at h
  obtain ⟨⟨⟨h1, h2⟩, h3⟩, h4⟩ := h
  have h5 := readyAt_mem h3 hT
  have h6 := set_of h4
  subst hT
  simp only [anyB, Bool.and_eq_true]
  exact ⟨⟨⟨h1, by rw [free_eq]; exact h2⟩, h5⟩, h6⟩
def takeT (T : Bool × List (List Nat × List Nat)) (ds : List Nat) (l l' : List Bool) (i : Nat) : Bool := T.1 && freeT T.2 l i && readyAt T.2 l i && closedT T.2 l && lastT T.2 l ds i && (l.set i true == l')
theorem take_of (hT : rtab md ops = T) (h : takeT T ds l.toList l'.toList i = true) : takeB md ops ds l l' i = true := by
  simp only [takeT, Bool.and_eq_true] at h
  obtain ⟨⟨⟨⟨⟨h1, h2⟩, h3⟩, h4⟩, h5⟩, h6⟩ := h
  have h7 := readyAt_mem h3 hT
  have h8 := set_of h6
  subst hT
  simp only [takeB, Bool.and_eq_true]
  exact ⟨⟨⟨⟨⟨h1, by rw [free_eq]; exact h2⟩, h7⟩, by rw [closed_eq]; exact h4⟩, by rw [last_eq]; exact h5⟩, h8⟩
theorem one_of (hT : rtab md ops = T) (h : (readyT T.2 l.toList == [i] && l.toList.set i true == l'.toList) = true) : readyB md ops l l' i = true := by
  simp only [Bool.and_eq_true] at h
  obtain ⟨h1, h2⟩ := h
  subst hT
  simp only [readyB, Bool.and_eq_true]
  exact ⟨by rw [ready_eq]; exact h1, set_of h2⟩
theorem done_of (hT : rtab md ops = T) (h : (readyT T.2 l.toList == []) = true) : (Region.ready md ops l == []) = true := by
  subst hT
  rw [ready_eq]
  exact h
def upM (B : List Nat) (d : Nat) : List Nat → Nat
  | [] => 0
  | n :: r => (2 ^ n ||| (if n < d then B.getD n 0 else 0)) ||| upM B d r
def waitsOk (T : List (List Nat × List Nat)) (B : List Nat) : Bool := (List.range T.length).all fun d => match T[d]? with
  | some r => (B.getD d 0 ||| upM B d r.1) == upM B d r.1
  | none => false
theorem upM_bit {B : List Nat} {d i : Nat} : ∀ {ns : List Nat}, (upM B d ns).testBit i = true → ∃ n ∈ ns, n = i ∨ (n < d ∧ (B.getD n 0).testBit i = true)
  | [], h => by simp [upM] at h
  | n :: r, h => by
    unfold upM at h
    rw [Nat.testBit_or, Nat.testBit_or, Bool.or_eq_true, Bool.or_eq_true] at h
    rcases h with (h | h) | h
    · rw [Nat.testBit_two_pow] at h
      exact ⟨n, List.mem_cons_self, .inl (by simpa using h)⟩
    · by_cases hn : n < d
      · rw [if_pos hn] at h
        exact ⟨n, List.mem_cons_self, .inr ⟨hn, h⟩⟩
      · rw [if_neg hn] at h
        simp at h
    · obtain ⟨m, hm, h2⟩ := upM_bit h
      exact ⟨m, List.mem_cons_of_mem _ hm, h2⟩
theorem reach_bit {T : List (List Nat × List Nat)} {B : List Nat} (hB : waitsOk T B = true) : ∀ (fuel d : Nat), d < fuel → d < T.length → (B.getD d 0).testBit i = true → reachT T i fuel d = true
  | 0, d, h, _, _ => by omega
  | fuel + 1, d, h, hd, hb => by
    have h1 := List.all_eq_true.1 hB d (List.mem_range.2 hd)
    cases hr : T[d]? with
    | none => rw [hr] at h1; simp at h1
    | some r =>
      rw [hr] at h1
      simp only [beq_iff_eq] at h1
      have h2 : (upM B d r.1).testBit i = true := by rw [← h1, Nat.testBit_or, hb, Bool.true_or]
      obtain ⟨n, hn, h3⟩ := upM_bit h2
      unfold reachT
      rw [hr]
      simp only
      rw [List.any_eq_true]
      refine ⟨n, hn, ?_⟩
      rcases h3 with rfl | ⟨h4, h5⟩
      · simp
      · rw [reach_bit hB fuel n (by omega) (by omega) h5, Bool.or_true]
def lastW (T : List (List Nat × List Nat)) (B : List Nat) (l : List Bool) (ds : List Nat) (i : Nat) : Bool := ds.all fun d => l.getD d true || (decide (d < T.length) && (B.getD d 0).testBit i)
def takeW (T : Bool × List (List Nat × List Nat)) (B : List Nat) (ds : List Nat) (l l' : List Bool) (i : Nat) : Bool := T.1 && freeT T.2 l i && readyAt T.2 l i && closedT T.2 l && lastW T.2 B l ds i && (l.set i true == l')
theorem take_ofW {B : List Nat} (hT : rtab md ops = T) (hB : waitsOk T.2 B = true) (h : takeW T B ds l.toList l'.toList i = true) : takeB md ops ds l l' i = true := by
  refine take_of hT ?_
  simp only [takeW, takeT, Bool.and_eq_true] at h ⊢
  obtain ⟨⟨⟨⟨⟨h1, h2⟩, h3⟩, h4⟩, h5⟩, h6⟩ := h
  refine ⟨⟨⟨⟨⟨h1, h2⟩, h3⟩, h4⟩, ?_⟩, h6⟩
  unfold lastW at h5
  unfold lastT
  rw [List.all_eq_true] at h5 ⊢
  intro d hd
  have h7 := h5 d hd
  rw [Bool.or_eq_true, Bool.and_eq_true, decide_eq_true_eq] at h7
  rcases h7 with h7 | ⟨h8, h9⟩
  · rw [h7, Bool.true_or]
  · rw [reach_bit hB _ d h8 h8 h9, Bool.or_true]
theorem with_tabW {P : Program} {Q : Exit → Act → World → Prop} {S : World → Prop} {n : Nat} {a : Act} {w : World} {B : List Nat} (hT : rtab md ops = T) (hB : waitsOk T.2 B = true) (h : Aside0 (rtab md ops = T) → Aside0 (waitsOk T.2 B = true) → wpAnyLast P md ops Q S ds n l a w) : wpAnyLast P md ops Q S ds n l a w := h ⟨hT⟩ ⟨hB⟩
end
def opsIn : Code → Nat → Option (Array Oper)
  | .region id ops _, k => if id == k then some ops else none
  | .seq a b, k => match opsIn a k with
    | some o => some o
    | none => opsIn b k
  | .cond _ a b, k => match opsIn a k with
    | some o => some o
    | none => opsIn b k
  | .block _ c, k => opsIn c k
  | .loop c, k => opsIn c k
  | .scope c, k => opsIn c k
  | .rangeFunc _ _ a b, k => match opsIn a k with
    | some o => some o
    | none => opsIn b k
  | _, _ => none
def opsOf (f : Func) (k : Nat) : Array Oper := ((f.body.bind fun c => opsIn c k)).getD #[]
end Go.Proofs.YtbaigfoioiklkaaDoorW.PrintLast
end
section
namespace Go.Proofs.YtbaigfoioiklkaaDoorW.PrintWords
open Go.RowKit
section
variable {P : Program} {d : Nat} {xs ys : Array Value} {f : Field} {fs : List Field} {a b : Value} {r s : Bool} {w : World}
theorem eqf_last (hn : (f.name == "_") = false) (ha : (part f.type xs f.offset).run P w = .ok a w) (hb : (part f.type ys f.offset).run P w = .ok b w) (he : (Op.equalIn d f.type a b).run P w = .ok r w) : (Op.eqFields d xs ys [f]).run P w = .ok r w := by
  have hn' : f.name ≠ "_" := by simpa using hn
  simp only [Op.eqFields, if_pos hn', Sem.run_bind, ha, hb, he, Result.andThen_ok]
  cases r <;> simp
theorem eqf_cons (hn : (f.name == "_") = false) (ha : (part f.type xs f.offset).run P w = .ok a w) (hb : (part f.type ys f.offset).run P w = .ok b w) (he : (Op.equalIn d f.type a b).run P w = .ok r w) (hr : (Op.eqFields d xs ys fs).run P w = .ok s w) : (Op.eqFields d xs ys (f :: fs)).run P w = .ok (r && s) w := by
  have hn' : f.name ≠ "_" := by simpa using hn
  rw [Op.eqFields]
  simp only [if_pos hn', Sem.run_bind, ha, hb, he, Result.andThen_ok]
  cases r
  · simp
  · simpa using hr
theorem eqA_of {t : TypeId} {fs : Array Field} (hu : P.underlying t = some (.struct fs)) (hp : P.stoodInHeld t = false) (h : (Op.eqFields d xs ys fs.toList).run P w = .ok r w) : (Op.equalIn (d + 1) t (.agg xs) (.agg ys)).run P w = .ok r w := by
  have hf : P.fieldsOf t = fs := by simp [Program.fieldsOf, hu]
  rw [run_equalIn_struct (P := P) w d t xs ys (by rw [hf]; exact hu) hp, hf]
  exact h
end
end Go.Proofs.YtbaigfoioiklkaaDoorW.PrintWords
end
section
namespace Go.Proofs.YtbaigfoioiklkaaDoorW.PrintWords
theorem Reps.one {α : Type} {R : α → List Value → Prop} {ps : List α} {cs : List Value} {p : α} {v : Value} (hp : R p [v]) (h : Reps R 1 ps cs) : Reps R 1 (p :: ps) (v :: cs) := by
  refine ⟨by simp [h.1], fun j q hq => ?_⟩
  cases j with
  | zero =>
    simp only [List.getElem?_cons_zero, Option.some.injEq] at hq
    subst hq
    simpa using hp
  | succ j =>
    simp only [List.getElem?_cons_succ] at hq
    have h1 := h.2 j q hq
    simpa [Nat.mul_one] using h1
theorem Reps.front {α : Type} {R : α → List Value → Prop} {size : Nat} {ps : List α} {cs c all : List Value} {p : α} (hp : R p c) (hc : c.length = size) (h : Reps R size ps cs) (ha : c ++ cs = all) : Reps R size (p :: ps) all := by
  subst ha
  refine ⟨by rw [List.length_append, hc, h.1, List.length_cons, Nat.succ_mul, Nat.add_comm], fun j q hq => ?_⟩
  cases j with
  | zero =>
    simp only [List.getElem?_cons_zero, Option.some.injEq] at hq
    subst hq
    rw [Nat.zero_mul, List.drop_zero, List.take_append_of_le_length (by omega), List.take_of_length_le (by omega)]
    exact hp
  | succ j =>
    simp only [List.getElem?_cons_succ] at hq
    have h1 := h.2 j q hq
    rw [Nat.succ_mul, List.drop_append, List.drop_of_length_le (by rw [hc]; exact Nat.le_add_left _ _), List.nil_append, hc, Nat.add_sub_cancel]
    exact h1
theorem Reps.c2 {α : Type} {R : α → List Value → Prop} {ps : List α} {cs : List Value} {p : α} {va vb : Value} (hp : R p [va, vb]) (h : Reps R 2 ps cs) : Reps R 2 (p :: ps) (va :: vb :: cs) := Reps.front hp rfl h rfl
theorem Reps.c3 {α : Type} {R : α → List Value → Prop} {ps : List α} {cs : List Value} {p : α} {va vb vc : Value} (hp : R p [va, vb, vc]) (h : Reps R 3 ps cs) : Reps R 3 (p :: ps) (va :: vb :: vc :: cs) := Reps.front hp rfl h rfl
theorem Reps.c4 {α : Type} {R : α → List Value → Prop} {ps : List α} {cs : List Value} {p : α} {va vb vc vd : Value} (hp : R p [va, vb, vc, vd]) (h : Reps R 4 ps cs) : Reps R 4 (p :: ps) (va :: vb :: vc :: vd :: cs) := Reps.front hp rfl h rfl
theorem Reps.c5 {α : Type} {R : α → List Value → Prop} {ps : List α} {cs : List Value} {p : α} {va vb vc vd ve : Value} (hp : R p [va, vb, vc, vd, ve]) (h : Reps R 5 ps cs) : Reps R 5 (p :: ps) (va :: vb :: vc :: vd :: ve :: cs) := Reps.front hp rfl h rfl
theorem Reps.c6 {α : Type} {R : α → List Value → Prop} {ps : List α} {cs : List Value} {p : α} {va vb vc vd ve vf : Value} (hp : R p [va, vb, vc, vd, ve, vf]) (h : Reps R 6 ps cs) : Reps R 6 (p :: ps) (va :: vb :: vc :: vd :: ve :: vf :: cs) := Reps.front hp rfl h rfl
theorem Reps.c7 {α : Type} {R : α → List Value → Prop} {ps : List α} {cs : List Value} {p : α} {va vb vc vd ve vf vg : Value} (hp : R p [va, vb, vc, vd, ve, vf, vg]) (h : Reps R 7 ps cs) : Reps R 7 (p :: ps) (va :: vb :: vc :: vd :: ve :: vf :: vg :: cs) := Reps.front hp rfl h rfl
theorem Reps.c8 {α : Type} {R : α → List Value → Prop} {ps : List α} {cs : List Value} {p : α} {va vb vc vd ve vf vg vh : Value} (hp : R p [va, vb, vc, vd, ve, vf, vg, vh]) (h : Reps R 8 ps cs) : Reps R 8 (p :: ps) (va :: vb :: vc :: vd :: ve :: vf :: vg :: vh :: cs) := Reps.front hp rfl h rfl
theorem Reps.c9 {α : Type} {R : α → List Value → Prop} {ps : List α} {cs : List Value} {p : α} {va vb vc vd ve vf vg vh vi : Value} (hp : R p [va, vb, vc, vd, ve, vf, vg, vh, vi]) (h : Reps R 9 ps cs) : Reps R 9 (p :: ps) (va :: vb :: vc :: vd :: ve :: vf :: vg :: vh :: vi :: cs) := Reps.front hp rfl h rfl
theorem Reps.c10 {α : Type} {R : α → List Value → Prop} {ps : List α} {cs : List Value} {p : α} {va vb vc vd ve vf vg vh vi vj : Value} (hp : R p [va, vb, vc, vd, ve, vf, vg, vh, vi, vj]) (h : Reps R 10 ps cs) : Reps R 10 (p :: ps) (va :: vb :: vc :: vd :: ve :: vf :: vg :: vh :: vi :: vj :: cs) := Reps.front hp rfl h rfl
end Go.Proofs.YtbaigfoioiklkaaDoorW.PrintWords
end
section
namespace Go.Proofs.YtbaigfoioiklkaaDoorW.PrintLast
section
variable {P : Program} {ops : Array Oper} {Q : Exit → Act → World → Prop} {md : Region.Mode} {T : Bool × List (List Nat × List Nat)} {B : List Nat} {O : List Nat} {b : Nat → Bool} {i j n : Nat}
def Closed (T : List (List Nat × List Nat)) (O : List Nat) (b : Nat → Bool) : Prop := ∀ d r, T[d]? = some r → O.contains d = true → b d = true → ∀ n ∈ r.1, O.contains n = true → b n = true
theorem put_comm {a : Act} {s t : Tmp} {u v : Value} (h : s ≠ t) : (a.put (some s) u).put (some t) v = (a.put (some t) v).put (some s) u := by
  simp only [Act.put]
  rw [Array.setIfInBounds_comm _ _ h]
end
end Go.Proofs.YtbaigfoioiklkaaDoorW.PrintLast
end
section
namespace Go.Proofs.YtbaigfoioiklkaaDoorW.PrintWords
open Go.RowKit
section
variable {P : Program} {ops : Array Oper} {rest : List Oper} {o : Oper} {a : Act} {Q : Exit → Act → World → Prop} {W : World}
theorem gate_guard (hw : Region.wanted o (yielded ops a.tmps) = true) (h : wpList P ops Q ({ o with guard := none } :: rest) a W) : wpList P ops Q (o :: rest) a W := by
  have h1 : Region.wanted { o with guard := none } (yielded ops a.tmps) = true := rfl
  unfold wpList at h ⊢
  rw [if_pos h1] at h
  rw [if_pos hw]
  exact h
end
end Go.Proofs.YtbaigfoioiklkaaDoorW.PrintWords
end
section
namespace Go.Proofs.YtbaigfoioiklkaaDoor
set_option linter.unusedVariables false
set_option linter.unusedSimpArgs false
open Go.RowKit Kit
attribute [local irreducible] wpList Calls
set_option maxRecDepth 100000 in
set_option maxHeartbeats 8000000 in
theorem one_more (b0 b1 b2 b3 b4 b5 b6 : Bool) (u f b : Int) (bk o n c : Nat) (x s t : Int) (hn : 0 < n) (hx : 0 < x) (hx4 : x ≠ 4) (w : World) (hc : w.cell? ⟨bk, o, none⟩ = some (.int .i64 x))
    (hs : SaidAt w (some ⟨bk, o, none⟩) n c 30 s) (ht : SaidAt w (some ⟨bk, o, none⟩) n c 40 t) :
    Calls Tryd.prog 32 #[stV b0 b1 b2 b3 b4 b5 b6 u f b, .slice (some ⟨bk, o, none⟩) n c] w fun e w' => e = .returned (stV (b0 || x == 1) (b1 || x == 2) (b2 || x == 3) (b3 || x == 5) (b4 || x == 7) (b5 || x == 8) (b6 || x == 9) u (if s = -2 then f else s) (if t = -2 then b else t)) ∧ Below w.heap.size w w' := by
  have HO := Mine.start w
  have HC := Lib.hid hc
  have HS := Lib.hid hs
  have HT := Lib.hid ht
  have HX := Lib.hid hx
  clear hc hs ht
  have t1 : ((n : Int) == 0) = false := beq_eq_false_iff_ne.2 (by omega)
  have t2 : decide (x ≤ 0) = false := decide_eq_false (by omega)
  have t3 : decide (0 < n) = true := decide_eq_true hn
  have t4 : (x == 4) = false := beq_eq_false_iff_ne.2 hx4
  have HX4 := Lib.hid hx4
  clear hx4
  unfold stV
  obtain ⟨f', hf'⟩ : ∃ z, (if s = -2 then f else s) = z := ⟨_, rfl⟩
  obtain ⟨b', hb'⟩ : ∃ z, (if t = -2 then b else t) = z := ⟨_, rfl⟩
  rw [hf', hb']
  have HF := Lib.hid hf'
  have HB := Lib.hid hb'
  clear hf' hb'
  obtain ⟨d1, hd1⟩ : ∃ d, (s == -2) = d := ⟨_, rfl⟩
  obtain ⟨d2, hd2⟩ : ∃ d, (t == -2) = d := ⟨_, rfl⟩
  have hf2 : f' = cond d1 f s := by
    rw [← HF.out, ← hd1]
    by_cases h : s = -2
    · rw [if_pos h, beq_iff_eq.2 h]; rfl
    · rw [if_neg h, beq_eq_false_iff_ne.2 h]; rfl
  have hb2 : b' = cond d2 b t := by
    rw [← HB.out, ← hd2]
    by_cases h : t = -2
    · rw [if_pos h, beq_iff_eq.2 h]; rfl
    · rw [if_neg h, beq_eq_false_iff_ne.2 h]; rfl
  have HF2 := Lib.hid hf2
  have HB2 := Lib.hid hb2
  clear hf2 hb2
  go_enter Tryd.func32, Tryd.ntmps32
  cases d1 <;> cases d2
  all_goals
    go_wp2_with (first
      | (go_at_call 43; refine (HS.out _ HO.below).mono ?_; rintro eN wN ⟨rfl, hbN⟩; have HON := HO.call hbN; clear HO hbN; have HO := HON; clear HON)
      | (go_at_call 43; refine (HT.out _ HO.below).mono ?_; rintro eN wN ⟨rfl, hbN⟩; have HON := HO.call hbN; clear HO hbN; have HO := HON; clear HON)
      | ((with_reducible refine gate ?_); (first
      | ((refine own_read (T := 3) HO rfl rfl rfl HC.out Tryd.isAgg3 ?_); (try simp only [Act.put, List.setIfInBounds_toArray, List.set_cons_zero, List.set_cons_succ]))
      | ((refine own_box HO rfl rfl rfl ?_); clear HO; intro gB wN hgN HO; (simp only [List.nil_append, List.cons_append] at HO); (try simp only [Act.put, List.setIfInBounds_toArray, List.set_cons_zero, List.set_cons_succ]))
      | ((refine own_alloc (T := 23) HO rfl rfl Tryd.zeroValue23 rfl ?_); clear HO; intro gN wN hgN HO; (simp only [List.nil_append, List.cons_append] at HO); (try simp only [Act.put, List.setIfInBounds_toArray, List.set_cons_zero, List.set_cons_succ]))
      | ((refine own_alloc (T := 3) HO rfl rfl Tryd.zeroValue3 rfl ?_); clear HO; intro gN wN hgN HO; (simp only [List.nil_append, List.cons_append] at HO); (try simp only [Act.put, List.setIfInBounds_toArray, List.set_cons_zero, List.set_cons_succ]))
      | ((refine own_alloc (T := 4) HO rfl rfl Tryd.zeroValue4 rfl ?_); clear HO; intro gN wN hgN HO; (simp only [List.nil_append, List.cons_append] at HO); (try simp only [Act.put, List.setIfInBounds_toArray, List.set_cons_zero, List.set_cons_succ]))
      | ((refine own_load (T := 23) HO rfl rfl rfl (by first | exact .head _ | exact .tail _ (.head _) | exact .tail _ (.tail _ (.head _)) | exact .tail _ (.tail _ (.tail _ (.head _))) | exact .tail _ (.tail _ (.tail _ (.tail _ (.head _)))) | exact .tail _ (.tail _ (.tail _ (.tail _ (.tail _ (.head _)))))) Tryd.isAgg23 Tryd.sizeOf23 (by repeat constructor) ?_); (try simp only [Act.put, List.setIfInBounds_toArray, List.set_cons_zero, List.set_cons_succ]))
      | ((refine own_load1 (T := 3) HO rfl rfl rfl (by first | exact .head _ | exact .tail _ (.head _) | exact .tail _ (.tail _ (.head _)) | exact .tail _ (.tail _ (.tail _ (.head _))) | exact .tail _ (.tail _ (.tail _ (.tail _ (.head _)))) | exact .tail _ (.tail _ (.tail _ (.tail _ (.tail _ (.head _)))))) Tryd.isAgg3 rfl ?_); (try simp only [Act.put, List.setIfInBounds_toArray, List.set_cons_zero, List.set_cons_succ]))
      | ((refine own_load1 (T := 4) HO rfl rfl rfl (by first | exact .head _ | exact .tail _ (.head _) | exact .tail _ (.tail _ (.head _)) | exact .tail _ (.tail _ (.tail _ (.head _))) | exact .tail _ (.tail _ (.tail _ (.tail _ (.head _)))) | exact .tail _ (.tail _ (.tail _ (.tail _ (.tail _ (.head _)))))) Tryd.isAgg4 rfl ?_); (try simp only [Act.put, List.setIfInBounds_toArray, List.set_cons_zero, List.set_cons_succ]))
      | ((refine own_store (T := 23) HO rfl rfl rfl rfl (by first | exact .here | exact .there (.here) | exact .there (.there (.here)) | exact .there (.there (.there (.here))) | exact .there (.there (.there (.there (.here)))) | exact .there (.there (.there (.there (.there (.here)))))) Tryd.sizeOf23 (by repeat constructor) rfl ?_); clear HO; intro wN HO; (try simp only [Act.put, List.setIfInBounds_toArray, List.set_cons_zero, List.set_cons_succ]))
      | ((refine own_store (T := 3) HO rfl rfl rfl rfl (by first | exact .here | exact .there (.here) | exact .there (.there (.here)) | exact .there (.there (.there (.here))) | exact .there (.there (.there (.there (.here)))) | exact .there (.there (.there (.there (.there (.here)))))) Tryd.sizeOf3 (by repeat constructor) rfl ?_); clear HO; intro wN HO; (try simp only [Act.put, List.setIfInBounds_toArray, List.set_cons_zero, List.set_cons_succ]))
      | ((refine own_store (T := 4) HO rfl rfl rfl rfl (by first | exact .here | exact .there (.here) | exact .there (.there (.here)) | exact .there (.there (.there (.here))) | exact .there (.there (.there (.there (.here)))) | exact .there (.there (.there (.there (.there (.here)))))) Tryd.sizeOf4 (by repeat constructor) rfl ?_); clear HO; intro wN HO; (try simp only [Act.put, List.setIfInBounds_toArray, List.set_cons_zero, List.set_cons_succ])))))
    have HOD := HO.drew
    obtain ⟨ok, hsay⟩ := mark_says gB x
    have HSAY := Lib.hid hsay
    clear hsay
    refine wp_region_fixed (by kernel_rfl) (by kernel_rfl) (fun i => [Value.map (some wN.heap.size), Value.slice (some ⟨bk, o, none⟩) n c, Value.pointer (some ⟨bk, o, none⟩), Value.int .i64 x, ptrAt gB (markIx x), ptrAt gB (markIx x)].getD i undef) (CallInv 0 wN.drew (fun W => HoldsMap W wN.heap.size (marksT gB))) CallInv.start ?_
    intro A hA
    simp [fillL, dstOf, List.range, List.range.loop, Act.put] at hA
    subst hA
    refine ⟨?steps, ?fin⟩
    case steps =>
      refine ⟨?_, ?_, ?_, ?_, ?_, ?_, trivial⟩
      all_goals intro js w1 hni hdep hC
      case refine_1 => exact hC.call hni rfl (fun w => by simp only [execOp]; first | (go_simp; done) | (go_simp; rfl)) (marks_calls gB _)
      case refine_4 =>
        have hcell : w1.cell? ⟨bk, o, none⟩ = some (.int .i64 x) := (hC.below.cell (Nat.lt_of_lt_of_le (World.block_lt_of_cell? w _ HC.out) HOD.below.size)).trans ((HOD.below.cell (World.block_lt_of_cell? w _ HC.out)).trans HC.out)
        exact hC.value (by decide) rfl (by simp only [execOp]; first | (go_simp; done) | (go_simp; rfl))
      case refine_5 =>
        refine hC.value (by decide) rfl ?_
        simp only [execOp]
        have hl := run_lookup (commaOk := false) Tryd.underlying41 Tryd.underlying3 Tryd.zeroValue45 (hC.after (hdep 0 (by kernel_rfl))).2 (marks_keys gB) (marks_key gB) (show MapKept.IsKey (.int .i64) (.int .i64 x) from rfl) HSAY.out
        simp only [Bool.false_eq_true, if_false] at hl
        first | (go_simp; done) | (go_simp; rfl)
      all_goals exact hC.value (by decide) rfl (by simp only [execOp]; first | (go_simp; done) | (go_simp; rfl))
    case fin =>
      intro js w1 hall hC
      have hX := (hC.after (hall 0 (by decide))).1
      have HON := HOD.call hX
      clear HO HOD hC hall hX HS HT HC
      have HO := HON
      clear HON
      by_cases h1 : x = 1
      · subst h1
        rw [show ptrAt gB (markIx 1) = .pointer (some ⟨gB, 0, none⟩) from rfl]
        go_wp2_with (first
      | ((with_reducible refine gate ?_); (first
      | ((refine own_box HO rfl rfl rfl ?_); clear HO; intro gN wN hgN HO; (simp only [List.nil_append, List.cons_append] at HO); (try simp only [Act.put, List.setIfInBounds_toArray, List.set_cons_zero, List.set_cons_succ]))
      | ((refine own_alloc (T := 23) HO rfl rfl Tryd.zeroValue23 rfl ?_); clear HO; intro gN wN hgN HO; (simp only [List.nil_append, List.cons_append] at HO); (try simp only [Act.put, List.setIfInBounds_toArray, List.set_cons_zero, List.set_cons_succ]))
      | ((refine own_alloc (T := 3) HO rfl rfl Tryd.zeroValue3 rfl ?_); clear HO; intro gN wN hgN HO; (simp only [List.nil_append, List.cons_append] at HO); (try simp only [Act.put, List.setIfInBounds_toArray, List.set_cons_zero, List.set_cons_succ]))
      | ((refine own_alloc (T := 4) HO rfl rfl Tryd.zeroValue4 rfl ?_); clear HO; intro gN wN hgN HO; (simp only [List.nil_append, List.cons_append] at HO); (try simp only [Act.put, List.setIfInBounds_toArray, List.set_cons_zero, List.set_cons_succ]))
      | ((refine own_load (T := 23) HO rfl rfl rfl (by first | exact .head _ | exact .tail _ (.head _) | exact .tail _ (.tail _ (.head _)) | exact .tail _ (.tail _ (.tail _ (.head _))) | exact .tail _ (.tail _ (.tail _ (.tail _ (.head _)))) | exact .tail _ (.tail _ (.tail _ (.tail _ (.tail _ (.head _)))))) Tryd.isAgg23 Tryd.sizeOf23 (by repeat constructor) ?_); (try simp only [Act.put, List.setIfInBounds_toArray, List.set_cons_zero, List.set_cons_succ]))
      | ((refine own_load1 (T := 3) HO rfl rfl rfl (by first | exact .head _ | exact .tail _ (.head _) | exact .tail _ (.tail _ (.head _)) | exact .tail _ (.tail _ (.tail _ (.head _))) | exact .tail _ (.tail _ (.tail _ (.tail _ (.head _)))) | exact .tail _ (.tail _ (.tail _ (.tail _ (.tail _ (.head _)))))) Tryd.isAgg3 rfl ?_); (try simp only [Act.put, List.setIfInBounds_toArray, List.set_cons_zero, List.set_cons_succ]))
      | ((refine own_load1 (T := 4) HO rfl rfl rfl (by first | exact .head _ | exact .tail _ (.head _) | exact .tail _ (.tail _ (.head _)) | exact .tail _ (.tail _ (.tail _ (.head _))) | exact .tail _ (.tail _ (.tail _ (.tail _ (.head _)))) | exact .tail _ (.tail _ (.tail _ (.tail _ (.tail _ (.head _)))))) Tryd.isAgg4 rfl ?_); (try simp only [Act.put, List.setIfInBounds_toArray, List.set_cons_zero, List.set_cons_succ]))
      | ((refine own_store (T := 23) HO rfl rfl rfl rfl (by first | exact .here | exact .there (.here) | exact .there (.there (.here)) | exact .there (.there (.there (.here))) | exact .there (.there (.there (.there (.here)))) | exact .there (.there (.there (.there (.there (.here)))))) Tryd.sizeOf23 (by repeat constructor) rfl ?_); clear HO; intro wN HO; (try simp only [Act.put, List.setIfInBounds_toArray, List.set_cons_zero, List.set_cons_succ]))
      | ((refine own_store (T := 3) HO rfl rfl rfl rfl (by first | exact .here | exact .there (.here) | exact .there (.there (.here)) | exact .there (.there (.there (.here))) | exact .there (.there (.there (.there (.here)))) | exact .there (.there (.there (.there (.there (.here)))))) Tryd.sizeOf3 (by repeat constructor) rfl ?_); clear HO; intro wN HO; (try simp only [Act.put, List.setIfInBounds_toArray, List.set_cons_zero, List.set_cons_succ]))
      | ((refine own_store (T := 4) HO rfl rfl rfl rfl (by first | exact .here | exact .there (.here) | exact .there (.there (.here)) | exact .there (.there (.there (.here))) | exact .there (.there (.there (.there (.here)))) | exact .there (.there (.there (.there (.there (.here)))))) Tryd.sizeOf4 (by repeat constructor) rfl ?_); clear HO; intro wN HO; (try simp only [Act.put, List.setIfInBounds_toArray, List.set_cons_zero, List.set_cons_succ])))))
        exact bodyPost_ret (own_results1 HO Tryd.results32 rfl (by first | exact .head _ | exact .tail _ (.head _) | exact .tail _ (.tail _ (.head _)) | exact .tail _ (.tail _ (.tail _ (.head _))) | exact .tail _ (.tail _ (.tail _ (.tail _ (.head _)))) | exact .tail _ (.tail _ (.tail _ (.tail _ (.tail _ (.head _)))))) Tryd.isAgg23 Tryd.sizeOf23 (by repeat constructor)) rfl ⟨by rw [HF2.out, HB2.out]; simp [Act.eval], HO.below⟩
      by_cases h2 : x = 2
      · subst h2
        rw [show ptrAt gB (markIx 2) = .pointer (some ⟨gB, 1, none⟩) from rfl]
        go_wp2_with (first
      | ((with_reducible refine gate ?_); (first
      | ((refine own_box HO rfl rfl rfl ?_); clear HO; intro gN wN hgN HO; (simp only [List.nil_append, List.cons_append] at HO); (try simp only [Act.put, List.setIfInBounds_toArray, List.set_cons_zero, List.set_cons_succ]))
      | ((refine own_alloc (T := 23) HO rfl rfl Tryd.zeroValue23 rfl ?_); clear HO; intro gN wN hgN HO; (simp only [List.nil_append, List.cons_append] at HO); (try simp only [Act.put, List.setIfInBounds_toArray, List.set_cons_zero, List.set_cons_succ]))
      | ((refine own_alloc (T := 3) HO rfl rfl Tryd.zeroValue3 rfl ?_); clear HO; intro gN wN hgN HO; (simp only [List.nil_append, List.cons_append] at HO); (try simp only [Act.put, List.setIfInBounds_toArray, List.set_cons_zero, List.set_cons_succ]))
      | ((refine own_alloc (T := 4) HO rfl rfl Tryd.zeroValue4 rfl ?_); clear HO; intro gN wN hgN HO; (simp only [List.nil_append, List.cons_append] at HO); (try simp only [Act.put, List.setIfInBounds_toArray, List.set_cons_zero, List.set_cons_succ]))
      | ((refine own_load (T := 23) HO rfl rfl rfl (by first | exact .head _ | exact .tail _ (.head _) | exact .tail _ (.tail _ (.head _)) | exact .tail _ (.tail _ (.tail _ (.head _))) | exact .tail _ (.tail _ (.tail _ (.tail _ (.head _)))) | exact .tail _ (.tail _ (.tail _ (.tail _ (.tail _ (.head _)))))) Tryd.isAgg23 Tryd.sizeOf23 (by repeat constructor) ?_); (try simp only [Act.put, List.setIfInBounds_toArray, List.set_cons_zero, List.set_cons_succ]))
      | ((refine own_load1 (T := 3) HO rfl rfl rfl (by first | exact .head _ | exact .tail _ (.head _) | exact .tail _ (.tail _ (.head _)) | exact .tail _ (.tail _ (.tail _ (.head _))) | exact .tail _ (.tail _ (.tail _ (.tail _ (.head _)))) | exact .tail _ (.tail _ (.tail _ (.tail _ (.tail _ (.head _)))))) Tryd.isAgg3 rfl ?_); (try simp only [Act.put, List.setIfInBounds_toArray, List.set_cons_zero, List.set_cons_succ]))
      | ((refine own_load1 (T := 4) HO rfl rfl rfl (by first | exact .head _ | exact .tail _ (.head _) | exact .tail _ (.tail _ (.head _)) | exact .tail _ (.tail _ (.tail _ (.head _))) | exact .tail _ (.tail _ (.tail _ (.tail _ (.head _)))) | exact .tail _ (.tail _ (.tail _ (.tail _ (.tail _ (.head _)))))) Tryd.isAgg4 rfl ?_); (try simp only [Act.put, List.setIfInBounds_toArray, List.set_cons_zero, List.set_cons_succ]))
      | ((refine own_store (T := 23) HO rfl rfl rfl rfl (by first | exact .here | exact .there (.here) | exact .there (.there (.here)) | exact .there (.there (.there (.here))) | exact .there (.there (.there (.there (.here)))) | exact .there (.there (.there (.there (.there (.here)))))) Tryd.sizeOf23 (by repeat constructor) rfl ?_); clear HO; intro wN HO; (try simp only [Act.put, List.setIfInBounds_toArray, List.set_cons_zero, List.set_cons_succ]))
      | ((refine own_store (T := 3) HO rfl rfl rfl rfl (by first | exact .here | exact .there (.here) | exact .there (.there (.here)) | exact .there (.there (.there (.here))) | exact .there (.there (.there (.there (.here)))) | exact .there (.there (.there (.there (.there (.here)))))) Tryd.sizeOf3 (by repeat constructor) rfl ?_); clear HO; intro wN HO; (try simp only [Act.put, List.setIfInBounds_toArray, List.set_cons_zero, List.set_cons_succ]))
      | ((refine own_store (T := 4) HO rfl rfl rfl rfl (by first | exact .here | exact .there (.here) | exact .there (.there (.here)) | exact .there (.there (.there (.here))) | exact .there (.there (.there (.there (.here)))) | exact .there (.there (.there (.there (.there (.here)))))) Tryd.sizeOf4 (by repeat constructor) rfl ?_); clear HO; intro wN HO; (try simp only [Act.put, List.setIfInBounds_toArray, List.set_cons_zero, List.set_cons_succ])))))
        exact bodyPost_ret (own_results1 HO Tryd.results32 rfl (by first | exact .head _ | exact .tail _ (.head _) | exact .tail _ (.tail _ (.head _)) | exact .tail _ (.tail _ (.tail _ (.head _))) | exact .tail _ (.tail _ (.tail _ (.tail _ (.head _)))) | exact .tail _ (.tail _ (.tail _ (.tail _ (.tail _ (.head _)))))) Tryd.isAgg23 Tryd.sizeOf23 (by repeat constructor)) rfl ⟨by rw [HF2.out, HB2.out]; simp [Act.eval], HO.below⟩
      by_cases h3 : x = 3
      · subst h3
        rw [show ptrAt gB (markIx 3) = .pointer (some ⟨gB, 2, none⟩) from rfl]
        go_wp2_with (first
      | ((with_reducible refine gate ?_); (first
      | ((refine own_box HO rfl rfl rfl ?_); clear HO; intro gN wN hgN HO; (simp only [List.nil_append, List.cons_append] at HO); (try simp only [Act.put, List.setIfInBounds_toArray, List.set_cons_zero, List.set_cons_succ]))
      | ((refine own_alloc (T := 23) HO rfl rfl Tryd.zeroValue23 rfl ?_); clear HO; intro gN wN hgN HO; (simp only [List.nil_append, List.cons_append] at HO); (try simp only [Act.put, List.setIfInBounds_toArray, List.set_cons_zero, List.set_cons_succ]))
      | ((refine own_alloc (T := 3) HO rfl rfl Tryd.zeroValue3 rfl ?_); clear HO; intro gN wN hgN HO; (simp only [List.nil_append, List.cons_append] at HO); (try simp only [Act.put, List.setIfInBounds_toArray, List.set_cons_zero, List.set_cons_succ]))
      | ((refine own_alloc (T := 4) HO rfl rfl Tryd.zeroValue4 rfl ?_); clear HO; intro gN wN hgN HO; (simp only [List.nil_append, List.cons_append] at HO); (try simp only [Act.put, List.setIfInBounds_toArray, List.set_cons_zero, List.set_cons_succ]))
      | ((refine own_load (T := 23) HO rfl rfl rfl (by first | exact .head _ | exact .tail _ (.head _) | exact .tail _ (.tail _ (.head _)) | exact .tail _ (.tail _ (.tail _ (.head _))) | exact .tail _ (.tail _ (.tail _ (.tail _ (.head _)))) | exact .tail _ (.tail _ (.tail _ (.tail _ (.tail _ (.head _)))))) Tryd.isAgg23 Tryd.sizeOf23 (by repeat constructor) ?_); (try simp only [Act.put, List.setIfInBounds_toArray, List.set_cons_zero, List.set_cons_succ]))
      | ((refine own_load1 (T := 3) HO rfl rfl rfl (by first | exact .head _ | exact .tail _ (.head _) | exact .tail _ (.tail _ (.head _)) | exact .tail _ (.tail _ (.tail _ (.head _))) | exact .tail _ (.tail _ (.tail _ (.tail _ (.head _)))) | exact .tail _ (.tail _ (.tail _ (.tail _ (.tail _ (.head _)))))) Tryd.isAgg3 rfl ?_); (try simp only [Act.put, List.setIfInBounds_toArray, List.set_cons_zero, List.set_cons_succ]))
      | ((refine own_load1 (T := 4) HO rfl rfl rfl (by first | exact .head _ | exact .tail _ (.head _) | exact .tail _ (.tail _ (.head _)) | exact .tail _ (.tail _ (.tail _ (.head _))) | exact .tail _ (.tail _ (.tail _ (.tail _ (.head _)))) | exact .tail _ (.tail _ (.tail _ (.tail _ (.tail _ (.head _)))))) Tryd.isAgg4 rfl ?_); (try simp only [Act.put, List.setIfInBounds_toArray, List.set_cons_zero, List.set_cons_succ]))
      | ((refine own_store (T := 23) HO rfl rfl rfl rfl (by first | exact .here | exact .there (.here) | exact .there (.there (.here)) | exact .there (.there (.there (.here))) | exact .there (.there (.there (.there (.here)))) | exact .there (.there (.there (.there (.there (.here)))))) Tryd.sizeOf23 (by repeat constructor) rfl ?_); clear HO; intro wN HO; (try simp only [Act.put, List.setIfInBounds_toArray, List.set_cons_zero, List.set_cons_succ]))
      | ((refine own_store (T := 3) HO rfl rfl rfl rfl (by first | exact .here | exact .there (.here) | exact .there (.there (.here)) | exact .there (.there (.there (.here))) | exact .there (.there (.there (.there (.here)))) | exact .there (.there (.there (.there (.there (.here)))))) Tryd.sizeOf3 (by repeat constructor) rfl ?_); clear HO; intro wN HO; (try simp only [Act.put, List.setIfInBounds_toArray, List.set_cons_zero, List.set_cons_succ]))
      | ((refine own_store (T := 4) HO rfl rfl rfl rfl (by first | exact .here | exact .there (.here) | exact .there (.there (.here)) | exact .there (.there (.there (.here))) | exact .there (.there (.there (.there (.here)))) | exact .there (.there (.there (.there (.there (.here)))))) Tryd.sizeOf4 (by repeat constructor) rfl ?_); clear HO; intro wN HO; (try simp only [Act.put, List.setIfInBounds_toArray, List.set_cons_zero, List.set_cons_succ])))))
        exact bodyPost_ret (own_results1 HO Tryd.results32 rfl (by first | exact .head _ | exact .tail _ (.head _) | exact .tail _ (.tail _ (.head _)) | exact .tail _ (.tail _ (.tail _ (.head _))) | exact .tail _ (.tail _ (.tail _ (.tail _ (.head _)))) | exact .tail _ (.tail _ (.tail _ (.tail _ (.tail _ (.head _)))))) Tryd.isAgg23 Tryd.sizeOf23 (by repeat constructor)) rfl ⟨by rw [HF2.out, HB2.out]; simp [Act.eval], HO.below⟩
      by_cases h5 : x = 5
      · subst h5
        rw [show ptrAt gB (markIx 5) = .pointer (some ⟨gB, 3, none⟩) from rfl]
        go_wp2_with (first
      | ((with_reducible refine gate ?_); (first
      | ((refine own_box HO rfl rfl rfl ?_); clear HO; intro gN wN hgN HO; (simp only [List.nil_append, List.cons_append] at HO); (try simp only [Act.put, List.setIfInBounds_toArray, List.set_cons_zero, List.set_cons_succ]))
      | ((refine own_alloc (T := 23) HO rfl rfl Tryd.zeroValue23 rfl ?_); clear HO; intro gN wN hgN HO; (simp only [List.nil_append, List.cons_append] at HO); (try simp only [Act.put, List.setIfInBounds_toArray, List.set_cons_zero, List.set_cons_succ]))
      | ((refine own_alloc (T := 3) HO rfl rfl Tryd.zeroValue3 rfl ?_); clear HO; intro gN wN hgN HO; (simp only [List.nil_append, List.cons_append] at HO); (try simp only [Act.put, List.setIfInBounds_toArray, List.set_cons_zero, List.set_cons_succ]))
      | ((refine own_alloc (T := 4) HO rfl rfl Tryd.zeroValue4 rfl ?_); clear HO; intro gN wN hgN HO; (simp only [List.nil_append, List.cons_append] at HO); (try simp only [Act.put, List.setIfInBounds_toArray, List.set_cons_zero, List.set_cons_succ]))
      | ((refine own_load (T := 23) HO rfl rfl rfl (by first | exact .head _ | exact .tail _ (.head _) | exact .tail _ (.tail _ (.head _)) | exact .tail _ (.tail _ (.tail _ (.head _))) | exact .tail _ (.tail _ (.tail _ (.tail _ (.head _)))) | exact .tail _ (.tail _ (.tail _ (.tail _ (.tail _ (.head _)))))) Tryd.isAgg23 Tryd.sizeOf23 (by repeat constructor) ?_); (try simp only [Act.put, List.setIfInBounds_toArray, List.set_cons_zero, List.set_cons_succ]))
      | ((refine own_load1 (T := 3) HO rfl rfl rfl (by first | exact .head _ | exact .tail _ (.head _) | exact .tail _ (.tail _ (.head _)) | exact .tail _ (.tail _ (.tail _ (.head _))) | exact .tail _ (.tail _ (.tail _ (.tail _ (.head _)))) | exact .tail _ (.tail _ (.tail _ (.tail _ (.tail _ (.head _)))))) Tryd.isAgg3 rfl ?_); (try simp only [Act.put, List.setIfInBounds_toArray, List.set_cons_zero, List.set_cons_succ]))
      | ((refine own_load1 (T := 4) HO rfl rfl rfl (by first | exact .head _ | exact .tail _ (.head _) | exact .tail _ (.tail _ (.head _)) | exact .tail _ (.tail _ (.tail _ (.head _))) | exact .tail _ (.tail _ (.tail _ (.tail _ (.head _)))) | exact .tail _ (.tail _ (.tail _ (.tail _ (.tail _ (.head _)))))) Tryd.isAgg4 rfl ?_); (try simp only [Act.put, List.setIfInBounds_toArray, List.set_cons_zero, List.set_cons_succ]))
      | ((refine own_store (T := 23) HO rfl rfl rfl rfl (by first | exact .here | exact .there (.here) | exact .there (.there (.here)) | exact .there (.there (.there (.here))) | exact .there (.there (.there (.there (.here)))) | exact .there (.there (.there (.there (.there (.here)))))) Tryd.sizeOf23 (by repeat constructor) rfl ?_); clear HO; intro wN HO; (try simp only [Act.put, List.setIfInBounds_toArray, List.set_cons_zero, List.set_cons_succ]))
      | ((refine own_store (T := 3) HO rfl rfl rfl rfl (by first | exact .here | exact .there (.here) | exact .there (.there (.here)) | exact .there (.there (.there (.here))) | exact .there (.there (.there (.there (.here)))) | exact .there (.there (.there (.there (.there (.here)))))) Tryd.sizeOf3 (by repeat constructor) rfl ?_); clear HO; intro wN HO; (try simp only [Act.put, List.setIfInBounds_toArray, List.set_cons_zero, List.set_cons_succ]))
      | ((refine own_store (T := 4) HO rfl rfl rfl rfl (by first | exact .here | exact .there (.here) | exact .there (.there (.here)) | exact .there (.there (.there (.here))) | exact .there (.there (.there (.there (.here)))) | exact .there (.there (.there (.there (.there (.here)))))) Tryd.sizeOf4 (by repeat constructor) rfl ?_); clear HO; intro wN HO; (try simp only [Act.put, List.setIfInBounds_toArray, List.set_cons_zero, List.set_cons_succ])))))
        exact bodyPost_ret (own_results1 HO Tryd.results32 rfl (by first | exact .head _ | exact .tail _ (.head _) | exact .tail _ (.tail _ (.head _)) | exact .tail _ (.tail _ (.tail _ (.head _))) | exact .tail _ (.tail _ (.tail _ (.tail _ (.head _)))) | exact .tail _ (.tail _ (.tail _ (.tail _ (.tail _ (.head _)))))) Tryd.isAgg23 Tryd.sizeOf23 (by repeat constructor)) rfl ⟨by rw [HF2.out, HB2.out]; simp [Act.eval], HO.below⟩
      by_cases h7 : x = 7
      · subst h7
        rw [show ptrAt gB (markIx 7) = .pointer (some ⟨gB, 4, none⟩) from rfl]
        go_wp2_with (first
      | ((with_reducible refine gate ?_); (first
      | ((refine own_box HO rfl rfl rfl ?_); clear HO; intro gN wN hgN HO; (simp only [List.nil_append, List.cons_append] at HO); (try simp only [Act.put, List.setIfInBounds_toArray, List.set_cons_zero, List.set_cons_succ]))
      | ((refine own_alloc (T := 23) HO rfl rfl Tryd.zeroValue23 rfl ?_); clear HO; intro gN wN hgN HO; (simp only [List.nil_append, List.cons_append] at HO); (try simp only [Act.put, List.setIfInBounds_toArray, List.set_cons_zero, List.set_cons_succ]))
      | ((refine own_alloc (T := 3) HO rfl rfl Tryd.zeroValue3 rfl ?_); clear HO; intro gN wN hgN HO; (simp only [List.nil_append, List.cons_append] at HO); (try simp only [Act.put, List.setIfInBounds_toArray, List.set_cons_zero, List.set_cons_succ]))
      | ((refine own_alloc (T := 4) HO rfl rfl Tryd.zeroValue4 rfl ?_); clear HO; intro gN wN hgN HO; (simp only [List.nil_append, List.cons_append] at HO); (try simp only [Act.put, List.setIfInBounds_toArray, List.set_cons_zero, List.set_cons_succ]))
      | ((refine own_load (T := 23) HO rfl rfl rfl (by first | exact .head _ | exact .tail _ (.head _) | exact .tail _ (.tail _ (.head _)) | exact .tail _ (.tail _ (.tail _ (.head _))) | exact .tail _ (.tail _ (.tail _ (.tail _ (.head _)))) | exact .tail _ (.tail _ (.tail _ (.tail _ (.tail _ (.head _)))))) Tryd.isAgg23 Tryd.sizeOf23 (by repeat constructor) ?_); (try simp only [Act.put, List.setIfInBounds_toArray, List.set_cons_zero, List.set_cons_succ]))
      | ((refine own_load1 (T := 3) HO rfl rfl rfl (by first | exact .head _ | exact .tail _ (.head _) | exact .tail _ (.tail _ (.head _)) | exact .tail _ (.tail _ (.tail _ (.head _))) | exact .tail _ (.tail _ (.tail _ (.tail _ (.head _)))) | exact .tail _ (.tail _ (.tail _ (.tail _ (.tail _ (.head _)))))) Tryd.isAgg3 rfl ?_); (try simp only [Act.put, List.setIfInBounds_toArray, List.set_cons_zero, List.set_cons_succ]))
      | ((refine own_load1 (T := 4) HO rfl rfl rfl (by first | exact .head _ | exact .tail _ (.head _) | exact .tail _ (.tail _ (.head _)) | exact .tail _ (.tail _ (.tail _ (.head _))) | exact .tail _ (.tail _ (.tail _ (.tail _ (.head _)))) | exact .tail _ (.tail _ (.tail _ (.tail _ (.tail _ (.head _)))))) Tryd.isAgg4 rfl ?_); (try simp only [Act.put, List.setIfInBounds_toArray, List.set_cons_zero, List.set_cons_succ]))
      | ((refine own_store (T := 23) HO rfl rfl rfl rfl (by first | exact .here | exact .there (.here) | exact .there (.there (.here)) | exact .there (.there (.there (.here))) | exact .there (.there (.there (.there (.here)))) | exact .there (.there (.there (.there (.there (.here)))))) Tryd.sizeOf23 (by repeat constructor) rfl ?_); clear HO; intro wN HO; (try simp only [Act.put, List.setIfInBounds_toArray, List.set_cons_zero, List.set_cons_succ]))
      | ((refine own_store (T := 3) HO rfl rfl rfl rfl (by first | exact .here | exact .there (.here) | exact .there (.there (.here)) | exact .there (.there (.there (.here))) | exact .there (.there (.there (.there (.here)))) | exact .there (.there (.there (.there (.there (.here)))))) Tryd.sizeOf3 (by repeat constructor) rfl ?_); clear HO; intro wN HO; (try simp only [Act.put, List.setIfInBounds_toArray, List.set_cons_zero, List.set_cons_succ]))
      | ((refine own_store (T := 4) HO rfl rfl rfl rfl (by first | exact .here | exact .there (.here) | exact .there (.there (.here)) | exact .there (.there (.there (.here))) | exact .there (.there (.there (.there (.here)))) | exact .there (.there (.there (.there (.there (.here)))))) Tryd.sizeOf4 (by repeat constructor) rfl ?_); clear HO; intro wN HO; (try simp only [Act.put, List.setIfInBounds_toArray, List.set_cons_zero, List.set_cons_succ])))))
        exact bodyPost_ret (own_results1 HO Tryd.results32 rfl (by first | exact .head _ | exact .tail _ (.head _) | exact .tail _ (.tail _ (.head _)) | exact .tail _ (.tail _ (.tail _ (.head _))) | exact .tail _ (.tail _ (.tail _ (.tail _ (.head _)))) | exact .tail _ (.tail _ (.tail _ (.tail _ (.tail _ (.head _)))))) Tryd.isAgg23 Tryd.sizeOf23 (by repeat constructor)) rfl ⟨by rw [HF2.out, HB2.out]; simp [Act.eval], HO.below⟩
      by_cases h8 : x = 8
      · subst h8
        rw [show ptrAt gB (markIx 8) = .pointer (some ⟨gB, 5, none⟩) from rfl]
        go_wp2_with (first
      | ((with_reducible refine gate ?_); (first
      | ((refine own_box HO rfl rfl rfl ?_); clear HO; intro gN wN hgN HO; (simp only [List.nil_append, List.cons_append] at HO); (try simp only [Act.put, List.setIfInBounds_toArray, List.set_cons_zero, List.set_cons_succ]))
      | ((refine own_alloc (T := 23) HO rfl rfl Tryd.zeroValue23 rfl ?_); clear HO; intro gN wN hgN HO; (simp only [List.nil_append, List.cons_append] at HO); (try simp only [Act.put, List.setIfInBounds_toArray, List.set_cons_zero, List.set_cons_succ]))
      | ((refine own_alloc (T := 3) HO rfl rfl Tryd.zeroValue3 rfl ?_); clear HO; intro gN wN hgN HO; (simp only [List.nil_append, List.cons_append] at HO); (try simp only [Act.put, List.setIfInBounds_toArray, List.set_cons_zero, List.set_cons_succ]))
      | ((refine own_alloc (T := 4) HO rfl rfl Tryd.zeroValue4 rfl ?_); clear HO; intro gN wN hgN HO; (simp only [List.nil_append, List.cons_append] at HO); (try simp only [Act.put, List.setIfInBounds_toArray, List.set_cons_zero, List.set_cons_succ]))
      | ((refine own_load (T := 23) HO rfl rfl rfl (by first | exact .head _ | exact .tail _ (.head _) | exact .tail _ (.tail _ (.head _)) | exact .tail _ (.tail _ (.tail _ (.head _))) | exact .tail _ (.tail _ (.tail _ (.tail _ (.head _)))) | exact .tail _ (.tail _ (.tail _ (.tail _ (.tail _ (.head _)))))) Tryd.isAgg23 Tryd.sizeOf23 (by repeat constructor) ?_); (try simp only [Act.put, List.setIfInBounds_toArray, List.set_cons_zero, List.set_cons_succ]))
      | ((refine own_load1 (T := 3) HO rfl rfl rfl (by first | exact .head _ | exact .tail _ (.head _) | exact .tail _ (.tail _ (.head _)) | exact .tail _ (.tail _ (.tail _ (.head _))) | exact .tail _ (.tail _ (.tail _ (.tail _ (.head _)))) | exact .tail _ (.tail _ (.tail _ (.tail _ (.tail _ (.head _)))))) Tryd.isAgg3 rfl ?_); (try simp only [Act.put, List.setIfInBounds_toArray, List.set_cons_zero, List.set_cons_succ]))
      | ((refine own_load1 (T := 4) HO rfl rfl rfl (by first | exact .head _ | exact .tail _ (.head _) | exact .tail _ (.tail _ (.head _)) | exact .tail _ (.tail _ (.tail _ (.head _))) | exact .tail _ (.tail _ (.tail _ (.tail _ (.head _)))) | exact .tail _ (.tail _ (.tail _ (.tail _ (.tail _ (.head _)))))) Tryd.isAgg4 rfl ?_); (try simp only [Act.put, List.setIfInBounds_toArray, List.set_cons_zero, List.set_cons_succ]))
      | ((refine own_store (T := 23) HO rfl rfl rfl rfl (by first | exact .here | exact .there (.here) | exact .there (.there (.here)) | exact .there (.there (.there (.here))) | exact .there (.there (.there (.there (.here)))) | exact .there (.there (.there (.there (.there (.here)))))) Tryd.sizeOf23 (by repeat constructor) rfl ?_); clear HO; intro wN HO; (try simp only [Act.put, List.setIfInBounds_toArray, List.set_cons_zero, List.set_cons_succ]))
      | ((refine own_store (T := 3) HO rfl rfl rfl rfl (by first | exact .here | exact .there (.here) | exact .there (.there (.here)) | exact .there (.there (.there (.here))) | exact .there (.there (.there (.there (.here)))) | exact .there (.there (.there (.there (.there (.here)))))) Tryd.sizeOf3 (by repeat constructor) rfl ?_); clear HO; intro wN HO; (try simp only [Act.put, List.setIfInBounds_toArray, List.set_cons_zero, List.set_cons_succ]))
      | ((refine own_store (T := 4) HO rfl rfl rfl rfl (by first | exact .here | exact .there (.here) | exact .there (.there (.here)) | exact .there (.there (.there (.here))) | exact .there (.there (.there (.there (.here)))) | exact .there (.there (.there (.there (.there (.here)))))) Tryd.sizeOf4 (by repeat constructor) rfl ?_); clear HO; intro wN HO; (try simp only [Act.put, List.setIfInBounds_toArray, List.set_cons_zero, List.set_cons_succ])))))
        exact bodyPost_ret (own_results1 HO Tryd.results32 rfl (by first | exact .head _ | exact .tail _ (.head _) | exact .tail _ (.tail _ (.head _)) | exact .tail _ (.tail _ (.tail _ (.head _))) | exact .tail _ (.tail _ (.tail _ (.tail _ (.head _)))) | exact .tail _ (.tail _ (.tail _ (.tail _ (.tail _ (.head _)))))) Tryd.isAgg23 Tryd.sizeOf23 (by repeat constructor)) rfl ⟨by rw [HF2.out, HB2.out]; simp [Act.eval], HO.below⟩
      by_cases h9 : x = 9
      · subst h9
        rw [show ptrAt gB (markIx 9) = .pointer (some ⟨gB, 6, none⟩) from rfl]
        go_wp2_with (first
      | ((with_reducible refine gate ?_); (first
      | ((refine own_box HO rfl rfl rfl ?_); clear HO; intro gN wN hgN HO; (simp only [List.nil_append, List.cons_append] at HO); (try simp only [Act.put, List.setIfInBounds_toArray, List.set_cons_zero, List.set_cons_succ]))
      | ((refine own_alloc (T := 23) HO rfl rfl Tryd.zeroValue23 rfl ?_); clear HO; intro gN wN hgN HO; (simp only [List.nil_append, List.cons_append] at HO); (try simp only [Act.put, List.setIfInBounds_toArray, List.set_cons_zero, List.set_cons_succ]))
      | ((refine own_alloc (T := 3) HO rfl rfl Tryd.zeroValue3 rfl ?_); clear HO; intro gN wN hgN HO; (simp only [List.nil_append, List.cons_append] at HO); (try simp only [Act.put, List.setIfInBounds_toArray, List.set_cons_zero, List.set_cons_succ]))
      | ((refine own_alloc (T := 4) HO rfl rfl Tryd.zeroValue4 rfl ?_); clear HO; intro gN wN hgN HO; (simp only [List.nil_append, List.cons_append] at HO); (try simp only [Act.put, List.setIfInBounds_toArray, List.set_cons_zero, List.set_cons_succ]))
      | ((refine own_load (T := 23) HO rfl rfl rfl (by first | exact .head _ | exact .tail _ (.head _) | exact .tail _ (.tail _ (.head _)) | exact .tail _ (.tail _ (.tail _ (.head _))) | exact .tail _ (.tail _ (.tail _ (.tail _ (.head _)))) | exact .tail _ (.tail _ (.tail _ (.tail _ (.tail _ (.head _)))))) Tryd.isAgg23 Tryd.sizeOf23 (by repeat constructor) ?_); (try simp only [Act.put, List.setIfInBounds_toArray, List.set_cons_zero, List.set_cons_succ]))
      | ((refine own_load1 (T := 3) HO rfl rfl rfl (by first | exact .head _ | exact .tail _ (.head _) | exact .tail _ (.tail _ (.head _)) | exact .tail _ (.tail _ (.tail _ (.head _))) | exact .tail _ (.tail _ (.tail _ (.tail _ (.head _)))) | exact .tail _ (.tail _ (.tail _ (.tail _ (.tail _ (.head _)))))) Tryd.isAgg3 rfl ?_); (try simp only [Act.put, List.setIfInBounds_toArray, List.set_cons_zero, List.set_cons_succ]))
      | ((refine own_load1 (T := 4) HO rfl rfl rfl (by first | exact .head _ | exact .tail _ (.head _) | exact .tail _ (.tail _ (.head _)) | exact .tail _ (.tail _ (.tail _ (.head _))) | exact .tail _ (.tail _ (.tail _ (.tail _ (.head _)))) | exact .tail _ (.tail _ (.tail _ (.tail _ (.tail _ (.head _)))))) Tryd.isAgg4 rfl ?_); (try simp only [Act.put, List.setIfInBounds_toArray, List.set_cons_zero, List.set_cons_succ]))
      | ((refine own_store (T := 23) HO rfl rfl rfl rfl (by first | exact .here | exact .there (.here) | exact .there (.there (.here)) | exact .there (.there (.there (.here))) | exact .there (.there (.there (.there (.here)))) | exact .there (.there (.there (.there (.there (.here)))))) Tryd.sizeOf23 (by repeat constructor) rfl ?_); clear HO; intro wN HO; (try simp only [Act.put, List.setIfInBounds_toArray, List.set_cons_zero, List.set_cons_succ]))
      | ((refine own_store (T := 3) HO rfl rfl rfl rfl (by first | exact .here | exact .there (.here) | exact .there (.there (.here)) | exact .there (.there (.there (.here))) | exact .there (.there (.there (.there (.here)))) | exact .there (.there (.there (.there (.there (.here)))))) Tryd.sizeOf3 (by repeat constructor) rfl ?_); clear HO; intro wN HO; (try simp only [Act.put, List.setIfInBounds_toArray, List.set_cons_zero, List.set_cons_succ]))
      | ((refine own_store (T := 4) HO rfl rfl rfl rfl (by first | exact .here | exact .there (.here) | exact .there (.there (.here)) | exact .there (.there (.there (.here))) | exact .there (.there (.there (.there (.here)))) | exact .there (.there (.there (.there (.there (.here)))))) Tryd.sizeOf4 (by repeat constructor) rfl ?_); clear HO; intro wN HO; (try simp only [Act.put, List.setIfInBounds_toArray, List.set_cons_zero, List.set_cons_succ])))))
        exact bodyPost_ret (own_results1 HO Tryd.results32 rfl (by first | exact .head _ | exact .tail _ (.head _) | exact .tail _ (.tail _ (.head _)) | exact .tail _ (.tail _ (.tail _ (.head _))) | exact .tail _ (.tail _ (.tail _ (.tail _ (.head _)))) | exact .tail _ (.tail _ (.tail _ (.tail _ (.tail _ (.head _)))))) Tryd.isAgg23 Tryd.sizeOf23 (by repeat constructor)) rfl ⟨by rw [HF2.out, HB2.out]; simp [Act.eval], HO.below⟩
      rw [show ptrAt gB (markIx x) = .pointer none by unfold markIx; rw [if_neg h1, if_neg h2, if_neg h3, if_neg h5, if_neg h7, if_neg h8, if_neg h9]; rfl]
      have e1 : (x == 1) = false := beq_eq_false_iff_ne.2 h1
      have e2 : (x == 2) = false := beq_eq_false_iff_ne.2 h2
      have e3 : (x == 3) = false := beq_eq_false_iff_ne.2 h3
      have e5 : (x == 5) = false := beq_eq_false_iff_ne.2 h5
      have e7 : (x == 7) = false := beq_eq_false_iff_ne.2 h7
      have e8 : (x == 8) = false := beq_eq_false_iff_ne.2 h8
      have e9 : (x == 9) = false := beq_eq_false_iff_ne.2 h9
      clear h1 h2 h3 h5 h7 h8 h9
      go_wp2_with (first
      | ((with_reducible refine gate ?_); (first
      | ((refine own_box HO rfl rfl rfl ?_); clear HO; intro gN wN hgN HO; (simp only [List.nil_append, List.cons_append] at HO); (try simp only [Act.put, List.setIfInBounds_toArray, List.set_cons_zero, List.set_cons_succ]))
      | ((refine own_alloc (T := 23) HO rfl rfl Tryd.zeroValue23 rfl ?_); clear HO; intro gN wN hgN HO; (simp only [List.nil_append, List.cons_append] at HO); (try simp only [Act.put, List.setIfInBounds_toArray, List.set_cons_zero, List.set_cons_succ]))
      | ((refine own_alloc (T := 3) HO rfl rfl Tryd.zeroValue3 rfl ?_); clear HO; intro gN wN hgN HO; (simp only [List.nil_append, List.cons_append] at HO); (try simp only [Act.put, List.setIfInBounds_toArray, List.set_cons_zero, List.set_cons_succ]))
      | ((refine own_alloc (T := 4) HO rfl rfl Tryd.zeroValue4 rfl ?_); clear HO; intro gN wN hgN HO; (simp only [List.nil_append, List.cons_append] at HO); (try simp only [Act.put, List.setIfInBounds_toArray, List.set_cons_zero, List.set_cons_succ]))
      | ((refine own_load (T := 23) HO rfl rfl rfl (by first | exact .head _ | exact .tail _ (.head _) | exact .tail _ (.tail _ (.head _)) | exact .tail _ (.tail _ (.tail _ (.head _))) | exact .tail _ (.tail _ (.tail _ (.tail _ (.head _)))) | exact .tail _ (.tail _ (.tail _ (.tail _ (.tail _ (.head _)))))) Tryd.isAgg23 Tryd.sizeOf23 (by repeat constructor) ?_); (try simp only [Act.put, List.setIfInBounds_toArray, List.set_cons_zero, List.set_cons_succ]))
      | ((refine own_load1 (T := 3) HO rfl rfl rfl (by first | exact .head _ | exact .tail _ (.head _) | exact .tail _ (.tail _ (.head _)) | exact .tail _ (.tail _ (.tail _ (.head _))) | exact .tail _ (.tail _ (.tail _ (.tail _ (.head _)))) | exact .tail _ (.tail _ (.tail _ (.tail _ (.tail _ (.head _)))))) Tryd.isAgg3 rfl ?_); (try simp only [Act.put, List.setIfInBounds_toArray, List.set_cons_zero, List.set_cons_succ]))
      | ((refine own_load1 (T := 4) HO rfl rfl rfl (by first | exact .head _ | exact .tail _ (.head _) | exact .tail _ (.tail _ (.head _)) | exact .tail _ (.tail _ (.tail _ (.head _))) | exact .tail _ (.tail _ (.tail _ (.tail _ (.head _)))) | exact .tail _ (.tail _ (.tail _ (.tail _ (.tail _ (.head _)))))) Tryd.isAgg4 rfl ?_); (try simp only [Act.put, List.setIfInBounds_toArray, List.set_cons_zero, List.set_cons_succ]))
      | ((refine own_store (T := 23) HO rfl rfl rfl rfl (by first | exact .here | exact .there (.here) | exact .there (.there (.here)) | exact .there (.there (.there (.here))) | exact .there (.there (.there (.there (.here)))) | exact .there (.there (.there (.there (.there (.here)))))) Tryd.sizeOf23 (by repeat constructor) rfl ?_); clear HO; intro wN HO; (try simp only [Act.put, List.setIfInBounds_toArray, List.set_cons_zero, List.set_cons_succ]))
      | ((refine own_store (T := 3) HO rfl rfl rfl rfl (by first | exact .here | exact .there (.here) | exact .there (.there (.here)) | exact .there (.there (.there (.here))) | exact .there (.there (.there (.there (.here)))) | exact .there (.there (.there (.there (.there (.here)))))) Tryd.sizeOf3 (by repeat constructor) rfl ?_); clear HO; intro wN HO; (try simp only [Act.put, List.setIfInBounds_toArray, List.set_cons_zero, List.set_cons_succ]))
      | ((refine own_store (T := 4) HO rfl rfl rfl rfl (by first | exact .here | exact .there (.here) | exact .there (.there (.here)) | exact .there (.there (.there (.here))) | exact .there (.there (.there (.there (.here)))) | exact .there (.there (.there (.there (.there (.here)))))) Tryd.sizeOf4 (by repeat constructor) rfl ?_); clear HO; intro wN HO; (try simp only [Act.put, List.setIfInBounds_toArray, List.set_cons_zero, List.set_cons_succ])))))
      exact bodyPost_ret (own_results1 HO Tryd.results32 rfl (by first | exact .head _ | exact .tail _ (.head _) | exact .tail _ (.tail _ (.head _)) | exact .tail _ (.tail _ (.tail _ (.head _))) | exact .tail _ (.tail _ (.tail _ (.tail _ (.head _)))) | exact .tail _ (.tail _ (.tail _ (.tail _ (.tail _ (.head _)))))) Tryd.isAgg23 Tryd.sizeOf23 (by repeat constructor)) rfl ⟨by rw [HF2.out, HB2.out, e1, e2, e3, e5, e7, e8, e9]; simp [Act.eval], HO.below⟩
end Go.Proofs.YtbaigfoioiklkaaDoor
end
section
namespace Go.Proofs.YtbaigfoioiklkaaDoor.G
open Go.RowKit Go.Proofs.YtbaigfoioiklkaaDoorW.PrintWords Go.Proofs.YtbaigfoioiklkaaDoorW.PrintLast Go.Proofs.YtbaigfoioiklkaaDoorW.PrintMore
attribute [local go_sem] max2_int min2_int max_two min_two max_three min_three max_four min_four
set_option linter.unusedVariables false
set_option linter.unusedSimpArgs false
def errW : Option Int → Value
  | none => .nilIface
  | some c => .iface 0 (.int .i64 c)
theorem errW_none : errW none = .nilIface := rfl
theorem errW_some (c : Int) : errW (some c) = .iface 0 (.int .i64 c) := rfl
theorem info3 : (Tryd.prog.info? 3).map (fun i => (i.zero, i.size, i.bytes)) = some (some (.int .i64 0), 1, 8) := by kernel_rfl
theorem info9 : (Tryd.prog.info? 9).map (fun i => (i.zero, i.size, i.bytes)) = some (some (.string ⟨#[]⟩), 1, 16) := by kernel_rfl
def rd_L1 (xs : List (List Int)) (i : Int) : (List Int) := xs.getD i.toNat ([] : List Int)
theorem at_L1 {w : World} {A : Option Addr} {n : Nat} {xs : List (List Int)} (h : Kd.C (Kd.slice 3 (Kd.int .i64)) w A n xs) (i : Int) (h0 : 0 ≤ i) (h1 : i < n) : ∃ ad A0 c0, A = some ad ∧ w.cell? (ad.add i.toNat) = some (.slice A0 (rd_L1 xs i).length c0) ∧ (rd_L1 xs i).length ≤ c0 ∧ (Kd.int .i64).C w A0 (rd_L1 xs i).length (rd_L1 xs i) := by
  obtain ⟨ad, c, e, _, hK, hc0⟩ := Kd.C_get h ([] : List Int) i h0 h1
  have hc : ∀ j u, c[j]? = some u → w.cell? (ad.add (i.toNat * 1 + j)) = some u := hc0
  obtain ⟨A0, c0, rfl, l0, g0⟩ := hK
  exact ⟨ad, A0, c0, e, by have hq := hc 0 _ rfl; rwa [Nat.mul_one, Nat.add_zero] at hq, l0, g0⟩
end Go.Proofs.YtbaigfoioiklkaaDoor.G
end
section
namespace Go.Proofs.YtbaigfoioiklkaaDoor.G
open Go.RowKit Go.Proofs.YtbaigfoioiklkaaDoorW.PrintWords Go.Proofs.YtbaigfoioiklkaaDoorW.PrintLast Go.Proofs.YtbaigfoioiklkaaDoorW.PrintMore
attribute [local go_sem] max2_int min2_int max_two min_two max_three min_three max_four min_four
set_option linter.unusedVariables false
set_option linter.unusedSimpArgs false
def num_Text.f (a0 : Int) : Option (ByteArray) := if -9223372036854775808 ≤ a0 ∧ a0 ≤ 9223372036854775807 then some ⟨(textL a0).toArray⟩ else none
theorem num_Text.calls (a0 : Int) (r : ByteArray) (w : World) (hT : Tab w) (h : num_Text.f a0 = some r) :
    Calls Tryd.prog 29 #[.int .i64 a0] w fun e w' => e = .returned (.string r) ∧ Below w.heap.size w w' := by
  unfold num_Text.f at h
  by_cases hb : -9223372036854775808 ≤ a0 ∧ a0 ≤ 9223372036854775807
  · rw [if_pos hb] at h
    obtain rfl := Option.some.inj h
    exact text_calls a0 hb.1 hb.2 w hT
  · rw [if_neg hb] at h; cases h
end Go.Proofs.YtbaigfoioiklkaaDoor.G
end
section
namespace Go.Proofs.YtbaigfoioiklkaaDoor.G
open Go.RowKit Go.Proofs.YtbaigfoioiklkaaDoorW.PrintWords Go.Proofs.YtbaigfoioiklkaaDoorW.PrintLast Go.Proofs.YtbaigfoioiklkaaDoorW.PrintMore
attribute [local go_sem] max2_int min2_int max_two min_two max_three min_three max_four min_four
set_option linter.unusedVariables false
set_option linter.unusedSimpArgs false
def strings_Join.f (l0 : List ByteArray) (a1 : ByteArray) : Option (ByteArray) := if l0.length ≤ 140737488355328 ∧ (Lib.join (l0.map (·.data.toList)) a1.data.toList).length ≤ 140737488355328 then some ⟨(Lib.join (l0.map (·.data.toList)) a1.data.toList).toArray⟩ else none
theorem strings_Join.calls (A0 : Option Addr) (c0 : Nat) (l0 : List ByteArray) (a1 : ByteArray) (r : ByteArray) (w : World) (hr0 : Kd.C Kd.string w A0 l0.length l0) (hc0 : l0.length ≤ c0) (h : strings_Join.f l0 a1 = some r) :
    Calls Tryd.prog 30 #[.slice A0 l0.length c0, .string a1] w fun e w' => e = .returned (.string r) ∧ Below w.heap.size w w' := by
  unfold strings_Join.f at h
  by_cases hb : l0.length ≤ 140737488355328 ∧ (Lib.join (l0.map (·.data.toList)) a1.data.toList).length ≤ 140737488355328
  · rw [if_pos hb] at h
    obtain rfl := Option.some.inj h
    cases l0 with
    | nil => exact (Tryd.strings_Join_none A0 c0 a1 w).mono fun _ _ h => ⟨h.1, by rw [h.2]; exact Below.refl _ _⟩
    | cons x xs =>
      have hr : Kit.Reads w A0 ((x :: xs).map Value.string) := Kit.reads_scalar ByteArray.empty hr0
      obtain ⟨b, o, rfl, hc⟩ := hr 0 _ rfl
      refine Tryd.strings_Join b o c0 (x :: xs) a1 w (fun j y hy => ?_) (World.block_lt_of_cell? w _ hc) hb.1 hc0 hb.2
      obtain ⟨b', o', he, hc'⟩ := hr j (.string y) (by rw [List.getElem?_map, hy]; rfl)
      cases he
      exact hc'
  · rw [if_neg hb] at h; cases h
end Go.Proofs.YtbaigfoioiklkaaDoor.G
end
