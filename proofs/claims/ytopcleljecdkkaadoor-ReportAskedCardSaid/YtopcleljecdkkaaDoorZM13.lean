/- M: texts run together by shake.py: RpQ. -/
import Derived.ArgAppend
import Derived.Below
import Derived.BigQuiet
import Derived.Deep.AppendLies
import Derived.Deep.CutBlock
import Derived.Deep.DeepCutAuto
import Derived.Deep.Draws
import Derived.Deep.LoopGhost
import Derived.Deep.OwnRows
import Derived.Deep.Quiet
import Derived.Deep.QuietTactic
import Derived.Deep.RegionHeld3
import Derived.KernelRfl
import Derived.Laws.AppendOwn
import Derived.Laws.AppendOwnNone
import Derived.Laws.BitsLemmas
import Derived.Laws.BytesArg
import Derived.Laws.Concat
import Derived.Laws.CopyRow
import Derived.Laws.IdiomCopy
import Derived.Laws.IdiomStrings
import Derived.Laws.MakeOwn
import Derived.Laws.OwnMore
import Derived.Laws.Rows
import Derived.Laws.Slices
import Derived.Laws.StructEq
import Derived.Lib.AppendStr
import Derived.Lib.ConvBytes
import Derived.Lib.Hide
import Derived.MapKept
import Derived.Maps.AppendAt
import Derived.Orders
import Derived.OrdersHeld
import Derived.OwnWalk
import Derived.RowKit
import Derived.RowKit3
import Derived.Still
import Derived.Tactics
import Derived.Test.YtopcleljecdkkaaDoorProg
import Derived.WalkKit
import Derived.WideLaws
import Derived.Test.YtopcleljecdkkaaDoorZM1
import Derived.Test.YtopcleljecdkkaaDoorZM2
import Derived.Test.YtopcleljecdkkaaDoorZM3
import Derived.Test.YtopcleljecdkkaaDoorZM7
import Derived.Test.YtopcleljecdkkaaDoorZM10
section
namespace Go.Proofs.YtopcleljecdkkaaDoor
set_option linter.unusedVariables false
set_option linter.unusedSimpArgs false
open Go.RowKit Kit Go.Proofs.YtopcleljecdkkaaDoorW.PrintWords
attribute [local irreducible] wpList Calls
set_option maxRecDepth 100000 in
set_option maxHeartbeats 4000000 in
theorem asked_long1 (x0 x1 x2 x3 x4 x5 x6 x7 x8 : Int) (x9 x10 x11 x12 x13 x14 x15 : Bool) (x16 x17 x18 : Int) (ask other : ByteArray) (w : World) (ha : Gives 9 #[] (.bool true) w) (h : 100 < ask.size) :
    Calls Tryd.prog 4 #[.agg #[.int .i64 x0, .int .i64 x1, .int .i64 x2, .int .i64 x3, .int .i64 x4, .int .i64 x5, .int .i64 x6, .int .i64 x7, .int .i64 x8, .bool x9, .bool x10, .bool x11, .bool x12, .bool x13, .bool x14, .bool x15, .int .i64 x16, .int .i64 x17, .int .i64 x18], .string ask, .string other] w fun e w' => e = .returned (.bool true) ∧ Below w.heap.size w w' := by
  have HO := Mine.start w
  have HX : (fun _ : World => True) w := trivial
  have HXB : XB (fun _ : World => True) := fun _ _ _ _ => trivial
  have HXS : XS 30 (fun _ : World => True) := fun _ _ _ _ _ _ => trivial
  have HA := Lib.hid ha
  have hg_ask : decide ((ask.size : Int) > 100) = true := decide_eq_true (by omega)
  have hl_ask : decide (100 < (ask.size : Int)) = true := hg_ask
  clear ha h
  go_enter Tryd.func4, Tryd.ntmps4
  go_wp2_with (first
      | (go_at_call 9; refine (HA.out _ HO.below).mono ?_; rintro eN wN ⟨rfl, hbN⟩; have HON := HO.call hbN; have HXN := HXB _ _ HX hbN; clear HO HX hbN; have HO := HON; have HX := HXN; clear HON HXN)
      | ((with_reducible refine gate ?_); (first
      | ((refine own_boxX HO HX HXB rfl rfl rfl ?_); clear HO HX; intro gN wN hgN HO HX; (simp only [List.nil_append, List.cons_append] at HO); (try simp only [Act.put, List.setIfInBounds_toArray, List.set_cons_zero, List.set_cons_succ]))
      | ((refine own_allocX (T := 30) HO HX HXB rfl rfl Tryd.zeroValue30 rfl ?_); clear HO HX; intro gN wN hgN HO HX; (simp only [List.nil_append, List.cons_append] at HO); (try simp only [Act.put, List.setIfInBounds_toArray, List.set_cons_zero, List.set_cons_succ]))
      | ((refine own_load (T := 25) HO rfl rfl rfl (by first | exact .head _ | exact .tail _ (.head _) | exact .tail _ (.tail _ (.head _)) | exact .tail _ (.tail _ (.tail _ (.head _))) | exact .tail _ (.tail _ (.tail _ (.tail _ (.head _)))) | exact .tail _ (.tail _ (.tail _ (.tail _ (.tail _ (.head _)))))) Tryd.isAgg25 Tryd.sizeOf25 (by repeat constructor) ?_); (try simp only [Act.put, List.setIfInBounds_toArray, List.set_cons_zero, List.set_cons_succ]))
      | ((refine own_load (T := 30) HO rfl rfl rfl (by first | exact .head _ | exact .tail _ (.head _) | exact .tail _ (.tail _ (.head _)) | exact .tail _ (.tail _ (.tail _ (.head _))) | exact .tail _ (.tail _ (.tail _ (.tail _ (.head _)))) | exact .tail _ (.tail _ (.tail _ (.tail _ (.tail _ (.head _)))))) Tryd.isAgg30 Tryd.sizeOf30 (by repeat constructor) ?_); (try simp only [Act.put, List.setIfInBounds_toArray, List.set_cons_zero, List.set_cons_succ]))
      | ((refine own_load1 (T := 9) HO rfl rfl rfl (by first | exact .head _ | exact .tail _ (.head _) | exact .tail _ (.tail _ (.head _)) | exact .tail _ (.tail _ (.tail _ (.head _))) | exact .tail _ (.tail _ (.tail _ (.tail _ (.head _)))) | exact .tail _ (.tail _ (.tail _ (.tail _ (.tail _ (.head _)))))) Tryd.isAgg9 rfl ?_); (try simp only [Act.put, List.setIfInBounds_toArray, List.set_cons_zero, List.set_cons_succ]))
      | ((refine own_storeX (T := 25) HO HX rfl rfl rfl rfl (by first | exact .here | exact .there (.here) | exact .there (.there (.here)) | exact .there (.there (.there (.here))) | exact .there (.there (.there (.there (.here)))) | exact .there (.there (.there (.there (.there (.here)))))) HXS Tryd.sizeOf25 (by repeat constructor) rfl ?_); clear HO HX; intro wN HO HX; (try simp only [Act.put, List.setIfInBounds_toArray, List.set_cons_zero, List.set_cons_succ]))
      | ((refine own_storeX (T := 30) HO HX rfl rfl rfl rfl (by first | exact .here | exact .there (.here) | exact .there (.there (.here)) | exact .there (.there (.there (.here))) | exact .there (.there (.there (.there (.here)))) | exact .there (.there (.there (.there (.there (.here)))))) HXS Tryd.sizeOf30 (by repeat constructor) rfl ?_); clear HO HX; intro wN HO HX; (try simp only [Act.put, List.setIfInBounds_toArray, List.set_cons_zero, List.set_cons_succ]))
      | ((refine own_storeX1 (T := 9) HO HX rfl rfl rfl (by first | exact .const | exact .tmp rfl | exact .func) (by rfl) (by first | exact .here | exact .there (.here) | exact .there (.there (.here)) | exact .there (.there (.there (.here))) | exact .there (.there (.there (.there (.here)))) | exact .there (.there (.there (.there (.there (.here)))))) HXS Tryd.sizeOf9 (by repeat constructor) (by rfl) ?_); clear HO HX; intro wN HO HX; (try simp only [Act.put, List.setIfInBounds_toArray, List.set_cons_zero, List.set_cons_succ])))))
  go_ret
  exact ⟨rfl, HO.below⟩
set_option maxRecDepth 100000 in
set_option maxHeartbeats 4000000 in
theorem asked_long2 (x0 x1 x2 x3 x4 x5 x6 x7 x8 : Int) (x9 x10 x11 x12 x13 x14 x15 : Bool) (x16 x17 x18 : Int) (ask other : ByteArray) (w : World) (ha : Gives 9 #[] (.bool true) w) (h1 : ¬ 100 < ask.size) (h : 100 < other.size) :
    Calls Tryd.prog 4 #[.agg #[.int .i64 x0, .int .i64 x1, .int .i64 x2, .int .i64 x3, .int .i64 x4, .int .i64 x5, .int .i64 x6, .int .i64 x7, .int .i64 x8, .bool x9, .bool x10, .bool x11, .bool x12, .bool x13, .bool x14, .bool x15, .int .i64 x16, .int .i64 x17, .int .i64 x18], .string ask, .string other] w fun e w' => e = .returned (.bool true) ∧ Below w.heap.size w w' := by
  have HO := Mine.start w
  have HX : (fun _ : World => True) w := trivial
  have HXB : XB (fun _ : World => True) := fun _ _ _ _ => trivial
  have HXS : XS 30 (fun _ : World => True) := fun _ _ _ _ _ _ => trivial
  have HA := Lib.hid ha
  have hg_ask : decide ((ask.size : Int) > 100) = false := decide_eq_false (by omega)
  have hl_ask : decide (100 < (ask.size : Int)) = false := hg_ask
  have hg_other : decide ((other.size : Int) > 100) = true := decide_eq_true (by omega)
  have hl_other : decide (100 < (other.size : Int)) = true := hg_other
  clear ha h h1
  go_enter Tryd.func4, Tryd.ntmps4
  go_wp2_with (first
      | (go_at_call 9; refine (HA.out _ HO.below).mono ?_; rintro eN wN ⟨rfl, hbN⟩; have HON := HO.call hbN; have HXN := HXB _ _ HX hbN; clear HO HX hbN; have HO := HON; have HX := HXN; clear HON HXN)
      | ((with_reducible refine gate ?_); (first
      | ((refine own_boxX HO HX HXB rfl rfl rfl ?_); clear HO HX; intro gN wN hgN HO HX; (simp only [List.nil_append, List.cons_append] at HO); (try simp only [Act.put, List.setIfInBounds_toArray, List.set_cons_zero, List.set_cons_succ]))
      | ((refine own_allocX (T := 30) HO HX HXB rfl rfl Tryd.zeroValue30 rfl ?_); clear HO HX; intro gN wN hgN HO HX; (simp only [List.nil_append, List.cons_append] at HO); (try simp only [Act.put, List.setIfInBounds_toArray, List.set_cons_zero, List.set_cons_succ]))
      | ((refine own_load (T := 25) HO rfl rfl rfl (by first | exact .head _ | exact .tail _ (.head _) | exact .tail _ (.tail _ (.head _)) | exact .tail _ (.tail _ (.tail _ (.head _))) | exact .tail _ (.tail _ (.tail _ (.tail _ (.head _)))) | exact .tail _ (.tail _ (.tail _ (.tail _ (.tail _ (.head _)))))) Tryd.isAgg25 Tryd.sizeOf25 (by repeat constructor) ?_); (try simp only [Act.put, List.setIfInBounds_toArray, List.set_cons_zero, List.set_cons_succ]))
      | ((refine own_load (T := 30) HO rfl rfl rfl (by first | exact .head _ | exact .tail _ (.head _) | exact .tail _ (.tail _ (.head _)) | exact .tail _ (.tail _ (.tail _ (.head _))) | exact .tail _ (.tail _ (.tail _ (.tail _ (.head _)))) | exact .tail _ (.tail _ (.tail _ (.tail _ (.tail _ (.head _)))))) Tryd.isAgg30 Tryd.sizeOf30 (by repeat constructor) ?_); (try simp only [Act.put, List.setIfInBounds_toArray, List.set_cons_zero, List.set_cons_succ]))
      | ((refine own_load1 (T := 9) HO rfl rfl rfl (by first | exact .head _ | exact .tail _ (.head _) | exact .tail _ (.tail _ (.head _)) | exact .tail _ (.tail _ (.tail _ (.head _))) | exact .tail _ (.tail _ (.tail _ (.tail _ (.head _)))) | exact .tail _ (.tail _ (.tail _ (.tail _ (.tail _ (.head _)))))) Tryd.isAgg9 rfl ?_); (try simp only [Act.put, List.setIfInBounds_toArray, List.set_cons_zero, List.set_cons_succ]))
      | ((refine own_storeX (T := 25) HO HX rfl rfl rfl rfl (by first | exact .here | exact .there (.here) | exact .there (.there (.here)) | exact .there (.there (.there (.here))) | exact .there (.there (.there (.there (.here)))) | exact .there (.there (.there (.there (.there (.here)))))) HXS Tryd.sizeOf25 (by repeat constructor) rfl ?_); clear HO HX; intro wN HO HX; (try simp only [Act.put, List.setIfInBounds_toArray, List.set_cons_zero, List.set_cons_succ]))
      | ((refine own_storeX (T := 30) HO HX rfl rfl rfl rfl (by first | exact .here | exact .there (.here) | exact .there (.there (.here)) | exact .there (.there (.there (.here))) | exact .there (.there (.there (.there (.here)))) | exact .there (.there (.there (.there (.there (.here)))))) HXS Tryd.sizeOf30 (by repeat constructor) rfl ?_); clear HO HX; intro wN HO HX; (try simp only [Act.put, List.setIfInBounds_toArray, List.set_cons_zero, List.set_cons_succ]))
      | ((refine own_storeX1 (T := 9) HO HX rfl rfl rfl (by first | exact .const | exact .tmp rfl | exact .func) (by rfl) (by first | exact .here | exact .there (.here) | exact .there (.there (.here)) | exact .there (.there (.there (.here))) | exact .there (.there (.there (.there (.here)))) | exact .there (.there (.there (.there (.there (.here)))))) HXS Tryd.sizeOf9 (by repeat constructor) (by rfl) ?_); clear HO HX; intro wN HO HX; (try simp only [Act.put, List.setIfInBounds_toArray, List.set_cons_zero, List.set_cons_succ])))))
  go_ret
  exact ⟨rfl, HO.below⟩
set_option maxRecDepth 100000 in
set_option maxHeartbeats 4000000 in
theorem asked_0_false (x0 x1 x2 x3 x4 x5 x6 x7 x8 : Int) (x9 x10 x11 x12 x13 x14 x15 : Bool) (x16 x17 x18 : Int) (ask other : ByteArray) (w : World) (ha : Gives 9 #[] (.bool true) w) (q1 q2 : Sq) (hl1 : ¬ 100 < ask.size) (hl2 : ¬ 100 < other.size)
    (t1 : Tells 13 #[.agg #[.int .i64 x0, .int .i64 x1, .int .i64 x2, .int .i64 x3, .int .i64 x4, .int .i64 x5, .int .i64 x6, .int .i64 x7, .int .i64 x8, .bool x9, .bool x10, .bool x11, .bool x12, .bool x13, .bool x14, .bool x15, .int .i64 x16, .int .i64 x17, .int .i64 x18], .string ask] q1 w) (t2 : Tells 13 #[.agg #[.int .i64 x0, .int .i64 x1, .int .i64 x2, .int .i64 x3, .int .i64 x4, .int .i64 x5, .int .i64 x6, .int .i64 x7, .int .i64 x8, .bool x9, .bool x10, .bool x11, .bool x12, .bool x13, .bool x14, .bool x15, .int .i64 x16, .int .i64 x17, .int .i64 x18], .string other] q2 w) (k0 : (ask.toList == ([109] : List UInt8)) = true) (hr : (q1.data.toList == ([] : List UInt8)) = false) :
    Calls Tryd.prog 4 #[.agg #[.int .i64 x0, .int .i64 x1, .int .i64 x2, .int .i64 x3, .int .i64 x4, .int .i64 x5, .int .i64 x6, .int .i64 x7, .int .i64 x8, .bool x9, .bool x10, .bool x11, .bool x12, .bool x13, .bool x14, .bool x15, .int .i64 x16, .int .i64 x17, .int .i64 x18], .string ask, .string other] w fun e w' => e = .returned (.bool true) ∧ Below w.heap.size w w' := by
  have HO := Mine.start w
  have HX : (fun _ : World => True) w := trivial
  have HXB : XB (fun _ : World => True) := fun _ _ _ _ => trivial
  have HXS : XS 30 (fun _ : World => True) := fun _ _ _ _ _ _ => trivial
  have HA := Lib.hid ha
  have T1 := Lib.hid t1
  have T2 := Lib.hid t2
  have hg_ask : decide ((ask.size : Int) > 100) = false := decide_eq_false (by omega)
  have hl_ask : decide (100 < (ask.size : Int)) = false := hg_ask
  have hg_other : decide ((other.size : Int) > 100) = false := decide_eq_false (by omega)
  have hl_other : decide (100 < (other.size : Int)) = false := hg_other
  clear ha t1 t2 hl1 hl2
  go_enter Tryd.func4, Tryd.ntmps4
  go_wp2_with (first
      | (go_at_call 13; first | (refine (T1.out _ HO.below).mono ?_; clear T1; rintro eN wN ⟨vR, rfl, ⟨uR, rfl, hS⟩, hbN⟩; obtain ⟨vA, cA, rfl⟩ := Kd.S_slice hS; have hS2 := Kd.S_lower hS HO.below.size; have HON := HO.call hbN; clear HO HX HXB HXS hbN hS; have HO := HON; clear HON; (have HX : (fun W => Kd.S (Kd.slice 3 (Kd.int .i64)) 52 W w.heap.size (fun _ => True) (.slice vA q1.rows.length cA) q1.rows) wN := hS2); have HXB := XB.rows (Kd.slice 3 (Kd.int .i64)) 52 w.heap.size (fun _ => True) (.slice vA q1.rows.length cA) q1.rows; have HXS := XS.rows (Kd.slice 3 (Kd.int .i64)) 52 w.heap.size (fun _ => True) (.slice vA q1.rows.length cA) q1.rows (T := 30) (by decide); clear hS2; unfold seqV) | (refine (T2.out _ HO.below).mono ?_; clear T2; rintro eN wN ⟨vR, rfl, ⟨uR, rfl, hS⟩, hbN⟩; obtain ⟨vB, cB, rfl⟩ := Kd.S_slice hS; have hS2 := Kd.S_lower hS HO.below.size; have HON := HO.call hbN; have HXN := HXB _ _ HX hbN; clear HO HX HXB HXS hbN hS; have HO := HON; clear HON; (have HX : (fun W => Kd.S (Kd.slice 3 (Kd.int .i64)) 52 W w.heap.size (fun _ => True) (.slice vA q1.rows.length cA) q1.rows ∧ Kd.S (Kd.slice 3 (Kd.int .i64)) 52 W w.heap.size (fun _ => True) (.slice vB q2.rows.length cB) q2.rows) wN := ⟨HXN, hS2⟩); have HXB := (XB.rows (Kd.slice 3 (Kd.int .i64)) 52 w.heap.size (fun _ => True) (.slice vA q1.rows.length cA) q1.rows).and (XB.rows (Kd.slice 3 (Kd.int .i64)) 52 w.heap.size (fun _ => True) (.slice vB q2.rows.length cB) q2.rows); have HXS := (XS.rows (Kd.slice 3 (Kd.int .i64)) 52 w.heap.size (fun _ => True) (.slice vA q1.rows.length cA) q1.rows (T := 30) (by decide)).and (XS.rows (Kd.slice 3 (Kd.int .i64)) 52 w.heap.size (fun _ => True) (.slice vB q2.rows.length cB) q2.rows (T := 30) (by decide)); clear hS2 HXN; unfold seqV))
      | (go_at_call 9; refine (HA.out _ HO.below).mono ?_; rintro eN wN ⟨rfl, hbN⟩; have HON := HO.call hbN; have HXN := HXB _ _ HX hbN; clear HO HX hbN; have HO := HON; have HX := HXN; clear HON HXN)
      | ((with_reducible refine gate ?_); (first
      | ((refine own_boxX HO HX HXB rfl rfl rfl ?_); clear HO HX; intro gN wN hgN HO HX; (simp only [List.nil_append, List.cons_append] at HO); (try simp only [Act.put, List.setIfInBounds_toArray, List.set_cons_zero, List.set_cons_succ]))
      | ((refine own_allocX (T := 30) HO HX HXB rfl rfl Tryd.zeroValue30 rfl ?_); clear HO HX; intro gN wN hgN HO HX; (simp only [List.nil_append, List.cons_append] at HO); (try simp only [Act.put, List.setIfInBounds_toArray, List.set_cons_zero, List.set_cons_succ]))
      | ((refine own_load (T := 25) HO rfl rfl rfl (by first | exact .head _ | exact .tail _ (.head _) | exact .tail _ (.tail _ (.head _)) | exact .tail _ (.tail _ (.tail _ (.head _))) | exact .tail _ (.tail _ (.tail _ (.tail _ (.head _)))) | exact .tail _ (.tail _ (.tail _ (.tail _ (.tail _ (.head _)))))) Tryd.isAgg25 Tryd.sizeOf25 (by repeat constructor) ?_); (try simp only [Act.put, List.setIfInBounds_toArray, List.set_cons_zero, List.set_cons_succ]))
      | ((refine own_load (T := 30) HO rfl rfl rfl (by first | exact .head _ | exact .tail _ (.head _) | exact .tail _ (.tail _ (.head _)) | exact .tail _ (.tail _ (.tail _ (.head _))) | exact .tail _ (.tail _ (.tail _ (.tail _ (.head _)))) | exact .tail _ (.tail _ (.tail _ (.tail _ (.tail _ (.head _)))))) Tryd.isAgg30 Tryd.sizeOf30 (by repeat constructor) ?_); (try simp only [Act.put, List.setIfInBounds_toArray, List.set_cons_zero, List.set_cons_succ]))
      | ((refine own_load1 (T := 9) HO rfl rfl rfl (by first | exact .head _ | exact .tail _ (.head _) | exact .tail _ (.tail _ (.head _)) | exact .tail _ (.tail _ (.tail _ (.head _))) | exact .tail _ (.tail _ (.tail _ (.tail _ (.head _)))) | exact .tail _ (.tail _ (.tail _ (.tail _ (.tail _ (.head _)))))) Tryd.isAgg9 rfl ?_); (try simp only [Act.put, List.setIfInBounds_toArray, List.set_cons_zero, List.set_cons_succ]))
      | ((refine own_storeX (T := 25) HO HX rfl rfl rfl rfl (by first | exact .here | exact .there (.here) | exact .there (.there (.here)) | exact .there (.there (.there (.here))) | exact .there (.there (.there (.there (.here)))) | exact .there (.there (.there (.there (.there (.here)))))) HXS Tryd.sizeOf25 (by repeat constructor) rfl ?_); clear HO HX; intro wN HO HX; (try simp only [Act.put, List.setIfInBounds_toArray, List.set_cons_zero, List.set_cons_succ]))
      | ((refine own_storeX (T := 30) HO HX rfl rfl rfl rfl (by first | exact .here | exact .there (.here) | exact .there (.there (.here)) | exact .there (.there (.there (.here))) | exact .there (.there (.there (.there (.here)))) | exact .there (.there (.there (.there (.there (.here)))))) HXS Tryd.sizeOf30 (by repeat constructor) rfl ?_); clear HO HX; intro wN HO HX; (try simp only [Act.put, List.setIfInBounds_toArray, List.set_cons_zero, List.set_cons_succ]))
      | ((refine own_storeX1 (T := 9) HO HX rfl rfl rfl (by first | exact .const | exact .tmp rfl | exact .func) (by rfl) (by first | exact .here | exact .there (.here) | exact .there (.there (.here)) | exact .there (.there (.there (.here))) | exact .there (.there (.there (.there (.here)))) | exact .there (.there (.there (.there (.there (.here)))))) HXS Tryd.sizeOf9 (by repeat constructor) (by rfl) ?_); clear HO HX; intro wN HO HX; (try simp only [Act.put, List.setIfInBounds_toArray, List.set_cons_zero, List.set_cons_succ])))))
  go_ret
  exact ⟨rfl, HO.below⟩
set_option maxRecDepth 100000 in
set_option maxHeartbeats 4000000 in
theorem asked_0_true_false (x0 x1 x2 x3 x4 x5 x6 x7 x8 : Int) (x9 x10 x11 x12 x13 x14 x15 : Bool) (x16 x17 x18 : Int) (ask other : ByteArray) (w : World) (ha : Gives 9 #[] (.bool true) w) (q1 q2 : Sq) (hl1 : ¬ 100 < ask.size) (hl2 : ¬ 100 < other.size)
    (t1 : Tells 13 #[.agg #[.int .i64 x0, .int .i64 x1, .int .i64 x2, .int .i64 x3, .int .i64 x4, .int .i64 x5, .int .i64 x6, .int .i64 x7, .int .i64 x8, .bool x9, .bool x10, .bool x11, .bool x12, .bool x13, .bool x14, .bool x15, .int .i64 x16, .int .i64 x17, .int .i64 x18], .string ask] q1 w) (t2 : Tells 13 #[.agg #[.int .i64 x0, .int .i64 x1, .int .i64 x2, .int .i64 x3, .int .i64 x4, .int .i64 x5, .int .i64 x6, .int .i64 x7, .int .i64 x8, .bool x9, .bool x10, .bool x11, .bool x12, .bool x13, .bool x14, .bool x15, .int .i64 x16, .int .i64 x17, .int .i64 x18], .string other] q2 w) (k0 : (ask.toList == ([109] : List UInt8)) = true) (hr : (q1.data.toList == ([] : List UInt8)) = true) (hb : (q2.data.toList != ([] : List UInt8)) = true) :
    Calls Tryd.prog 4 #[.agg #[.int .i64 x0, .int .i64 x1, .int .i64 x2, .int .i64 x3, .int .i64 x4, .int .i64 x5, .int .i64 x6, .int .i64 x7, .int .i64 x8, .bool x9, .bool x10, .bool x11, .bool x12, .bool x13, .bool x14, .bool x15, .int .i64 x16, .int .i64 x17, .int .i64 x18], .string ask, .string other] w fun e w' => e = .returned (.bool true) ∧ Below w.heap.size w w' := by
  have HO := Mine.start w
  have HX : (fun _ : World => True) w := trivial
  have HXB : XB (fun _ : World => True) := fun _ _ _ _ => trivial
  have HXS : XS 30 (fun _ : World => True) := fun _ _ _ _ _ _ => trivial
  have HA := Lib.hid ha
  have T1 := Lib.hid t1
  have T2 := Lib.hid t2
  have hb0 : (q2.data.toList == ([] : List UInt8)) = false := by cases hq : (q2.data.toList == ([] : List UInt8)) <;> simp [bne, hq] at hb ⊢
  have hg_ask : decide ((ask.size : Int) > 100) = false := decide_eq_false (by omega)
  have hl_ask : decide (100 < (ask.size : Int)) = false := hg_ask
  have hg_other : decide ((other.size : Int) > 100) = false := decide_eq_false (by omega)
  have hl_other : decide (100 < (other.size : Int)) = false := hg_other
  clear ha t1 t2 hl1 hl2
  go_enter Tryd.func4, Tryd.ntmps4
  go_wp2_with (first
      | (go_at_call 13; first | (refine (T1.out _ HO.below).mono ?_; clear T1; rintro eN wN ⟨vR, rfl, ⟨uR, rfl, hS⟩, hbN⟩; obtain ⟨vA, cA, rfl⟩ := Kd.S_slice hS; have hS2 := Kd.S_lower hS HO.below.size; have HON := HO.call hbN; clear HO HX HXB HXS hbN hS; have HO := HON; clear HON; (have HX : (fun W => Kd.S (Kd.slice 3 (Kd.int .i64)) 52 W w.heap.size (fun _ => True) (.slice vA q1.rows.length cA) q1.rows) wN := hS2); have HXB := XB.rows (Kd.slice 3 (Kd.int .i64)) 52 w.heap.size (fun _ => True) (.slice vA q1.rows.length cA) q1.rows; have HXS := XS.rows (Kd.slice 3 (Kd.int .i64)) 52 w.heap.size (fun _ => True) (.slice vA q1.rows.length cA) q1.rows (T := 30) (by decide); clear hS2; unfold seqV) | (refine (T2.out _ HO.below).mono ?_; clear T2; rintro eN wN ⟨vR, rfl, ⟨uR, rfl, hS⟩, hbN⟩; obtain ⟨vB, cB, rfl⟩ := Kd.S_slice hS; have hS2 := Kd.S_lower hS HO.below.size; have HON := HO.call hbN; have HXN := HXB _ _ HX hbN; clear HO HX HXB HXS hbN hS; have HO := HON; clear HON; (have HX : (fun W => Kd.S (Kd.slice 3 (Kd.int .i64)) 52 W w.heap.size (fun _ => True) (.slice vA q1.rows.length cA) q1.rows ∧ Kd.S (Kd.slice 3 (Kd.int .i64)) 52 W w.heap.size (fun _ => True) (.slice vB q2.rows.length cB) q2.rows) wN := ⟨HXN, hS2⟩); have HXB := (XB.rows (Kd.slice 3 (Kd.int .i64)) 52 w.heap.size (fun _ => True) (.slice vA q1.rows.length cA) q1.rows).and (XB.rows (Kd.slice 3 (Kd.int .i64)) 52 w.heap.size (fun _ => True) (.slice vB q2.rows.length cB) q2.rows); have HXS := (XS.rows (Kd.slice 3 (Kd.int .i64)) 52 w.heap.size (fun _ => True) (.slice vA q1.rows.length cA) q1.rows (T := 30) (by decide)).and (XS.rows (Kd.slice 3 (Kd.int .i64)) 52 w.heap.size (fun _ => True) (.slice vB q2.rows.length cB) q2.rows (T := 30) (by decide)); clear hS2 HXN; unfold seqV))
      | (go_at_call 9; refine (HA.out _ HO.below).mono ?_; rintro eN wN ⟨rfl, hbN⟩; have HON := HO.call hbN; have HXN := HXB _ _ HX hbN; clear HO HX hbN; have HO := HON; have HX := HXN; clear HON HXN)
      | ((with_reducible refine gate ?_); (first
      | ((refine own_boxX HO HX HXB rfl rfl rfl ?_); clear HO HX; intro gN wN hgN HO HX; (simp only [List.nil_append, List.cons_append] at HO); (try simp only [Act.put, List.setIfInBounds_toArray, List.set_cons_zero, List.set_cons_succ]))
      | ((refine own_allocX (T := 30) HO HX HXB rfl rfl Tryd.zeroValue30 rfl ?_); clear HO HX; intro gN wN hgN HO HX; (simp only [List.nil_append, List.cons_append] at HO); (try simp only [Act.put, List.setIfInBounds_toArray, List.set_cons_zero, List.set_cons_succ]))
      | ((refine own_load (T := 25) HO rfl rfl rfl (by first | exact .head _ | exact .tail _ (.head _) | exact .tail _ (.tail _ (.head _)) | exact .tail _ (.tail _ (.tail _ (.head _))) | exact .tail _ (.tail _ (.tail _ (.tail _ (.head _)))) | exact .tail _ (.tail _ (.tail _ (.tail _ (.tail _ (.head _)))))) Tryd.isAgg25 Tryd.sizeOf25 (by repeat constructor) ?_); (try simp only [Act.put, List.setIfInBounds_toArray, List.set_cons_zero, List.set_cons_succ]))
      | ((refine own_load (T := 30) HO rfl rfl rfl (by first | exact .head _ | exact .tail _ (.head _) | exact .tail _ (.tail _ (.head _)) | exact .tail _ (.tail _ (.tail _ (.head _))) | exact .tail _ (.tail _ (.tail _ (.tail _ (.head _)))) | exact .tail _ (.tail _ (.tail _ (.tail _ (.tail _ (.head _)))))) Tryd.isAgg30 Tryd.sizeOf30 (by repeat constructor) ?_); (try simp only [Act.put, List.setIfInBounds_toArray, List.set_cons_zero, List.set_cons_succ]))
      | ((refine own_load1 (T := 9) HO rfl rfl rfl (by first | exact .head _ | exact .tail _ (.head _) | exact .tail _ (.tail _ (.head _)) | exact .tail _ (.tail _ (.tail _ (.head _))) | exact .tail _ (.tail _ (.tail _ (.tail _ (.head _)))) | exact .tail _ (.tail _ (.tail _ (.tail _ (.tail _ (.head _)))))) Tryd.isAgg9 rfl ?_); (try simp only [Act.put, List.setIfInBounds_toArray, List.set_cons_zero, List.set_cons_succ]))
      | ((refine own_storeX (T := 25) HO HX rfl rfl rfl rfl (by first | exact .here | exact .there (.here) | exact .there (.there (.here)) | exact .there (.there (.there (.here))) | exact .there (.there (.there (.there (.here)))) | exact .there (.there (.there (.there (.there (.here)))))) HXS Tryd.sizeOf25 (by repeat constructor) rfl ?_); clear HO HX; intro wN HO HX; (try simp only [Act.put, List.setIfInBounds_toArray, List.set_cons_zero, List.set_cons_succ]))
      | ((refine own_storeX (T := 30) HO HX rfl rfl rfl rfl (by first | exact .here | exact .there (.here) | exact .there (.there (.here)) | exact .there (.there (.there (.here))) | exact .there (.there (.there (.there (.here)))) | exact .there (.there (.there (.there (.there (.here)))))) HXS Tryd.sizeOf30 (by repeat constructor) rfl ?_); clear HO HX; intro wN HO HX; (try simp only [Act.put, List.setIfInBounds_toArray, List.set_cons_zero, List.set_cons_succ]))
      | ((refine own_storeX1 (T := 9) HO HX rfl rfl rfl (by first | exact .const | exact .tmp rfl | exact .func) (by rfl) (by first | exact .here | exact .there (.here) | exact .there (.there (.here)) | exact .there (.there (.there (.here))) | exact .there (.there (.there (.there (.here)))) | exact .there (.there (.there (.there (.there (.here)))))) HXS Tryd.sizeOf9 (by repeat constructor) (by rfl) ?_); clear HO HX; intro wN HO HX; (try simp only [Act.put, List.setIfInBounds_toArray, List.set_cons_zero, List.set_cons_succ])))))
  go_ret
  exact ⟨rfl, HO.below⟩
set_option maxRecDepth 100000 in
set_option maxHeartbeats 4000000 in
theorem asked_0_true_true (x0 x1 x2 x3 x4 x5 x6 x7 x8 : Int) (x9 x10 x11 x12 x13 x14 x15 : Bool) (x16 x17 x18 : Int) (ask other : ByteArray) (w : World) (ha : Gives 9 #[] (.bool true) w) (q1 q2 : Sq) (hl1 : ¬ 100 < ask.size) (hl2 : ¬ 100 < other.size)
    (t1 : Tells 13 #[.agg #[.int .i64 x0, .int .i64 x1, .int .i64 x2, .int .i64 x3, .int .i64 x4, .int .i64 x5, .int .i64 x6, .int .i64 x7, .int .i64 x8, .bool x9, .bool x10, .bool x11, .bool x12, .bool x13, .bool x14, .bool x15, .int .i64 x16, .int .i64 x17, .int .i64 x18], .string ask] q1 w) (t2 : Tells 13 #[.agg #[.int .i64 x0, .int .i64 x1, .int .i64 x2, .int .i64 x3, .int .i64 x4, .int .i64 x5, .int .i64 x6, .int .i64 x7, .int .i64 x8, .bool x9, .bool x10, .bool x11, .bool x12, .bool x13, .bool x14, .bool x15, .int .i64 x16, .int .i64 x17, .int .i64 x18], .string other] q2 w) (k0 : (ask.toList == ([109] : List UInt8)) = true) (hr : (q1.data.toList == ([] : List UInt8)) = true) (hb : (q2.data.toList != ([] : List UInt8)) = false) (h1 : SameIs q1 q2 true w) :
    Calls Tryd.prog 4 #[.agg #[.int .i64 x0, .int .i64 x1, .int .i64 x2, .int .i64 x3, .int .i64 x4, .int .i64 x5, .int .i64 x6, .int .i64 x7, .int .i64 x8, .bool x9, .bool x10, .bool x11, .bool x12, .bool x13, .bool x14, .bool x15, .int .i64 x16, .int .i64 x17, .int .i64 x18], .string ask, .string other] w fun e w' => e = .returned (.bool true) ∧ Below w.heap.size w w' := by
  have HO := Mine.start w
  have HX : (fun _ : World => True) w := trivial
  have HXB : XB (fun _ : World => True) := fun _ _ _ _ => trivial
  have HXS : XS 30 (fun _ : World => True) := fun _ _ _ _ _ _ => trivial
  have HA := Lib.hid ha
  have T1 := Lib.hid t1
  have T2 := Lib.hid t2
  have H1 := Lib.hid h1
  have hb0 : (q2.data.toList == ([] : List UInt8)) = true := by cases hq : (q2.data.toList == ([] : List UInt8)) <;> simp [bne, hq] at hb ⊢
  have hg_ask : decide ((ask.size : Int) > 100) = false := decide_eq_false (by omega)
  have hl_ask : decide (100 < (ask.size : Int)) = false := hg_ask
  have hg_other : decide ((other.size : Int) > 100) = false := decide_eq_false (by omega)
  have hl_other : decide (100 < (other.size : Int)) = false := hg_other
  clear ha t1 t2 hl1 hl2 h1
  go_enter Tryd.func4, Tryd.ntmps4
  go_wp2_with (first
      | (go_at_call 13; first | (refine (T1.out _ HO.below).mono ?_; clear T1; rintro eN wN ⟨vR, rfl, ⟨uR, rfl, hS⟩, hbN⟩; obtain ⟨vA, cA, rfl⟩ := Kd.S_slice hS; have hS2 := Kd.S_lower hS HO.below.size; have HON := HO.call hbN; clear HO HX HXB HXS hbN hS; have HO := HON; clear HON; (have HX : (fun W => Kd.S (Kd.slice 3 (Kd.int .i64)) 52 W w.heap.size (fun _ => True) (.slice vA q1.rows.length cA) q1.rows) wN := hS2); have HXB := XB.rows (Kd.slice 3 (Kd.int .i64)) 52 w.heap.size (fun _ => True) (.slice vA q1.rows.length cA) q1.rows; have HXS := XS.rows (Kd.slice 3 (Kd.int .i64)) 52 w.heap.size (fun _ => True) (.slice vA q1.rows.length cA) q1.rows (T := 30) (by decide); clear hS2; unfold seqV) | (refine (T2.out _ HO.below).mono ?_; clear T2; rintro eN wN ⟨vR, rfl, ⟨uR, rfl, hS⟩, hbN⟩; obtain ⟨vB, cB, rfl⟩ := Kd.S_slice hS; have hS2 := Kd.S_lower hS HO.below.size; have HON := HO.call hbN; have HXN := HXB _ _ HX hbN; clear HO HX HXB HXS hbN hS; have HO := HON; clear HON; (have HX : (fun W => Kd.S (Kd.slice 3 (Kd.int .i64)) 52 W w.heap.size (fun _ => True) (.slice vA q1.rows.length cA) q1.rows ∧ Kd.S (Kd.slice 3 (Kd.int .i64)) 52 W w.heap.size (fun _ => True) (.slice vB q2.rows.length cB) q2.rows) wN := ⟨HXN, hS2⟩); have HXB := (XB.rows (Kd.slice 3 (Kd.int .i64)) 52 w.heap.size (fun _ => True) (.slice vA q1.rows.length cA) q1.rows).and (XB.rows (Kd.slice 3 (Kd.int .i64)) 52 w.heap.size (fun _ => True) (.slice vB q2.rows.length cB) q2.rows); have HXS := (XS.rows (Kd.slice 3 (Kd.int .i64)) 52 w.heap.size (fun _ => True) (.slice vA q1.rows.length cA) q1.rows (T := 30) (by decide)).and (XS.rows (Kd.slice 3 (Kd.int .i64)) 52 w.heap.size (fun _ => True) (.slice vB q2.rows.length cB) q2.rows (T := 30) (by decide)); clear hS2 HXN; unfold seqV))
      | (go_at_call 9; refine (HA.out _ HO.below).mono ?_; rintro eN wN ⟨rfl, hbN⟩; have HON := HO.call hbN; have HXN := HXB _ _ HX hbN; clear HO HX hbN; have HO := HON; have HX := HXN; clear HON HXN)
      | (go_at_call 10; refine (H1.out _ _ _ _ _ HO.below ⟨_, rfl, HX.1⟩ ⟨_, rfl, HX.2⟩).mono ?_; rintro eN wN ⟨rfl, hbN⟩; have HON := HO.call hbN; have HXN := HXB _ _ HX hbN; clear HO HX hbN; have HO := HON; have HX := HXN; clear HON HXN)
      | ((with_reducible refine gate ?_); (first
      | ((refine own_boxX HO HX HXB rfl rfl rfl ?_); clear HO HX; intro gN wN hgN HO HX; (simp only [List.nil_append, List.cons_append] at HO); (try simp only [Act.put, List.setIfInBounds_toArray, List.set_cons_zero, List.set_cons_succ]))
      | ((refine own_allocX (T := 30) HO HX HXB rfl rfl Tryd.zeroValue30 rfl ?_); clear HO HX; intro gN wN hgN HO HX; (simp only [List.nil_append, List.cons_append] at HO); (try simp only [Act.put, List.setIfInBounds_toArray, List.set_cons_zero, List.set_cons_succ]))
      | ((refine own_load (T := 25) HO rfl rfl rfl (by first | exact .head _ | exact .tail _ (.head _) | exact .tail _ (.tail _ (.head _)) | exact .tail _ (.tail _ (.tail _ (.head _))) | exact .tail _ (.tail _ (.tail _ (.tail _ (.head _)))) | exact .tail _ (.tail _ (.tail _ (.tail _ (.tail _ (.head _)))))) Tryd.isAgg25 Tryd.sizeOf25 (by repeat constructor) ?_); (try simp only [Act.put, List.setIfInBounds_toArray, List.set_cons_zero, List.set_cons_succ]))
      | ((refine own_load (T := 30) HO rfl rfl rfl (by first | exact .head _ | exact .tail _ (.head _) | exact .tail _ (.tail _ (.head _)) | exact .tail _ (.tail _ (.tail _ (.head _))) | exact .tail _ (.tail _ (.tail _ (.tail _ (.head _)))) | exact .tail _ (.tail _ (.tail _ (.tail _ (.tail _ (.head _)))))) Tryd.isAgg30 Tryd.sizeOf30 (by repeat constructor) ?_); (try simp only [Act.put, List.setIfInBounds_toArray, List.set_cons_zero, List.set_cons_succ]))
      | ((refine own_load1 (T := 9) HO rfl rfl rfl (by first | exact .head _ | exact .tail _ (.head _) | exact .tail _ (.tail _ (.head _)) | exact .tail _ (.tail _ (.tail _ (.head _))) | exact .tail _ (.tail _ (.tail _ (.tail _ (.head _)))) | exact .tail _ (.tail _ (.tail _ (.tail _ (.tail _ (.head _)))))) Tryd.isAgg9 rfl ?_); (try simp only [Act.put, List.setIfInBounds_toArray, List.set_cons_zero, List.set_cons_succ]))
      | ((refine own_storeX (T := 25) HO HX rfl rfl rfl rfl (by first | exact .here | exact .there (.here) | exact .there (.there (.here)) | exact .there (.there (.there (.here))) | exact .there (.there (.there (.there (.here)))) | exact .there (.there (.there (.there (.there (.here)))))) HXS Tryd.sizeOf25 (by repeat constructor) rfl ?_); clear HO HX; intro wN HO HX; (try simp only [Act.put, List.setIfInBounds_toArray, List.set_cons_zero, List.set_cons_succ]))
      | ((refine own_storeX (T := 30) HO HX rfl rfl rfl rfl (by first | exact .here | exact .there (.here) | exact .there (.there (.here)) | exact .there (.there (.there (.here))) | exact .there (.there (.there (.there (.here)))) | exact .there (.there (.there (.there (.there (.here)))))) HXS Tryd.sizeOf30 (by repeat constructor) rfl ?_); clear HO HX; intro wN HO HX; (try simp only [Act.put, List.setIfInBounds_toArray, List.set_cons_zero, List.set_cons_succ]))
      | ((refine own_storeX1 (T := 9) HO HX rfl rfl rfl (by first | exact .const | exact .tmp rfl | exact .func) (by rfl) (by first | exact .here | exact .there (.here) | exact .there (.there (.here)) | exact .there (.there (.there (.here))) | exact .there (.there (.there (.there (.here)))) | exact .there (.there (.there (.there (.there (.here)))))) HXS Tryd.sizeOf9 (by repeat constructor) (by rfl) ?_); clear HO HX; intro wN HO HX; (try simp only [Act.put, List.setIfInBounds_toArray, List.set_cons_zero, List.set_cons_succ])))))
  go_ret
  exact ⟨rfl, HO.below⟩
set_option maxRecDepth 100000 in
set_option maxHeartbeats 4000000 in
theorem asked_1_false (x0 x1 x2 x3 x4 x5 x6 x7 x8 : Int) (x9 x10 x11 x12 x13 x14 x15 : Bool) (x16 x17 x18 : Int) (ask other : ByteArray) (w : World) (ha : Gives 9 #[] (.bool true) w) (q1 q2 : Sq) (hl1 : ¬ 100 < ask.size) (hl2 : ¬ 100 < other.size)
    (t1 : Tells 13 #[.agg #[.int .i64 x0, .int .i64 x1, .int .i64 x2, .int .i64 x3, .int .i64 x4, .int .i64 x5, .int .i64 x6, .int .i64 x7, .int .i64 x8, .bool x9, .bool x10, .bool x11, .bool x12, .bool x13, .bool x14, .bool x15, .int .i64 x16, .int .i64 x17, .int .i64 x18], .string ask] q1 w) (t2 : Tells 13 #[.agg #[.int .i64 x0, .int .i64 x1, .int .i64 x2, .int .i64 x3, .int .i64 x4, .int .i64 x5, .int .i64 x6, .int .i64 x7, .int .i64 x8, .bool x9, .bool x10, .bool x11, .bool x12, .bool x13, .bool x14, .bool x15, .int .i64 x16, .int .i64 x17, .int .i64 x18], .string other] q2 w) (k0 : (ask.toList == ([109] : List UInt8)) = false) (k1 : (ask.toList == ([114] : List UInt8)) = true) (hr : (q1.data.toList == ([] : List UInt8)) = false) :
    Calls Tryd.prog 4 #[.agg #[.int .i64 x0, .int .i64 x1, .int .i64 x2, .int .i64 x3, .int .i64 x4, .int .i64 x5, .int .i64 x6, .int .i64 x7, .int .i64 x8, .bool x9, .bool x10, .bool x11, .bool x12, .bool x13, .bool x14, .bool x15, .int .i64 x16, .int .i64 x17, .int .i64 x18], .string ask, .string other] w fun e w' => e = .returned (.bool true) ∧ Below w.heap.size w w' := by
  have HO := Mine.start w
  have HX : (fun _ : World => True) w := trivial
  have HXB : XB (fun _ : World => True) := fun _ _ _ _ => trivial
  have HXS : XS 30 (fun _ : World => True) := fun _ _ _ _ _ _ => trivial
  have HA := Lib.hid ha
  have T1 := Lib.hid t1
  have T2 := Lib.hid t2
  have hg_ask : decide ((ask.size : Int) > 100) = false := decide_eq_false (by omega)
  have hl_ask : decide (100 < (ask.size : Int)) = false := hg_ask
  have hg_other : decide ((other.size : Int) > 100) = false := decide_eq_false (by omega)
  have hl_other : decide (100 < (other.size : Int)) = false := hg_other
  clear ha t1 t2 hl1 hl2
  go_enter Tryd.func4, Tryd.ntmps4
  go_wp2_with (first
      | (go_at_call 13; first | (refine (T1.out _ HO.below).mono ?_; clear T1; rintro eN wN ⟨vR, rfl, ⟨uR, rfl, hS⟩, hbN⟩; obtain ⟨vA, cA, rfl⟩ := Kd.S_slice hS; have hS2 := Kd.S_lower hS HO.below.size; have HON := HO.call hbN; clear HO HX HXB HXS hbN hS; have HO := HON; clear HON; (have HX : (fun W => Kd.S (Kd.slice 3 (Kd.int .i64)) 52 W w.heap.size (fun _ => True) (.slice vA q1.rows.length cA) q1.rows) wN := hS2); have HXB := XB.rows (Kd.slice 3 (Kd.int .i64)) 52 w.heap.size (fun _ => True) (.slice vA q1.rows.length cA) q1.rows; have HXS := XS.rows (Kd.slice 3 (Kd.int .i64)) 52 w.heap.size (fun _ => True) (.slice vA q1.rows.length cA) q1.rows (T := 30) (by decide); clear hS2; unfold seqV) | (refine (T2.out _ HO.below).mono ?_; clear T2; rintro eN wN ⟨vR, rfl, ⟨uR, rfl, hS⟩, hbN⟩; obtain ⟨vB, cB, rfl⟩ := Kd.S_slice hS; have hS2 := Kd.S_lower hS HO.below.size; have HON := HO.call hbN; have HXN := HXB _ _ HX hbN; clear HO HX HXB HXS hbN hS; have HO := HON; clear HON; (have HX : (fun W => Kd.S (Kd.slice 3 (Kd.int .i64)) 52 W w.heap.size (fun _ => True) (.slice vA q1.rows.length cA) q1.rows ∧ Kd.S (Kd.slice 3 (Kd.int .i64)) 52 W w.heap.size (fun _ => True) (.slice vB q2.rows.length cB) q2.rows) wN := ⟨HXN, hS2⟩); have HXB := (XB.rows (Kd.slice 3 (Kd.int .i64)) 52 w.heap.size (fun _ => True) (.slice vA q1.rows.length cA) q1.rows).and (XB.rows (Kd.slice 3 (Kd.int .i64)) 52 w.heap.size (fun _ => True) (.slice vB q2.rows.length cB) q2.rows); have HXS := (XS.rows (Kd.slice 3 (Kd.int .i64)) 52 w.heap.size (fun _ => True) (.slice vA q1.rows.length cA) q1.rows (T := 30) (by decide)).and (XS.rows (Kd.slice 3 (Kd.int .i64)) 52 w.heap.size (fun _ => True) (.slice vB q2.rows.length cB) q2.rows (T := 30) (by decide)); clear hS2 HXN; unfold seqV))
      | (go_at_call 9; refine (HA.out _ HO.below).mono ?_; rintro eN wN ⟨rfl, hbN⟩; have HON := HO.call hbN; have HXN := HXB _ _ HX hbN; clear HO HX hbN; have HO := HON; have HX := HXN; clear HON HXN)
      | ((with_reducible refine gate ?_); (first
      | ((refine own_boxX HO HX HXB rfl rfl rfl ?_); clear HO HX; intro gN wN hgN HO HX; (simp only [List.nil_append, List.cons_append] at HO); (try simp only [Act.put, List.setIfInBounds_toArray, List.set_cons_zero, List.set_cons_succ]))
      | ((refine own_allocX (T := 30) HO HX HXB rfl rfl Tryd.zeroValue30 rfl ?_); clear HO HX; intro gN wN hgN HO HX; (simp only [List.nil_append, List.cons_append] at HO); (try simp only [Act.put, List.setIfInBounds_toArray, List.set_cons_zero, List.set_cons_succ]))
      | ((refine own_load (T := 25) HO rfl rfl rfl (by first | exact .head _ | exact .tail _ (.head _) | exact .tail _ (.tail _ (.head _)) | exact .tail _ (.tail _ (.tail _ (.head _))) | exact .tail _ (.tail _ (.tail _ (.tail _ (.head _)))) | exact .tail _ (.tail _ (.tail _ (.tail _ (.tail _ (.head _)))))) Tryd.isAgg25 Tryd.sizeOf25 (by repeat constructor) ?_); (try simp only [Act.put, List.setIfInBounds_toArray, List.set_cons_zero, List.set_cons_succ]))
      | ((refine own_load (T := 30) HO rfl rfl rfl (by first | exact .head _ | exact .tail _ (.head _) | exact .tail _ (.tail _ (.head _)) | exact .tail _ (.tail _ (.tail _ (.head _))) | exact .tail _ (.tail _ (.tail _ (.tail _ (.head _)))) | exact .tail _ (.tail _ (.tail _ (.tail _ (.tail _ (.head _)))))) Tryd.isAgg30 Tryd.sizeOf30 (by repeat constructor) ?_); (try simp only [Act.put, List.setIfInBounds_toArray, List.set_cons_zero, List.set_cons_succ]))
      | ((refine own_load1 (T := 9) HO rfl rfl rfl (by first | exact .head _ | exact .tail _ (.head _) | exact .tail _ (.tail _ (.head _)) | exact .tail _ (.tail _ (.tail _ (.head _))) | exact .tail _ (.tail _ (.tail _ (.tail _ (.head _)))) | exact .tail _ (.tail _ (.tail _ (.tail _ (.tail _ (.head _)))))) Tryd.isAgg9 rfl ?_); (try simp only [Act.put, List.setIfInBounds_toArray, List.set_cons_zero, List.set_cons_succ]))
      | ((refine own_storeX (T := 25) HO HX rfl rfl rfl rfl (by first | exact .here | exact .there (.here) | exact .there (.there (.here)) | exact .there (.there (.there (.here))) | exact .there (.there (.there (.there (.here)))) | exact .there (.there (.there (.there (.there (.here)))))) HXS Tryd.sizeOf25 (by repeat constructor) rfl ?_); clear HO HX; intro wN HO HX; (try simp only [Act.put, List.setIfInBounds_toArray, List.set_cons_zero, List.set_cons_succ]))
      | ((refine own_storeX (T := 30) HO HX rfl rfl rfl rfl (by first | exact .here | exact .there (.here) | exact .there (.there (.here)) | exact .there (.there (.there (.here))) | exact .there (.there (.there (.there (.here)))) | exact .there (.there (.there (.there (.there (.here)))))) HXS Tryd.sizeOf30 (by repeat constructor) rfl ?_); clear HO HX; intro wN HO HX; (try simp only [Act.put, List.setIfInBounds_toArray, List.set_cons_zero, List.set_cons_succ]))
      | ((refine own_storeX1 (T := 9) HO HX rfl rfl rfl (by first | exact .const | exact .tmp rfl | exact .func) (by rfl) (by first | exact .here | exact .there (.here) | exact .there (.there (.here)) | exact .there (.there (.there (.here))) | exact .there (.there (.there (.there (.here)))) | exact .there (.there (.there (.there (.there (.here)))))) HXS Tryd.sizeOf9 (by repeat constructor) (by rfl) ?_); clear HO HX; intro wN HO HX; (try simp only [Act.put, List.setIfInBounds_toArray, List.set_cons_zero, List.set_cons_succ])))))
  go_ret
  exact ⟨rfl, HO.below⟩
set_option maxRecDepth 100000 in
set_option maxHeartbeats 4000000 in
theorem asked_2_false (x0 x1 x2 x3 x4 x5 x6 x7 x8 : Int) (x9 x10 x11 x12 x13 x14 x15 : Bool) (x16 x17 x18 : Int) (ask other : ByteArray) (w : World) (ha : Gives 9 #[] (.bool true) w) (q1 q2 : Sq) (hl1 : ¬ 100 < ask.size) (hl2 : ¬ 100 < other.size)
    (t1 : Tells 13 #[.agg #[.int .i64 x0, .int .i64 x1, .int .i64 x2, .int .i64 x3, .int .i64 x4, .int .i64 x5, .int .i64 x6, .int .i64 x7, .int .i64 x8, .bool x9, .bool x10, .bool x11, .bool x12, .bool x13, .bool x14, .bool x15, .int .i64 x16, .int .i64 x17, .int .i64 x18], .string ask] q1 w) (t2 : Tells 13 #[.agg #[.int .i64 x0, .int .i64 x1, .int .i64 x2, .int .i64 x3, .int .i64 x4, .int .i64 x5, .int .i64 x6, .int .i64 x7, .int .i64 x8, .bool x9, .bool x10, .bool x11, .bool x12, .bool x13, .bool x14, .bool x15, .int .i64 x16, .int .i64 x17, .int .i64 x18], .string other] q2 w) (k0 : (ask.toList == ([109] : List UInt8)) = false) (k1 : (ask.toList == ([114] : List UInt8)) = false) (k2 : (ask.toList == ([115] : List UInt8)) = true) (hr : (q1.data.toList == ([] : List UInt8)) = false) :
    Calls Tryd.prog 4 #[.agg #[.int .i64 x0, .int .i64 x1, .int .i64 x2, .int .i64 x3, .int .i64 x4, .int .i64 x5, .int .i64 x6, .int .i64 x7, .int .i64 x8, .bool x9, .bool x10, .bool x11, .bool x12, .bool x13, .bool x14, .bool x15, .int .i64 x16, .int .i64 x17, .int .i64 x18], .string ask, .string other] w fun e w' => e = .returned (.bool true) ∧ Below w.heap.size w w' := by
  have HO := Mine.start w
  have HX : (fun _ : World => True) w := trivial
  have HXB : XB (fun _ : World => True) := fun _ _ _ _ => trivial
  have HXS : XS 30 (fun _ : World => True) := fun _ _ _ _ _ _ => trivial
  have HA := Lib.hid ha
  have T1 := Lib.hid t1
  have T2 := Lib.hid t2
  have hg_ask : decide ((ask.size : Int) > 100) = false := decide_eq_false (by omega)
  have hl_ask : decide (100 < (ask.size : Int)) = false := hg_ask
  have hg_other : decide ((other.size : Int) > 100) = false := decide_eq_false (by omega)
  have hl_other : decide (100 < (other.size : Int)) = false := hg_other
  clear ha t1 t2 hl1 hl2
  go_enter Tryd.func4, Tryd.ntmps4
  go_wp2_with (first
      | (go_at_call 13; first | (refine (T1.out _ HO.below).mono ?_; clear T1; rintro eN wN ⟨vR, rfl, ⟨uR, rfl, hS⟩, hbN⟩; obtain ⟨vA, cA, rfl⟩ := Kd.S_slice hS; have hS2 := Kd.S_lower hS HO.below.size; have HON := HO.call hbN; clear HO HX HXB HXS hbN hS; have HO := HON; clear HON; (have HX : (fun W => Kd.S (Kd.slice 3 (Kd.int .i64)) 52 W w.heap.size (fun _ => True) (.slice vA q1.rows.length cA) q1.rows) wN := hS2); have HXB := XB.rows (Kd.slice 3 (Kd.int .i64)) 52 w.heap.size (fun _ => True) (.slice vA q1.rows.length cA) q1.rows; have HXS := XS.rows (Kd.slice 3 (Kd.int .i64)) 52 w.heap.size (fun _ => True) (.slice vA q1.rows.length cA) q1.rows (T := 30) (by decide); clear hS2; unfold seqV) | (refine (T2.out _ HO.below).mono ?_; clear T2; rintro eN wN ⟨vR, rfl, ⟨uR, rfl, hS⟩, hbN⟩; obtain ⟨vB, cB, rfl⟩ := Kd.S_slice hS; have hS2 := Kd.S_lower hS HO.below.size; have HON := HO.call hbN; have HXN := HXB _ _ HX hbN; clear HO HX HXB HXS hbN hS; have HO := HON; clear HON; (have HX : (fun W => Kd.S (Kd.slice 3 (Kd.int .i64)) 52 W w.heap.size (fun _ => True) (.slice vA q1.rows.length cA) q1.rows ∧ Kd.S (Kd.slice 3 (Kd.int .i64)) 52 W w.heap.size (fun _ => True) (.slice vB q2.rows.length cB) q2.rows) wN := ⟨HXN, hS2⟩); have HXB := (XB.rows (Kd.slice 3 (Kd.int .i64)) 52 w.heap.size (fun _ => True) (.slice vA q1.rows.length cA) q1.rows).and (XB.rows (Kd.slice 3 (Kd.int .i64)) 52 w.heap.size (fun _ => True) (.slice vB q2.rows.length cB) q2.rows); have HXS := (XS.rows (Kd.slice 3 (Kd.int .i64)) 52 w.heap.size (fun _ => True) (.slice vA q1.rows.length cA) q1.rows (T := 30) (by decide)).and (XS.rows (Kd.slice 3 (Kd.int .i64)) 52 w.heap.size (fun _ => True) (.slice vB q2.rows.length cB) q2.rows (T := 30) (by decide)); clear hS2 HXN; unfold seqV))
      | (go_at_call 9; refine (HA.out _ HO.below).mono ?_; rintro eN wN ⟨rfl, hbN⟩; have HON := HO.call hbN; have HXN := HXB _ _ HX hbN; clear HO HX hbN; have HO := HON; have HX := HXN; clear HON HXN)
      | ((with_reducible refine gate ?_); (first
      | ((refine own_boxX HO HX HXB rfl rfl rfl ?_); clear HO HX; intro gN wN hgN HO HX; (simp only [List.nil_append, List.cons_append] at HO); (try simp only [Act.put, List.setIfInBounds_toArray, List.set_cons_zero, List.set_cons_succ]))
      | ((refine own_allocX (T := 30) HO HX HXB rfl rfl Tryd.zeroValue30 rfl ?_); clear HO HX; intro gN wN hgN HO HX; (simp only [List.nil_append, List.cons_append] at HO); (try simp only [Act.put, List.setIfInBounds_toArray, List.set_cons_zero, List.set_cons_succ]))
      | ((refine own_load (T := 25) HO rfl rfl rfl (by first | exact .head _ | exact .tail _ (.head _) | exact .tail _ (.tail _ (.head _)) | exact .tail _ (.tail _ (.tail _ (.head _))) | exact .tail _ (.tail _ (.tail _ (.tail _ (.head _)))) | exact .tail _ (.tail _ (.tail _ (.tail _ (.tail _ (.head _)))))) Tryd.isAgg25 Tryd.sizeOf25 (by repeat constructor) ?_); (try simp only [Act.put, List.setIfInBounds_toArray, List.set_cons_zero, List.set_cons_succ]))
      | ((refine own_load (T := 30) HO rfl rfl rfl (by first | exact .head _ | exact .tail _ (.head _) | exact .tail _ (.tail _ (.head _)) | exact .tail _ (.tail _ (.tail _ (.head _))) | exact .tail _ (.tail _ (.tail _ (.tail _ (.head _)))) | exact .tail _ (.tail _ (.tail _ (.tail _ (.tail _ (.head _)))))) Tryd.isAgg30 Tryd.sizeOf30 (by repeat constructor) ?_); (try simp only [Act.put, List.setIfInBounds_toArray, List.set_cons_zero, List.set_cons_succ]))
      | ((refine own_load1 (T := 9) HO rfl rfl rfl (by first | exact .head _ | exact .tail _ (.head _) | exact .tail _ (.tail _ (.head _)) | exact .tail _ (.tail _ (.tail _ (.head _))) | exact .tail _ (.tail _ (.tail _ (.tail _ (.head _)))) | exact .tail _ (.tail _ (.tail _ (.tail _ (.tail _ (.head _)))))) Tryd.isAgg9 rfl ?_); (try simp only [Act.put, List.setIfInBounds_toArray, List.set_cons_zero, List.set_cons_succ]))
      | ((refine own_storeX (T := 25) HO HX rfl rfl rfl rfl (by first | exact .here | exact .there (.here) | exact .there (.there (.here)) | exact .there (.there (.there (.here))) | exact .there (.there (.there (.there (.here)))) | exact .there (.there (.there (.there (.there (.here)))))) HXS Tryd.sizeOf25 (by repeat constructor) rfl ?_); clear HO HX; intro wN HO HX; (try simp only [Act.put, List.setIfInBounds_toArray, List.set_cons_zero, List.set_cons_succ]))
      | ((refine own_storeX (T := 30) HO HX rfl rfl rfl rfl (by first | exact .here | exact .there (.here) | exact .there (.there (.here)) | exact .there (.there (.there (.here))) | exact .there (.there (.there (.there (.here)))) | exact .there (.there (.there (.there (.there (.here)))))) HXS Tryd.sizeOf30 (by repeat constructor) rfl ?_); clear HO HX; intro wN HO HX; (try simp only [Act.put, List.setIfInBounds_toArray, List.set_cons_zero, List.set_cons_succ]))
      | ((refine own_storeX1 (T := 9) HO HX rfl rfl rfl (by first | exact .const | exact .tmp rfl | exact .func) (by rfl) (by first | exact .here | exact .there (.here) | exact .there (.there (.here)) | exact .there (.there (.there (.here))) | exact .there (.there (.there (.there (.here)))) | exact .there (.there (.there (.there (.there (.here)))))) HXS Tryd.sizeOf9 (by repeat constructor) (by rfl) ?_); clear HO HX; intro wN HO HX; (try simp only [Act.put, List.setIfInBounds_toArray, List.set_cons_zero, List.set_cons_succ])))))
  go_ret
  exact ⟨rfl, HO.below⟩
set_option maxRecDepth 100000 in
set_option maxHeartbeats 4000000 in
theorem asked_3_false (x0 x1 x2 x3 x4 x5 x6 x7 x8 : Int) (x9 x10 x11 x12 x13 x14 x15 : Bool) (x16 x17 x18 : Int) (ask other : ByteArray) (w : World) (ha : Gives 9 #[] (.bool true) w) (q1 q2 : Sq) (hl1 : ¬ 100 < ask.size) (hl2 : ¬ 100 < other.size)
    (t1 : Tells 13 #[.agg #[.int .i64 x0, .int .i64 x1, .int .i64 x2, .int .i64 x3, .int .i64 x4, .int .i64 x5, .int .i64 x6, .int .i64 x7, .int .i64 x8, .bool x9, .bool x10, .bool x11, .bool x12, .bool x13, .bool x14, .bool x15, .int .i64 x16, .int .i64 x17, .int .i64 x18], .string ask] q1 w) (t2 : Tells 13 #[.agg #[.int .i64 x0, .int .i64 x1, .int .i64 x2, .int .i64 x3, .int .i64 x4, .int .i64 x5, .int .i64 x6, .int .i64 x7, .int .i64 x8, .bool x9, .bool x10, .bool x11, .bool x12, .bool x13, .bool x14, .bool x15, .int .i64 x16, .int .i64 x17, .int .i64 x18], .string other] q2 w) (k0 : (ask.toList == ([109] : List UInt8)) = false) (k1 : (ask.toList == ([114] : List UInt8)) = false) (k2 : (ask.toList == ([115] : List UInt8)) = false) (k3 : (ask.toList == ([32, 113] : List UInt8)) = true) (hr : (q1.data.toList == ([] : List UInt8)) = false) :
    Calls Tryd.prog 4 #[.agg #[.int .i64 x0, .int .i64 x1, .int .i64 x2, .int .i64 x3, .int .i64 x4, .int .i64 x5, .int .i64 x6, .int .i64 x7, .int .i64 x8, .bool x9, .bool x10, .bool x11, .bool x12, .bool x13, .bool x14, .bool x15, .int .i64 x16, .int .i64 x17, .int .i64 x18], .string ask, .string other] w fun e w' => e = .returned (.bool true) ∧ Below w.heap.size w w' := by
  have HO := Mine.start w
  have HX : (fun _ : World => True) w := trivial
  have HXB : XB (fun _ : World => True) := fun _ _ _ _ => trivial
  have HXS : XS 30 (fun _ : World => True) := fun _ _ _ _ _ _ => trivial
  have HA := Lib.hid ha
  have T1 := Lib.hid t1
  have T2 := Lib.hid t2
  have hg_ask : decide ((ask.size : Int) > 100) = false := decide_eq_false (by omega)
  have hl_ask : decide (100 < (ask.size : Int)) = false := hg_ask
  have hg_other : decide ((other.size : Int) > 100) = false := decide_eq_false (by omega)
  have hl_other : decide (100 < (other.size : Int)) = false := hg_other
  clear ha t1 t2 hl1 hl2
  go_enter Tryd.func4, Tryd.ntmps4
  go_wp2_with (first
      | (go_at_call 13; first | (refine (T1.out _ HO.below).mono ?_; clear T1; rintro eN wN ⟨vR, rfl, ⟨uR, rfl, hS⟩, hbN⟩; obtain ⟨vA, cA, rfl⟩ := Kd.S_slice hS; have hS2 := Kd.S_lower hS HO.below.size; have HON := HO.call hbN; clear HO HX HXB HXS hbN hS; have HO := HON; clear HON; (have HX : (fun W => Kd.S (Kd.slice 3 (Kd.int .i64)) 52 W w.heap.size (fun _ => True) (.slice vA q1.rows.length cA) q1.rows) wN := hS2); have HXB := XB.rows (Kd.slice 3 (Kd.int .i64)) 52 w.heap.size (fun _ => True) (.slice vA q1.rows.length cA) q1.rows; have HXS := XS.rows (Kd.slice 3 (Kd.int .i64)) 52 w.heap.size (fun _ => True) (.slice vA q1.rows.length cA) q1.rows (T := 30) (by decide); clear hS2; unfold seqV) | (refine (T2.out _ HO.below).mono ?_; clear T2; rintro eN wN ⟨vR, rfl, ⟨uR, rfl, hS⟩, hbN⟩; obtain ⟨vB, cB, rfl⟩ := Kd.S_slice hS; have hS2 := Kd.S_lower hS HO.below.size; have HON := HO.call hbN; have HXN := HXB _ _ HX hbN; clear HO HX HXB HXS hbN hS; have HO := HON; clear HON; (have HX : (fun W => Kd.S (Kd.slice 3 (Kd.int .i64)) 52 W w.heap.size (fun _ => True) (.slice vA q1.rows.length cA) q1.rows ∧ Kd.S (Kd.slice 3 (Kd.int .i64)) 52 W w.heap.size (fun _ => True) (.slice vB q2.rows.length cB) q2.rows) wN := ⟨HXN, hS2⟩); have HXB := (XB.rows (Kd.slice 3 (Kd.int .i64)) 52 w.heap.size (fun _ => True) (.slice vA q1.rows.length cA) q1.rows).and (XB.rows (Kd.slice 3 (Kd.int .i64)) 52 w.heap.size (fun _ => True) (.slice vB q2.rows.length cB) q2.rows); have HXS := (XS.rows (Kd.slice 3 (Kd.int .i64)) 52 w.heap.size (fun _ => True) (.slice vA q1.rows.length cA) q1.rows (T := 30) (by decide)).and (XS.rows (Kd.slice 3 (Kd.int .i64)) 52 w.heap.size (fun _ => True) (.slice vB q2.rows.length cB) q2.rows (T := 30) (by decide)); clear hS2 HXN; unfold seqV))
      | (go_at_call 9; refine (HA.out _ HO.below).mono ?_; rintro eN wN ⟨rfl, hbN⟩; have HON := HO.call hbN; have HXN := HXB _ _ HX hbN; clear HO HX hbN; have HO := HON; have HX := HXN; clear HON HXN)
      | ((with_reducible refine gate ?_); (first
      | ((refine own_boxX HO HX HXB rfl rfl rfl ?_); clear HO HX; intro gN wN hgN HO HX; (simp only [List.nil_append, List.cons_append] at HO); (try simp only [Act.put, List.setIfInBounds_toArray, List.set_cons_zero, List.set_cons_succ]))
      | ((refine own_allocX (T := 30) HO HX HXB rfl rfl Tryd.zeroValue30 rfl ?_); clear HO HX; intro gN wN hgN HO HX; (simp only [List.nil_append, List.cons_append] at HO); (try simp only [Act.put, List.setIfInBounds_toArray, List.set_cons_zero, List.set_cons_succ]))
      | ((refine own_load (T := 25) HO rfl rfl rfl (by first | exact .head _ | exact .tail _ (.head _) | exact .tail _ (.tail _ (.head _)) | exact .tail _ (.tail _ (.tail _ (.head _))) | exact .tail _ (.tail _ (.tail _ (.tail _ (.head _)))) | exact .tail _ (.tail _ (.tail _ (.tail _ (.tail _ (.head _)))))) Tryd.isAgg25 Tryd.sizeOf25 (by repeat constructor) ?_); (try simp only [Act.put, List.setIfInBounds_toArray, List.set_cons_zero, List.set_cons_succ]))
      | ((refine own_load (T := 30) HO rfl rfl rfl (by first | exact .head _ | exact .tail _ (.head _) | exact .tail _ (.tail _ (.head _)) | exact .tail _ (.tail _ (.tail _ (.head _))) | exact .tail _ (.tail _ (.tail _ (.tail _ (.head _)))) | exact .tail _ (.tail _ (.tail _ (.tail _ (.tail _ (.head _)))))) Tryd.isAgg30 Tryd.sizeOf30 (by repeat constructor) ?_); (try simp only [Act.put, List.setIfInBounds_toArray, List.set_cons_zero, List.set_cons_succ]))
      | ((refine own_load1 (T := 9) HO rfl rfl rfl (by first | exact .head _ | exact .tail _ (.head _) | exact .tail _ (.tail _ (.head _)) | exact .tail _ (.tail _ (.tail _ (.head _))) | exact .tail _ (.tail _ (.tail _ (.tail _ (.head _)))) | exact .tail _ (.tail _ (.tail _ (.tail _ (.tail _ (.head _)))))) Tryd.isAgg9 rfl ?_); (try simp only [Act.put, List.setIfInBounds_toArray, List.set_cons_zero, List.set_cons_succ]))
      | ((refine own_storeX (T := 25) HO HX rfl rfl rfl rfl (by first | exact .here | exact .there (.here) | exact .there (.there (.here)) | exact .there (.there (.there (.here))) | exact .there (.there (.there (.there (.here)))) | exact .there (.there (.there (.there (.there (.here)))))) HXS Tryd.sizeOf25 (by repeat constructor) rfl ?_); clear HO HX; intro wN HO HX; (try simp only [Act.put, List.setIfInBounds_toArray, List.set_cons_zero, List.set_cons_succ]))
      | ((refine own_storeX (T := 30) HO HX rfl rfl rfl rfl (by first | exact .here | exact .there (.here) | exact .there (.there (.here)) | exact .there (.there (.there (.here))) | exact .there (.there (.there (.there (.here)))) | exact .there (.there (.there (.there (.there (.here)))))) HXS Tryd.sizeOf30 (by repeat constructor) rfl ?_); clear HO HX; intro wN HO HX; (try simp only [Act.put, List.setIfInBounds_toArray, List.set_cons_zero, List.set_cons_succ]))
      | ((refine own_storeX1 (T := 9) HO HX rfl rfl rfl (by first | exact .const | exact .tmp rfl | exact .func) (by rfl) (by first | exact .here | exact .there (.here) | exact .there (.there (.here)) | exact .there (.there (.there (.here))) | exact .there (.there (.there (.there (.here)))) | exact .there (.there (.there (.there (.there (.here)))))) HXS Tryd.sizeOf9 (by repeat constructor) (by rfl) ?_); clear HO HX; intro wN HO HX; (try simp only [Act.put, List.setIfInBounds_toArray, List.set_cons_zero, List.set_cons_succ])))))
  go_ret
  exact ⟨rfl, HO.below⟩
set_option maxRecDepth 100000 in
set_option maxHeartbeats 4000000 in
theorem asked_4_false (x0 x1 x2 x3 x4 x5 x6 x7 x8 : Int) (x9 x10 x11 x12 x13 x14 x15 : Bool) (x16 x17 x18 : Int) (ask other : ByteArray) (w : World) (ha : Gives 9 #[] (.bool true) w) (q1 q2 : Sq) (hl1 : ¬ 100 < ask.size) (hl2 : ¬ 100 < other.size)
    (t1 : Tells 13 #[.agg #[.int .i64 x0, .int .i64 x1, .int .i64 x2, .int .i64 x3, .int .i64 x4, .int .i64 x5, .int .i64 x6, .int .i64 x7, .int .i64 x8, .bool x9, .bool x10, .bool x11, .bool x12, .bool x13, .bool x14, .bool x15, .int .i64 x16, .int .i64 x17, .int .i64 x18], .string ask] q1 w) (t2 : Tells 13 #[.agg #[.int .i64 x0, .int .i64 x1, .int .i64 x2, .int .i64 x3, .int .i64 x4, .int .i64 x5, .int .i64 x6, .int .i64 x7, .int .i64 x8, .bool x9, .bool x10, .bool x11, .bool x12, .bool x13, .bool x14, .bool x15, .int .i64 x16, .int .i64 x17, .int .i64 x18], .string other] q2 w) (k0 : (ask.toList == ([109] : List UInt8)) = false) (k1 : (ask.toList == ([114] : List UInt8)) = false) (k2 : (ask.toList == ([115] : List UInt8)) = false) (k3 : (ask.toList == ([32, 113] : List UInt8)) = false) (k4 : (ask.toList == ([34, 112] : List UInt8)) = true) (hr : (q1.data.toList == ([] : List UInt8)) = false) :
    Calls Tryd.prog 4 #[.agg #[.int .i64 x0, .int .i64 x1, .int .i64 x2, .int .i64 x3, .int .i64 x4, .int .i64 x5, .int .i64 x6, .int .i64 x7, .int .i64 x8, .bool x9, .bool x10, .bool x11, .bool x12, .bool x13, .bool x14, .bool x15, .int .i64 x16, .int .i64 x17, .int .i64 x18], .string ask, .string other] w fun e w' => e = .returned (.bool true) ∧ Below w.heap.size w w' := by
  have HO := Mine.start w
  have HX : (fun _ : World => True) w := trivial
  have HXB : XB (fun _ : World => True) := fun _ _ _ _ => trivial
  have HXS : XS 30 (fun _ : World => True) := fun _ _ _ _ _ _ => trivial
  have HA := Lib.hid ha
  have T1 := Lib.hid t1
  have T2 := Lib.hid t2
  have hg_ask : decide ((ask.size : Int) > 100) = false := decide_eq_false (by omega)
  have hl_ask : decide (100 < (ask.size : Int)) = false := hg_ask
  have hg_other : decide ((other.size : Int) > 100) = false := decide_eq_false (by omega)
  have hl_other : decide (100 < (other.size : Int)) = false := hg_other
  clear ha t1 t2 hl1 hl2
  go_enter Tryd.func4, Tryd.ntmps4
  go_wp2_with (first
      | (go_at_call 13; first | (refine (T1.out _ HO.below).mono ?_; clear T1; rintro eN wN ⟨vR, rfl, ⟨uR, rfl, hS⟩, hbN⟩; obtain ⟨vA, cA, rfl⟩ := Kd.S_slice hS; have hS2 := Kd.S_lower hS HO.below.size; have HON := HO.call hbN; clear HO HX HXB HXS hbN hS; have HO := HON; clear HON; (have HX : (fun W => Kd.S (Kd.slice 3 (Kd.int .i64)) 52 W w.heap.size (fun _ => True) (.slice vA q1.rows.length cA) q1.rows) wN := hS2); have HXB := XB.rows (Kd.slice 3 (Kd.int .i64)) 52 w.heap.size (fun _ => True) (.slice vA q1.rows.length cA) q1.rows; have HXS := XS.rows (Kd.slice 3 (Kd.int .i64)) 52 w.heap.size (fun _ => True) (.slice vA q1.rows.length cA) q1.rows (T := 30) (by decide); clear hS2; unfold seqV) | (refine (T2.out _ HO.below).mono ?_; clear T2; rintro eN wN ⟨vR, rfl, ⟨uR, rfl, hS⟩, hbN⟩; obtain ⟨vB, cB, rfl⟩ := Kd.S_slice hS; have hS2 := Kd.S_lower hS HO.below.size; have HON := HO.call hbN; have HXN := HXB _ _ HX hbN; clear HO HX HXB HXS hbN hS; have HO := HON; clear HON; (have HX : (fun W => Kd.S (Kd.slice 3 (Kd.int .i64)) 52 W w.heap.size (fun _ => True) (.slice vA q1.rows.length cA) q1.rows ∧ Kd.S (Kd.slice 3 (Kd.int .i64)) 52 W w.heap.size (fun _ => True) (.slice vB q2.rows.length cB) q2.rows) wN := ⟨HXN, hS2⟩); have HXB := (XB.rows (Kd.slice 3 (Kd.int .i64)) 52 w.heap.size (fun _ => True) (.slice vA q1.rows.length cA) q1.rows).and (XB.rows (Kd.slice 3 (Kd.int .i64)) 52 w.heap.size (fun _ => True) (.slice vB q2.rows.length cB) q2.rows); have HXS := (XS.rows (Kd.slice 3 (Kd.int .i64)) 52 w.heap.size (fun _ => True) (.slice vA q1.rows.length cA) q1.rows (T := 30) (by decide)).and (XS.rows (Kd.slice 3 (Kd.int .i64)) 52 w.heap.size (fun _ => True) (.slice vB q2.rows.length cB) q2.rows (T := 30) (by decide)); clear hS2 HXN; unfold seqV))
      | (go_at_call 9; refine (HA.out _ HO.below).mono ?_; rintro eN wN ⟨rfl, hbN⟩; have HON := HO.call hbN; have HXN := HXB _ _ HX hbN; clear HO HX hbN; have HO := HON; have HX := HXN; clear HON HXN)
      | ((with_reducible refine gate ?_); (first
      | ((refine own_boxX HO HX HXB rfl rfl rfl ?_); clear HO HX; intro gN wN hgN HO HX; (simp only [List.nil_append, List.cons_append] at HO); (try simp only [Act.put, List.setIfInBounds_toArray, List.set_cons_zero, List.set_cons_succ]))
      | ((refine own_allocX (T := 30) HO HX HXB rfl rfl Tryd.zeroValue30 rfl ?_); clear HO HX; intro gN wN hgN HO HX; (simp only [List.nil_append, List.cons_append] at HO); (try simp only [Act.put, List.setIfInBounds_toArray, List.set_cons_zero, List.set_cons_succ]))
      | ((refine own_load (T := 25) HO rfl rfl rfl (by first | exact .head _ | exact .tail _ (.head _) | exact .tail _ (.tail _ (.head _)) | exact .tail _ (.tail _ (.tail _ (.head _))) | exact .tail _ (.tail _ (.tail _ (.tail _ (.head _)))) | exact .tail _ (.tail _ (.tail _ (.tail _ (.tail _ (.head _)))))) Tryd.isAgg25 Tryd.sizeOf25 (by repeat constructor) ?_); (try simp only [Act.put, List.setIfInBounds_toArray, List.set_cons_zero, List.set_cons_succ]))
      | ((refine own_load (T := 30) HO rfl rfl rfl (by first | exact .head _ | exact .tail _ (.head _) | exact .tail _ (.tail _ (.head _)) | exact .tail _ (.tail _ (.tail _ (.head _))) | exact .tail _ (.tail _ (.tail _ (.tail _ (.head _)))) | exact .tail _ (.tail _ (.tail _ (.tail _ (.tail _ (.head _)))))) Tryd.isAgg30 Tryd.sizeOf30 (by repeat constructor) ?_); (try simp only [Act.put, List.setIfInBounds_toArray, List.set_cons_zero, List.set_cons_succ]))
      | ((refine own_load1 (T := 9) HO rfl rfl rfl (by first | exact .head _ | exact .tail _ (.head _) | exact .tail _ (.tail _ (.head _)) | exact .tail _ (.tail _ (.tail _ (.head _))) | exact .tail _ (.tail _ (.tail _ (.tail _ (.head _)))) | exact .tail _ (.tail _ (.tail _ (.tail _ (.tail _ (.head _)))))) Tryd.isAgg9 rfl ?_); (try simp only [Act.put, List.setIfInBounds_toArray, List.set_cons_zero, List.set_cons_succ]))
      | ((refine own_storeX (T := 25) HO HX rfl rfl rfl rfl (by first | exact .here | exact .there (.here) | exact .there (.there (.here)) | exact .there (.there (.there (.here))) | exact .there (.there (.there (.there (.here)))) | exact .there (.there (.there (.there (.there (.here)))))) HXS Tryd.sizeOf25 (by repeat constructor) rfl ?_); clear HO HX; intro wN HO HX; (try simp only [Act.put, List.setIfInBounds_toArray, List.set_cons_zero, List.set_cons_succ]))
      | ((refine own_storeX (T := 30) HO HX rfl rfl rfl rfl (by first | exact .here | exact .there (.here) | exact .there (.there (.here)) | exact .there (.there (.there (.here))) | exact .there (.there (.there (.there (.here)))) | exact .there (.there (.there (.there (.there (.here)))))) HXS Tryd.sizeOf30 (by repeat constructor) rfl ?_); clear HO HX; intro wN HO HX; (try simp only [Act.put, List.setIfInBounds_toArray, List.set_cons_zero, List.set_cons_succ]))
      | ((refine own_storeX1 (T := 9) HO HX rfl rfl rfl (by first | exact .const | exact .tmp rfl | exact .func) (by rfl) (by first | exact .here | exact .there (.here) | exact .there (.there (.here)) | exact .there (.there (.there (.here))) | exact .there (.there (.there (.there (.here)))) | exact .there (.there (.there (.there (.there (.here)))))) HXS Tryd.sizeOf9 (by repeat constructor) (by rfl) ?_); clear HO HX; intro wN HO HX; (try simp only [Act.put, List.setIfInBounds_toArray, List.set_cons_zero, List.set_cons_succ])))))
  go_ret
  exact ⟨rfl, HO.below⟩
set_option maxRecDepth 100000 in
set_option maxHeartbeats 4000000 in
theorem asked_5_true_false (x0 x1 x2 x3 x4 x5 x6 x7 x8 : Int) (x9 x10 x11 x12 x13 x14 x15 : Bool) (x16 x17 x18 : Int) (ask other : ByteArray) (w : World) (ha : Gives 9 #[] (.bool true) w) (q1 q2 : Sq) (hl1 : ¬ 100 < ask.size) (hl2 : ¬ 100 < other.size)
    (t1 : Tells 13 #[.agg #[.int .i64 x0, .int .i64 x1, .int .i64 x2, .int .i64 x3, .int .i64 x4, .int .i64 x5, .int .i64 x6, .int .i64 x7, .int .i64 x8, .bool x9, .bool x10, .bool x11, .bool x12, .bool x13, .bool x14, .bool x15, .int .i64 x16, .int .i64 x17, .int .i64 x18], .string ask] q1 w) (t2 : Tells 13 #[.agg #[.int .i64 x0, .int .i64 x1, .int .i64 x2, .int .i64 x3, .int .i64 x4, .int .i64 x5, .int .i64 x6, .int .i64 x7, .int .i64 x8, .bool x9, .bool x10, .bool x11, .bool x12, .bool x13, .bool x14, .bool x15, .int .i64 x16, .int .i64 x17, .int .i64 x18], .string other] q2 w) (k0 : (ask.toList == ([109] : List UInt8)) = false) (k1 : (ask.toList == ([114] : List UInt8)) = false) (k2 : (ask.toList == ([115] : List UInt8)) = false) (k3 : (ask.toList == ([32, 113] : List UInt8)) = false) (k4 : (ask.toList == ([34, 112] : List UInt8)) = false) (hr : (q1.data.toList == ([] : List UInt8)) = true) (hb : (q2.data.toList != ([] : List UInt8)) = true) :
    Calls Tryd.prog 4 #[.agg #[.int .i64 x0, .int .i64 x1, .int .i64 x2, .int .i64 x3, .int .i64 x4, .int .i64 x5, .int .i64 x6, .int .i64 x7, .int .i64 x8, .bool x9, .bool x10, .bool x11, .bool x12, .bool x13, .bool x14, .bool x15, .int .i64 x16, .int .i64 x17, .int .i64 x18], .string ask, .string other] w fun e w' => e = .returned (.bool true) ∧ Below w.heap.size w w' := by
  have HO := Mine.start w
  have HX : (fun _ : World => True) w := trivial
  have HXB : XB (fun _ : World => True) := fun _ _ _ _ => trivial
  have HXS : XS 30 (fun _ : World => True) := fun _ _ _ _ _ _ => trivial
  have HA := Lib.hid ha
  have T1 := Lib.hid t1
  have T2 := Lib.hid t2
  have hb0 : (q2.data.toList == ([] : List UInt8)) = false := by cases hq : (q2.data.toList == ([] : List UInt8)) <;> simp [bne, hq] at hb ⊢
  have hg_ask : decide ((ask.size : Int) > 100) = false := decide_eq_false (by omega)
  have hl_ask : decide (100 < (ask.size : Int)) = false := hg_ask
  have hg_other : decide ((other.size : Int) > 100) = false := decide_eq_false (by omega)
  have hl_other : decide (100 < (other.size : Int)) = false := hg_other
  clear ha t1 t2 hl1 hl2
  go_enter Tryd.func4, Tryd.ntmps4
  go_wp2_with (first
      | (go_at_call 13; first | (refine (T1.out _ HO.below).mono ?_; clear T1; rintro eN wN ⟨vR, rfl, ⟨uR, rfl, hS⟩, hbN⟩; obtain ⟨vA, cA, rfl⟩ := Kd.S_slice hS; have hS2 := Kd.S_lower hS HO.below.size; have HON := HO.call hbN; clear HO HX HXB HXS hbN hS; have HO := HON; clear HON; (have HX : (fun W => Kd.S (Kd.slice 3 (Kd.int .i64)) 52 W w.heap.size (fun _ => True) (.slice vA q1.rows.length cA) q1.rows) wN := hS2); have HXB := XB.rows (Kd.slice 3 (Kd.int .i64)) 52 w.heap.size (fun _ => True) (.slice vA q1.rows.length cA) q1.rows; have HXS := XS.rows (Kd.slice 3 (Kd.int .i64)) 52 w.heap.size (fun _ => True) (.slice vA q1.rows.length cA) q1.rows (T := 30) (by decide); clear hS2; unfold seqV) | (refine (T2.out _ HO.below).mono ?_; clear T2; rintro eN wN ⟨vR, rfl, ⟨uR, rfl, hS⟩, hbN⟩; obtain ⟨vB, cB, rfl⟩ := Kd.S_slice hS; have hS2 := Kd.S_lower hS HO.below.size; have HON := HO.call hbN; have HXN := HXB _ _ HX hbN; clear HO HX HXB HXS hbN hS; have HO := HON; clear HON; (have HX : (fun W => Kd.S (Kd.slice 3 (Kd.int .i64)) 52 W w.heap.size (fun _ => True) (.slice vA q1.rows.length cA) q1.rows ∧ Kd.S (Kd.slice 3 (Kd.int .i64)) 52 W w.heap.size (fun _ => True) (.slice vB q2.rows.length cB) q2.rows) wN := ⟨HXN, hS2⟩); have HXB := (XB.rows (Kd.slice 3 (Kd.int .i64)) 52 w.heap.size (fun _ => True) (.slice vA q1.rows.length cA) q1.rows).and (XB.rows (Kd.slice 3 (Kd.int .i64)) 52 w.heap.size (fun _ => True) (.slice vB q2.rows.length cB) q2.rows); have HXS := (XS.rows (Kd.slice 3 (Kd.int .i64)) 52 w.heap.size (fun _ => True) (.slice vA q1.rows.length cA) q1.rows (T := 30) (by decide)).and (XS.rows (Kd.slice 3 (Kd.int .i64)) 52 w.heap.size (fun _ => True) (.slice vB q2.rows.length cB) q2.rows (T := 30) (by decide)); clear hS2 HXN; unfold seqV))
      | (go_at_call 9; refine (HA.out _ HO.below).mono ?_; rintro eN wN ⟨rfl, hbN⟩; have HON := HO.call hbN; have HXN := HXB _ _ HX hbN; clear HO HX hbN; have HO := HON; have HX := HXN; clear HON HXN)
      | ((with_reducible refine gate ?_); (first
      | ((refine own_boxX HO HX HXB rfl rfl rfl ?_); clear HO HX; intro gN wN hgN HO HX; (simp only [List.nil_append, List.cons_append] at HO); (try simp only [Act.put, List.setIfInBounds_toArray, List.set_cons_zero, List.set_cons_succ]))
      | ((refine own_allocX (T := 30) HO HX HXB rfl rfl Tryd.zeroValue30 rfl ?_); clear HO HX; intro gN wN hgN HO HX; (simp only [List.nil_append, List.cons_append] at HO); (try simp only [Act.put, List.setIfInBounds_toArray, List.set_cons_zero, List.set_cons_succ]))
      | ((refine own_load (T := 25) HO rfl rfl rfl (by first | exact .head _ | exact .tail _ (.head _) | exact .tail _ (.tail _ (.head _)) | exact .tail _ (.tail _ (.tail _ (.head _))) | exact .tail _ (.tail _ (.tail _ (.tail _ (.head _)))) | exact .tail _ (.tail _ (.tail _ (.tail _ (.tail _ (.head _)))))) Tryd.isAgg25 Tryd.sizeOf25 (by repeat constructor) ?_); (try simp only [Act.put, List.setIfInBounds_toArray, List.set_cons_zero, List.set_cons_succ]))
      | ((refine own_load (T := 30) HO rfl rfl rfl (by first | exact .head _ | exact .tail _ (.head _) | exact .tail _ (.tail _ (.head _)) | exact .tail _ (.tail _ (.tail _ (.head _))) | exact .tail _ (.tail _ (.tail _ (.tail _ (.head _)))) | exact .tail _ (.tail _ (.tail _ (.tail _ (.tail _ (.head _)))))) Tryd.isAgg30 Tryd.sizeOf30 (by repeat constructor) ?_); (try simp only [Act.put, List.setIfInBounds_toArray, List.set_cons_zero, List.set_cons_succ]))
      | ((refine own_load1 (T := 9) HO rfl rfl rfl (by first | exact .head _ | exact .tail _ (.head _) | exact .tail _ (.tail _ (.head _)) | exact .tail _ (.tail _ (.tail _ (.head _))) | exact .tail _ (.tail _ (.tail _ (.tail _ (.head _)))) | exact .tail _ (.tail _ (.tail _ (.tail _ (.tail _ (.head _)))))) Tryd.isAgg9 rfl ?_); (try simp only [Act.put, List.setIfInBounds_toArray, List.set_cons_zero, List.set_cons_succ]))
      | ((refine own_storeX (T := 25) HO HX rfl rfl rfl rfl (by first | exact .here | exact .there (.here) | exact .there (.there (.here)) | exact .there (.there (.there (.here))) | exact .there (.there (.there (.there (.here)))) | exact .there (.there (.there (.there (.there (.here)))))) HXS Tryd.sizeOf25 (by repeat constructor) rfl ?_); clear HO HX; intro wN HO HX; (try simp only [Act.put, List.setIfInBounds_toArray, List.set_cons_zero, List.set_cons_succ]))
      | ((refine own_storeX (T := 30) HO HX rfl rfl rfl rfl (by first | exact .here | exact .there (.here) | exact .there (.there (.here)) | exact .there (.there (.there (.here))) | exact .there (.there (.there (.there (.here)))) | exact .there (.there (.there (.there (.there (.here)))))) HXS Tryd.sizeOf30 (by repeat constructor) rfl ?_); clear HO HX; intro wN HO HX; (try simp only [Act.put, List.setIfInBounds_toArray, List.set_cons_zero, List.set_cons_succ]))
      | ((refine own_storeX1 (T := 9) HO HX rfl rfl rfl (by first | exact .const | exact .tmp rfl | exact .func) (by rfl) (by first | exact .here | exact .there (.here) | exact .there (.there (.here)) | exact .there (.there (.there (.here))) | exact .there (.there (.there (.there (.here)))) | exact .there (.there (.there (.there (.there (.here)))))) HXS Tryd.sizeOf9 (by repeat constructor) (by rfl) ?_); clear HO HX; intro wN HO HX; (try simp only [Act.put, List.setIfInBounds_toArray, List.set_cons_zero, List.set_cons_succ])))))
  go_ret
  exact ⟨rfl, HO.below⟩
set_option maxRecDepth 100000 in
set_option maxHeartbeats 4000000 in
theorem asked_5_true_true (x0 x1 x2 x3 x4 x5 x6 x7 x8 : Int) (x9 x10 x11 x12 x13 x14 x15 : Bool) (x16 x17 x18 : Int) (ask other : ByteArray) (w : World) (ha : Gives 9 #[] (.bool true) w) (q1 q2 : Sq) (hl1 : ¬ 100 < ask.size) (hl2 : ¬ 100 < other.size)
    (t1 : Tells 13 #[.agg #[.int .i64 x0, .int .i64 x1, .int .i64 x2, .int .i64 x3, .int .i64 x4, .int .i64 x5, .int .i64 x6, .int .i64 x7, .int .i64 x8, .bool x9, .bool x10, .bool x11, .bool x12, .bool x13, .bool x14, .bool x15, .int .i64 x16, .int .i64 x17, .int .i64 x18], .string ask] q1 w) (t2 : Tells 13 #[.agg #[.int .i64 x0, .int .i64 x1, .int .i64 x2, .int .i64 x3, .int .i64 x4, .int .i64 x5, .int .i64 x6, .int .i64 x7, .int .i64 x8, .bool x9, .bool x10, .bool x11, .bool x12, .bool x13, .bool x14, .bool x15, .int .i64 x16, .int .i64 x17, .int .i64 x18], .string other] q2 w) (k0 : (ask.toList == ([109] : List UInt8)) = false) (k1 : (ask.toList == ([114] : List UInt8)) = false) (k2 : (ask.toList == ([115] : List UInt8)) = false) (k3 : (ask.toList == ([32, 113] : List UInt8)) = false) (k4 : (ask.toList == ([34, 112] : List UInt8)) = false) (hr : (q1.data.toList == ([] : List UInt8)) = true) (hb : (q2.data.toList != ([] : List UInt8)) = false) (h1 : SameIs q1 q2 true w) :
    Calls Tryd.prog 4 #[.agg #[.int .i64 x0, .int .i64 x1, .int .i64 x2, .int .i64 x3, .int .i64 x4, .int .i64 x5, .int .i64 x6, .int .i64 x7, .int .i64 x8, .bool x9, .bool x10, .bool x11, .bool x12, .bool x13, .bool x14, .bool x15, .int .i64 x16, .int .i64 x17, .int .i64 x18], .string ask, .string other] w fun e w' => e = .returned (.bool true) ∧ Below w.heap.size w w' := by
  have HO := Mine.start w
  have HX : (fun _ : World => True) w := trivial
  have HXB : XB (fun _ : World => True) := fun _ _ _ _ => trivial
  have HXS : XS 30 (fun _ : World => True) := fun _ _ _ _ _ _ => trivial
  have HA := Lib.hid ha
  have T1 := Lib.hid t1
  have T2 := Lib.hid t2
  have H1 := Lib.hid h1
  have hb0 : (q2.data.toList == ([] : List UInt8)) = true := by cases hq : (q2.data.toList == ([] : List UInt8)) <;> simp [bne, hq] at hb ⊢
  have hg_ask : decide ((ask.size : Int) > 100) = false := decide_eq_false (by omega)
  have hl_ask : decide (100 < (ask.size : Int)) = false := hg_ask
  have hg_other : decide ((other.size : Int) > 100) = false := decide_eq_false (by omega)
  have hl_other : decide (100 < (other.size : Int)) = false := hg_other
  clear ha t1 t2 hl1 hl2 h1
  go_enter Tryd.func4, Tryd.ntmps4
  go_wp2_with (first
      | (go_at_call 13; first | (refine (T1.out _ HO.below).mono ?_; clear T1; rintro eN wN ⟨vR, rfl, ⟨uR, rfl, hS⟩, hbN⟩; obtain ⟨vA, cA, rfl⟩ := Kd.S_slice hS; have hS2 := Kd.S_lower hS HO.below.size; have HON := HO.call hbN; clear HO HX HXB HXS hbN hS; have HO := HON; clear HON; (have HX : (fun W => Kd.S (Kd.slice 3 (Kd.int .i64)) 52 W w.heap.size (fun _ => True) (.slice vA q1.rows.length cA) q1.rows) wN := hS2); have HXB := XB.rows (Kd.slice 3 (Kd.int .i64)) 52 w.heap.size (fun _ => True) (.slice vA q1.rows.length cA) q1.rows; have HXS := XS.rows (Kd.slice 3 (Kd.int .i64)) 52 w.heap.size (fun _ => True) (.slice vA q1.rows.length cA) q1.rows (T := 30) (by decide); clear hS2; unfold seqV) | (refine (T2.out _ HO.below).mono ?_; clear T2; rintro eN wN ⟨vR, rfl, ⟨uR, rfl, hS⟩, hbN⟩; obtain ⟨vB, cB, rfl⟩ := Kd.S_slice hS; have hS2 := Kd.S_lower hS HO.below.size; have HON := HO.call hbN; have HXN := HXB _ _ HX hbN; clear HO HX HXB HXS hbN hS; have HO := HON; clear HON; (have HX : (fun W => Kd.S (Kd.slice 3 (Kd.int .i64)) 52 W w.heap.size (fun _ => True) (.slice vA q1.rows.length cA) q1.rows ∧ Kd.S (Kd.slice 3 (Kd.int .i64)) 52 W w.heap.size (fun _ => True) (.slice vB q2.rows.length cB) q2.rows) wN := ⟨HXN, hS2⟩); have HXB := (XB.rows (Kd.slice 3 (Kd.int .i64)) 52 w.heap.size (fun _ => True) (.slice vA q1.rows.length cA) q1.rows).and (XB.rows (Kd.slice 3 (Kd.int .i64)) 52 w.heap.size (fun _ => True) (.slice vB q2.rows.length cB) q2.rows); have HXS := (XS.rows (Kd.slice 3 (Kd.int .i64)) 52 w.heap.size (fun _ => True) (.slice vA q1.rows.length cA) q1.rows (T := 30) (by decide)).and (XS.rows (Kd.slice 3 (Kd.int .i64)) 52 w.heap.size (fun _ => True) (.slice vB q2.rows.length cB) q2.rows (T := 30) (by decide)); clear hS2 HXN; unfold seqV))
      | (go_at_call 9; refine (HA.out _ HO.below).mono ?_; rintro eN wN ⟨rfl, hbN⟩; have HON := HO.call hbN; have HXN := HXB _ _ HX hbN; clear HO HX hbN; have HO := HON; have HX := HXN; clear HON HXN)
      | (go_at_call 10; refine (H1.out _ _ _ _ _ HO.below ⟨_, rfl, HX.1⟩ ⟨_, rfl, HX.2⟩).mono ?_; rintro eN wN ⟨rfl, hbN⟩; have HON := HO.call hbN; have HXN := HXB _ _ HX hbN; clear HO HX hbN; have HO := HON; have HX := HXN; clear HON HXN)
      | ((with_reducible refine gate ?_); (first
      | ((refine own_boxX HO HX HXB rfl rfl rfl ?_); clear HO HX; intro gN wN hgN HO HX; (simp only [List.nil_append, List.cons_append] at HO); (try simp only [Act.put, List.setIfInBounds_toArray, List.set_cons_zero, List.set_cons_succ]))
      | ((refine own_allocX (T := 30) HO HX HXB rfl rfl Tryd.zeroValue30 rfl ?_); clear HO HX; intro gN wN hgN HO HX; (simp only [List.nil_append, List.cons_append] at HO); (try simp only [Act.put, List.setIfInBounds_toArray, List.set_cons_zero, List.set_cons_succ]))
      | ((refine own_load (T := 25) HO rfl rfl rfl (by first | exact .head _ | exact .tail _ (.head _) | exact .tail _ (.tail _ (.head _)) | exact .tail _ (.tail _ (.tail _ (.head _))) | exact .tail _ (.tail _ (.tail _ (.tail _ (.head _)))) | exact .tail _ (.tail _ (.tail _ (.tail _ (.tail _ (.head _)))))) Tryd.isAgg25 Tryd.sizeOf25 (by repeat constructor) ?_); (try simp only [Act.put, List.setIfInBounds_toArray, List.set_cons_zero, List.set_cons_succ]))
      | ((refine own_load (T := 30) HO rfl rfl rfl (by first | exact .head _ | exact .tail _ (.head _) | exact .tail _ (.tail _ (.head _)) | exact .tail _ (.tail _ (.tail _ (.head _))) | exact .tail _ (.tail _ (.tail _ (.tail _ (.head _)))) | exact .tail _ (.tail _ (.tail _ (.tail _ (.tail _ (.head _)))))) Tryd.isAgg30 Tryd.sizeOf30 (by repeat constructor) ?_); (try simp only [Act.put, List.setIfInBounds_toArray, List.set_cons_zero, List.set_cons_succ]))
      | ((refine own_load1 (T := 9) HO rfl rfl rfl (by first | exact .head _ | exact .tail _ (.head _) | exact .tail _ (.tail _ (.head _)) | exact .tail _ (.tail _ (.tail _ (.head _))) | exact .tail _ (.tail _ (.tail _ (.tail _ (.head _)))) | exact .tail _ (.tail _ (.tail _ (.tail _ (.tail _ (.head _)))))) Tryd.isAgg9 rfl ?_); (try simp only [Act.put, List.setIfInBounds_toArray, List.set_cons_zero, List.set_cons_succ]))
      | ((refine own_storeX (T := 25) HO HX rfl rfl rfl rfl (by first | exact .here | exact .there (.here) | exact .there (.there (.here)) | exact .there (.there (.there (.here))) | exact .there (.there (.there (.there (.here)))) | exact .there (.there (.there (.there (.there (.here)))))) HXS Tryd.sizeOf25 (by repeat constructor) rfl ?_); clear HO HX; intro wN HO HX; (try simp only [Act.put, List.setIfInBounds_toArray, List.set_cons_zero, List.set_cons_succ]))
      | ((refine own_storeX (T := 30) HO HX rfl rfl rfl rfl (by first | exact .here | exact .there (.here) | exact .there (.there (.here)) | exact .there (.there (.there (.here))) | exact .there (.there (.there (.there (.here)))) | exact .there (.there (.there (.there (.there (.here)))))) HXS Tryd.sizeOf30 (by repeat constructor) rfl ?_); clear HO HX; intro wN HO HX; (try simp only [Act.put, List.setIfInBounds_toArray, List.set_cons_zero, List.set_cons_succ]))
      | ((refine own_storeX1 (T := 9) HO HX rfl rfl rfl (by first | exact .const | exact .tmp rfl | exact .func) (by rfl) (by first | exact .here | exact .there (.here) | exact .there (.there (.here)) | exact .there (.there (.there (.here))) | exact .there (.there (.there (.there (.here)))) | exact .there (.there (.there (.there (.there (.here)))))) HXS Tryd.sizeOf9 (by repeat constructor) (by rfl) ?_); clear HO HX; intro wN HO HX; (try simp only [Act.put, List.setIfInBounds_toArray, List.set_cons_zero, List.set_cons_succ])))))
  go_ret
  exact ⟨rfl, HO.below⟩
end Go.Proofs.YtopcleljecdkkaaDoor
end
