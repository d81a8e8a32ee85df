/- Q: texts run together by shake.py: WWords KitY KitM RpL PuRa RpW RpP. -/
import Derived.ArgAppend
import Derived.Below
import Derived.BigQuiet
import Derived.ChangeOld
import Derived.ChangeSlices
import Derived.Deep.AppendLies
import Derived.Deep.CutBlock
import Derived.Deep.DeepCutAuto
import Derived.Deep.Draws
import Derived.Deep.LoopGhost
import Derived.Deep.Matrix
import Derived.Deep.OwnRows
import Derived.Deep.Quiet
import Derived.Deep.QuietTactic
import Derived.Deep.RegionHeld3
import Derived.Ground.Names2Prog
import Derived.Ground.SlgnProg
import Derived.KernelRfl
import Derived.Laws.AppendOwn
import Derived.Laws.AppendOwnNone
import Derived.Laws.BitsLemmas
import Derived.Laws.BytesArg
import Derived.Laws.Concat
import Derived.Laws.CopyRow
import Derived.Laws.IdiomCopy
import Derived.Laws.IdiomStrings
import Derived.Laws.MakeOwn
import Derived.Laws.OwnMore
import Derived.Laws.Rows
import Derived.Laws.Slices
import Derived.Laws.StructEq
import Derived.Laws.Tables
import Derived.Lib.AppendIntMem
import Derived.Lib.AppendStr
import Derived.Lib.ConvBytes
import Derived.Lib.Hide
import Derived.Lib.ItoaLen
import Derived.Lib.ItoaNum
import Derived.Lib.Join
import Derived.Lib.LaidTab
import Derived.Lib.Strings
import Derived.MapKept
import Derived.Maps.AppendAt
import Derived.OpenShut
import Derived.Orders
import Derived.OrdersHeld
import Derived.Outline
import Derived.OwnWalk
import Derived.ProofKit
import Derived.RowKit
import Derived.RowKit3
import Derived.Shelf.LaysM
import Derived.Shelf.Slices.Clone
import Derived.Shelf.SlicesE.Clone
import Derived.Shelf.Strconv.Itoa0
import Derived.Shelf.Strconv.Itoa1
import Derived.Shelf.Strconv.Itoa2
import Derived.Shelf.Strconv.Itoa3
import Derived.Shelf.Strings.Builder1
import Derived.Shelf.Strings.Builder2
import Derived.Shelf.Strings.Builder2Cap
import Derived.Shelf.Strings.BuilderCap
import Derived.Shelf.Strings.BuilderF
import Derived.Shelf.Strings.BuilderK
import Derived.Shelf.Strings.OnBuilder
import Derived.ShutString
import Derived.SizedLaws
import Derived.Still
import Derived.Tactics
import Derived.Test.YtopcleljecdkkaaDoorProg
import Derived.WalkKit
import Derived.WalkLawsBesides
import Derived.WalkSpells
import Derived.WideLaws
import Derived.Test.YtopcleljecdkkaaDoorZQ1
import Derived.Test.YtopcleljecdkkaaDoorZQ2
import Derived.Test.YtopcleljecdkkaaDoorZQ3
import Derived.Test.YtopcleljecdkkaaDoorZQ4
import Derived.Test.YtopcleljecdkkaaDoorZQ5
import Derived.Test.YtopcleljecdkkaaDoorZQ6
import Derived.Test.YtopcleljecdkkaaDoorZQ7
import Derived.Test.YtopcleljecdkkaaDoorZQ8
import Derived.Test.YtopcleljecdkkaaDoorZQ9
section
set_option linter.unusedVariables false
set_option linter.unusedSimpArgs false
namespace Go.Proofs.YtopcleljecdkkaaDoorW.PrintWords
open Go.RowKit
section
variable {α : Type} {R R' : α → List Value → Prop} {e : TypeId} {size : Nat} {w w1 : World} {base : Nat} {v : Value} {ps : List α}
theorem OwnRow.lower (h : OwnRow R e size w base v ps) {base' : Nat} (hb : base' ≤ base) : OwnRow R e size w base' v ps := by
  obtain ⟨inner, ho, hr⟩ := h
  exact ⟨inner, own_weaken ho hb, hr⟩
end
end Go.Proofs.YtopcleljecdkkaaDoorW.PrintWords
end
section
namespace Go.Proofs.YtopcleljecdkkaaDoor.Kit
set_option linter.unusedVariables false
set_option linter.unusedSimpArgs false
open Go Go.RowKit
section
variable {P : Program} {Q : Exit → Act → World → Prop}
variable {ops : Array Oper} {A : Act} {w : World} {o : Oper} {K : Value → World → Prop}
theorem step_passed (hg : Region.wanted o (yielded ops A.tmps) = false) (hK : K undef w) : StepOk P ops o A w K := by unfold StepOk; rw [if_neg (by simp [hg])]; exact hK
end
end Go.Proofs.YtopcleljecdkkaaDoor.Kit
end
section
namespace Go.Proofs.YtopcleljecdkkaaDoor.Kit
set_option linter.unusedVariables false
set_option linter.unusedSimpArgs false
open Go Go.RowKit
section
variable {P : Program} {Q : Exit → Act → World → Prop}
variable {ops : Array Oper} {A : Act} {w : World} {o : Oper} {fa : Fact}
theorem st_pass (hg : Region.wanted o (yielded ops A.tmps) = false) (hf : fa undef w) : StepOk P ops o A w fun v w' => Below w.heap.size w w' ∧ fa v w' := step_passed hg ⟨Below.refl _ _, hf⟩
end
end Go.Proofs.YtopcleljecdkkaaDoor.Kit
end
section
namespace Go.Proofs.YtopcleljecdkkaaDoor
set_option linter.unusedVariables false
set_option linter.unusedSimpArgs false
open Go.RowKit Kit Go.Proofs.YtopcleljecdkkaaDoorW.PrintWords
theorem fSq.lower {B C : Nat} {q : Sq} {v : Value} {w : World} (h : fSq B q v w) (hBC : C ≤ B) : fSq C q v w := by
  obtain ⟨u, h1, h2⟩ := h
  exact ⟨u, h1, Kd.S_lower h2 hBC⟩
end Go.Proofs.YtopcleljecdkkaaDoor
end
section
namespace Go.Proofs.YtopcleljecdkkaaDoor.G
set_option linter.unusedVariables false
set_option linter.unusedSimpArgs false
open Go.RowKit Kit Go.Proofs.YtopcleljecdkkaaDoorW.PrintWords Go.Proofs.YtopcleljecdkkaaDoorW.PrintMore
def placeR (r c : Int) (p : Bool) : List (List Int) := if p then [[clamp r], [clamp c], [1]] else [[clamp r], [clamp c]]
def placeP (p : Bool) : Int := if p then 63 else 0
theorem num2 (pr fi a b : Int) : wire_Num.f 10 pr fi [a, b] = some (1, pr, [[a], [b]], ⟨#[]⟩, fi, ⟨#[]⟩) := by simp [wire_Num.f, wire_Num.l0, rd, wrap64]
theorem num3 (pr fi a b c : Int) : wire_Num.f 10 pr fi [a, b, c] = some (1, pr, [[a], [b], [c]], ⟨#[]⟩, fi, ⟨#[]⟩) := by simp [wire_Num.f, wire_Num.l0, rd, wrap64]
theorem place_is (x0 x1 x2 x3 x4 x5 x6 x7 x8 : Int) (b0 b1 b2 b3 b4 b5 b6 : Bool) (u f b : Int) (p : Bool) :
    report_Place.f 10 x0 x1 x2 x3 x4 x5 x6 x7 x8 b0 b1 b2 b3 b4 b5 b6 u f b p = some (1, placeP p, placeR x2 x3 p, ⟨#[]⟩, 82, ⟨#[]⟩) := by
  unfold report_Place.f report_fact.f
  cases p
  · rw [Option.bind_some, Option.bind_some, if_neg (by decide), num2]; rfl
  · rw [Option.bind_some, Option.bind_some, if_pos rfl, num3]; rfl
end Go.Proofs.YtopcleljecdkkaaDoor.G
end
section
namespace Go.Proofs.YtopcleljecdkkaaDoor
set_option linter.unusedVariables false
set_option linter.unusedSimpArgs false
set_option maxRecDepth 100000
open Go.RowKit Kit Go.Proofs.YtopcleljecdkkaaDoorW.PrintWords G
attribute [local irreducible] wpList Calls
def placeS (r c : Int) (p : Bool) : Sq := ⟨1, placeP p, placeR r c p, ⟨#[]⟩, 82, ⟨#[]⟩⟩
section
variable (x0 x1 x2 x3 x4 x5 x6 x7 x8 : Int) (b0 b1 b2 b3 b4 b5 b6 : Bool) (u f b : Int) (ask : ByteArray) (p : Bool) {w : World}
theorem place_tells : Tells 11 #[scrV x0 x1 x2 x3 x4 x5 x6 x7 x8 b0 b1 b2 b3 b4 b5 b6 u f b, .bool p] (placeS x2 x3 p) w := fun W _ =>
  (report_Place.calls 10 x0 x1 x2 x3 x4 x5 x6 x7 x8 b0 b1 b2 b3 b4 b5 b6 u f b p _ _ _ _ _ _ W (place_is _ _ _ _ _ _ _ _ _ _ _ _ _ _ _ _ _ _ _ _)).mono fun e w' ⟨v, h1, h2, h3⟩ => ⟨_, h1, ⟨v, rfl, h2⟩, h3⟩
end
theorem place_wide (r c : Int) (p : Bool) : wide (placeS r c p).rows 1 := by cases p <;> simp [wide, placeS, placeR]
theorem place_few (r c : Int) (p : Bool) : (placeS r c p).rows.length ≤ 3 := by cases p <;> simp [placeS, placeR]
theorem same_place (r c : Int) (p : Bool) (q : Sq) (w : World) (hq : q.rows.length ≤ 100) : SameIs (placeS r c p) q (decide (placeS r c p = q)) w := same_by _ _ w 1 (by decide) (place_wide r c p) (by have := place_few r c p; omega) (by omega)
end Go.Proofs.YtopcleljecdkkaaDoor
end
section
namespace Go.Proofs.YtopcleljecdkkaaDoor
set_option linter.unusedVariables false
set_option linter.unusedSimpArgs false
open Go.RowKit Kit Go.Proofs.YtopcleljecdkkaaDoorW.PrintWords Go.Proofs.YtopcleljecdkkaaDoorW.PrintMore
attribute [local irreducible] wpList Calls
theorem max2_mx (k k' : IntKind) (x y : Int) : Builtin.max2 (.int k x) (.int k' y) = pure (.int k (mx x y)) := max2_int k k' x y
theorem min2_mn (k k' : IntKind) (x y : Int) : Builtin.min2 (.int k x) (.int k' y) = pure (.int k (mn x y)) := min2_int k k' x y
attribute [local go_sem] max2_mx min2_mn max_two min_two
set_option maxRecDepth 100000 in
set_option maxHeartbeats 4000000 in
theorem places_true_true (x0 x1 x2 x3 x4 x5 x6 x7 x8 : Int) (x9 x10 x11 x12 x13 x14 x15 : Bool) (x16 x17 x18 : Int) (y0 y1 y2 y3 y4 y5 y6 y7 y8 : Int) (y9 y10 y11 y12 y13 y14 y15 : Bool) (y16 y17 y18 : Int) (p : Bool) (w : World) (q1 q2 q3 : Sq) (ha : Gives 9 #[] (.bool true) w)
    (t1 : Tells 11 #[.agg #[.int .i64 x0, .int .i64 x1, .int .i64 x2, .int .i64 x3, .int .i64 x4, .int .i64 x5, .int .i64 x6, .int .i64 x7, .int .i64 x8, .bool x9, .bool x10, .bool x11, .bool x12, .bool x13, .bool x14, .bool x15, .int .i64 x16, .int .i64 x17, .int .i64 x18], .bool p] q1 w) (t2 : Tells 11 #[.agg #[.int .i64 y0, .int .i64 y1, .int .i64 y2, .int .i64 y3, .int .i64 y4, .int .i64 y5, .int .i64 y6, .int .i64 y7, .int .i64 y8, .bool y9, .bool y10, .bool y11, .bool y12, .bool y13, .bool y14, .bool y15, .int .i64 y16, .int .i64 y17, .int .i64 y18], .bool p] q2 w) (t3 : Tells 11 #[.agg #[.int .i64 x0, .int .i64 x1, .int .i64 x2, .int .i64 x3, .int .i64 x4, .int .i64 x5, .int .i64 x6, .int .i64 x7, .int .i64 x8, .bool x9, .bool x10, .bool x11, .bool x12, .bool x13, .bool x14, .bool x15, .int .i64 x16, .int .i64 x17, .int .i64 x18], .bool (!p)] q3 w)
    (h1 : SameIs q1 q2 true w) (h2 : SameIs q1 q3 false w) (hr : (mn (mx x2 0) 65535 == mn (mx y2 0) 65535) = true) (hc : (mn (mx x3 0) 65535 == mn (mx y3 0) 65535) = true) :
    Calls Tryd.prog 6 #[.agg #[.int .i64 x0, .int .i64 x1, .int .i64 x2, .int .i64 x3, .int .i64 x4, .int .i64 x5, .int .i64 x6, .int .i64 x7, .int .i64 x8, .bool x9, .bool x10, .bool x11, .bool x12, .bool x13, .bool x14, .bool x15, .int .i64 x16, .int .i64 x17, .int .i64 x18], .agg #[.int .i64 y0, .int .i64 y1, .int .i64 y2, .int .i64 y3, .int .i64 y4, .int .i64 y5, .int .i64 y6, .int .i64 y7, .int .i64 y8, .bool y9, .bool y10, .bool y11, .bool y12, .bool y13, .bool y14, .bool y15, .int .i64 y16, .int .i64 y17, .int .i64 y18], .bool p] w fun e w' => e = .returned (.bool true) ∧ Below w.heap.size w w' := by
  have HO := Mine.start w
  have HX : (fun _ : World => True) w := trivial
  have HXB : XB (fun _ : World => True) := fun _ _ _ _ => trivial
  have HXS : XS 30 (fun _ : World => True) := fun _ _ _ _ _ _ => trivial
  have HA := Lib.hid ha
  have T1 := Lib.hid t1
  have T2 := Lib.hid t2
  have T3 := Lib.hid t3
  have H1 := Lib.hid h1
  have H2 := Lib.hid h2
  clear ha t1 t2 t3 h1 h2
  go_enter Tryd.func6, Tryd.ntmps6
  go_wp2_with (first
      | (go_at_call 11; first | (refine (T1.out _ HO.below).mono ?_; clear T1; rintro eN wN ⟨vR, rfl, ⟨uR, rfl, hS⟩, hbN⟩; obtain ⟨vA, cA, rfl⟩ := Kd.S_slice hS; have hS2 := Kd.S_lower hS HO.below.size; have HON := HO.call hbN; clear HO HX HXB HXS hbN hS; have HO := HON; clear HON; (have HX : (fun W => Kd.S (Kd.slice 3 (Kd.int .i64)) 52 W w.heap.size (fun _ => True) (.slice vA q1.rows.length cA) q1.rows) wN := hS2); have HXB := XB.rows (Kd.slice 3 (Kd.int .i64)) 52 w.heap.size (fun _ => True) (.slice vA q1.rows.length cA) q1.rows; have HXS := XS.rows (Kd.slice 3 (Kd.int .i64)) 52 w.heap.size (fun _ => True) (.slice vA q1.rows.length cA) q1.rows (T := 30) (by decide); clear hS2; unfold seqV) | (refine (T2.out _ HO.below).mono ?_; clear T2; rintro eN wN ⟨vR, rfl, ⟨uR, rfl, hS⟩, hbN⟩; obtain ⟨vB, cB, rfl⟩ := Kd.S_slice hS; have hS2 := Kd.S_lower hS HO.below.size; have HON := HO.call hbN; have HXN := HXB _ _ HX hbN; clear HO HX HXB HXS hbN hS; have HO := HON; clear HON; (have HX : (fun W => Kd.S (Kd.slice 3 (Kd.int .i64)) 52 W w.heap.size (fun _ => True) (.slice vA q1.rows.length cA) q1.rows ∧ Kd.S (Kd.slice 3 (Kd.int .i64)) 52 W w.heap.size (fun _ => True) (.slice vB q2.rows.length cB) q2.rows) wN := ⟨HXN, hS2⟩); have HXB := (XB.rows (Kd.slice 3 (Kd.int .i64)) 52 w.heap.size (fun _ => True) (.slice vA q1.rows.length cA) q1.rows).and (XB.rows (Kd.slice 3 (Kd.int .i64)) 52 w.heap.size (fun _ => True) (.slice vB q2.rows.length cB) q2.rows); have HXS := (XS.rows (Kd.slice 3 (Kd.int .i64)) 52 w.heap.size (fun _ => True) (.slice vA q1.rows.length cA) q1.rows (T := 30) (by decide)).and (XS.rows (Kd.slice 3 (Kd.int .i64)) 52 w.heap.size (fun _ => True) (.slice vB q2.rows.length cB) q2.rows (T := 30) (by decide)); clear hS2 HXN; unfold seqV))
      | (go_at_call 9; refine (HA.out _ HO.below).mono ?_; rintro eN wN ⟨rfl, hbN⟩; have HON := HO.call hbN; have HXN := HXB _ _ HX hbN; clear HO HX hbN; have HO := HON; have HX := HXN; clear HON HXN)
      | ((with_reducible refine gate ?_); (first
      | ((refine own_boxX HO HX HXB rfl rfl rfl ?_); clear HO HX; intro gN wN hgN HO HX; (simp only [List.nil_append, List.cons_append] at HO); (try simp only [Act.put, List.setIfInBounds_toArray, List.set_cons_zero, List.set_cons_succ]))
      | ((refine own_allocX (T := 30) HO HX HXB rfl rfl Tryd.zeroValue30 rfl ?_); clear HO HX; intro gN wN hgN HO HX; (simp only [List.nil_append, List.cons_append] at HO); (try simp only [Act.put, List.setIfInBounds_toArray, List.set_cons_zero, List.set_cons_succ]))
      | ((refine own_load (T := 25) HO rfl rfl rfl (by first | exact .head _ | exact .tail _ (.head _) | exact .tail _ (.tail _ (.head _)) | exact .tail _ (.tail _ (.tail _ (.head _))) | exact .tail _ (.tail _ (.tail _ (.tail _ (.head _)))) | exact .tail _ (.tail _ (.tail _ (.tail _ (.tail _ (.head _)))))) Tryd.isAgg25 Tryd.sizeOf25 (by repeat constructor) ?_); (try simp only [Act.put, List.setIfInBounds_toArray, List.set_cons_zero, List.set_cons_succ]))
      | ((refine own_load (T := 30) HO rfl rfl rfl (by first | exact .head _ | exact .tail _ (.head _) | exact .tail _ (.tail _ (.head _)) | exact .tail _ (.tail _ (.tail _ (.head _))) | exact .tail _ (.tail _ (.tail _ (.tail _ (.head _)))) | exact .tail _ (.tail _ (.tail _ (.tail _ (.tail _ (.head _)))))) Tryd.isAgg30 Tryd.sizeOf30 (by repeat constructor) ?_); (try simp only [Act.put, List.setIfInBounds_toArray, List.set_cons_zero, List.set_cons_succ]))
      | ((refine own_load1 (T := 3) HO rfl rfl rfl (by first | exact .head _ | exact .tail _ (.head _) | exact .tail _ (.tail _ (.head _)) | exact .tail _ (.tail _ (.tail _ (.head _))) | exact .tail _ (.tail _ (.tail _ (.tail _ (.head _)))) | exact .tail _ (.tail _ (.tail _ (.tail _ (.tail _ (.head _)))))) Tryd.isAgg3 rfl ?_); (try simp only [Act.put, List.setIfInBounds_toArray, List.set_cons_zero, List.set_cons_succ]))
      | ((refine own_storeX (T := 25) HO HX rfl rfl rfl rfl (by first | exact .here | exact .there (.here) | exact .there (.there (.here)) | exact .there (.there (.there (.here))) | exact .there (.there (.there (.there (.here)))) | exact .there (.there (.there (.there (.there (.here)))))) HXS Tryd.sizeOf25 (by repeat constructor) rfl ?_); clear HO HX; intro wN HO HX; (try simp only [Act.put, List.setIfInBounds_toArray, List.set_cons_zero, List.set_cons_succ]))
      | ((refine own_storeX (T := 30) HO HX rfl rfl rfl rfl (by first | exact .here | exact .there (.here) | exact .there (.there (.here)) | exact .there (.there (.there (.here))) | exact .there (.there (.there (.there (.here)))) | exact .there (.there (.there (.there (.there (.here)))))) HXS Tryd.sizeOf30 (by repeat constructor) rfl ?_); clear HO HX; intro wN HO HX; (try simp only [Act.put, List.setIfInBounds_toArray, List.set_cons_zero, List.set_cons_succ]))
      | ((refine own_storeX1 (T := 3) HO HX rfl rfl rfl (by first | exact .const | exact .tmp rfl | exact .func) (by rfl) (by first | exact .here | exact .there (.here) | exact .there (.there (.here)) | exact .there (.there (.there (.here))) | exact .there (.there (.there (.there (.here)))) | exact .there (.there (.there (.there (.there (.here)))))) HXS Tryd.sizeOf3 (by repeat constructor) (by rfl) ?_); clear HO HX; intro wN HO HX; (try simp only [Act.put, List.setIfInBounds_toArray, List.set_cons_zero, List.set_cons_succ])))))
  refine region_law 20 [fIs (.bool true), fIs (.bool true), fSq w.heap.size q1, fSq w.heap.size q2, fIs (.bool true), fIs (.bool true), fIs (.bool true), fIs (.bool true), fIs (.bool true), fIs (.bool true), fIs (.bool true), fIs (.bool true), fSq w.heap.size q1, fIs (.agg #[.int .i64 x0, .int .i64 x1, .int .i64 x2, .int .i64 x3, .int .i64 x4, .int .i64 x5, .int .i64 x6, .int .i64 x7, .int .i64 x8, .bool x9, .bool x10, .bool x11, .bool x12, .bool x13, .bool x14, .bool x15, .int .i64 x16, .int .i64 x17, .int .i64 x18]), fIs (.bool p), fIs (.bool (!p)), fSq w.heap.size q3, fIs (.bool false), fIs (.bool true), fIs (.bool true)] HO (by kernel_rfl) (by kernel_rfl) (by decide) (by kernel_rfl)
    (stays_cons (Stays.fIs _) (stays_cons (Stays.fIs _) (stays_cons (Stays.fSq _ _) (stays_cons (Stays.fSq _ _) (stays_cons (Stays.fIs _) (stays_cons (Stays.fIs _) (stays_cons (Stays.fIs _) (stays_cons (Stays.fIs _) (stays_cons (Stays.fIs _) (stays_cons (Stays.fIs _) (stays_cons (Stays.fIs _) (stays_cons (Stays.fIs _) (stays_cons (Stays.fSq _ _) (stays_cons (Stays.fIs _) (stays_cons (Stays.fIs _) (stays_cons (Stays.fIs _) (stays_cons (Stays.fSq _ _) (stays_cons (Stays.fIs _) (stays_cons (Stays.fIs _) (stays_cons (Stays.fIs _) stays_nil)))))))))))))))))))) ?_
  intro vals A hA
  simp [fillL, dstOf, List.range, List.range.loop, Act.put] at hA
  subst hA
  refine ⟨⟨?_, ?_, ?_, ?_, ?_, ?_, ?_, ?_, ?_, ?_, ?_, ?_, ?_, ?_, ?_, ?_, ?_, ?_, ?_, ?_, trivial⟩, ?_⟩
  all_goals intro W hd hM hb0
  case refine_1 =>
    skip
    exact st_val rfl (by simp only [execOp]; first | (go_simp; done) | (go_simp; rfl)) rfl
  case refine_2 =>
    have v0 : vals 0 = .bool true := hd 0 (by kernel_rfl)
    rw [v0]
    exact st_val rfl (by simp only [execOp]; first | (go_simp; done) | (go_simp; rfl)) rfl
  case refine_3 =>
    have v1 : vals 1 = .bool true := hd 1 (by kernel_rfl)
    rw [v1]
    exact st_load hM rfl rfl rfl (.tail _ (.tail _ (.head _))) Tryd.isAgg30 Tryd.sizeOf30 (by repeat constructor) ⟨_, rfl, Kd.S_below HX.1 hb0⟩
  case refine_4 =>
    have v1 : vals 1 = .bool true := hd 1 (by kernel_rfl)
    rw [v1]
    exact st_load hM rfl rfl rfl (.tail _ (.tail _ (.tail _ (.head _)))) Tryd.isAgg30 Tryd.sizeOf30 (by repeat constructor) ⟨_, rfl, Kd.S_below HX.2 hb0⟩
  case refine_5 =>
    have v1 : vals 1 = .bool true := hd 1 (by kernel_rfl)
    rw [v1]
    exact st_call rfl (by simp only [execOp]; first | (go_simp; done) | (go_simp; rfl)) (H1.out W _ _ _ _ hM.below (hd 2 (by kernel_rfl)) (hd 3 (by kernel_rfl))) (by rintro e w' ⟨rfl, hb⟩; exact ⟨_, rfl, hb, rfl⟩)
  case refine_6 =>
    have v1 : vals 1 = .bool true := hd 1 (by kernel_rfl)
    rw [v1]
    exact st_val rfl (by simp only [execOp]; first | (go_simp; done) | (go_simp; rfl)) rfl
  case refine_7 =>
    have v1 : vals 1 = .bool true := hd 1 (by kernel_rfl)
    have v5 : vals 5 = .bool true := hd 5 (by kernel_rfl)
    rw [v1, v5]
    exact st_val rfl (by simp only [execOp]; first | (go_simp; done) | (go_simp; rfl)) rfl
  case refine_8 =>
    have v6 : vals 6 = .bool true := hd 6 (by kernel_rfl)
    rw [v6]
    exact st_val rfl (by simp only [execOp]; first | (go_simp; done) | (go_simp; rfl)) rfl
  case refine_9 =>
    have v1 : vals 1 = .bool true := hd 1 (by kernel_rfl)
    have v6 : vals 6 = .bool true := hd 6 (by kernel_rfl)
    have v7 : vals 7 = .bool true := hd 7 (by kernel_rfl)
    rw [v1, v6, v7]
    exact st_val rfl (by simp only [execOp]; first | (go_simp; done) | (go_simp; rfl)) rfl
  case refine_10 =>
    have v1 : vals 1 = .bool true := hd 1 (by kernel_rfl)
    have v4 : vals 4 = .bool true := hd 4 (by kernel_rfl)
    have v8 : vals 8 = .bool true := hd 8 (by kernel_rfl)
    rw [v1, v4, v8]
    exact st_val rfl (by simp only [execOp]; first | (go_simp; done) | (go_simp; rfl)) rfl
  case refine_11 =>
    have v1 : vals 1 = .bool true := hd 1 (by kernel_rfl)
    have v9 : vals 9 = .bool true := hd 9 (by kernel_rfl)
    rw [v1, v9]
    exact st_val rfl (by simp only [execOp]; first | (go_simp; done) | (go_simp; rfl)) rfl
  case refine_12 =>
    have v10 : vals 10 = .bool true := hd 10 (by kernel_rfl)
    rw [v10]
    exact st_val rfl (by simp only [execOp]; first | (go_simp; done) | (go_simp; rfl)) rfl
  case refine_13 =>
    have v11 : vals 11 = .bool true := hd 11 (by kernel_rfl)
    rw [v11]
    exact st_load hM rfl rfl rfl (.tail _ (.tail _ (.head _))) Tryd.isAgg30 Tryd.sizeOf30 (by repeat constructor) ⟨_, rfl, Kd.S_below HX.1 hb0⟩
  case refine_14 =>
    have v11 : vals 11 = .bool true := hd 11 (by kernel_rfl)
    rw [v11]
    exact st_load hM rfl rfl rfl (.head _) Tryd.isAgg25 Tryd.sizeOf25 (by repeat constructor) rfl
  case refine_15 =>
    have v11 : vals 11 = .bool true := hd 11 (by kernel_rfl)
    rw [v11]
    exact st_val rfl (by simp only [execOp]; first | (go_simp; done) | (go_simp; rfl)) rfl
  case refine_16 =>
    have v11 : vals 11 = .bool true := hd 11 (by kernel_rfl)
    have v14 : vals 14 = .bool p := hd 14 (by kernel_rfl)
    rw [v11, v14]
    exact st_val rfl (by simp only [execOp]; first | (go_simp; done) | (go_simp; rfl)) rfl
  case refine_17 =>
    have v11 : vals 11 = .bool true := hd 11 (by kernel_rfl)
    have v13 : vals 13 = .agg #[.int .i64 x0, .int .i64 x1, .int .i64 x2, .int .i64 x3, .int .i64 x4, .int .i64 x5, .int .i64 x6, .int .i64 x7, .int .i64 x8, .bool x9, .bool x10, .bool x11, .bool x12, .bool x13, .bool x14, .bool x15, .int .i64 x16, .int .i64 x17, .int .i64 x18] := hd 13 (by kernel_rfl)
    have v15 : vals 15 = .bool (!p) := hd 15 (by kernel_rfl)
    rw [v11, v13, v15]
    exact st_call rfl (by simp only [execOp]; first | (go_simp; done) | (go_simp; rfl)) (T3.out W hM.below) (by rintro e w' ⟨v, rfl, hS, hb⟩; exact ⟨_, rfl, hb, hS.lower hM.below.size⟩)
  case refine_18 =>
    have v11 : vals 11 = .bool true := hd 11 (by kernel_rfl)
    rw [v11]
    exact st_call rfl (by simp only [execOp]; first | (go_simp; done) | (go_simp; rfl)) (H2.out W _ _ _ _ hM.below (hd 12 (by kernel_rfl)) (hd 16 (by kernel_rfl))) (by rintro e w' ⟨rfl, hb⟩; exact ⟨_, rfl, hb, rfl⟩)
  case refine_19 =>
    have v11 : vals 11 = .bool true := hd 11 (by kernel_rfl)
    have v17 : vals 17 = .bool false := hd 17 (by kernel_rfl)
    rw [v11, v17]
    exact st_val rfl (by simp only [execOp]; first | (go_simp; done) | (go_simp; rfl)) rfl
  case refine_20 =>
    have v11 : vals 11 = .bool true := hd 11 (by kernel_rfl)
    have v18 : vals 18 = .bool true := hd 18 (by kernel_rfl)
    rw [v11, v18]
    exact st_val rfl (by simp only [execOp]; first | (go_simp; done) | (go_simp; rfl)) rfl
  case refine_21 =>
    have v19 : vals 19 = .bool true := hd 19 (by omega)
    rw [v19]
    simp only [List.drop_succ_cons, List.drop_zero]
    go_wp2
    go_ret
    exact ⟨rfl, hM.below⟩
set_option maxRecDepth 100000 in
set_option maxHeartbeats 4000000 in
theorem places_true_false (x0 x1 x2 x3 x4 x5 x6 x7 x8 : Int) (x9 x10 x11 x12 x13 x14 x15 : Bool) (x16 x17 x18 : Int) (y0 y1 y2 y3 y4 y5 y6 y7 y8 : Int) (y9 y10 y11 y12 y13 y14 y15 : Bool) (y16 y17 y18 : Int) (p : Bool) (w : World) (q1 q2 q3 : Sq) (ha : Gives 9 #[] (.bool true) w)
    (t1 : Tells 11 #[.agg #[.int .i64 x0, .int .i64 x1, .int .i64 x2, .int .i64 x3, .int .i64 x4, .int .i64 x5, .int .i64 x6, .int .i64 x7, .int .i64 x8, .bool x9, .bool x10, .bool x11, .bool x12, .bool x13, .bool x14, .bool x15, .int .i64 x16, .int .i64 x17, .int .i64 x18], .bool p] q1 w) (t2 : Tells 11 #[.agg #[.int .i64 y0, .int .i64 y1, .int .i64 y2, .int .i64 y3, .int .i64 y4, .int .i64 y5, .int .i64 y6, .int .i64 y7, .int .i64 y8, .bool y9, .bool y10, .bool y11, .bool y12, .bool y13, .bool y14, .bool y15, .int .i64 y16, .int .i64 y17, .int .i64 y18], .bool p] q2 w) (t3 : Tells 11 #[.agg #[.int .i64 x0, .int .i64 x1, .int .i64 x2, .int .i64 x3, .int .i64 x4, .int .i64 x5, .int .i64 x6, .int .i64 x7, .int .i64 x8, .bool x9, .bool x10, .bool x11, .bool x12, .bool x13, .bool x14, .bool x15, .int .i64 x16, .int .i64 x17, .int .i64 x18], .bool (!p)] q3 w)
    (h1 : SameIs q1 q2 false w) (h2 : SameIs q1 q3 false w) (hr : (mn (mx x2 0) 65535 == mn (mx y2 0) 65535) = true) (hc : (mn (mx x3 0) 65535 == mn (mx y3 0) 65535) = false) :
    Calls Tryd.prog 6 #[.agg #[.int .i64 x0, .int .i64 x1, .int .i64 x2, .int .i64 x3, .int .i64 x4, .int .i64 x5, .int .i64 x6, .int .i64 x7, .int .i64 x8, .bool x9, .bool x10, .bool x11, .bool x12, .bool x13, .bool x14, .bool x15, .int .i64 x16, .int .i64 x17, .int .i64 x18], .agg #[.int .i64 y0, .int .i64 y1, .int .i64 y2, .int .i64 y3, .int .i64 y4, .int .i64 y5, .int .i64 y6, .int .i64 y7, .int .i64 y8, .bool y9, .bool y10, .bool y11, .bool y12, .bool y13, .bool y14, .bool y15, .int .i64 y16, .int .i64 y17, .int .i64 y18], .bool p] w fun e w' => e = .returned (.bool true) ∧ Below w.heap.size w w' := by
  have HO := Mine.start w
  have HX : (fun _ : World => True) w := trivial
  have HXB : XB (fun _ : World => True) := fun _ _ _ _ => trivial
  have HXS : XS 30 (fun _ : World => True) := fun _ _ _ _ _ _ => trivial
  have HA := Lib.hid ha
  have T1 := Lib.hid t1
  have T2 := Lib.hid t2
  have T3 := Lib.hid t3
  have H1 := Lib.hid h1
  have H2 := Lib.hid h2
  clear ha t1 t2 t3 h1 h2
  go_enter Tryd.func6, Tryd.ntmps6
  go_wp2_with (first
      | (go_at_call 11; first | (refine (T1.out _ HO.below).mono ?_; clear T1; rintro eN wN ⟨vR, rfl, ⟨uR, rfl, hS⟩, hbN⟩; obtain ⟨vA, cA, rfl⟩ := Kd.S_slice hS; have hS2 := Kd.S_lower hS HO.below.size; have HON := HO.call hbN; clear HO HX HXB HXS hbN hS; have HO := HON; clear HON; (have HX : (fun W => Kd.S (Kd.slice 3 (Kd.int .i64)) 52 W w.heap.size (fun _ => True) (.slice vA q1.rows.length cA) q1.rows) wN := hS2); have HXB := XB.rows (Kd.slice 3 (Kd.int .i64)) 52 w.heap.size (fun _ => True) (.slice vA q1.rows.length cA) q1.rows; have HXS := XS.rows (Kd.slice 3 (Kd.int .i64)) 52 w.heap.size (fun _ => True) (.slice vA q1.rows.length cA) q1.rows (T := 30) (by decide); clear hS2; unfold seqV) | (refine (T2.out _ HO.below).mono ?_; clear T2; rintro eN wN ⟨vR, rfl, ⟨uR, rfl, hS⟩, hbN⟩; obtain ⟨vB, cB, rfl⟩ := Kd.S_slice hS; have hS2 := Kd.S_lower hS HO.below.size; have HON := HO.call hbN; have HXN := HXB _ _ HX hbN; clear HO HX HXB HXS hbN hS; have HO := HON; clear HON; (have HX : (fun W => Kd.S (Kd.slice 3 (Kd.int .i64)) 52 W w.heap.size (fun _ => True) (.slice vA q1.rows.length cA) q1.rows ∧ Kd.S (Kd.slice 3 (Kd.int .i64)) 52 W w.heap.size (fun _ => True) (.slice vB q2.rows.length cB) q2.rows) wN := ⟨HXN, hS2⟩); have HXB := (XB.rows (Kd.slice 3 (Kd.int .i64)) 52 w.heap.size (fun _ => True) (.slice vA q1.rows.length cA) q1.rows).and (XB.rows (Kd.slice 3 (Kd.int .i64)) 52 w.heap.size (fun _ => True) (.slice vB q2.rows.length cB) q2.rows); have HXS := (XS.rows (Kd.slice 3 (Kd.int .i64)) 52 w.heap.size (fun _ => True) (.slice vA q1.rows.length cA) q1.rows (T := 30) (by decide)).and (XS.rows (Kd.slice 3 (Kd.int .i64)) 52 w.heap.size (fun _ => True) (.slice vB q2.rows.length cB) q2.rows (T := 30) (by decide)); clear hS2 HXN; unfold seqV))
      | (go_at_call 9; refine (HA.out _ HO.below).mono ?_; rintro eN wN ⟨rfl, hbN⟩; have HON := HO.call hbN; have HXN := HXB _ _ HX hbN; clear HO HX hbN; have HO := HON; have HX := HXN; clear HON HXN)
      | ((with_reducible refine gate ?_); (first
      | ((refine own_boxX HO HX HXB rfl rfl rfl ?_); clear HO HX; intro gN wN hgN HO HX; (simp only [List.nil_append, List.cons_append] at HO); (try simp only [Act.put, List.setIfInBounds_toArray, List.set_cons_zero, List.set_cons_succ]))
      | ((refine own_allocX (T := 30) HO HX HXB rfl rfl Tryd.zeroValue30 rfl ?_); clear HO HX; intro gN wN hgN HO HX; (simp only [List.nil_append, List.cons_append] at HO); (try simp only [Act.put, List.setIfInBounds_toArray, List.set_cons_zero, List.set_cons_succ]))
      | ((refine own_load (T := 25) HO rfl rfl rfl (by first | exact .head _ | exact .tail _ (.head _) | exact .tail _ (.tail _ (.head _)) | exact .tail _ (.tail _ (.tail _ (.head _))) | exact .tail _ (.tail _ (.tail _ (.tail _ (.head _)))) | exact .tail _ (.tail _ (.tail _ (.tail _ (.tail _ (.head _)))))) Tryd.isAgg25 Tryd.sizeOf25 (by repeat constructor) ?_); (try simp only [Act.put, List.setIfInBounds_toArray, List.set_cons_zero, List.set_cons_succ]))
      | ((refine own_load (T := 30) HO rfl rfl rfl (by first | exact .head _ | exact .tail _ (.head _) | exact .tail _ (.tail _ (.head _)) | exact .tail _ (.tail _ (.tail _ (.head _))) | exact .tail _ (.tail _ (.tail _ (.tail _ (.head _)))) | exact .tail _ (.tail _ (.tail _ (.tail _ (.tail _ (.head _)))))) Tryd.isAgg30 Tryd.sizeOf30 (by repeat constructor) ?_); (try simp only [Act.put, List.setIfInBounds_toArray, List.set_cons_zero, List.set_cons_succ]))
      | ((refine own_load1 (T := 3) HO rfl rfl rfl (by first | exact .head _ | exact .tail _ (.head _) | exact .tail _ (.tail _ (.head _)) | exact .tail _ (.tail _ (.tail _ (.head _))) | exact .tail _ (.tail _ (.tail _ (.tail _ (.head _)))) | exact .tail _ (.tail _ (.tail _ (.tail _ (.tail _ (.head _)))))) Tryd.isAgg3 rfl ?_); (try simp only [Act.put, List.setIfInBounds_toArray, List.set_cons_zero, List.set_cons_succ]))
      | ((refine own_storeX (T := 25) HO HX rfl rfl rfl rfl (by first | exact .here | exact .there (.here) | exact .there (.there (.here)) | exact .there (.there (.there (.here))) | exact .there (.there (.there (.there (.here)))) | exact .there (.there (.there (.there (.there (.here)))))) HXS Tryd.sizeOf25 (by repeat constructor) rfl ?_); clear HO HX; intro wN HO HX; (try simp only [Act.put, List.setIfInBounds_toArray, List.set_cons_zero, List.set_cons_succ]))
      | ((refine own_storeX (T := 30) HO HX rfl rfl rfl rfl (by first | exact .here | exact .there (.here) | exact .there (.there (.here)) | exact .there (.there (.there (.here))) | exact .there (.there (.there (.there (.here)))) | exact .there (.there (.there (.there (.there (.here)))))) HXS Tryd.sizeOf30 (by repeat constructor) rfl ?_); clear HO HX; intro wN HO HX; (try simp only [Act.put, List.setIfInBounds_toArray, List.set_cons_zero, List.set_cons_succ]))
      | ((refine own_storeX1 (T := 3) HO HX rfl rfl rfl (by first | exact .const | exact .tmp rfl | exact .func) (by rfl) (by first | exact .here | exact .there (.here) | exact .there (.there (.here)) | exact .there (.there (.there (.here))) | exact .there (.there (.there (.there (.here)))) | exact .there (.there (.there (.there (.there (.here)))))) HXS Tryd.sizeOf3 (by repeat constructor) (by rfl) ?_); clear HO HX; intro wN HO HX; (try simp only [Act.put, List.setIfInBounds_toArray, List.set_cons_zero, List.set_cons_succ])))))
  refine region_law 20 [fIs (.bool true), fIs (.bool true), fSq w.heap.size q1, fSq w.heap.size q2, fIs (.bool false), fIs (.bool true), fIs (.bool true), fIs (.bool false), fIs (.bool false), fIs (.bool true), fIs (.bool true), fIs (.bool true), fSq w.heap.size q1, fIs (.agg #[.int .i64 x0, .int .i64 x1, .int .i64 x2, .int .i64 x3, .int .i64 x4, .int .i64 x5, .int .i64 x6, .int .i64 x7, .int .i64 x8, .bool x9, .bool x10, .bool x11, .bool x12, .bool x13, .bool x14, .bool x15, .int .i64 x16, .int .i64 x17, .int .i64 x18]), fIs (.bool p), fIs (.bool (!p)), fSq w.heap.size q3, fIs (.bool false), fIs (.bool true), fIs (.bool true)] HO (by kernel_rfl) (by kernel_rfl) (by decide) (by kernel_rfl)
    (stays_cons (Stays.fIs _) (stays_cons (Stays.fIs _) (stays_cons (Stays.fSq _ _) (stays_cons (Stays.fSq _ _) (stays_cons (Stays.fIs _) (stays_cons (Stays.fIs _) (stays_cons (Stays.fIs _) (stays_cons (Stays.fIs _) (stays_cons (Stays.fIs _) (stays_cons (Stays.fIs _) (stays_cons (Stays.fIs _) (stays_cons (Stays.fIs _) (stays_cons (Stays.fSq _ _) (stays_cons (Stays.fIs _) (stays_cons (Stays.fIs _) (stays_cons (Stays.fIs _) (stays_cons (Stays.fSq _ _) (stays_cons (Stays.fIs _) (stays_cons (Stays.fIs _) (stays_cons (Stays.fIs _) stays_nil)))))))))))))))))))) ?_
  intro vals A hA
  simp [fillL, dstOf, List.range, List.range.loop, Act.put] at hA
  subst hA
  refine ⟨⟨?_, ?_, ?_, ?_, ?_, ?_, ?_, ?_, ?_, ?_, ?_, ?_, ?_, ?_, ?_, ?_, ?_, ?_, ?_, ?_, trivial⟩, ?_⟩
  all_goals intro W hd hM hb0
  case refine_1 =>
    skip
    exact st_val rfl (by simp only [execOp]; first | (go_simp; done) | (go_simp; rfl)) rfl
  case refine_2 =>
    have v0 : vals 0 = .bool true := hd 0 (by kernel_rfl)
    rw [v0]
    exact st_val rfl (by simp only [execOp]; first | (go_simp; done) | (go_simp; rfl)) rfl
  case refine_3 =>
    have v1 : vals 1 = .bool true := hd 1 (by kernel_rfl)
    rw [v1]
    exact st_load hM rfl rfl rfl (.tail _ (.tail _ (.head _))) Tryd.isAgg30 Tryd.sizeOf30 (by repeat constructor) ⟨_, rfl, Kd.S_below HX.1 hb0⟩
  case refine_4 =>
    have v1 : vals 1 = .bool true := hd 1 (by kernel_rfl)
    rw [v1]
    exact st_load hM rfl rfl rfl (.tail _ (.tail _ (.tail _ (.head _)))) Tryd.isAgg30 Tryd.sizeOf30 (by repeat constructor) ⟨_, rfl, Kd.S_below HX.2 hb0⟩
  case refine_5 =>
    have v1 : vals 1 = .bool true := hd 1 (by kernel_rfl)
    rw [v1]
    exact st_call rfl (by simp only [execOp]; first | (go_simp; done) | (go_simp; rfl)) (H1.out W _ _ _ _ hM.below (hd 2 (by kernel_rfl)) (hd 3 (by kernel_rfl))) (by rintro e w' ⟨rfl, hb⟩; exact ⟨_, rfl, hb, rfl⟩)
  case refine_6 =>
    have v1 : vals 1 = .bool true := hd 1 (by kernel_rfl)
    rw [v1]
    exact st_val rfl (by simp only [execOp]; first | (go_simp; done) | (go_simp; rfl)) rfl
  case refine_7 =>
    have v1 : vals 1 = .bool true := hd 1 (by kernel_rfl)
    have v5 : vals 5 = .bool true := hd 5 (by kernel_rfl)
    rw [v1, v5]
    exact st_val rfl (by simp only [execOp]; first | (go_simp; done) | (go_simp; rfl)) rfl
  case refine_8 =>
    have v6 : vals 6 = .bool true := hd 6 (by kernel_rfl)
    rw [v6]
    exact st_val rfl (by simp only [execOp]; first | (go_simp; done) | (go_simp; rfl)) rfl
  case refine_9 =>
    have v1 : vals 1 = .bool true := hd 1 (by kernel_rfl)
    have v6 : vals 6 = .bool true := hd 6 (by kernel_rfl)
    have v7 : vals 7 = .bool false := hd 7 (by kernel_rfl)
    rw [v1, v6, v7]
    exact st_val rfl (by simp only [execOp]; first | (go_simp; done) | (go_simp; rfl)) rfl
  case refine_10 =>
    have v1 : vals 1 = .bool true := hd 1 (by kernel_rfl)
    have v4 : vals 4 = .bool false := hd 4 (by kernel_rfl)
    have v8 : vals 8 = .bool false := hd 8 (by kernel_rfl)
    rw [v1, v4, v8]
    exact st_val rfl (by simp only [execOp]; first | (go_simp; done) | (go_simp; rfl)) rfl
  case refine_11 =>
    have v1 : vals 1 = .bool true := hd 1 (by kernel_rfl)
    have v9 : vals 9 = .bool true := hd 9 (by kernel_rfl)
    rw [v1, v9]
    exact st_val rfl (by simp only [execOp]; first | (go_simp; done) | (go_simp; rfl)) rfl
  case refine_12 =>
    have v10 : vals 10 = .bool true := hd 10 (by kernel_rfl)
    rw [v10]
    exact st_val rfl (by simp only [execOp]; first | (go_simp; done) | (go_simp; rfl)) rfl
  case refine_13 =>
    have v11 : vals 11 = .bool true := hd 11 (by kernel_rfl)
    rw [v11]
    exact st_load hM rfl rfl rfl (.tail _ (.tail _ (.head _))) Tryd.isAgg30 Tryd.sizeOf30 (by repeat constructor) ⟨_, rfl, Kd.S_below HX.1 hb0⟩
  case refine_14 =>
    have v11 : vals 11 = .bool true := hd 11 (by kernel_rfl)
    rw [v11]
    exact st_load hM rfl rfl rfl (.head _) Tryd.isAgg25 Tryd.sizeOf25 (by repeat constructor) rfl
  case refine_15 =>
    have v11 : vals 11 = .bool true := hd 11 (by kernel_rfl)
    rw [v11]
    exact st_val rfl (by simp only [execOp]; first | (go_simp; done) | (go_simp; rfl)) rfl
  case refine_16 =>
    have v11 : vals 11 = .bool true := hd 11 (by kernel_rfl)
    have v14 : vals 14 = .bool p := hd 14 (by kernel_rfl)
    rw [v11, v14]
    exact st_val rfl (by simp only [execOp]; first | (go_simp; done) | (go_simp; rfl)) rfl
  case refine_17 =>
    have v11 : vals 11 = .bool true := hd 11 (by kernel_rfl)
    have v13 : vals 13 = .agg #[.int .i64 x0, .int .i64 x1, .int .i64 x2, .int .i64 x3, .int .i64 x4, .int .i64 x5, .int .i64 x6, .int .i64 x7, .int .i64 x8, .bool x9, .bool x10, .bool x11, .bool x12, .bool x13, .bool x14, .bool x15, .int .i64 x16, .int .i64 x17, .int .i64 x18] := hd 13 (by kernel_rfl)
    have v15 : vals 15 = .bool (!p) := hd 15 (by kernel_rfl)
    rw [v11, v13, v15]
    exact st_call rfl (by simp only [execOp]; first | (go_simp; done) | (go_simp; rfl)) (T3.out W hM.below) (by rintro e w' ⟨v, rfl, hS, hb⟩; exact ⟨_, rfl, hb, hS.lower hM.below.size⟩)
  case refine_18 =>
    have v11 : vals 11 = .bool true := hd 11 (by kernel_rfl)
    rw [v11]
    exact st_call rfl (by simp only [execOp]; first | (go_simp; done) | (go_simp; rfl)) (H2.out W _ _ _ _ hM.below (hd 12 (by kernel_rfl)) (hd 16 (by kernel_rfl))) (by rintro e w' ⟨rfl, hb⟩; exact ⟨_, rfl, hb, rfl⟩)
  case refine_19 =>
    have v11 : vals 11 = .bool true := hd 11 (by kernel_rfl)
    have v17 : vals 17 = .bool false := hd 17 (by kernel_rfl)
    rw [v11, v17]
    exact st_val rfl (by simp only [execOp]; first | (go_simp; done) | (go_simp; rfl)) rfl
  case refine_20 =>
    have v11 : vals 11 = .bool true := hd 11 (by kernel_rfl)
    have v18 : vals 18 = .bool true := hd 18 (by kernel_rfl)
    rw [v11, v18]
    exact st_val rfl (by simp only [execOp]; first | (go_simp; done) | (go_simp; rfl)) rfl
  case refine_21 =>
    have v19 : vals 19 = .bool true := hd 19 (by omega)
    rw [v19]
    simp only [List.drop_succ_cons, List.drop_zero]
    go_wp2
    go_ret
    exact ⟨rfl, hM.below⟩
set_option maxRecDepth 100000 in
set_option maxHeartbeats 4000000 in
theorem places_false_true (x0 x1 x2 x3 x4 x5 x6 x7 x8 : Int) (x9 x10 x11 x12 x13 x14 x15 : Bool) (x16 x17 x18 : Int) (y0 y1 y2 y3 y4 y5 y6 y7 y8 : Int) (y9 y10 y11 y12 y13 y14 y15 : Bool) (y16 y17 y18 : Int) (p : Bool) (w : World) (q1 q2 q3 : Sq) (ha : Gives 9 #[] (.bool true) w)
    (t1 : Tells 11 #[.agg #[.int .i64 x0, .int .i64 x1, .int .i64 x2, .int .i64 x3, .int .i64 x4, .int .i64 x5, .int .i64 x6, .int .i64 x7, .int .i64 x8, .bool x9, .bool x10, .bool x11, .bool x12, .bool x13, .bool x14, .bool x15, .int .i64 x16, .int .i64 x17, .int .i64 x18], .bool p] q1 w) (t2 : Tells 11 #[.agg #[.int .i64 y0, .int .i64 y1, .int .i64 y2, .int .i64 y3, .int .i64 y4, .int .i64 y5, .int .i64 y6, .int .i64 y7, .int .i64 y8, .bool y9, .bool y10, .bool y11, .bool y12, .bool y13, .bool y14, .bool y15, .int .i64 y16, .int .i64 y17, .int .i64 y18], .bool p] q2 w) (t3 : Tells 11 #[.agg #[.int .i64 x0, .int .i64 x1, .int .i64 x2, .int .i64 x3, .int .i64 x4, .int .i64 x5, .int .i64 x6, .int .i64 x7, .int .i64 x8, .bool x9, .bool x10, .bool x11, .bool x12, .bool x13, .bool x14, .bool x15, .int .i64 x16, .int .i64 x17, .int .i64 x18], .bool (!p)] q3 w)
    (h1 : SameIs q1 q2 false w) (h2 : SameIs q1 q3 false w) (hr : (mn (mx x2 0) 65535 == mn (mx y2 0) 65535) = false) (hc : (mn (mx x3 0) 65535 == mn (mx y3 0) 65535) = true) :
    Calls Tryd.prog 6 #[.agg #[.int .i64 x0, .int .i64 x1, .int .i64 x2, .int .i64 x3, .int .i64 x4, .int .i64 x5, .int .i64 x6, .int .i64 x7, .int .i64 x8, .bool x9, .bool x10, .bool x11, .bool x12, .bool x13, .bool x14, .bool x15, .int .i64 x16, .int .i64 x17, .int .i64 x18], .agg #[.int .i64 y0, .int .i64 y1, .int .i64 y2, .int .i64 y3, .int .i64 y4, .int .i64 y5, .int .i64 y6, .int .i64 y7, .int .i64 y8, .bool y9, .bool y10, .bool y11, .bool y12, .bool y13, .bool y14, .bool y15, .int .i64 y16, .int .i64 y17, .int .i64 y18], .bool p] w fun e w' => e = .returned (.bool true) ∧ Below w.heap.size w w' := by
  have HO := Mine.start w
  have HX : (fun _ : World => True) w := trivial
  have HXB : XB (fun _ : World => True) := fun _ _ _ _ => trivial
  have HXS : XS 30 (fun _ : World => True) := fun _ _ _ _ _ _ => trivial
  have HA := Lib.hid ha
  have T1 := Lib.hid t1
  have T2 := Lib.hid t2
  have T3 := Lib.hid t3
  have H1 := Lib.hid h1
  have H2 := Lib.hid h2
  clear ha t1 t2 t3 h1 h2
  go_enter Tryd.func6, Tryd.ntmps6
  go_wp2_with (first
      | (go_at_call 11; first | (refine (T1.out _ HO.below).mono ?_; clear T1; rintro eN wN ⟨vR, rfl, ⟨uR, rfl, hS⟩, hbN⟩; obtain ⟨vA, cA, rfl⟩ := Kd.S_slice hS; have hS2 := Kd.S_lower hS HO.below.size; have HON := HO.call hbN; clear HO HX HXB HXS hbN hS; have HO := HON; clear HON; (have HX : (fun W => Kd.S (Kd.slice 3 (Kd.int .i64)) 52 W w.heap.size (fun _ => True) (.slice vA q1.rows.length cA) q1.rows) wN := hS2); have HXB := XB.rows (Kd.slice 3 (Kd.int .i64)) 52 w.heap.size (fun _ => True) (.slice vA q1.rows.length cA) q1.rows; have HXS := XS.rows (Kd.slice 3 (Kd.int .i64)) 52 w.heap.size (fun _ => True) (.slice vA q1.rows.length cA) q1.rows (T := 30) (by decide); clear hS2; unfold seqV) | (refine (T2.out _ HO.below).mono ?_; clear T2; rintro eN wN ⟨vR, rfl, ⟨uR, rfl, hS⟩, hbN⟩; obtain ⟨vB, cB, rfl⟩ := Kd.S_slice hS; have hS2 := Kd.S_lower hS HO.below.size; have HON := HO.call hbN; have HXN := HXB _ _ HX hbN; clear HO HX HXB HXS hbN hS; have HO := HON; clear HON; (have HX : (fun W => Kd.S (Kd.slice 3 (Kd.int .i64)) 52 W w.heap.size (fun _ => True) (.slice vA q1.rows.length cA) q1.rows ∧ Kd.S (Kd.slice 3 (Kd.int .i64)) 52 W w.heap.size (fun _ => True) (.slice vB q2.rows.length cB) q2.rows) wN := ⟨HXN, hS2⟩); have HXB := (XB.rows (Kd.slice 3 (Kd.int .i64)) 52 w.heap.size (fun _ => True) (.slice vA q1.rows.length cA) q1.rows).and (XB.rows (Kd.slice 3 (Kd.int .i64)) 52 w.heap.size (fun _ => True) (.slice vB q2.rows.length cB) q2.rows); have HXS := (XS.rows (Kd.slice 3 (Kd.int .i64)) 52 w.heap.size (fun _ => True) (.slice vA q1.rows.length cA) q1.rows (T := 30) (by decide)).and (XS.rows (Kd.slice 3 (Kd.int .i64)) 52 w.heap.size (fun _ => True) (.slice vB q2.rows.length cB) q2.rows (T := 30) (by decide)); clear hS2 HXN; unfold seqV))
      | (go_at_call 9; refine (HA.out _ HO.below).mono ?_; rintro eN wN ⟨rfl, hbN⟩; have HON := HO.call hbN; have HXN := HXB _ _ HX hbN; clear HO HX hbN; have HO := HON; have HX := HXN; clear HON HXN)
      | ((with_reducible refine gate ?_); (first
      | ((refine own_boxX HO HX HXB rfl rfl rfl ?_); clear HO HX; intro gN wN hgN HO HX; (simp only [List.nil_append, List.cons_append] at HO); (try simp only [Act.put, List.setIfInBounds_toArray, List.set_cons_zero, List.set_cons_succ]))
      | ((refine own_allocX (T := 30) HO HX HXB rfl rfl Tryd.zeroValue30 rfl ?_); clear HO HX; intro gN wN hgN HO HX; (simp only [List.nil_append, List.cons_append] at HO); (try simp only [Act.put, List.setIfInBounds_toArray, List.set_cons_zero, List.set_cons_succ]))
      | ((refine own_load (T := 25) HO rfl rfl rfl (by first | exact .head _ | exact .tail _ (.head _) | exact .tail _ (.tail _ (.head _)) | exact .tail _ (.tail _ (.tail _ (.head _))) | exact .tail _ (.tail _ (.tail _ (.tail _ (.head _)))) | exact .tail _ (.tail _ (.tail _ (.tail _ (.tail _ (.head _)))))) Tryd.isAgg25 Tryd.sizeOf25 (by repeat constructor) ?_); (try simp only [Act.put, List.setIfInBounds_toArray, List.set_cons_zero, List.set_cons_succ]))
      | ((refine own_load (T := 30) HO rfl rfl rfl (by first | exact .head _ | exact .tail _ (.head _) | exact .tail _ (.tail _ (.head _)) | exact .tail _ (.tail _ (.tail _ (.head _))) | exact .tail _ (.tail _ (.tail _ (.tail _ (.head _)))) | exact .tail _ (.tail _ (.tail _ (.tail _ (.tail _ (.head _)))))) Tryd.isAgg30 Tryd.sizeOf30 (by repeat constructor) ?_); (try simp only [Act.put, List.setIfInBounds_toArray, List.set_cons_zero, List.set_cons_succ]))
      | ((refine own_load1 (T := 3) HO rfl rfl rfl (by first | exact .head _ | exact .tail _ (.head _) | exact .tail _ (.tail _ (.head _)) | exact .tail _ (.tail _ (.tail _ (.head _))) | exact .tail _ (.tail _ (.tail _ (.tail _ (.head _)))) | exact .tail _ (.tail _ (.tail _ (.tail _ (.tail _ (.head _)))))) Tryd.isAgg3 rfl ?_); (try simp only [Act.put, List.setIfInBounds_toArray, List.set_cons_zero, List.set_cons_succ]))
      | ((refine own_storeX (T := 25) HO HX rfl rfl rfl rfl (by first | exact .here | exact .there (.here) | exact .there (.there (.here)) | exact .there (.there (.there (.here))) | exact .there (.there (.there (.there (.here)))) | exact .there (.there (.there (.there (.there (.here)))))) HXS Tryd.sizeOf25 (by repeat constructor) rfl ?_); clear HO HX; intro wN HO HX; (try simp only [Act.put, List.setIfInBounds_toArray, List.set_cons_zero, List.set_cons_succ]))
      | ((refine own_storeX (T := 30) HO HX rfl rfl rfl rfl (by first | exact .here | exact .there (.here) | exact .there (.there (.here)) | exact .there (.there (.there (.here))) | exact .there (.there (.there (.there (.here)))) | exact .there (.there (.there (.there (.there (.here)))))) HXS Tryd.sizeOf30 (by repeat constructor) rfl ?_); clear HO HX; intro wN HO HX; (try simp only [Act.put, List.setIfInBounds_toArray, List.set_cons_zero, List.set_cons_succ]))
      | ((refine own_storeX1 (T := 3) HO HX rfl rfl rfl (by first | exact .const | exact .tmp rfl | exact .func) (by rfl) (by first | exact .here | exact .there (.here) | exact .there (.there (.here)) | exact .there (.there (.there (.here))) | exact .there (.there (.there (.there (.here)))) | exact .there (.there (.there (.there (.there (.here)))))) HXS Tryd.sizeOf3 (by repeat constructor) (by rfl) ?_); clear HO HX; intro wN HO HX; (try simp only [Act.put, List.setIfInBounds_toArray, List.set_cons_zero, List.set_cons_succ])))))
  refine region_law 20 [fIs (.bool true), fIs (.bool true), fSq w.heap.size q1, fSq w.heap.size q2, fIs (.bool false), fIs (.bool false), fIs (.bool false), fIs (undef), fIs (.bool false), fIs (.bool true), fIs (.bool true), fIs (.bool true), fSq w.heap.size q1, fIs (.agg #[.int .i64 x0, .int .i64 x1, .int .i64 x2, .int .i64 x3, .int .i64 x4, .int .i64 x5, .int .i64 x6, .int .i64 x7, .int .i64 x8, .bool x9, .bool x10, .bool x11, .bool x12, .bool x13, .bool x14, .bool x15, .int .i64 x16, .int .i64 x17, .int .i64 x18]), fIs (.bool p), fIs (.bool (!p)), fSq w.heap.size q3, fIs (.bool false), fIs (.bool true), fIs (.bool true)] HO (by kernel_rfl) (by kernel_rfl) (by decide) (by kernel_rfl)
    (stays_cons (Stays.fIs _) (stays_cons (Stays.fIs _) (stays_cons (Stays.fSq _ _) (stays_cons (Stays.fSq _ _) (stays_cons (Stays.fIs _) (stays_cons (Stays.fIs _) (stays_cons (Stays.fIs _) (stays_cons (Stays.fIs _) (stays_cons (Stays.fIs _) (stays_cons (Stays.fIs _) (stays_cons (Stays.fIs _) (stays_cons (Stays.fIs _) (stays_cons (Stays.fSq _ _) (stays_cons (Stays.fIs _) (stays_cons (Stays.fIs _) (stays_cons (Stays.fIs _) (stays_cons (Stays.fSq _ _) (stays_cons (Stays.fIs _) (stays_cons (Stays.fIs _) (stays_cons (Stays.fIs _) stays_nil)))))))))))))))))))) ?_
  intro vals A hA
  simp [fillL, dstOf, List.range, List.range.loop, Act.put] at hA
  subst hA
  refine ⟨⟨?_, ?_, ?_, ?_, ?_, ?_, ?_, ?_, ?_, ?_, ?_, ?_, ?_, ?_, ?_, ?_, ?_, ?_, ?_, ?_, trivial⟩, ?_⟩
  all_goals intro W hd hM hb0
  case refine_1 =>
    skip
    exact st_val rfl (by simp only [execOp]; first | (go_simp; done) | (go_simp; rfl)) rfl
  case refine_2 =>
    have v0 : vals 0 = .bool true := hd 0 (by kernel_rfl)
    rw [v0]
    exact st_val rfl (by simp only [execOp]; first | (go_simp; done) | (go_simp; rfl)) rfl
  case refine_3 =>
    have v1 : vals 1 = .bool true := hd 1 (by kernel_rfl)
    rw [v1]
    exact st_load hM rfl rfl rfl (.tail _ (.tail _ (.head _))) Tryd.isAgg30 Tryd.sizeOf30 (by repeat constructor) ⟨_, rfl, Kd.S_below HX.1 hb0⟩
  case refine_4 =>
    have v1 : vals 1 = .bool true := hd 1 (by kernel_rfl)
    rw [v1]
    exact st_load hM rfl rfl rfl (.tail _ (.tail _ (.tail _ (.head _)))) Tryd.isAgg30 Tryd.sizeOf30 (by repeat constructor) ⟨_, rfl, Kd.S_below HX.2 hb0⟩
  case refine_5 =>
    have v1 : vals 1 = .bool true := hd 1 (by kernel_rfl)
    rw [v1]
    exact st_call rfl (by simp only [execOp]; first | (go_simp; done) | (go_simp; rfl)) (H1.out W _ _ _ _ hM.below (hd 2 (by kernel_rfl)) (hd 3 (by kernel_rfl))) (by rintro e w' ⟨rfl, hb⟩; exact ⟨_, rfl, hb, rfl⟩)
  case refine_6 =>
    have v1 : vals 1 = .bool true := hd 1 (by kernel_rfl)
    rw [v1]
    exact st_val rfl (by simp only [execOp]; first | (go_simp; done) | (go_simp; rfl)) rfl
  case refine_7 =>
    have v1 : vals 1 = .bool true := hd 1 (by kernel_rfl)
    have v5 : vals 5 = .bool false := hd 5 (by kernel_rfl)
    rw [v1, v5]
    exact st_val rfl (by simp only [execOp]; first | (go_simp; done) | (go_simp; rfl)) rfl
  case refine_8 =>
    have v6 : vals 6 = .bool false := hd 6 (by kernel_rfl)
    rw [v6]
    exact st_pass rfl rfl
  case refine_9 =>
    have v1 : vals 1 = .bool true := hd 1 (by kernel_rfl)
    have v6 : vals 6 = .bool false := hd 6 (by kernel_rfl)
    rw [v1, v6]
    exact st_val rfl (by simp only [execOp]; first | (go_simp; done) | (go_simp; rfl)) rfl
  case refine_10 =>
    have v1 : vals 1 = .bool true := hd 1 (by kernel_rfl)
    have v4 : vals 4 = .bool false := hd 4 (by kernel_rfl)
    have v8 : vals 8 = .bool false := hd 8 (by kernel_rfl)
    rw [v1, v4, v8]
    exact st_val rfl (by simp only [execOp]; first | (go_simp; done) | (go_simp; rfl)) rfl
  case refine_11 =>
    have v1 : vals 1 = .bool true := hd 1 (by kernel_rfl)
    have v9 : vals 9 = .bool true := hd 9 (by kernel_rfl)
    rw [v1, v9]
    exact st_val rfl (by simp only [execOp]; first | (go_simp; done) | (go_simp; rfl)) rfl
  case refine_12 =>
    have v10 : vals 10 = .bool true := hd 10 (by kernel_rfl)
    rw [v10]
    exact st_val rfl (by simp only [execOp]; first | (go_simp; done) | (go_simp; rfl)) rfl
  case refine_13 =>
    have v11 : vals 11 = .bool true := hd 11 (by kernel_rfl)
    rw [v11]
    exact st_load hM rfl rfl rfl (.tail _ (.tail _ (.head _))) Tryd.isAgg30 Tryd.sizeOf30 (by repeat constructor) ⟨_, rfl, Kd.S_below HX.1 hb0⟩
  case refine_14 =>
    have v11 : vals 11 = .bool true := hd 11 (by kernel_rfl)
    rw [v11]
    exact st_load hM rfl rfl rfl (.head _) Tryd.isAgg25 Tryd.sizeOf25 (by repeat constructor) rfl
  case refine_15 =>
    have v11 : vals 11 = .bool true := hd 11 (by kernel_rfl)
    rw [v11]
    exact st_val rfl (by simp only [execOp]; first | (go_simp; done) | (go_simp; rfl)) rfl
  case refine_16 =>
    have v11 : vals 11 = .bool true := hd 11 (by kernel_rfl)
    have v14 : vals 14 = .bool p := hd 14 (by kernel_rfl)
    rw [v11, v14]
    exact st_val rfl (by simp only [execOp]; first | (go_simp; done) | (go_simp; rfl)) rfl
  case refine_17 =>
    have v11 : vals 11 = .bool true := hd 11 (by kernel_rfl)
    have v13 : vals 13 = .agg #[.int .i64 x0, .int .i64 x1, .int .i64 x2, .int .i64 x3, .int .i64 x4, .int .i64 x5, .int .i64 x6, .int .i64 x7, .int .i64 x8, .bool x9, .bool x10, .bool x11, .bool x12, .bool x13, .bool x14, .bool x15, .int .i64 x16, .int .i64 x17, .int .i64 x18] := hd 13 (by kernel_rfl)
    have v15 : vals 15 = .bool (!p) := hd 15 (by kernel_rfl)
    rw [v11, v13, v15]
    exact st_call rfl (by simp only [execOp]; first | (go_simp; done) | (go_simp; rfl)) (T3.out W hM.below) (by rintro e w' ⟨v, rfl, hS, hb⟩; exact ⟨_, rfl, hb, hS.lower hM.below.size⟩)
  case refine_18 =>
    have v11 : vals 11 = .bool true := hd 11 (by kernel_rfl)
    rw [v11]
    exact st_call rfl (by simp only [execOp]; first | (go_simp; done) | (go_simp; rfl)) (H2.out W _ _ _ _ hM.below (hd 12 (by kernel_rfl)) (hd 16 (by kernel_rfl))) (by rintro e w' ⟨rfl, hb⟩; exact ⟨_, rfl, hb, rfl⟩)
  case refine_19 =>
    have v11 : vals 11 = .bool true := hd 11 (by kernel_rfl)
    have v17 : vals 17 = .bool false := hd 17 (by kernel_rfl)
    rw [v11, v17]
    exact st_val rfl (by simp only [execOp]; first | (go_simp; done) | (go_simp; rfl)) rfl
  case refine_20 =>
    have v11 : vals 11 = .bool true := hd 11 (by kernel_rfl)
    have v18 : vals 18 = .bool true := hd 18 (by kernel_rfl)
    rw [v11, v18]
    exact st_val rfl (by simp only [execOp]; first | (go_simp; done) | (go_simp; rfl)) rfl
  case refine_21 =>
    have v19 : vals 19 = .bool true := hd 19 (by omega)
    rw [v19]
    simp only [List.drop_succ_cons, List.drop_zero]
    go_wp2
    go_ret
    exact ⟨rfl, hM.below⟩
set_option maxRecDepth 100000 in
set_option maxHeartbeats 4000000 in
theorem places_false_false (x0 x1 x2 x3 x4 x5 x6 x7 x8 : Int) (x9 x10 x11 x12 x13 x14 x15 : Bool) (x16 x17 x18 : Int) (y0 y1 y2 y3 y4 y5 y6 y7 y8 : Int) (y9 y10 y11 y12 y13 y14 y15 : Bool) (y16 y17 y18 : Int) (p : Bool) (w : World) (q1 q2 q3 : Sq) (ha : Gives 9 #[] (.bool true) w)
    (t1 : Tells 11 #[.agg #[.int .i64 x0, .int .i64 x1, .int .i64 x2, .int .i64 x3, .int .i64 x4, .int .i64 x5, .int .i64 x6, .int .i64 x7, .int .i64 x8, .bool x9, .bool x10, .bool x11, .bool x12, .bool x13, .bool x14, .bool x15, .int .i64 x16, .int .i64 x17, .int .i64 x18], .bool p] q1 w) (t2 : Tells 11 #[.agg #[.int .i64 y0, .int .i64 y1, .int .i64 y2, .int .i64 y3, .int .i64 y4, .int .i64 y5, .int .i64 y6, .int .i64 y7, .int .i64 y8, .bool y9, .bool y10, .bool y11, .bool y12, .bool y13, .bool y14, .bool y15, .int .i64 y16, .int .i64 y17, .int .i64 y18], .bool p] q2 w) (t3 : Tells 11 #[.agg #[.int .i64 x0, .int .i64 x1, .int .i64 x2, .int .i64 x3, .int .i64 x4, .int .i64 x5, .int .i64 x6, .int .i64 x7, .int .i64 x8, .bool x9, .bool x10, .bool x11, .bool x12, .bool x13, .bool x14, .bool x15, .int .i64 x16, .int .i64 x17, .int .i64 x18], .bool (!p)] q3 w)
    (h1 : SameIs q1 q2 false w) (h2 : SameIs q1 q3 false w) (hr : (mn (mx x2 0) 65535 == mn (mx y2 0) 65535) = false) (hc : (mn (mx x3 0) 65535 == mn (mx y3 0) 65535) = false) :
    Calls Tryd.prog 6 #[.agg #[.int .i64 x0, .int .i64 x1, .int .i64 x2, .int .i64 x3, .int .i64 x4, .int .i64 x5, .int .i64 x6, .int .i64 x7, .int .i64 x8, .bool x9, .bool x10, .bool x11, .bool x12, .bool x13, .bool x14, .bool x15, .int .i64 x16, .int .i64 x17, .int .i64 x18], .agg #[.int .i64 y0, .int .i64 y1, .int .i64 y2, .int .i64 y3, .int .i64 y4, .int .i64 y5, .int .i64 y6, .int .i64 y7, .int .i64 y8, .bool y9, .bool y10, .bool y11, .bool y12, .bool y13, .bool y14, .bool y15, .int .i64 y16, .int .i64 y17, .int .i64 y18], .bool p] w fun e w' => e = .returned (.bool true) ∧ Below w.heap.size w w' := by
  have HO := Mine.start w
  have HX : (fun _ : World => True) w := trivial
  have HXB : XB (fun _ : World => True) := fun _ _ _ _ => trivial
  have HXS : XS 30 (fun _ : World => True) := fun _ _ _ _ _ _ => trivial
  have HA := Lib.hid ha
  have T1 := Lib.hid t1
  have T2 := Lib.hid t2
  have T3 := Lib.hid t3
  have H1 := Lib.hid h1
  have H2 := Lib.hid h2
  clear ha t1 t2 t3 h1 h2
  go_enter Tryd.func6, Tryd.ntmps6
  go_wp2_with (first
      | (go_at_call 11; first | (refine (T1.out _ HO.below).mono ?_; clear T1; rintro eN wN ⟨vR, rfl, ⟨uR, rfl, hS⟩, hbN⟩; obtain ⟨vA, cA, rfl⟩ := Kd.S_slice hS; have hS2 := Kd.S_lower hS HO.below.size; have HON := HO.call hbN; clear HO HX HXB HXS hbN hS; have HO := HON; clear HON; (have HX : (fun W => Kd.S (Kd.slice 3 (Kd.int .i64)) 52 W w.heap.size (fun _ => True) (.slice vA q1.rows.length cA) q1.rows) wN := hS2); have HXB := XB.rows (Kd.slice 3 (Kd.int .i64)) 52 w.heap.size (fun _ => True) (.slice vA q1.rows.length cA) q1.rows; have HXS := XS.rows (Kd.slice 3 (Kd.int .i64)) 52 w.heap.size (fun _ => True) (.slice vA q1.rows.length cA) q1.rows (T := 30) (by decide); clear hS2; unfold seqV) | (refine (T2.out _ HO.below).mono ?_; clear T2; rintro eN wN ⟨vR, rfl, ⟨uR, rfl, hS⟩, hbN⟩; obtain ⟨vB, cB, rfl⟩ := Kd.S_slice hS; have hS2 := Kd.S_lower hS HO.below.size; have HON := HO.call hbN; have HXN := HXB _ _ HX hbN; clear HO HX HXB HXS hbN hS; have HO := HON; clear HON; (have HX : (fun W => Kd.S (Kd.slice 3 (Kd.int .i64)) 52 W w.heap.size (fun _ => True) (.slice vA q1.rows.length cA) q1.rows ∧ Kd.S (Kd.slice 3 (Kd.int .i64)) 52 W w.heap.size (fun _ => True) (.slice vB q2.rows.length cB) q2.rows) wN := ⟨HXN, hS2⟩); have HXB := (XB.rows (Kd.slice 3 (Kd.int .i64)) 52 w.heap.size (fun _ => True) (.slice vA q1.rows.length cA) q1.rows).and (XB.rows (Kd.slice 3 (Kd.int .i64)) 52 w.heap.size (fun _ => True) (.slice vB q2.rows.length cB) q2.rows); have HXS := (XS.rows (Kd.slice 3 (Kd.int .i64)) 52 w.heap.size (fun _ => True) (.slice vA q1.rows.length cA) q1.rows (T := 30) (by decide)).and (XS.rows (Kd.slice 3 (Kd.int .i64)) 52 w.heap.size (fun _ => True) (.slice vB q2.rows.length cB) q2.rows (T := 30) (by decide)); clear hS2 HXN; unfold seqV))
      | (go_at_call 9; refine (HA.out _ HO.below).mono ?_; rintro eN wN ⟨rfl, hbN⟩; have HON := HO.call hbN; have HXN := HXB _ _ HX hbN; clear HO HX hbN; have HO := HON; have HX := HXN; clear HON HXN)
      | ((with_reducible refine gate ?_); (first
      | ((refine own_boxX HO HX HXB rfl rfl rfl ?_); clear HO HX; intro gN wN hgN HO HX; (simp only [List.nil_append, List.cons_append] at HO); (try simp only [Act.put, List.setIfInBounds_toArray, List.set_cons_zero, List.set_cons_succ]))
      | ((refine own_allocX (T := 30) HO HX HXB rfl rfl Tryd.zeroValue30 rfl ?_); clear HO HX; intro gN wN hgN HO HX; (simp only [List.nil_append, List.cons_append] at HO); (try simp only [Act.put, List.setIfInBounds_toArray, List.set_cons_zero, List.set_cons_succ]))
      | ((refine own_load (T := 25) HO rfl rfl rfl (by first | exact .head _ | exact .tail _ (.head _) | exact .tail _ (.tail _ (.head _)) | exact .tail _ (.tail _ (.tail _ (.head _))) | exact .tail _ (.tail _ (.tail _ (.tail _ (.head _)))) | exact .tail _ (.tail _ (.tail _ (.tail _ (.tail _ (.head _)))))) Tryd.isAgg25 Tryd.sizeOf25 (by repeat constructor) ?_); (try simp only [Act.put, List.setIfInBounds_toArray, List.set_cons_zero, List.set_cons_succ]))
      | ((refine own_load (T := 30) HO rfl rfl rfl (by first | exact .head _ | exact .tail _ (.head _) | exact .tail _ (.tail _ (.head _)) | exact .tail _ (.tail _ (.tail _ (.head _))) | exact .tail _ (.tail _ (.tail _ (.tail _ (.head _)))) | exact .tail _ (.tail _ (.tail _ (.tail _ (.tail _ (.head _)))))) Tryd.isAgg30 Tryd.sizeOf30 (by repeat constructor) ?_); (try simp only [Act.put, List.setIfInBounds_toArray, List.set_cons_zero, List.set_cons_succ]))
      | ((refine own_load1 (T := 3) HO rfl rfl rfl (by first | exact .head _ | exact .tail _ (.head _) | exact .tail _ (.tail _ (.head _)) | exact .tail _ (.tail _ (.tail _ (.head _))) | exact .tail _ (.tail _ (.tail _ (.tail _ (.head _)))) | exact .tail _ (.tail _ (.tail _ (.tail _ (.tail _ (.head _)))))) Tryd.isAgg3 rfl ?_); (try simp only [Act.put, List.setIfInBounds_toArray, List.set_cons_zero, List.set_cons_succ]))
      | ((refine own_storeX (T := 25) HO HX rfl rfl rfl rfl (by first | exact .here | exact .there (.here) | exact .there (.there (.here)) | exact .there (.there (.there (.here))) | exact .there (.there (.there (.there (.here)))) | exact .there (.there (.there (.there (.there (.here)))))) HXS Tryd.sizeOf25 (by repeat constructor) rfl ?_); clear HO HX; intro wN HO HX; (try simp only [Act.put, List.setIfInBounds_toArray, List.set_cons_zero, List.set_cons_succ]))
      | ((refine own_storeX (T := 30) HO HX rfl rfl rfl rfl (by first | exact .here | exact .there (.here) | exact .there (.there (.here)) | exact .there (.there (.there (.here))) | exact .there (.there (.there (.there (.here)))) | exact .there (.there (.there (.there (.there (.here)))))) HXS Tryd.sizeOf30 (by repeat constructor) rfl ?_); clear HO HX; intro wN HO HX; (try simp only [Act.put, List.setIfInBounds_toArray, List.set_cons_zero, List.set_cons_succ]))
      | ((refine own_storeX1 (T := 3) HO HX rfl rfl rfl (by first | exact .const | exact .tmp rfl | exact .func) (by rfl) (by first | exact .here | exact .there (.here) | exact .there (.there (.here)) | exact .there (.there (.there (.here))) | exact .there (.there (.there (.there (.here)))) | exact .there (.there (.there (.there (.there (.here)))))) HXS Tryd.sizeOf3 (by repeat constructor) (by rfl) ?_); clear HO HX; intro wN HO HX; (try simp only [Act.put, List.setIfInBounds_toArray, List.set_cons_zero, List.set_cons_succ])))))
  refine region_law 20 [fIs (.bool true), fIs (.bool true), fSq w.heap.size q1, fSq w.heap.size q2, fIs (.bool false), fIs (.bool false), fIs (.bool false), fIs (undef), fIs (.bool false), fIs (.bool true), fIs (.bool true), fIs (.bool true), fSq w.heap.size q1, fIs (.agg #[.int .i64 x0, .int .i64 x1, .int .i64 x2, .int .i64 x3, .int .i64 x4, .int .i64 x5, .int .i64 x6, .int .i64 x7, .int .i64 x8, .bool x9, .bool x10, .bool x11, .bool x12, .bool x13, .bool x14, .bool x15, .int .i64 x16, .int .i64 x17, .int .i64 x18]), fIs (.bool p), fIs (.bool (!p)), fSq w.heap.size q3, fIs (.bool false), fIs (.bool true), fIs (.bool true)] HO (by kernel_rfl) (by kernel_rfl) (by decide) (by kernel_rfl)
    (stays_cons (Stays.fIs _) (stays_cons (Stays.fIs _) (stays_cons (Stays.fSq _ _) (stays_cons (Stays.fSq _ _) (stays_cons (Stays.fIs _) (stays_cons (Stays.fIs _) (stays_cons (Stays.fIs _) (stays_cons (Stays.fIs _) (stays_cons (Stays.fIs _) (stays_cons (Stays.fIs _) (stays_cons (Stays.fIs _) (stays_cons (Stays.fIs _) (stays_cons (Stays.fSq _ _) (stays_cons (Stays.fIs _) (stays_cons (Stays.fIs _) (stays_cons (Stays.fIs _) (stays_cons (Stays.fSq _ _) (stays_cons (Stays.fIs _) (stays_cons (Stays.fIs _) (stays_cons (Stays.fIs _) stays_nil)))))))))))))))))))) ?_
  intro vals A hA
  simp [fillL, dstOf, List.range, List.range.loop, Act.put] at hA
  subst hA
  refine ⟨⟨?_, ?_, ?_, ?_, ?_, ?_, ?_, ?_, ?_, ?_, ?_, ?_, ?_, ?_, ?_, ?_, ?_, ?_, ?_, ?_, trivial⟩, ?_⟩
  all_goals intro W hd hM hb0
  case refine_1 =>
    skip
    exact st_val rfl (by simp only [execOp]; first | (go_simp; done) | (go_simp; rfl)) rfl
  case refine_2 =>
    have v0 : vals 0 = .bool true := hd 0 (by kernel_rfl)
    rw [v0]
    exact st_val rfl (by simp only [execOp]; first | (go_simp; done) | (go_simp; rfl)) rfl
  case refine_3 =>
    have v1 : vals 1 = .bool true := hd 1 (by kernel_rfl)
    rw [v1]
    exact st_load hM rfl rfl rfl (.tail _ (.tail _ (.head _))) Tryd.isAgg30 Tryd.sizeOf30 (by repeat constructor) ⟨_, rfl, Kd.S_below HX.1 hb0⟩
  case refine_4 =>
    have v1 : vals 1 = .bool true := hd 1 (by kernel_rfl)
    rw [v1]
    exact st_load hM rfl rfl rfl (.tail _ (.tail _ (.tail _ (.head _)))) Tryd.isAgg30 Tryd.sizeOf30 (by repeat constructor) ⟨_, rfl, Kd.S_below HX.2 hb0⟩
  case refine_5 =>
    have v1 : vals 1 = .bool true := hd 1 (by kernel_rfl)
    rw [v1]
    exact st_call rfl (by simp only [execOp]; first | (go_simp; done) | (go_simp; rfl)) (H1.out W _ _ _ _ hM.below (hd 2 (by kernel_rfl)) (hd 3 (by kernel_rfl))) (by rintro e w' ⟨rfl, hb⟩; exact ⟨_, rfl, hb, rfl⟩)
  case refine_6 =>
    have v1 : vals 1 = .bool true := hd 1 (by kernel_rfl)
    rw [v1]
    exact st_val rfl (by simp only [execOp]; first | (go_simp; done) | (go_simp; rfl)) rfl
  case refine_7 =>
    have v1 : vals 1 = .bool true := hd 1 (by kernel_rfl)
    have v5 : vals 5 = .bool false := hd 5 (by kernel_rfl)
    rw [v1, v5]
    exact st_val rfl (by simp only [execOp]; first | (go_simp; done) | (go_simp; rfl)) rfl
  case refine_8 =>
    have v6 : vals 6 = .bool false := hd 6 (by kernel_rfl)
    rw [v6]
    exact st_pass rfl rfl
  case refine_9 =>
    have v1 : vals 1 = .bool true := hd 1 (by kernel_rfl)
    have v6 : vals 6 = .bool false := hd 6 (by kernel_rfl)
    rw [v1, v6]
    exact st_val rfl (by simp only [execOp]; first | (go_simp; done) | (go_simp; rfl)) rfl
  case refine_10 =>
    have v1 : vals 1 = .bool true := hd 1 (by kernel_rfl)
    have v4 : vals 4 = .bool false := hd 4 (by kernel_rfl)
    have v8 : vals 8 = .bool false := hd 8 (by kernel_rfl)
    rw [v1, v4, v8]
    exact st_val rfl (by simp only [execOp]; first | (go_simp; done) | (go_simp; rfl)) rfl
  case refine_11 =>
    have v1 : vals 1 = .bool true := hd 1 (by kernel_rfl)
    have v9 : vals 9 = .bool true := hd 9 (by kernel_rfl)
    rw [v1, v9]
    exact st_val rfl (by simp only [execOp]; first | (go_simp; done) | (go_simp; rfl)) rfl
  case refine_12 =>
    have v10 : vals 10 = .bool true := hd 10 (by kernel_rfl)
    rw [v10]
    exact st_val rfl (by simp only [execOp]; first | (go_simp; done) | (go_simp; rfl)) rfl
  case refine_13 =>
    have v11 : vals 11 = .bool true := hd 11 (by kernel_rfl)
    rw [v11]
    exact st_load hM rfl rfl rfl (.tail _ (.tail _ (.head _))) Tryd.isAgg30 Tryd.sizeOf30 (by repeat constructor) ⟨_, rfl, Kd.S_below HX.1 hb0⟩
  case refine_14 =>
    have v11 : vals 11 = .bool true := hd 11 (by kernel_rfl)
    rw [v11]
    exact st_load hM rfl rfl rfl (.head _) Tryd.isAgg25 Tryd.sizeOf25 (by repeat constructor) rfl
  case refine_15 =>
    have v11 : vals 11 = .bool true := hd 11 (by kernel_rfl)
    rw [v11]
    exact st_val rfl (by simp only [execOp]; first | (go_simp; done) | (go_simp; rfl)) rfl
  case refine_16 =>
    have v11 : vals 11 = .bool true := hd 11 (by kernel_rfl)
    have v14 : vals 14 = .bool p := hd 14 (by kernel_rfl)
    rw [v11, v14]
    exact st_val rfl (by simp only [execOp]; first | (go_simp; done) | (go_simp; rfl)) rfl
  case refine_17 =>
    have v11 : vals 11 = .bool true := hd 11 (by kernel_rfl)
    have v13 : vals 13 = .agg #[.int .i64 x0, .int .i64 x1, .int .i64 x2, .int .i64 x3, .int .i64 x4, .int .i64 x5, .int .i64 x6, .int .i64 x7, .int .i64 x8, .bool x9, .bool x10, .bool x11, .bool x12, .bool x13, .bool x14, .bool x15, .int .i64 x16, .int .i64 x17, .int .i64 x18] := hd 13 (by kernel_rfl)
    have v15 : vals 15 = .bool (!p) := hd 15 (by kernel_rfl)
    rw [v11, v13, v15]
    exact st_call rfl (by simp only [execOp]; first | (go_simp; done) | (go_simp; rfl)) (T3.out W hM.below) (by rintro e w' ⟨v, rfl, hS, hb⟩; exact ⟨_, rfl, hb, hS.lower hM.below.size⟩)
  case refine_18 =>
    have v11 : vals 11 = .bool true := hd 11 (by kernel_rfl)
    rw [v11]
    exact st_call rfl (by simp only [execOp]; first | (go_simp; done) | (go_simp; rfl)) (H2.out W _ _ _ _ hM.below (hd 12 (by kernel_rfl)) (hd 16 (by kernel_rfl))) (by rintro e w' ⟨rfl, hb⟩; exact ⟨_, rfl, hb, rfl⟩)
  case refine_19 =>
    have v11 : vals 11 = .bool true := hd 11 (by kernel_rfl)
    have v17 : vals 17 = .bool false := hd 17 (by kernel_rfl)
    rw [v11, v17]
    exact st_val rfl (by simp only [execOp]; first | (go_simp; done) | (go_simp; rfl)) rfl
  case refine_20 =>
    have v11 : vals 11 = .bool true := hd 11 (by kernel_rfl)
    have v18 : vals 18 = .bool true := hd 18 (by kernel_rfl)
    rw [v11, v18]
    exact st_val rfl (by simp only [execOp]; first | (go_simp; done) | (go_simp; rfl)) rfl
  case refine_21 =>
    have v19 : vals 19 = .bool true := hd 19 (by omega)
    rw [v19]
    simp only [List.drop_succ_cons, List.drop_zero]
    go_wp2
    go_ret
    exact ⟨rfl, hM.below⟩
end Go.Proofs.YtopcleljecdkkaaDoor
end
