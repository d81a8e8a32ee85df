/- Q: texts run together by shake.py: ReportStyle. -/
import Derived.ArgAppend
import Derived.Below
import Derived.BigQuiet
import Derived.ChangeOld
import Derived.ChangeSlices
import Derived.Deep.AppendLies
import Derived.Deep.CutBlock
import Derived.Deep.DeepCutAuto
import Derived.Deep.DeepHandedRow
import Derived.Deep.Draws
import Derived.Deep.LoopGhost
import Derived.Deep.Matrix
import Derived.Deep.OwnRows
import Derived.Deep.Quiet
import Derived.Deep.QuietTactic
import Derived.Deep.RegionHeld3
import Derived.Ground.Names2Prog
import Derived.Ground.SlgnProg
import Derived.KernelRfl
import Derived.Laws.AppendOwn
import Derived.Laws.AppendOwnNone
import Derived.Laws.BitsLemmas
import Derived.Laws.BytesArg
import Derived.Laws.Concat
import Derived.Laws.CopyRow
import Derived.Laws.IdiomCopy
import Derived.Laws.IdiomStrings
import Derived.Laws.MakeOwn
import Derived.Laws.OwnMore
import Derived.Laws.Rows
import Derived.Laws.Slices
import Derived.Laws.StructEq
import Derived.Laws.Tables
import Derived.Lib.AppendIntMem
import Derived.Lib.AppendStr
import Derived.Lib.ConvBytes
import Derived.Lib.Hide
import Derived.Lib.ItoaLen
import Derived.Lib.ItoaNum
import Derived.Lib.Join
import Derived.Lib.LaidTab
import Derived.Lib.Strings
import Derived.MapKept
import Derived.Maps.AppendAt
import Derived.OpenShut
import Derived.Orders
import Derived.OrdersHeld
import Derived.Outline
import Derived.OwnWalk
import Derived.ProofKit
import Derived.RowKit
import Derived.RowKit3
import Derived.Shelf.LaysM
import Derived.Shelf.Slices.Clone
import Derived.Shelf.SlicesE.Clone
import Derived.Shelf.Strconv.Itoa0
import Derived.Shelf.Strconv.Itoa1
import Derived.Shelf.Strconv.Itoa2
import Derived.Shelf.Strconv.Itoa3
import Derived.Shelf.Strings.Builder1
import Derived.Shelf.Strings.Builder2
import Derived.Shelf.Strings.Builder2Cap
import Derived.Shelf.Strings.BuilderCap
import Derived.Shelf.Strings.BuilderF
import Derived.Shelf.Strings.BuilderK
import Derived.Shelf.Strings.OnBuilder
import Derived.ShutString
import Derived.SizedLaws
import Derived.Still
import Derived.Stop.LaidErr
import Derived.Tactics
import Derived.Test.YtopcleljecdkkaaDoorCards
import Derived.Test.YtopcleljecdkkaaDoorProg
import Derived.Test.YtopcleljecdkkaaDoorTie
import Derived.WalkKit
import Derived.WalkLawsBesides
import Derived.WalkSpells
import Derived.WideLaws
import Derived.Test.YtopcleljecdkkaaDoorZQ1
import Derived.Test.YtopcleljecdkkaaDoorZQ2
import Derived.Test.YtopcleljecdkkaaDoorZQ3
import Derived.Test.YtopcleljecdkkaaDoorZQ4
import Derived.Test.YtopcleljecdkkaaDoorZQ5
import Derived.Test.YtopcleljecdkkaaDoorZQ6
import Derived.Test.YtopcleljecdkkaaDoorZQ7
import Derived.Test.YtopcleljecdkkaaDoorZQ8
import Derived.Test.YtopcleljecdkkaaDoorZQ9
import Derived.Test.YtopcleljecdkkaaDoorZQ12
namespace Go.Proofs.YtopcleljecdkkaaDoor
open Go.ChangeShapes Go.WideShapes Go.ChangeAt Go.RowKit Go.Proofs.YtopcleljecdkkaaDoorW.PrintWords Go.Proofs.YtopcleljecdkkaaDoorW.PrintMore G Kit
set_option linter.unusedVariables false
set_option maxRecDepth 100000
noncomputable instance : DecidableEq St := fun a b => Classical.propDecidable (a = b)
def mayS (s : St) : Bool := mayL s.2.2.2.2.2.2.2.1 s.2.2.2.2.2.2.2.2.1 s.2.2.2.2.2.2.2.2.2
theorem get_list (l : List UInt8) (i : Nat) (h : i < l.length) : (⟨l.toArray⟩ : ByteArray)[i]? = some l[i] := by
  rw [getElem?_pos _ _ (by simpa [ByteArray.size] using h)]
  rfl
theorem app_list (a b : List UInt8) : (⟨a.toArray⟩ ++ ⟨b.toArray⟩ : ByteArray) = ⟨(a ++ b).toArray⟩ := by
  apply ByteArray.ext
  simp
theorem sett_m (x4 x5 x6 x7 x8 : Int) (s : St) (h : mayS s = true) : settV x4 x5 x6 x7 x8 s ⟨#[109]⟩ = ⟨(textP (paramsV s) ++ [109]).toArray⟩ := by
  unfold settV
  rw [if_pos rfl]
  exact (if_pos h).trans (app_list _ [109])
theorem text_pos (s : St) (h : mayS s = true) : 0 < (textP (paramsV s)).length := by
  obtain ⟨b0, b1, b2, b3, b4, b5, b6, u, f, b⟩ := s
  obtain ⟨n1, f1⟩ := paramsV_fair b0 b1 b2 b3 b4 b5 b6 u f b h
  refine Nat.pos_of_ne_zero fun e => ?_
  have e2 : textP (paramsV (b0, b1, b2, b3, b4, b5, b6, u, f, b)) = textP [[-1]] := by rw [List.eq_nil_of_length_eq_zero e]; rfl
  have e3 := textP_inj n1 (by simp) f1 (by simp [G.Fair]) e2
  have h' : mayL u f b = true := h
  unfold paramsV at e3
  rw [if_pos h'] at e3
  have e4 := congrArg List.head? e3
  simp [paramsL] at e4
theorem sett_inj (x4 x5 x6 x7 x8 y4 y5 y6 y7 y8 : Int) (s t : St) (hs : mayS s = true) (ht : mayS t = true) : decide (settS x4 x5 x6 x7 x8 s ⟨#[109]⟩ = settS y4 y5 y6 y7 y8 t ⟨#[109]⟩) = decide (s = t) := by
  rw [decide_eq_decide]
  unfold settS
  rw [sett_m _ _ _ _ _ _ hs, sett_m _ _ _ _ _ _ ht]
  constructor
  · intro h
    have h2 := (Sq.mk.inj h).2.2.2.2.2
    have h3 : textP (paramsV s) ++ [109] = textP (paramsV t) ++ [109] := by
      have := congrArg (fun z : ByteArray => z.data.toList) h2
      simpa using this
    have h4 := List.append_cancel_right h3
    obtain ⟨b0, b1, b2, b3, b4, b5, b6, u, f, b⟩ := s
    obtain ⟨d0, d1, d2, d3, d4, d5, d6, v, g, c⟩ := t
    obtain ⟨n1, f1⟩ := paramsV_fair b0 b1 b2 b3 b4 b5 b6 u f b hs
    obtain ⟨n2, f2⟩ := paramsV_fair d0 d1 d2 d3 d4 d5 d6 v g c ht
    have hp := textP_inj n1 n2 f1 f2 h4
    have k1 := back_is (true, true, true, true, true, true, true, 0, 0, 0) b0 b1 b2 b3 b4 b5 b6 u f b hs
    have k2 := back_is (true, true, true, true, true, true, true, 0, 0, 0) d0 d1 d2 d3 d4 d5 d6 v g c ht
    rw [hp, k2] at k1
    exact k1.symm
  · rintro rfl
    rfl
theorem refMay_gives (x0 x1 x2 x3 x4 x5 x6 x7 x8 : Int) (x9 x10 x11 x12 x13 x14 x15 : Bool) (x16 x17 x18 : Int) (w : World) : Gives 15 #[.agg #[.bool x9, .bool x10, .bool x11, .bool x12, .bool x13, .bool x14, .bool x15, .int .i64 x16, .int .i64 x17, .int .i64 x18]] (.bool (mayS (x9, x10, x11, x12, x13, x14, x15, x16, x17, x18))) w := fun W _ =>
  (clavierref18_May.calls x9 x10 x11 x12 x13 x14 x15 x16 x17 x18 _ W (refMay_is _ _ _ _ _ _ _ _ _ _)).mono fun e w' h => ⟨h.1, by first | exact h.2 | exact h.2.below⟩
theorem sty_eq (x0 x1 x2 x3 x4 x5 x6 x7 x8 : Int) (x9 x10 x11 x12 x13 x14 x15 : Bool) (x16 x17 x18 : Int) (y0 y1 y2 y3 y4 y5 y6 y7 y8 : Int) (y9 y10 y11 y12 y13 y14 y15 : Bool) (y16 y17 y18 : Int) (w : World) : (Op.equal 23 (.agg #[.bool x9, .bool x10, .bool x11, .bool x12, .bool x13, .bool x14, .bool x15, .int .i64 x16, .int .i64 x17, .int .i64 x18]) (.agg #[.bool y9, .bool y10, .bool y11, .bool y12, .bool y13, .bool y14, .bool y15, .int .i64 y16, .int .i64 y17, .int .i64 y18])).run Tryd.prog w = .ok (decide ((x9, x10, x11, x12, x13, x14, x15, x16, x17, x18) = (y9, y10, y11, y12, y13, y14, y15, y16, y17, y18))) w := by
  refine (eqA23 _ w x9 y9 x10 y10 x11 y11 x12 y12 x13 y13 x14 y14 x15 y15 x16 y16 x17 y17 x18 y18).trans ?_
  congr 1
  rw [Bool.eq_iff_iff]
  simp only [Bool.and_eq_true, beq_iff_eq, decide_eq_true_eq, Prod.mk.injEq]
theorem reportStyle_calls (x0 x1 x2 x3 x4 x5 x6 x7 x8 : Int) (x9 x10 x11 x12 x13 x14 x15 : Bool) (x16 x17 x18 : Int) (y0 y1 y2 y3 y4 y5 y6 y7 y8 : Int) (y9 y10 y11 y12 y13 y14 y15 : Bool) (y16 y17 y18 : Int) (w : World) (hT : Tab w) (hx1 : -9223372036854775808 ≤ x17) (hx2 : -9223372036854775808 ≤ x18) (hy1 : -9223372036854775808 ≤ y17) (hy2 : -9223372036854775808 ≤ y18) :
    Calls Tryd.prog 5 #[.agg #[.int .i64 x0, .int .i64 x1, .int .i64 x2, .int .i64 x3, .int .i64 x4, .int .i64 x5, .int .i64 x6, .int .i64 x7, .int .i64 x8, .bool x9, .bool x10, .bool x11, .bool x12, .bool x13, .bool x14, .bool x15, .int .i64 x16, .int .i64 x17, .int .i64 x18], .agg #[.int .i64 y0, .int .i64 y1, .int .i64 y2, .int .i64 y3, .int .i64 y4, .int .i64 y5, .int .i64 y6, .int .i64 y7, .int .i64 y8, .bool y9, .bool y10, .bool y11, .bool y12, .bool y13, .bool y14, .bool y15, .int .i64 y16, .int .i64 y17, .int .i64 y18]] w fun e w' => e = .returned (.bool true) ∧ Below w.heap.size w w' := by
  have m1 := refMay_gives x0 x1 x2 x3 x4 x5 x6 x7 x8 x9 x10 x11 x12 x13 x14 x15 x16 x17 x18 w
  have m2 := refMay_gives y0 y1 y2 y3 y4 y5 y6 y7 y8 y9 y10 y11 y12 y13 y14 y15 y16 y17 y18 w
  cases hs : mayS (x9, x10, x11, x12, x13, x14, x15, x16, x17, x18) with
  | false =>
    rw [hs] at m1
    exact style_no1 x0 x1 x2 x3 x4 x5 x6 x7 x8 x9 x10 x11 x12 x13 x14 x15 x16 x17 x18 y0 y1 y2 y3 y4 y5 y6 y7 y8 y9 y10 y11 y12 y13 y14 y15 y16 y17 y18 w (awake_gives hT) m1
  | true =>
    rw [hs] at m1
    cases ht : mayS (y9, y10, y11, y12, y13, y14, y15, y16, y17, y18) with
    | false =>
      rw [ht] at m2
      exact style_no2 x0 x1 x2 x3 x4 x5 x6 x7 x8 x9 x10 x11 x12 x13 x14 x15 x16 x17 x18 y0 y1 y2 y3 y4 y5 y6 y7 y8 y9 y10 y11 y12 y13 y14 y15 y16 y17 y18 w (awake_gives hT) m1 m2
    | true =>
      rw [ht] at m2
      have t1 : Tells 13 _ _ w := setting_tells x0 x1 x2 x3 x4 x5 x6 x7 x8 x9 x10 x11 x12 x13 x14 x15 x16 x17 x18 ⟨#[109]⟩ hT hx1 hx2
      have t2 : Tells 13 _ _ w := setting_tells y0 y1 y2 y3 y4 y5 y6 y7 y8 y9 y10 y11 y12 y13 y14 y15 y16 y17 y18 ⟨#[109]⟩ hT hy1 hy2
      have s1 := same_sett x4 x5 x6 x7 x8 (x9, x10, x11, x12, x13, x14, x15, x16, x17, x18) ⟨#[109]⟩ (settS y4 y5 y6 y7 y8 (y9, y10, y11, y12, y13, y14, y15, y16, y17, y18) ⟨#[109]⟩) w (by simp [settS])
      rw [sett_inj _ _ _ _ _ _ _ _ _ _ _ _ hs ht] at s1
      have hE := sty_eq x0 x1 x2 x3 x4 x5 x6 x7 x8 x9 x10 x11 x12 x13 x14 x15 x16 x17 x18 y0 y1 y2 y3 y4 y5 y6 y7 y8 y9 y10 y11 y12 y13 y14 y15 y16 y17 y18
      have hn := text_pos _ hs
      have hn2 := textP_len (x9, x10, x11, x12, x13, x14, x15, x16, x17, x18)
      have hz : (settS x4 x5 x6 x7 x8 (x9, x10, x11, x12, x13, x14, x15, x16, x17, x18) ⟨#[109]⟩).data.size = (textP (paramsV (x9, x10, x11, x12, x13, x14, x15, x16, x17, x18))).length + 1 := by
        show (settV x4 x5 x6 x7 x8 (x9, x10, x11, x12, x13, x14, x15, x16, x17, x18) ⟨#[109]⟩).size = _
        rw [sett_m _ _ _ _ _ _ hs, size_list, List.length_append]; rfl
      have hi : (settS x4 x5 x6 x7 x8 (x9, x10, x11, x12, x13, x14, x15, x16, x17, x18) ⟨#[109]⟩).data[(textP (paramsV (x9, x10, x11, x12, x13, x14, x15, x16, x17, x18))).length]? = some 109 := by
        show (settV x4 x5 x6 x7 x8 (x9, x10, x11, x12, x13, x14, x15, x16, x17, x18) ⟨#[109]⟩)[(textP (paramsV (x9, x10, x11, x12, x13, x14, x15, x16, x17, x18))).length]? = some 109
        rw [sett_m _ _ _ _ _ _ hs, get_list _ _ (by simp)]
        simp
      cases hd : decide ((x9, x10, x11, x12, x13, x14, x15, x16, x17, x18) = (y9, y10, y11, y12, y13, y14, y15, y16, y17, y18)) with
      | false =>
        rw [hd] at s1
        simp only [hd] at hE
        exact style_yes_false x0 x1 x2 x3 x4 x5 x6 x7 x8 x9 x10 x11 x12 x13 x14 x15 x16 x17 x18 y0 y1 y2 y3 y4 y5 y6 y7 y8 y9 y10 y11 y12 y13 y14 y15 y16 y17 y18 w (awake_gives hT) m1 m2 _ _ t1 t2 s1 _ hn (by omega) hz hi hE
      | true =>
        rw [hd] at s1
        simp only [hd] at hE
        exact style_yes_true x0 x1 x2 x3 x4 x5 x6 x7 x8 x9 x10 x11 x12 x13 x14 x15 x16 x17 x18 y0 y1 y2 y3 y4 y5 y6 y7 y8 y9 y10 y11 y12 y13 y14 y15 y16 y17 y18 w (awake_gives hT) m1 m2 _ _ t1 t2 s1 _ hn (by omega) hz hi hE
theorem reportStyle_contract (H : Type) (enc : TypeId × Value → H) (W : World) (base : Nat) (args : Array Value) (ds gs : List (DataW H)) (before : List MemPlace)
    (hval0 : ∀ (j : Nat) t v, Tryd.f5.params[j]? = some t → args[j]? = some v → Value.okWide Tryd.prog W .any base t v)
    (hW : DataW.Whole enc Tryd.prog Tryd.f5.params.toList Rows.reportStyleSpec.vars false W args.toList ds gs before) (vt : List TypeId) (hsz : (DataW.weightsEach Tryd.prog (Tryd.f5.params.toList ++ vt) (ds ++ gs)).all (· ≤ reachBytes) = true) (hL : laidMetH Tryd.prog Rows.reportStyleRow.laid W) :
    Calls Tryd.prog 5 args W fun e W' => ∃ v, e = .returned v ∧ Rows.reportStyleSpec.post enc Tryd.prog Tryd.f5 false true false false W args v W' := by
  have htab := tabOf hL
  have hval : ∀ (j : Nat) t v, Tryd.f5.params[j]? = some t → args[j]? = some v → Value.okWide Tryd.prog W .any base t v := hval0
  have hW' := hW
  obtain ⟨p, q, hA0, hV, rfl, hfz, hnd⟩ := hW
  have hA : DataW.TrodAll enc Tryd.prog W 0 (fun _ => true) true Tryd.f5.params.toList args.toList ds p := hA0
  rw [Tryd.params5] at hA hval hsz
  obtain ⟨v0, vs0, d0, ds0, p0, q0, hargs, rfl, rfl, h0, r0⟩ := trodAll_cons hA
  obtain ⟨v1, vs1, d1, ds1, p1, q1, rfl, rfl, rfl, h1, r1⟩ := trodAll_cons r0
  obtain ⟨rfl, rfl, rfl⟩ := trodAll_nil r1
  obtain rfl : args = #[v0, v1] := by cases args; simp_all
  obtain ⟨rfl, rfl⟩ := trodVars_none hV
  have k0 := h0
  have lt0 : ∀ x ∈ p0, x.block < W.heap.size := by obtain ⟨m, hm⟩ := k0; exact DataW.trod_lt m _ _ _ hm
  have k1 := h1
  have lt1 : ∀ x ∈ p1, x.block < W.heap.size := by obtain ⟨m, hm⟩ := k1; exact DataW.trod_lt m _ _ _ hm
  obtain ⟨a0_0, a0_1, a0_2, a0_3, a0_4, a0_5, a0_6, a0_7, a0_8, a0_9, a0_10, a0_11, a0_12, a0_13, a0_14, a0_15, a0_16, a0_17, a0_18, rfl, w0_0, w0_1, w0_2, w0_3, w0_4, w0_5, w0_6, w0_7, w0_8, w0_16, w0_17, w0_18⟩ := open_screen (hval 0 25 v0 rfl rfl) h0
  obtain ⟨a1_0, a1_1, a1_2, a1_3, a1_4, a1_5, a1_6, a1_7, a1_8, a1_9, a1_10, a1_11, a1_12, a1_13, a1_14, a1_15, a1_16, a1_17, a1_18, rfl, w1_0, w1_1, w1_2, w1_3, w1_4, w1_5, w1_6, w1_7, w1_8, w1_16, w1_17, w1_18⟩ := open_screen (hval 1 25 v1 rfl rfl) h1
  clear hA0 hval0 hsz
  refine (reportStyle_calls a0_0 a0_1 a0_2 a0_3 a0_4 a0_5 a0_6 a0_7 a0_8 a0_9 a0_10 a0_11 a0_12 a0_13 a0_14 a0_15 a0_16 a0_17 a0_18 a1_0 a1_1 a1_2 a1_3 a1_4 a1_5 a1_6 a1_7 a1_8 a1_9 a1_10 a1_11 a1_12 a1_13 a1_14 a1_15 a1_16 a1_17 a1_18 W htab (intIn w0_17).1 (intIn w0_18).1 (intIn w1_17).1 (intIn w1_18).1).mono fun e W' ⟨he, bel⟩ => ?_
  subst he
  exact ⟨_, rfl, _, _, _, [], _, [], hW', trodAll_mk1 (shut_bool Tryd.underlying4 _), (trodAll_cons_mk (Below.trod laidOut (by kernel_rfl) (of_decide_eq_true (by kernel_rfl)) k0 bel lt0) (trodAll_cons_mk (Below.trod laidOut (by kernel_rfl) (of_decide_eq_true (by kernel_rfl)) k1 bel lt1) trodAll_mk0)), rfl, bel.frame _, fun h => by cases h⟩
theorem reportStyle_laidMet (os : Os) : laidMet Tryd.prog Rows.reportStyleRow.laid ((laidWorld os).forCall (fun _ _ => 0) ⟨#[], #[.agg #[.int .i64 0, .int .i64 0, .int .i64 0, .int .i64 0, .int .i64 0, .int .i64 0, .int .i64 0, .int .i64 0, .int .i64 0, .bool false, .bool false, .bool false, .bool false, .bool false, .bool false, .bool false, .int .i64 0, .int .i64 0, .int .i64 0], .agg #[.int .i64 0, .int .i64 0, .int .i64 0, .int .i64 0, .int .i64 0, .int .i64 0, .int .i64 0, .int .i64 0, .int .i64 0, .bool false, .bool false, .bool false, .bool false, .bool false, .bool false, .bool false, .int .i64 0, .int .i64 0, .int .i64 0]], []⟩).memory :=
  laidMet_of_run' 8 (by kernel_rfl) (by kernel_rfl)
theorem reportStyle_reads (os : Os) {H : Type} (enc : TypeId × Value → H) : ∃ places, DataW.whole enc Tryd.prog ((laidWorld os).forCall (fun _ _ => 0) ⟨#[], #[.agg #[.int .i64 0, .int .i64 0, .int .i64 0, .int .i64 0, .int .i64 0, .int .i64 0, .int .i64 0, .int .i64 0, .int .i64 0, .bool false, .bool false, .bool false, .bool false, .bool false, .bool false, .bool false, .int .i64 0, .int .i64 0, .int .i64 0], .agg #[.int .i64 0, .int .i64 0, .int .i64 0, .int .i64 0, .int .i64 0, .int .i64 0, .int .i64 0, .int .i64 0, .int .i64 0, .bool false, .bool false, .bool false, .bool false, .bool false, .bool false, .bool false, .int .i64 0, .int .i64 0, .int .i64 0]], []⟩).memory Tryd.f5.params.toList Rows.reportStyleSpec.vars false (#[.agg #[.int .i64 0, .int .i64 0, .int .i64 0, .int .i64 0, .int .i64 0, .int .i64 0, .int .i64 0, .int .i64 0, .int .i64 0, .bool false, .bool false, .bool false, .bool false, .bool false, .bool false, .bool false, .int .i64 0, .int .i64 0, .int .i64 0], .agg #[.int .i64 0, .int .i64 0, .int .i64 0, .int .i64 0, .int .i64 0, .int .i64 0, .int .i64 0, .int .i64 0, .int .i64 0, .bool false, .bool false, .bool false, .bool false, .bool false, .bool false, .bool false, .int .i64 0, .int .i64 0, .int .i64 0]] : Array Value).toList 8 = some ([.agg [.lit (.int .i64 0), .lit (.int .i64 0), .lit (.int .i64 0), .lit (.int .i64 0), .lit (.int .i64 0), .lit (.int .i64 0), .lit (.int .i64 0), .lit (.int .i64 0), .lit (.int .i64 0), .agg [.lit (.bool false), .lit (.bool false), .lit (.bool false), .lit (.bool false), .lit (.bool false), .lit (.bool false), .lit (.bool false), .lit (.int .i64 0), .lit (.int .i64 0), .lit (.int .i64 0)]], .agg [.lit (.int .i64 0), .lit (.int .i64 0), .lit (.int .i64 0), .lit (.int .i64 0), .lit (.int .i64 0), .lit (.int .i64 0), .lit (.int .i64 0), .lit (.int .i64 0), .lit (.int .i64 0), .agg [.lit (.bool false), .lit (.bool false), .lit (.bool false), .lit (.bool false), .lit (.bool false), .lit (.bool false), .lit (.bool false), .lit (.int .i64 0), .lit (.int .i64 0), .lit (.int .i64 0)]]], [], places) :=
  ⟨[], by kernel_rfl⟩
set_option maxRecDepth 100000 in
theorem reportStyle_lifted (os : Os) (started : os.Started) (H : Type) (enc : TypeId × Value → H) (F : Stop.Interp) :
    ReturnsInHanded {} Tryd.checked os 5 .any ((OpenSpec.ofChange Rows.reportStyleSpec).preRow enc Tryd.prog Tryd.f5 Rows.reportStyleRow.domain false Rows.reportStyleRow.laid) (((OpenSpec.ofChange Rows.reportStyleSpec).at F).post enc Tryd.prog Tryd.f5 false true false false) := by
  obtain ⟨places, hx⟩ := reportStyle_reads os enc
  refine returnsInHanded_of_row (C := Tryd.checked) (s := OpenSpec.ofChange Rows.reportStyleSpec) own started (by kernel_rfl) Tryd.func5
    (witness_row_at (enc := enc) (C := Tryd.checked) false (laidWorld os) #[.agg #[.int .i64 0, .int .i64 0, .int .i64 0, .int .i64 0, .int .i64 0, .int .i64 0, .int .i64 0, .int .i64 0, .int .i64 0, .bool false, .bool false, .bool false, .bool false, .bool false, .bool false, .bool false, .int .i64 0, .int .i64 0, .int .i64 0], .agg #[.int .i64 0, .int .i64 0, .int .i64 0, .int .i64 0, .int .i64 0, .int .i64 0, .int .i64 0, .int .i64 0, .int .i64 0, .bool false, .bool false, .bool false, .bool false, .bool false, .bool false, .bool false, .int .i64 0, .int .i64 0, .int .i64 0]] rfl (by kernel_rfl) (by kernel_rfl) (by kernel_rfl)
      (OpenSpec.preRow_of_cond 8 hx (by kernel_rfl) (fun k hk => by cases hk) (by kernel_rfl) (reportStyle_laidMet os))) ?_
  intro W base args ds gs before hval hW _ _ hsz hL _ _
  exact reportStyle_contract H enc W base args ds gs before hval hW _ hsz hL
theorem reportStyle_said : Rows.ReportStyleSaid :=
  OpenClaim.holds_of_cond 5 Tryd.f5 rfl rfl rfl rfl rfl rfl rfl ⟨rfl, rfl, rfl, rfl, rfl⟩ rfl rfl rfl rfl rfl (by kernel_rfl) Tryd.func5 (by kernel_rfl)
    (of_decide_eq_true (by kernel_rfl)) (by unfold Func.isWrapper; first | (rw [if_pos (by decide +kernel)]; kernel_rfl) | (rw [if_neg (by decide +kernel)]; exact ⟨rfl, rfl⟩))
    (fun os started H enc _ F => by rw [OpenClaim.pre_eq_preRow]; exact reportStyle_lifted os started H enc F)
theorem reportStyle_plain (f : FuncId) (fn : Func) (hf : Tryd.pinned.checked.prog.funcNamed "clavier/clavierlaw19.ReportStyle" = some f) (hfn : Tryd.pinned.checked.prog.funcs[f]? = some fn) :
    false = Tryd.pinned.checked.prog.looks [] ∧ ∀ (j : Nat) t, fn.params[j]? = some t → Tryd.pinned.checked.prog.wantsStandIn t = false := by
  obtain rfl : f = 5 := Option.some.inj ((show Tryd.prog.funcNamed "clavier/clavierlaw19.ReportStyle" = some 5 by kernel_rfl).symm.trans hf) |>.symm
  obtain rfl : fn = Tryd.f5 := (Option.some.inj (Tryd.func5.symm.trans hfn)).symm
  refine ⟨by kernel_rfl, fun j t ht => ?_⟩
  rw [Tryd.params5] at ht
  have hm : t ∈ [25, 25] := by simpa using Array.mem_of_getElem? ht
  have hall : ([25, 25].all fun u => !Tryd.prog.wantsStandIn u) = true := by kernel_rfl
  exact (show Tryd.prog.wantsStandIn t = false by simpa using List.all_eq_true.1 hall t hm)
theorem reportStyle_card : Rows.ReportStyleCardSaid :=
  Claim7.holds_tied_plain_at .later [] _ _ _ _ reportStyle_said (fun _ h => by cases h) (by kernel_rfl) (fun _ h => by cases h) reportStyle_row_tie rfl ⟨rfl, rfl⟩ (by kernel_rfl) rfl reportStyle_plain (by kernel_rfl)
#print axioms reportStyle_card
end Go.Proofs.YtopcleljecdkkaaDoor
