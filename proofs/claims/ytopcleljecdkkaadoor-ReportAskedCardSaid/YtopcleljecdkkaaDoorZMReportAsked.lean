/- M: texts run together by shake.py: ReportAsked. -/
import Derived.ArgAppend
import Derived.Below
import Derived.BigQuiet
import Derived.ChangeOld
import Derived.ChangeSlices
import Derived.Deep.AppendLies
import Derived.Deep.CutBlock
import Derived.Deep.DeepCutAuto
import Derived.Deep.DeepHandedRow
import Derived.Deep.Draws
import Derived.Deep.LoopGhost
import Derived.Deep.Matrix
import Derived.Deep.OwnRows
import Derived.Deep.Quiet
import Derived.Deep.QuietTactic
import Derived.Deep.RegionHeld3
import Derived.Ground.Names2Prog
import Derived.Ground.SlgnProg
import Derived.KernelRfl
import Derived.Laws.AppendOwn
import Derived.Laws.AppendOwnNone
import Derived.Laws.BitsLemmas
import Derived.Laws.BytesArg
import Derived.Laws.Concat
import Derived.Laws.CopyRow
import Derived.Laws.IdiomCopy
import Derived.Laws.IdiomStrings
import Derived.Laws.MakeOwn
import Derived.Laws.OwnMore
import Derived.Laws.Rows
import Derived.Laws.Slices
import Derived.Laws.StructEq
import Derived.Laws.Tables
import Derived.Lib.AppendIntMem
import Derived.Lib.AppendStr
import Derived.Lib.ConvBytes
import Derived.Lib.Hide
import Derived.Lib.ItoaLen
import Derived.Lib.ItoaNum
import Derived.Lib.Join
import Derived.Lib.LaidTab
import Derived.Lib.Strings
import Derived.MapKept
import Derived.Maps.AppendAt
import Derived.OpenShut
import Derived.Orders
import Derived.OrdersHeld
import Derived.Outline
import Derived.OwnWalk
import Derived.ProofKit
import Derived.RowKit
import Derived.RowKit3
import Derived.Shelf.LaysM
import Derived.Shelf.Slices.Clone
import Derived.Shelf.SlicesE.Clone
import Derived.Shelf.Strconv.Itoa0
import Derived.Shelf.Strconv.Itoa1
import Derived.Shelf.Strconv.Itoa2
import Derived.Shelf.Strconv.Itoa3
import Derived.Shelf.Strings.Builder1
import Derived.Shelf.Strings.Builder2
import Derived.Shelf.Strings.Builder2Cap
import Derived.Shelf.Strings.BuilderCap
import Derived.Shelf.Strings.BuilderF
import Derived.Shelf.Strings.BuilderK
import Derived.Shelf.Strings.OnBuilder
import Derived.ShutString
import Derived.SizedLaws
import Derived.Still
import Derived.Stop.LaidErr
import Derived.Tactics
import Derived.Test.YtopcleljecdkkaaDoorCards
import Derived.Test.YtopcleljecdkkaaDoorProg
import Derived.Test.YtopcleljecdkkaaDoorTie
import Derived.WalkKit
import Derived.WalkLawsBesides
import Derived.WalkSpells
import Derived.WideLaws
import Derived.Test.YtopcleljecdkkaaDoorZM1
import Derived.Test.YtopcleljecdkkaaDoorZM2
import Derived.Test.YtopcleljecdkkaaDoorZM3
import Derived.Test.YtopcleljecdkkaaDoorZM4
import Derived.Test.YtopcleljecdkkaaDoorZM5
import Derived.Test.YtopcleljecdkkaaDoorZM6
import Derived.Test.YtopcleljecdkkaaDoorZM7
import Derived.Test.YtopcleljecdkkaaDoorZM8
import Derived.Test.YtopcleljecdkkaaDoorZM9
import Derived.Test.YtopcleljecdkkaaDoorZM10
import Derived.Test.YtopcleljecdkkaaDoorZM12
import Derived.Test.YtopcleljecdkkaaDoorZM13
namespace Go.Proofs.YtopcleljecdkkaaDoor
open Go.ChangeShapes Go.WideShapes Go.ChangeAt Go.RowKit Go.Proofs.YtopcleljecdkkaaDoorW.PrintWords Go.Proofs.YtopcleljecdkkaaDoorW.PrintMore G Kit
set_option linter.unusedVariables false
set_option maxRecDepth 100000
theorem k_no {a : ByteArray} {l : List UInt8} (h : ¬ a = ⟨l.toArray⟩) : (a.toList == l) = false := beq_eq_false_iff_ne.2 fun e => h ((lit_list l a).mp e)
theorem k_yes {a : ByteArray} {l : List UInt8} (h : a = ⟨l.toArray⟩) : (a.toList == l) = true := beq_iff_eq.2 ((lit_list l a).mpr h)
theorem settS_nil {x4 x5 x6 x7 x8 : Int} {s : St} {ask other : ByteArray} (h1 : settV x4 x5 x6 x7 x8 s ask = ⟨#[]⟩) (h2 : settV x4 x5 x6 x7 x8 s other = ⟨#[]⟩) : settS x4 x5 x6 x7 x8 s ask = settS x4 x5 x6 x7 x8 s other := by
  unfold settS
  rw [h1, h2]
theorem reportAsked_calls (x0 x1 x2 x3 x4 x5 x6 x7 x8 : Int) (x9 x10 x11 x12 x13 x14 x15 : Bool) (x16 x17 x18 : Int) (ask other : ByteArray) (w : World) (hT : Tab w) (hx1 : -9223372036854775808 ≤ x17) (hx2 : -9223372036854775808 ≤ x18) :
    Calls Tryd.prog 4 #[.agg #[.int .i64 x0, .int .i64 x1, .int .i64 x2, .int .i64 x3, .int .i64 x4, .int .i64 x5, .int .i64 x6, .int .i64 x7, .int .i64 x8, .bool x9, .bool x10, .bool x11, .bool x12, .bool x13, .bool x14, .bool x15, .int .i64 x16, .int .i64 x17, .int .i64 x18], .string ask, .string other] w fun e w' => e = .returned (.bool true) ∧ Below w.heap.size w w' := by
  by_cases hl1 : 100 < ask.size
  · exact asked_long1 x0 x1 x2 x3 x4 x5 x6 x7 x8 x9 x10 x11 x12 x13 x14 x15 x16 x17 x18 ask other w (awake_gives hT) hl1
  by_cases hl2 : 100 < other.size
  · exact asked_long2 x0 x1 x2 x3 x4 x5 x6 x7 x8 x9 x10 x11 x12 x13 x14 x15 x16 x17 x18 ask other w (awake_gives hT) hl1 hl2
  have t1 : Tells 13 _ _ w := setting_tells x0 x1 x2 x3 x4 x5 x6 x7 x8 x9 x10 x11 x12 x13 x14 x15 x16 x17 x18 ask hT hx1 hx2
  have t2 : Tells 13 _ _ w := setting_tells x0 x1 x2 x3 x4 x5 x6 x7 x8 x9 x10 x11 x12 x13 x14 x15 x16 x17 x18 other hT hx1 hx2
  have s1 := same_sett x4 x5 x6 x7 x8 (x9, x10, x11, x12, x13, x14, x15, x16, x17, x18) ask (settS x4 x5 x6 x7 x8 (x9, x10, x11, x12, x13, x14, x15, x16, x17, x18) other) w (by simp [settS])
  have hE : ∀ a, settV x4 x5 x6 x7 x8 (x9, x10, x11, x12, x13, x14, x15, x16, x17, x18) a = ⟨#[]⟩ → ((settS x4 x5 x6 x7 x8 (x9, x10, x11, x12, x13, x14, x15, x16, x17, x18) a).data.toList == ([] : List UInt8)) = true := fun a h => k_yes h
  have hN : ∀ a, ¬ settV x4 x5 x6 x7 x8 (x9, x10, x11, x12, x13, x14, x15, x16, x17, x18) a = ⟨#[]⟩ → ((settS x4 x5 x6 x7 x8 (x9, x10, x11, x12, x13, x14, x15, x16, x17, x18) a).data.toList == ([] : List UInt8)) = false := fun a h => k_no h
  have hNn : ∀ a, ¬ settV x4 x5 x6 x7 x8 (x9, x10, x11, x12, x13, x14, x15, x16, x17, x18) a = ⟨#[]⟩ → ((settS x4 x5 x6 x7 x8 (x9, x10, x11, x12, x13, x14, x15, x16, x17, x18) a).data.toList != ([] : List UInt8)) = true := fun a h => by unfold bne; rw [hN a h]; rfl
  have hEn : ∀ a, settV x4 x5 x6 x7 x8 (x9, x10, x11, x12, x13, x14, x15, x16, x17, x18) a = ⟨#[]⟩ → ((settS x4 x5 x6 x7 x8 (x9, x10, x11, x12, x13, x14, x15, x16, x17, x18) a).data.toList != ([] : List UInt8)) = false := fun a h => by unfold bne; rw [hE a h]; rfl
  have hS : settV x4 x5 x6 x7 x8 (x9, x10, x11, x12, x13, x14, x15, x16, x17, x18) ask = ⟨#[]⟩ → settV x4 x5 x6 x7 x8 (x9, x10, x11, x12, x13, x14, x15, x16, x17, x18) other = ⟨#[]⟩ → SameIs (settS x4 x5 x6 x7 x8 (x9, x10, x11, x12, x13, x14, x15, x16, x17, x18) ask) (settS x4 x5 x6 x7 x8 (x9, x10, x11, x12, x13, x14, x15, x16, x17, x18) other) true w := fun h1 h2 => by
    rw [decide_eq_true (settS_nil h1 h2)] at s1
    exact s1
  by_cases c0 : ask = ⟨#[109]⟩
  · by_cases hd : settV x4 x5 x6 x7 x8 (x9, x10, x11, x12, x13, x14, x15, x16, x17, x18) ask = ⟨#[]⟩
    · by_cases ho : settV x4 x5 x6 x7 x8 (x9, x10, x11, x12, x13, x14, x15, x16, x17, x18) other = ⟨#[]⟩
      · exact asked_0_true_true x0 x1 x2 x3 x4 x5 x6 x7 x8 x9 x10 x11 x12 x13 x14 x15 x16 x17 x18 ask other w (awake_gives hT) _ _ hl1 hl2 t1 t2 (k_yes c0) (hE _ hd) (hEn _ ho) (hS hd ho)
      · exact asked_0_true_false x0 x1 x2 x3 x4 x5 x6 x7 x8 x9 x10 x11 x12 x13 x14 x15 x16 x17 x18 ask other w (awake_gives hT) _ _ hl1 hl2 t1 t2 (k_yes c0) (hE _ hd) (hNn _ ho)
    · exact asked_0_false x0 x1 x2 x3 x4 x5 x6 x7 x8 x9 x10 x11 x12 x13 x14 x15 x16 x17 x18 ask other w (awake_gives hT) _ _ hl1 hl2 t1 t2 (k_yes c0) (hN _ hd)
  by_cases c1 : ask = ⟨#[114]⟩
  · have hd : ¬ settV x4 x5 x6 x7 x8 (x9, x10, x11, x12, x13, x14, x15, x16, x17, x18) ask = ⟨#[]⟩ := by
      unfold settV
      rw [if_neg c0, if_pos c1]
      exact ne_nil (by decide)
    exact asked_1_false x0 x1 x2 x3 x4 x5 x6 x7 x8 x9 x10 x11 x12 x13 x14 x15 x16 x17 x18 ask other w (awake_gives hT) _ _ hl1 hl2 t1 t2 (k_no c0) (k_yes c1) (hN _ hd)
  by_cases c2 : ask = ⟨#[115]⟩
  · have hd : ¬ settV x4 x5 x6 x7 x8 (x9, x10, x11, x12, x13, x14, x15, x16, x17, x18) ask = ⟨#[]⟩ := by
      unfold settV
      rw [if_neg c0, if_neg c1, if_pos c2]
      exact ne_nil (by decide)
    exact asked_2_false x0 x1 x2 x3 x4 x5 x6 x7 x8 x9 x10 x11 x12 x13 x14 x15 x16 x17 x18 ask other w (awake_gives hT) _ _ hl1 hl2 t1 t2 (k_no c0) (k_no c1) (k_yes c2) (hN _ hd)
  by_cases c3 : ask = ⟨#[32, 113]⟩
  · have hd : ¬ settV x4 x5 x6 x7 x8 (x9, x10, x11, x12, x13, x14, x15, x16, x17, x18) ask = ⟨#[]⟩ := by
      unfold settV
      rw [if_neg c0, if_neg c1, if_neg c2, if_pos c3]
      exact ne_nil (by decide)
    exact asked_3_false x0 x1 x2 x3 x4 x5 x6 x7 x8 x9 x10 x11 x12 x13 x14 x15 x16 x17 x18 ask other w (awake_gives hT) _ _ hl1 hl2 t1 t2 (k_no c0) (k_no c1) (k_no c2) (k_yes c3) (hN _ hd)
  by_cases c4 : ask = ⟨#[34, 112]⟩
  · have hd : ¬ settV x4 x5 x6 x7 x8 (x9, x10, x11, x12, x13, x14, x15, x16, x17, x18) ask = ⟨#[]⟩ := by
      unfold settV
      rw [if_neg c0, if_neg c1, if_neg c2, if_neg c3, if_pos c4]
      exact ne_nil (by decide)
    exact asked_4_false x0 x1 x2 x3 x4 x5 x6 x7 x8 x9 x10 x11 x12 x13 x14 x15 x16 x17 x18 ask other w (awake_gives hT) _ _ hl1 hl2 t1 t2 (k_no c0) (k_no c1) (k_no c2) (k_no c3) (k_yes c4) (hN _ hd)
  have hd : settV x4 x5 x6 x7 x8 (x9, x10, x11, x12, x13, x14, x15, x16, x17, x18) ask = ⟨#[]⟩ := by
    unfold settV
    rw [if_neg c0, if_neg c1, if_neg c2, if_neg c3, if_neg c4]
  by_cases ho : settV x4 x5 x6 x7 x8 (x9, x10, x11, x12, x13, x14, x15, x16, x17, x18) other = ⟨#[]⟩
  · exact asked_5_true_true x0 x1 x2 x3 x4 x5 x6 x7 x8 x9 x10 x11 x12 x13 x14 x15 x16 x17 x18 ask other w (awake_gives hT) _ _ hl1 hl2 t1 t2 (k_no c0) (k_no c1) (k_no c2) (k_no c3) (k_no c4) (hE _ hd) (hEn _ ho) (hS hd ho)
  · exact asked_5_true_false x0 x1 x2 x3 x4 x5 x6 x7 x8 x9 x10 x11 x12 x13 x14 x15 x16 x17 x18 ask other w (awake_gives hT) _ _ hl1 hl2 t1 t2 (k_no c0) (k_no c1) (k_no c2) (k_no c3) (k_no c4) (hE _ hd) (hNn _ ho)
theorem reportAsked_contract (H : Type) (enc : TypeId × Value → H) (W : World) (base : Nat) (args : Array Value) (ds gs : List (DataW H)) (before : List MemPlace)
    (hval0 : ∀ (j : Nat) t v, Tryd.f4.params[j]? = some t → args[j]? = some v → Value.okWide Tryd.prog W .any base t v)
    (hW : DataW.Whole enc Tryd.prog Tryd.f4.params.toList Rows.reportAskedSpec.vars false W args.toList ds gs before) (vt : List TypeId) (hsz : (DataW.weightsEach Tryd.prog (Tryd.f4.params.toList ++ vt) (ds ++ gs)).all (· ≤ reachBytes) = true) (hL : laidMetH Tryd.prog Rows.reportAskedRow.laid W) :
    Calls Tryd.prog 4 args W fun e W' => ∃ v, e = .returned v ∧ Rows.reportAskedSpec.post enc Tryd.prog Tryd.f4 false true false false W args v W' := by
  have htab := tabOf hL
  have hval : ∀ (j : Nat) t v, Tryd.f4.params[j]? = some t → args[j]? = some v → Value.okWide Tryd.prog W .any base t v := hval0
  have hW' := hW
  obtain ⟨p, q, hA0, hV, rfl, hfz, hnd⟩ := hW
  have hA : DataW.TrodAll enc Tryd.prog W 0 (fun _ => true) true Tryd.f4.params.toList args.toList ds p := hA0
  rw [Tryd.params4] at hA hval hsz
  obtain ⟨v0, vs0, d0, ds0, p0, q0, hargs, rfl, rfl, h0, r0⟩ := trodAll_cons hA
  obtain ⟨v1, vs1, d1, ds1, p1, q1, rfl, rfl, rfl, h1, r1⟩ := trodAll_cons r0
  obtain ⟨v2, vs2, d2, ds2, p2, q2, rfl, rfl, rfl, h2, r2⟩ := trodAll_cons r1
  obtain ⟨rfl, rfl, rfl⟩ := trodAll_nil r2
  obtain rfl : args = #[v0, v1, v2] := by cases args; simp_all
  obtain ⟨rfl, rfl⟩ := trodVars_none hV
  have k0 := h0
  have lt0 : ∀ x ∈ p0, x.block < W.heap.size := by obtain ⟨m, hm⟩ := k0; exact DataW.trod_lt m _ _ _ hm
  have k1 := h1
  have lt1 : ∀ x ∈ p1, x.block < W.heap.size := by obtain ⟨m, hm⟩ := k1; exact DataW.trod_lt m _ _ _ hm
  have k2 := h2
  have lt2 : ∀ x ∈ p2, x.block < W.heap.size := by obtain ⟨m, hm⟩ := k2; exact DataW.trod_lt m _ _ _ hm
  obtain ⟨a0_0, a0_1, a0_2, a0_3, a0_4, a0_5, a0_6, a0_7, a0_8, a0_9, a0_10, a0_11, a0_12, a0_13, a0_14, a0_15, a0_16, a0_17, a0_18, rfl, w0_0, w0_1, w0_2, w0_3, w0_4, w0_5, w0_6, w0_7, w0_8, w0_16, w0_17, w0_18⟩ := open_screen (hval 0 25 v0 rfl rfl) h0
  obtain ⟨a1, rfl, rfl, rfl, y1⟩ := Go.ChangeMaps.open_string Tryd.underlying9 (hval 1 9 v1 rfl rfl) h1
  have sz1 := sized_string hsz (j := 1) (t := 9) rfl rfl
  obtain ⟨a2, rfl, rfl, rfl, y2⟩ := Go.ChangeMaps.open_string Tryd.underlying9 (hval 2 9 v2 rfl rfl) h2
  have sz2 := sized_string hsz (j := 2) (t := 9) rfl rfl
  clear hA0 hval0 hsz
  refine (reportAsked_calls a0_0 a0_1 a0_2 a0_3 a0_4 a0_5 a0_6 a0_7 a0_8 a0_9 a0_10 a0_11 a0_12 a0_13 a0_14 a0_15 a0_16 a0_17 a0_18 a1 a2 W htab (intIn w0_17).1 (intIn w0_18).1).mono fun e W' ⟨he, bel⟩ => ?_
  subst he
  exact ⟨_, rfl, _, _, _, [], _, [], hW', trodAll_mk1 (shut_bool Tryd.underlying4 _), (trodAll_cons_mk (Below.trod laidOut (by kernel_rfl) (of_decide_eq_true (by kernel_rfl)) k0 bel lt0) (trodAll_cons_mk (Below.trod laidOut (by kernel_rfl) (of_decide_eq_true (by kernel_rfl)) k1 bel lt1) (trodAll_cons_mk (Below.trod laidOut (by kernel_rfl) (of_decide_eq_true (by kernel_rfl)) k2 bel lt2) trodAll_mk0))), rfl, bel.frame _, fun h => by cases h⟩
theorem reportAsked_laidMet (os : Os) : laidMet Tryd.prog Rows.reportAskedRow.laid ((laidWorld os).forCall (fun _ _ => 0) ⟨#[], #[.agg #[.int .i64 0, .int .i64 0, .int .i64 0, .int .i64 0, .int .i64 0, .int .i64 0, .int .i64 0, .int .i64 0, .int .i64 0, .bool false, .bool false, .bool false, .bool false, .bool false, .bool false, .bool false, .int .i64 0, .int .i64 0, .int .i64 0], .string ⟨#[]⟩, .string ⟨#[]⟩], []⟩).memory :=
  laidMet_of_run' 8 (by kernel_rfl) (by kernel_rfl)
theorem reportAsked_reads (os : Os) {H : Type} (enc : TypeId × Value → H) : ∃ places, DataW.whole enc Tryd.prog ((laidWorld os).forCall (fun _ _ => 0) ⟨#[], #[.agg #[.int .i64 0, .int .i64 0, .int .i64 0, .int .i64 0, .int .i64 0, .int .i64 0, .int .i64 0, .int .i64 0, .int .i64 0, .bool false, .bool false, .bool false, .bool false, .bool false, .bool false, .bool false, .int .i64 0, .int .i64 0, .int .i64 0], .string ⟨#[]⟩, .string ⟨#[]⟩], []⟩).memory Tryd.f4.params.toList Rows.reportAskedSpec.vars false (#[.agg #[.int .i64 0, .int .i64 0, .int .i64 0, .int .i64 0, .int .i64 0, .int .i64 0, .int .i64 0, .int .i64 0, .int .i64 0, .bool false, .bool false, .bool false, .bool false, .bool false, .bool false, .bool false, .int .i64 0, .int .i64 0, .int .i64 0], .string ⟨#[]⟩, .string ⟨#[]⟩] : Array Value).toList 8 = some ([.agg [.lit (.int .i64 0), .lit (.int .i64 0), .lit (.int .i64 0), .lit (.int .i64 0), .lit (.int .i64 0), .lit (.int .i64 0), .lit (.int .i64 0), .lit (.int .i64 0), .lit (.int .i64 0), .agg [.lit (.bool false), .lit (.bool false), .lit (.bool false), .lit (.bool false), .lit (.bool false), .lit (.bool false), .lit (.bool false), .lit (.int .i64 0), .lit (.int .i64 0), .lit (.int .i64 0)]], .lit (.string []), .lit (.string [])], [], places) :=
  ⟨[], by kernel_rfl⟩
set_option maxRecDepth 100000 in
theorem reportAsked_lifted (os : Os) (started : os.Started) (H : Type) (enc : TypeId × Value → H) (F : Stop.Interp) :
    ReturnsInHanded {} Tryd.checked os 4 .any ((OpenSpec.ofChange Rows.reportAskedSpec).preRow enc Tryd.prog Tryd.f4 Rows.reportAskedRow.domain false Rows.reportAskedRow.laid) (((OpenSpec.ofChange Rows.reportAskedSpec).at F).post enc Tryd.prog Tryd.f4 false true false false) := by
  obtain ⟨places, hx⟩ := reportAsked_reads os enc
  refine returnsInHanded_of_row (C := Tryd.checked) (s := OpenSpec.ofChange Rows.reportAskedSpec) own started (by kernel_rfl) Tryd.func4
    (witness_row_at (enc := enc) (C := Tryd.checked) false (laidWorld os) #[.agg #[.int .i64 0, .int .i64 0, .int .i64 0, .int .i64 0, .int .i64 0, .int .i64 0, .int .i64 0, .int .i64 0, .int .i64 0, .bool false, .bool false, .bool false, .bool false, .bool false, .bool false, .bool false, .int .i64 0, .int .i64 0, .int .i64 0], .string ⟨#[]⟩, .string ⟨#[]⟩] rfl (by kernel_rfl) (by kernel_rfl) (by kernel_rfl)
      (OpenSpec.preRow_of_cond 8 hx (by kernel_rfl) (fun k hk => by cases hk) (by kernel_rfl) (reportAsked_laidMet os))) ?_
  intro W base args ds gs before hval hW _ _ hsz hL _ _
  exact reportAsked_contract H enc W base args ds gs before hval hW _ hsz hL
theorem reportAsked_said : Rows.ReportAskedSaid :=
  OpenClaim.holds_of_cond 4 Tryd.f4 rfl rfl rfl rfl rfl rfl rfl ⟨rfl, rfl, rfl, rfl, rfl⟩ rfl rfl rfl rfl rfl (by kernel_rfl) Tryd.func4 (by kernel_rfl)
    (of_decide_eq_true (by kernel_rfl)) (by unfold Func.isWrapper; first | (rw [if_pos (by decide +kernel)]; kernel_rfl) | (rw [if_neg (by decide +kernel)]; exact ⟨rfl, rfl⟩))
    (fun os started H enc _ F => by rw [OpenClaim.pre_eq_preRow]; exact reportAsked_lifted os started H enc F)
theorem reportAsked_plain (f : FuncId) (fn : Func) (hf : Tryd.pinned.checked.prog.funcNamed "clavier/clavierlaw19.ReportAsked" = some f) (hfn : Tryd.pinned.checked.prog.funcs[f]? = some fn) :
    false = Tryd.pinned.checked.prog.looks [] ∧ ∀ (j : Nat) t, fn.params[j]? = some t → Tryd.pinned.checked.prog.wantsStandIn t = false := by
  obtain rfl : f = 4 := Option.some.inj ((show Tryd.prog.funcNamed "clavier/clavierlaw19.ReportAsked" = some 4 by kernel_rfl).symm.trans hf) |>.symm
  obtain rfl : fn = Tryd.f4 := (Option.some.inj (Tryd.func4.symm.trans hfn)).symm
  refine ⟨by kernel_rfl, fun j t ht => ?_⟩
  rw [Tryd.params4] at ht
  have hm : t ∈ [25, 9, 9] := by simpa using Array.mem_of_getElem? ht
  have hall : ([25, 9, 9].all fun u => !Tryd.prog.wantsStandIn u) = true := by kernel_rfl
  exact (show Tryd.prog.wantsStandIn t = false by simpa using List.all_eq_true.1 hall t hm)
theorem reportAsked_card : Rows.ReportAskedCardSaid :=
  Claim7.holds_tied_plain_at .later [] _ _ _ _ reportAsked_said (fun _ h => by cases h) (by kernel_rfl) (fun _ h => by cases h) reportAsked_row_tie rfl ⟨rfl, rfl⟩ (by kernel_rfl) rfl reportAsked_plain (by kernel_rfl)
#print axioms reportAsked_card
end Go.Proofs.YtopcleljecdkkaaDoor
