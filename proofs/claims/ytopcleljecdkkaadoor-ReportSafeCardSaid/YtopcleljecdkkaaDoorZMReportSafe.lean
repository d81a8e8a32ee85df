/- M: texts run together by shake.py: ReportSafe. -/
import Derived.ArgAppend
import Derived.Below
import Derived.BigQuiet
import Derived.ChangeOld
import Derived.ChangeSlices
import Derived.Deep.AppendLies
import Derived.Deep.CutBlock
import Derived.Deep.DeepCutAuto
import Derived.Deep.DeepHandedRow
import Derived.Deep.Draws
import Derived.Deep.LoopGhost
import Derived.Deep.Matrix
import Derived.Deep.OwnRows
import Derived.Deep.Quiet
import Derived.Deep.QuietTactic
import Derived.Deep.RegionHeld3
import Derived.Ground.Names2Prog
import Derived.Ground.SlgnProg
import Derived.KernelRfl
import Derived.Laws.AppendOwn
import Derived.Laws.AppendOwnNone
import Derived.Laws.Bits128
import Derived.Laws.BitsLemmas
import Derived.Laws.BytesArg
import Derived.Laws.Concat
import Derived.Laws.CopyRow
import Derived.Laws.IdiomCopy
import Derived.Laws.IdiomStrings
import Derived.Laws.MakeOwn
import Derived.Laws.OwnMore
import Derived.Laws.Rows
import Derived.Laws.Slices
import Derived.Laws.StructEq
import Derived.Laws.Tables
import Derived.Lib.AppendIntMem
import Derived.Lib.AppendStr
import Derived.Lib.ConvBytes
import Derived.Lib.Hide
import Derived.Lib.ItoaLen
import Derived.Lib.ItoaNum
import Derived.Lib.Join
import Derived.Lib.LaidTab
import Derived.Lib.Strings
import Derived.MapKept
import Derived.Maps.AppendAt
import Derived.OpenShut
import Derived.Orders
import Derived.OrdersHeld
import Derived.Outline
import Derived.OwnWalk
import Derived.ProofKit
import Derived.RowKit
import Derived.RowKit3
import Derived.Shelf.LaysM
import Derived.Shelf.Slices.Clone
import Derived.Shelf.SlicesE.Clone
import Derived.Shelf.Strconv.Itoa0
import Derived.Shelf.Strconv.Itoa1
import Derived.Shelf.Strconv.Itoa2
import Derived.Shelf.Strconv.Itoa3
import Derived.Shelf.Strings.Builder1
import Derived.Shelf.Strings.Builder2
import Derived.Shelf.Strings.Builder2Cap
import Derived.Shelf.Strings.BuilderCap
import Derived.Shelf.Strings.BuilderF
import Derived.Shelf.Strings.BuilderK
import Derived.Shelf.Strings.OnBuilder
import Derived.ShutString
import Derived.SizedLaws
import Derived.Still
import Derived.Stop.LaidErr
import Derived.Tactics
import Derived.Test.YtopcleljecdkkaaDoorCards
import Derived.Test.YtopcleljecdkkaaDoorProg
import Derived.Test.YtopcleljecdkkaaDoorTie
import Derived.WalkKit
import Derived.WalkLawsBesides
import Derived.WalkSpells
import Derived.WideLaws
import Derived.Test.YtopcleljecdkkaaDoorZM1
import Derived.Test.YtopcleljecdkkaaDoorZM2
import Derived.Test.YtopcleljecdkkaaDoorZM3
import Derived.Test.YtopcleljecdkkaaDoorZM4
import Derived.Test.YtopcleljecdkkaaDoorZM5
import Derived.Test.YtopcleljecdkkaaDoorZM6
import Derived.Test.YtopcleljecdkkaaDoorZM10
import Derived.Test.YtopcleljecdkkaaDoorZM11
import Derived.Test.YtopcleljecdkkaaDoorZM18
namespace Go.Proofs.YtopcleljecdkkaaDoor
open Go.ChangeShapes Go.WideShapes Go.ChangeAt Go.RowKit Go.Proofs.YtopcleljecdkkaaDoorW.PrintWords
set_option linter.unusedVariables false
set_option linter.unusedSimpArgs false
set_option maxRecDepth 100000
theorem open_modes {H : Type} {enc : TypeId × Value → H} {W : World} {base : Nat} {spare : Nat → Bool} {held : Bool} {v : Value} {d : DataW H} {p : List MemPlace} {r : Reach} {b0 : Nat} (hv : Value.okWide Tryd.prog W r b0 39 v) (h : DataW.Trod enc Tryd.prog W base spare held 39 v d p) : ∃ (x0 : Bool) (x1 : Bool) (x2 : Bool) (x3 : Bool) (x4 : Bool) (x5 : Bool) (x6 : Bool) (x7 : Int) (x8 : Int) (x9 : Int), v = .agg #[.bool x0, .bool x1, .bool x2, .bool x3, .bool x4, .bool x5, .bool x6, .int .i64 x7, .int .i64 x8, .int .i64 x9] ∧ (Lit.int .i64 x7).wf = true ∧ (Lit.int .i64 x8).wf = true ∧ (Lit.int .i64 x9).wf = true := by
  obtain ⟨cs, rfl, hsz⟩ := okWide_struct Tryd.underlying39 hv
  rw [show Tryd.prog.cellsOf 39 = 10 by kernel_rfl] at hsz
  obtain ⟨fuel, hf⟩ := h
  obtain ⟨xs, n, _, _, _, hlen, hx⟩ := DataW.trod_struct Tryd.underlying39 hf
  have hc_bool : Tryd.prog.cellsOf 4 = 1 := by kernel_rfl
  have hc_int : Tryd.prog.cellsOf 3 = 1 := by kernel_rfl
  match cs, hsz with
  | ⟨[c0, c1, c2, c3, c4, c5, c6, c7, c8, c9]⟩, _ =>
    match xs, hlen with
    | [x0, x1, x2, x3, x4, x5, x6, x7, x8, x9], _ =>
      have e0 := hx 0 _ rfl
      simp [Value.cells, hc_bool, hc_int] at e0
      obtain ⟨y0, z0, _⟩ := DataW.trod_bool Tryd.underlying4 e0
      have e1 := hx 1 _ rfl
      simp [Value.cells, hc_bool, hc_int] at e1
      obtain ⟨y1, z1, _⟩ := DataW.trod_bool Tryd.underlying4 e1
      have e2 := hx 2 _ rfl
      simp [Value.cells, hc_bool, hc_int] at e2
      obtain ⟨y2, z2, _⟩ := DataW.trod_bool Tryd.underlying4 e2
      have e3 := hx 3 _ rfl
      simp [Value.cells, hc_bool, hc_int] at e3
      obtain ⟨y3, z3, _⟩ := DataW.trod_bool Tryd.underlying4 e3
      have e4 := hx 4 _ rfl
      simp [Value.cells, hc_bool, hc_int] at e4
      obtain ⟨y4, z4, _⟩ := DataW.trod_bool Tryd.underlying4 e4
      have e5 := hx 5 _ rfl
      simp [Value.cells, hc_bool, hc_int] at e5
      obtain ⟨y5, z5, _⟩ := DataW.trod_bool Tryd.underlying4 e5
      have e6 := hx 6 _ rfl
      simp [Value.cells, hc_bool, hc_int] at e6
      obtain ⟨y6, z6, _⟩ := DataW.trod_bool Tryd.underlying4 e6
      have e7 := hx 7 _ rfl
      simp [Value.cells, hc_bool, hc_int] at e7
      obtain ⟨y7, z7, _, w7⟩ := DataW.trod_int Tryd.underlying3 e7
      have e8 := hx 8 _ rfl
      simp [Value.cells, hc_bool, hc_int] at e8
      obtain ⟨y8, z8, _, w8⟩ := DataW.trod_int Tryd.underlying3 e8
      have e9 := hx 9 _ rfl
      simp [Value.cells, hc_bool, hc_int] at e9
      obtain ⟨y9, z9, _, w9⟩ := DataW.trod_int Tryd.underlying3 e9
      simp at z0 z1 z2 z3 z4 z5 z6 z7 z8 z9
      subst z0 z1 z2 z3 z4 z5 z6 z7 z8 z9
      exact ⟨y0, y1, y2, y3, y4, y5, y6, y7, y8, y9, rfl, w7, w8, w9⟩
theorem may_at {q : Sq} {w : World} (h : G.clavierref03_May.f 5000 q.kind q.priv q.rows q.inter q.fin q.data = some 0) : IsMay q w := by
  intro W B v hb h1
  obtain ⟨u, rfl, s⟩ := h1
  obtain ⟨A, c, rfl, l, r⟩ := Kd.S_reads s
  exact (G.clavierref03_May.calls 5000 _ _ A c q.rows _ _ _ 0 W r l h).mono fun e w' h => ⟨h.1, by first | exact h.2 | exact h.2.below⟩
section
open G
theorem may_place (r c : Int) (p : Bool) (w : World) : IsMay (placeS r c p) w := by
  refine may_at ?_
  have h1 := clamp_in r
  have h2 := clamp_in c
  cases p
  · exact may_ok 1 0 82 [[clamp r], [clamp c]] ⟨#[]⟩ ⟨#[]⟩ (.inl ⟨rfl, rfl⟩) (.inl rfl) (params_two _ _ (by omega) (by omega) (by omega) (by omega)) (by decide) (Wi.nil _ _) (by decide) (Wi.nil _ _) (by decide) (by decide)
  · exact may_ok 1 63 82 [[clamp r], [clamp c], [1]] ⟨#[]⟩ ⟨#[]⟩ (.inl ⟨rfl, rfl⟩) (.inr ⟨by decide, by decide⟩) (params_three _ _ _ (by omega) (by omega) (by omega) (by omega) (by decide) (by decide)) (by decide) (Wi.nil _ _) (by decide) (Wi.nil _ _) (by decide) (by decide)
theorem may_mode (m : Md) (p : Bool) (n : Int) (w : World) : IsMay (sqOf (modeT m p n)) w := by
  refine may_at ?_
  have h1 := clamp_in n
  have h2 := getM_in m p n
  have h3 : Wi ⟨#[36]⟩ 32 47 := Wi.of_list (l := [36]) (by decide)
  cases p
  · exact may_ok 1 0 121 [[clamp n], [getM m false n]] ⟨#[36]⟩ ⟨#[]⟩ (.inl ⟨rfl, rfl⟩) (.inl rfl) (params_two _ _ (by omega) (by omega) (by omega) (by omega)) (by decide) h3 (by decide) (Wi.nil _ _) (by decide) (by decide)
  · exact may_ok 1 63 121 [[clamp n], [getM m true n]] ⟨#[36]⟩ ⟨#[]⟩ (.inl ⟨rfl, rfl⟩) (.inr ⟨by decide, by decide⟩) (params_two _ _ (by omega) (by omega) (by omega) (by omega)) (by decide) h3 (by decide) (Wi.nil _ _) (by decide) (by decide)
theorem may_sett (x4 x5 x6 x7 x8 : Int) (s : St) (ask : ByteArray) (w : World) : IsMay (settS x4 x5 x6 x7 x8 s ask) w := by
  refine may_at ?_
  obtain ⟨h1, h2⟩ := settV_ok x4 x5 x6 x7 x8 s ask
  have h3 : Wi ⟨#[36]⟩ 32 47 := Wi.of_list (l := [36]) (by decide)
  have h4 : 0 ≤ settN (settV x4 x5 x6 x7 x8 s ask) ∧ settN (settV x4 x5 x6 x7 x8 s ask) ≤ 1114111 := by unfold settN; split <;> decide
  exact may_ok 3 0 114 [[settN (settV x4 x5 x6 x7 x8 s ask)]] ⟨#[36]⟩ _ (.inr rfl) (.inl rfl) (params_one _ h4.1 h4.2) (show (1 : Nat) ≤ 2 by decide) h3 h1 h2 (by decide) (by decide)
theorem may_flags (n : Int) (w : World) : IsMay (sqOf (flagsT n)) w := by
  refine may_at ?_
  exact may_ok 1 63 117 [[(mx n 0) % 32]] ⟨#[]⟩ ⟨#[]⟩ (.inl ⟨rfl, rfl⟩) (.inr ⟨by decide, by decide⟩) (params_one _ (by omega) (by omega)) (by decide) (Wi.nil _ _) (by decide) (Wi.nil _ _) (by decide) (by decide)
theorem may_fine (w : World) : IsMay (sqOf fineT) w := by
  refine may_at ?_
  exact may_ok 1 0 110 [[0]] ⟨#[]⟩ ⟨#[]⟩ (.inl ⟨rfl, rfl⟩) (.inl rfl) (params_one _ (by decide) (by decide)) (by decide) (Wi.nil _ _) (by decide) (Wi.nil _ _) (by decide) (by decide)
theorem may_version (w : World) : IsMay (sqOf versionT) w := by
  refine may_at ?_
  exact may_ok 3 62 124 [] _ _ (.inr rfl) (.inr ⟨by decide, by decide⟩) params_nil (by decide) (Wi.nil _ _) (by decide) (Wi.of_list (l := [99, 108, 97, 118, 105, 101, 114, 40, 49, 41]) (by decide)) (by decide) (by decide)
theorem may_attr0 (w : World) : IsMay (sqOf (attrT 0)) w := by
  refine may_at ?_
  exact may_ok 1 63 99 [[62], [22]] _ _ (.inl ⟨rfl, rfl⟩) (.inr ⟨by decide, by decide⟩) (params_two _ _ (by decide) (by decide) (by decide) (by decide)) (by decide) (Wi.nil _ _) (by decide) (Wi.nil _ _) (by decide) (by decide)
theorem may_attr62 (w : World) : IsMay (sqOf (attrT 62)) w := by
  refine may_at ?_
  exact may_ok 1 62 99 [[41], [1], [0]] _ _ (.inl ⟨rfl, rfl⟩) (.inr ⟨by decide, by decide⟩) (params_three _ _ _ (by decide) (by decide) (by decide) (by decide) (by decide) (by decide)) (by decide) (Wi.nil _ _) (by decide) (Wi.nil _ _) (by decide) (by decide)
theorem may_attr61 (w : World) : IsMay (sqOf (attrT 61)) w := by
  refine may_at ?_
  exact may_ok 3 0 124 [] _ _ (.inr rfl) (.inl rfl) params_nil (by decide) (Wi.of_list (l := [33]) (by decide)) (by decide) (Wi.of_list (l := [48, 48, 48, 48, 48, 48, 48, 48]) (by decide)) (by decide) (by decide)
end
theorem reportSafe_calls (x0 x1 x2 x3 x4 x5 x6 x7 x8 : Int) (b0 b1 b2 b3 b4 b5 b6 : Bool) (u f b : Int) (m0 m1 m2 m3 m4 m5 m6 : Bool) (m7 m8 m9 : Int) (ask : ByteArray) (w : World) (hT : Tab w) (hf : -9223372036854775808 ≤ f) (hb : -9223372036854775808 ≤ b) :
    Calls Tryd.prog 8 #[.agg #[.int .i64 x0, .int .i64 x1, .int .i64 x2, .int .i64 x3, .int .i64 x4, .int .i64 x5, .int .i64 x6, .int .i64 x7, .int .i64 x8, .bool b0, .bool b1, .bool b2, .bool b3, .bool b4, .bool b5, .bool b6, .int .i64 u, .int .i64 f, .int .i64 b], .agg #[.bool m0, .bool m1, .bool m2, .bool m3, .bool m4, .bool m5, .bool m6, .int .i64 m7, .int .i64 m8, .int .i64 m9], .string ask] w fun e w' => e = .returned (.bool true) ∧ Below w.heap.size w w' := by
  by_cases hl : 100 < ask.size
  · exact safe_long _ _ _ _ _ _ _ _ _ _ _ _ _ _ _ _ _ _ _ _ _ _ _ _ _ _ _ _ _ ask w (awake_gives hT) hl
  · exact safe_short x0 x1 x2 x3 x4 x5 x6 x7 x8 b0 b1 b2 b3 b4 b5 b6 u f b m0 m1 m2 m3 m4 m5 m6 m7 m8 m9 ask w _ _ _ _ _ _ _ _ _ _ _ (awake_gives hT) hl
      (place_tells x0 x1 x2 x3 x4 x5 x6 x7 x8 b0 b1 b2 b3 b4 b5 b6 u f b true) (place_tells x0 x1 x2 x3 x4 x5 x6 x7 x8 b0 b1 b2 b3 b4 b5 b6 u f b false) (mode_tells m0 m1 m2 m3 m4 m5 m6 m7 m8 m9 true x2) (mode_tells m0 m1 m2 m3 m4 m5 m6 m7 m8 m9 false x3)
      (setting_tells x0 x1 x2 x3 x4 x5 x6 x7 x8 b0 b1 b2 b3 b4 b5 b6 u f b ask hT hf hb) (flags_tells x2) fine_tells version_tells (attr_tells 0) (attr_tells 62) (attr_tells 61)
      (may_place _ _ _ w) (may_place _ _ _ w) (may_mode _ _ _ w) (may_mode _ _ _ w) (may_sett _ _ _ _ _ _ _ w) (may_flags _ w) (may_fine w) (may_version w) (may_attr0 w) (may_attr62 w) (may_attr61 w)
theorem reportSafe_contract (H : Type) (enc : TypeId × Value → H) (W : World) (base : Nat) (args : Array Value) (ds gs : List (DataW H)) (before : List MemPlace)
    (hval0 : ∀ (j : Nat) t v, Tryd.f8.params[j]? = some t → args[j]? = some v → Value.okWide Tryd.prog W .any base t v)
    (hW : DataW.Whole enc Tryd.prog Tryd.f8.params.toList Rows.reportSafeSpec.vars false W args.toList ds gs before) (vt : List TypeId) (hsz : (DataW.weightsEach Tryd.prog (Tryd.f8.params.toList ++ vt) (ds ++ gs)).all (· ≤ reachBytes) = true) (hL : laidMetH Tryd.prog Rows.reportSafeRow.laid W) :
    Calls Tryd.prog 8 args W fun e W' => ∃ v, e = .returned v ∧ Rows.reportSafeSpec.post enc Tryd.prog Tryd.f8 false true false false W args v W' := by
  have htab := tabOf hL
  have hval : ∀ (j : Nat) t v, Tryd.f8.params[j]? = some t → args[j]? = some v → Value.okWide Tryd.prog W .any base t v := hval0
  have hW' := hW
  obtain ⟨p, q, hA0, hV, rfl, hfz, hnd⟩ := hW
  have hA : DataW.TrodAll enc Tryd.prog W 0 (fun _ => true) true Tryd.f8.params.toList args.toList ds p := hA0
  rw [Tryd.params8] at hA hval hsz
  obtain ⟨v0, vs0, d0, ds0, p0, q0, hargs, rfl, rfl, h0, r0⟩ := trodAll_cons hA
  obtain ⟨v1, vs1, d1, ds1, p1, q1, rfl, rfl, rfl, h1, r1⟩ := trodAll_cons r0
  obtain ⟨v2, vs2, d2, ds2, p2, q2, rfl, rfl, rfl, h2, r2⟩ := trodAll_cons r1
  obtain ⟨rfl, rfl, rfl⟩ := trodAll_nil r2
  obtain rfl : args = #[v0, v1, v2] := by cases args; simp_all
  obtain ⟨rfl, rfl⟩ := trodVars_none hV
  have k0 := h0
  have lt0 : ∀ x ∈ p0, x.block < W.heap.size := by obtain ⟨m, hm⟩ := k0; exact DataW.trod_lt m _ _ _ hm
  have k1 := h1
  have lt1 : ∀ x ∈ p1, x.block < W.heap.size := by obtain ⟨m, hm⟩ := k1; exact DataW.trod_lt m _ _ _ hm
  have k2 := h2
  have lt2 : ∀ x ∈ p2, x.block < W.heap.size := by obtain ⟨m, hm⟩ := k2; exact DataW.trod_lt m _ _ _ hm
  obtain ⟨a0_0, a0_1, a0_2, a0_3, a0_4, a0_5, a0_6, a0_7, a0_8, a0_9, a0_10, a0_11, a0_12, a0_13, a0_14, a0_15, a0_16, a0_17, a0_18, rfl, w0_0, w0_1, w0_2, w0_3, w0_4, w0_5, w0_6, w0_7, w0_8, w0_16, w0_17, w0_18⟩ := open_screen (hval 0 25 v0 rfl rfl) h0
  obtain ⟨a1_0, a1_1, a1_2, a1_3, a1_4, a1_5, a1_6, a1_7, a1_8, a1_9, rfl, w1_7, w1_8, w1_9⟩ := open_modes (hval 1 39 v1 rfl rfl) h1
  obtain ⟨a2, rfl, rfl, rfl, y2⟩ := Go.ChangeMaps.open_string Tryd.underlying9 (hval 2 9 v2 rfl rfl) h2
  have sz2 := sized_string hsz (j := 2) (t := 9) rfl rfl
  clear hA0 hval0 hsz
  refine (reportSafe_calls a0_0 a0_1 a0_2 a0_3 a0_4 a0_5 a0_6 a0_7 a0_8 a0_9 a0_10 a0_11 a0_12 a0_13 a0_14 a0_15 a0_16 a0_17 a0_18 a1_0 a1_1 a1_2 a1_3 a1_4 a1_5 a1_6 a1_7 a1_8 a1_9 a2 W htab (intIn w0_17).1 (intIn w0_18).1).mono fun e W' ⟨he, bel⟩ => ?_
  subst he
  exact ⟨_, rfl, _, _, _, [], _, [], hW', trodAll_mk1 (shut_bool Tryd.underlying4 _), (trodAll_cons_mk (Below.trod laidOut (by kernel_rfl) (of_decide_eq_true (by kernel_rfl)) k0 bel lt0) (trodAll_cons_mk (Below.trod laidOut (by kernel_rfl) (of_decide_eq_true (by kernel_rfl)) k1 bel lt1) (trodAll_cons_mk (Below.trod laidOut (by kernel_rfl) (of_decide_eq_true (by kernel_rfl)) k2 bel lt2) trodAll_mk0))), rfl, bel.frame _, fun h => by cases h⟩
theorem reportSafe_laidMet (os : Os) : laidMet Tryd.prog Rows.reportSafeRow.laid ((laidWorld os).forCall (fun _ _ => 0) ⟨#[], #[.agg #[.int .i64 0, .int .i64 0, .int .i64 0, .int .i64 0, .int .i64 0, .int .i64 0, .int .i64 0, .int .i64 0, .int .i64 0, .bool false, .bool false, .bool false, .bool false, .bool false, .bool false, .bool false, .int .i64 0, .int .i64 0, .int .i64 0], .agg #[.bool false, .bool false, .bool false, .bool false, .bool false, .bool false, .bool false, .int .i64 0, .int .i64 0, .int .i64 0], .string ⟨#[]⟩], []⟩).memory :=
  laidMet_of_run' 8 (by kernel_rfl) (by kernel_rfl)
theorem reportSafe_reads (os : Os) {H : Type} (enc : TypeId × Value → H) : ∃ places, DataW.whole enc Tryd.prog ((laidWorld os).forCall (fun _ _ => 0) ⟨#[], #[.agg #[.int .i64 0, .int .i64 0, .int .i64 0, .int .i64 0, .int .i64 0, .int .i64 0, .int .i64 0, .int .i64 0, .int .i64 0, .bool false, .bool false, .bool false, .bool false, .bool false, .bool false, .bool false, .int .i64 0, .int .i64 0, .int .i64 0], .agg #[.bool false, .bool false, .bool false, .bool false, .bool false, .bool false, .bool false, .int .i64 0, .int .i64 0, .int .i64 0], .string ⟨#[]⟩], []⟩).memory Tryd.f8.params.toList Rows.reportSafeSpec.vars false (#[.agg #[.int .i64 0, .int .i64 0, .int .i64 0, .int .i64 0, .int .i64 0, .int .i64 0, .int .i64 0, .int .i64 0, .int .i64 0, .bool false, .bool false, .bool false, .bool false, .bool false, .bool false, .bool false, .int .i64 0, .int .i64 0, .int .i64 0], .agg #[.bool false, .bool false, .bool false, .bool false, .bool false, .bool false, .bool false, .int .i64 0, .int .i64 0, .int .i64 0], .string ⟨#[]⟩] : Array Value).toList 8 = some ([.agg [.lit (.int .i64 0), .lit (.int .i64 0), .lit (.int .i64 0), .lit (.int .i64 0), .lit (.int .i64 0), .lit (.int .i64 0), .lit (.int .i64 0), .lit (.int .i64 0), .lit (.int .i64 0), .agg [.lit (.bool false), .lit (.bool false), .lit (.bool false), .lit (.bool false), .lit (.bool false), .lit (.bool false), .lit (.bool false), .lit (.int .i64 0), .lit (.int .i64 0), .lit (.int .i64 0)]], .agg [.lit (.bool false), .lit (.bool false), .lit (.bool false), .lit (.bool false), .lit (.bool false), .lit (.bool false), .lit (.bool false), .lit (.int .i64 0), .lit (.int .i64 0), .lit (.int .i64 0)], .lit (.string [])], [], places) :=
  ⟨[], by kernel_rfl⟩
set_option maxRecDepth 100000 in
theorem reportSafe_lifted (os : Os) (started : os.Started) (H : Type) (enc : TypeId × Value → H) (F : Stop.Interp) :
    ReturnsInHanded {} Tryd.checked os 8 .any ((OpenSpec.ofChange Rows.reportSafeSpec).preRow enc Tryd.prog Tryd.f8 Rows.reportSafeRow.domain false Rows.reportSafeRow.laid) (((OpenSpec.ofChange Rows.reportSafeSpec).at F).post enc Tryd.prog Tryd.f8 false true false false) := by
  obtain ⟨places, hx⟩ := reportSafe_reads os enc
  refine returnsInHanded_of_row (C := Tryd.checked) (s := OpenSpec.ofChange Rows.reportSafeSpec) own started (by kernel_rfl) Tryd.func8
    (witness_row_at (enc := enc) (C := Tryd.checked) false (laidWorld os) #[.agg #[.int .i64 0, .int .i64 0, .int .i64 0, .int .i64 0, .int .i64 0, .int .i64 0, .int .i64 0, .int .i64 0, .int .i64 0, .bool false, .bool false, .bool false, .bool false, .bool false, .bool false, .bool false, .int .i64 0, .int .i64 0, .int .i64 0], .agg #[.bool false, .bool false, .bool false, .bool false, .bool false, .bool false, .bool false, .int .i64 0, .int .i64 0, .int .i64 0], .string ⟨#[]⟩] rfl (by kernel_rfl) (by kernel_rfl) (by kernel_rfl)
      (OpenSpec.preRow_of_cond 8 hx (by kernel_rfl) (fun k hk => by cases hk) (by kernel_rfl) (reportSafe_laidMet os))) ?_
  intro W base args ds gs before hval hW _ _ hsz hL _ _
  exact reportSafe_contract H enc W base args ds gs before hval hW _ hsz hL
theorem reportSafe_said : Rows.ReportSafeSaid :=
  OpenClaim.holds_of_cond 8 Tryd.f8 rfl rfl rfl rfl rfl rfl rfl ⟨rfl, rfl, rfl, rfl, rfl⟩ rfl rfl rfl rfl rfl (by kernel_rfl) Tryd.func8 (by kernel_rfl)
    (of_decide_eq_true (by kernel_rfl)) (by unfold Func.isWrapper; first | (rw [if_pos (by decide +kernel)]; kernel_rfl) | (rw [if_neg (by decide +kernel)]; exact ⟨rfl, rfl⟩))
    (fun os started H enc _ F => by rw [OpenClaim.pre_eq_preRow]; exact reportSafe_lifted os started H enc F)
theorem reportSafe_plain (f : FuncId) (fn : Func) (hf : Tryd.pinned.checked.prog.funcNamed "clavier/clavierlaw19.ReportSafe" = some f) (hfn : Tryd.pinned.checked.prog.funcs[f]? = some fn) :
    false = Tryd.pinned.checked.prog.looks [] ∧ ∀ (j : Nat) t, fn.params[j]? = some t → Tryd.pinned.checked.prog.wantsStandIn t = false := by
  obtain rfl : f = 8 := Option.some.inj ((show Tryd.prog.funcNamed "clavier/clavierlaw19.ReportSafe" = some 8 by kernel_rfl).symm.trans hf) |>.symm
  obtain rfl : fn = Tryd.f8 := (Option.some.inj (Tryd.func8.symm.trans hfn)).symm
  refine ⟨by kernel_rfl, fun j t ht => ?_⟩
  rw [Tryd.params8] at ht
  have hm : t ∈ [25, 39, 9] := by simpa using Array.mem_of_getElem? ht
  have hall : ([25, 39, 9].all fun u => !Tryd.prog.wantsStandIn u) = true := by kernel_rfl
  exact (show Tryd.prog.wantsStandIn t = false by simpa using List.all_eq_true.1 hall t hm)
theorem reportSafe_card : Rows.ReportSafeCardSaid :=
  Claim7.holds_tied_plain_at .later [] _ _ _ _ reportSafe_said (fun _ h => by cases h) (by kernel_rfl) (fun _ h => by cases h) reportSafe_row_tie rfl ⟨rfl, rfl⟩ (by kernel_rfl) rfl reportSafe_plain (by kernel_rfl)
#print axioms reportSafe_card
end Go.Proofs.YtopcleljecdkkaaDoor
