/- P: texts run together by shake.py: PasteJoins. -/
import Derived.ArgAppend
import Derived.Below
import Derived.BigQuiet
import Derived.ChangeOld
import Derived.ChangeSlices
import Derived.Deep.AppendLies
import Derived.Deep.CutBlock
import Derived.Deep.DeepCutAuto
import Derived.Deep.DeepHandedRow
import Derived.Deep.Draws
import Derived.Deep.LoopGhost
import Derived.Deep.OwnRows
import Derived.Deep.Quiet
import Derived.Deep.QuietTactic
import Derived.Deep.RegionHeld3
import Derived.KernelRfl
import Derived.Laws.AppendOwn
import Derived.Laws.AppendOwnNone
import Derived.Laws.BitsAllLaws
import Derived.Laws.BitsLemmas
import Derived.Laws.BytesArg
import Derived.Laws.Concat
import Derived.Laws.CopyRow
import Derived.Laws.IdiomCopy
import Derived.Laws.IdiomStrings
import Derived.Laws.MakeOwn
import Derived.Laws.OwnMore
import Derived.Laws.Rows
import Derived.Laws.Slices
import Derived.Laws.StructEq
import Derived.Laws.Tables
import Derived.Lib.AppendIntMem
import Derived.Lib.AppendStr
import Derived.Lib.AppendZeros
import Derived.Lib.Bytes
import Derived.Lib.ConvBytes
import Derived.Lib.Hide
import Derived.Lib.ItoaLen
import Derived.Lib.ItoaNum
import Derived.Lib.LaidTab
import Derived.Lib.OthersKept
import Derived.Lib.SliceRun
import Derived.Lib.TrimU
import Derived.LoopIn
import Derived.MapKept
import Derived.Maps.AppendAt
import Derived.OpenShut
import Derived.Orders
import Derived.OrdersHeld
import Derived.OrdersIn
import Derived.OwnWalk
import Derived.ProofKit
import Derived.RangeFuncCalls
import Derived.RangeFuncNested
import Derived.RangeFuncWrites
import Derived.RowKit
import Derived.RowKit3
import Derived.Shelf.Bytes.SlEqualAll
import Derived.Shelf.Bytes.SlSearch0
import Derived.Shelf.Bytes.SlSmallAll
import Derived.Shelf.Bytes.Small
import Derived.Shelf.LaysM
import Derived.Shelf.Slices.Empties2
import Derived.Shelf.Slices.Equal
import Derived.Shelf.Small.Strs
import Derived.Shelf.Small.Utf8
import Derived.Shelf.Strconv.Itoa0
import Derived.Shelf.Strconv.Itoa1
import Derived.Shelf.Strconv.Itoa2
import Derived.Shelf.Strconv.Itoa3
import Derived.Shelf.Strings.Builder1
import Derived.Shelf.Strings.Builder2
import Derived.Shelf.Strings.Builder2Cap
import Derived.Shelf.Strings.BuilderCap
import Derived.Shelf.Strings.BuilderF
import Derived.Shelf.Strings.BuilderK
import Derived.Shelf.Strings.OnBuilder
import Derived.Shelf.Strings.Runes
import Derived.Shelf.Strings.Search1
import Derived.ShutString
import Derived.SizedLaws
import Derived.Still
import Derived.Stop.LaidErr
import Derived.Tactics
import Derived.TacticsIn
import Derived.Test.YtcglbfpmcpammaaDoorCards
import Derived.Test.YtcglbfpmcpammaaDoorProg
import Derived.Test.YtcglbfpmcpammaaDoorTie
import Derived.WalkKit
import Derived.WideLaws
import Derived.Test.YtcglbfpmcpammaaDoorZP1
import Derived.Test.YtcglbfpmcpammaaDoorZP2
import Derived.Test.YtcglbfpmcpammaaDoorZP3
import Derived.Test.YtcglbfpmcpammaaDoorZP4
import Derived.Test.YtcglbfpmcpammaaDoorZP5
import Derived.Test.YtcglbfpmcpammaaDoorZP6
import Derived.Test.YtcglbfpmcpammaaDoorZP7
import Derived.Test.YtcglbfpmcpammaaDoorZP8
import Derived.Test.YtcglbfpmcpammaaDoorZP9
import Derived.Test.YtcglbfpmcpammaaDoorZP10
import Derived.Test.YtcglbfpmcpammaaDoorZP11
import Derived.Test.YtcglbfpmcpammaaDoorZP12
import Derived.Test.YtcglbfpmcpammaaDoorZP13
import Derived.Test.YtcglbfpmcpammaaDoorZP15
import Derived.Test.YtcglbfpmcpammaaDoorZP17
import Derived.Test.YtcglbfpmcpammaaDoorZP18
import Derived.Test.YtcglbfpmcpammaaDoorZP24
namespace Go.Proofs.YtcglbfpmcpammaaDoor
open Go.ChangeShapes Go.WideShapes Go.ChangeAt Go.RowKit Go.Proofs.YtcglbfpmcpammaaDoorW.PrintWords
set_option linter.unusedVariables false
set_option linter.unusedSimpArgs false
set_option maxRecDepth 100000
theorem pasteJoins_contract (H : Type) (enc : TypeId × Value → H) (W : World) (base : Nat) (args : Array Value) (ds gs : List (DataW H)) (before : List MemPlace)
    (hval0 : ∀ (j : Nat) t v, Tryd.f7.params[j]? = some t → args[j]? = some v → Value.okWide Tryd.prog W .any base t v)
    (hW : DataW.Whole enc Tryd.prog Tryd.f7.params.toList Rows.pasteJoinsSpec.vars false W args.toList ds gs before) (vt : List TypeId) (hsz : (DataW.weightsEach Tryd.prog (Tryd.f7.params.toList ++ vt) (ds ++ gs)).all (· ≤ reachBytes) = true) (hL : laidMetH Tryd.prog Rows.pasteJoinsRow.laid W) :
    Calls Tryd.prog 7 args W fun e W' => ∃ v, e = .returned v ∧ Rows.pasteJoinsSpec.post enc Tryd.prog Tryd.f7 false true false false W args v W' := by
  have htab := tabOf hL
  have hval : ∀ (j : Nat) t v, Tryd.f7.params[j]? = some t → args[j]? = some v → Value.okWide Tryd.prog W .any base t v := hval0
  have hW' := hW
  obtain ⟨p, q, hA0, hV, rfl, hfz, hnd⟩ := hW
  have hA : DataW.TrodAll enc Tryd.prog W 0 (fun _ => true) true Tryd.f7.params.toList args.toList ds p := hA0
  rw [Tryd.params7] at hA hval hsz
  obtain ⟨v0, vs0, d0, ds0, p0, q0, hargs, rfl, rfl, h0, r0⟩ := trodAll_cons hA
  obtain ⟨v1, vs1, d1, ds1, p1, q1, rfl, rfl, rfl, h1, r1⟩ := trodAll_cons r0
  obtain ⟨rfl, rfl, rfl⟩ := trodAll_nil r1
  obtain rfl : args = #[v0, v1] := by cases args; simp_all
  obtain ⟨rfl, rfl⟩ := trodVars_none hV
  have k0 := h0
  have lt0 : ∀ x ∈ p0, x.block < W.heap.size := by obtain ⟨m, hm⟩ := k0; exact DataW.trod_lt m _ _ _ hm
  have k1 := h1
  have lt1 : ∀ x ∈ p1, x.block < W.heap.size := by obtain ⟨m, hm⟩ := k1; exact DataW.trod_lt m _ _ _ hm
  obtain ⟨A0, l0, c0, rfl, hc0, hr0, hb0⟩ := open_bytesK h0 (hval 0 24 v0 rfl rfl)
  have sz0 := sized_ints hsz (j := 0) (t := 24) rfl rfl Tryd.underlying24 Tryd.underlying5 (by kernel_rfl) (B := 1) (by kernel_rfl) h0
  obtain ⟨A1, l1, c1, rfl, hc1, hr1, hb1⟩ := open_bytesK h1 (hval 1 24 v1 rfl rfl)
  have sz1 := sized_ints hsz (j := 1) (t := 24) rfl rfl Tryd.underlying24 Tryd.underlying5 (by kernel_rfl) (B := 1) (by kernel_rfl) h1
  clear hA0 hval0 hsz
  refine (pasteJoins_calls A0 l0.length c0 (Kit.bytesI l0) (Kit.bytesI_length _) hc0 A1 l1.length c1 (Kit.bytesI l1) (Kit.bytesI_length _) hc1 W htab (Kit.reads_bytes hr0 hb0) (Kit.reads_bytes hr1 hb1) (by have := sz0; omega) (by have := sz1; omega)).mono fun e W' ⟨he, bel⟩ => ?_
  subst he
  exact ⟨_, rfl, _, _, _, [], _, [], hW', trodAll_mk1 (shut_bool Tryd.underlying4 _), (trodAll_cons_mk (Below.trod laidOut (by kernel_rfl) (of_decide_eq_true (by kernel_rfl)) k0 bel lt0) (trodAll_cons_mk (Below.trod laidOut (by kernel_rfl) (of_decide_eq_true (by kernel_rfl)) k1 bel lt1) trodAll_mk0)), rfl, bel.frame _, fun h => by cases h⟩
theorem pasteJoins_laidMet (os : Os) : laidMet Tryd.prog Rows.pasteJoinsRow.laid ((laidWorld os).forCall (fun _ _ => 0) ⟨#[], #[.slice none 0 0, .slice none 0 0], []⟩).memory :=
  laidMet_of_run' 8 (by kernel_rfl) (by kernel_rfl)
theorem pasteJoins_reads (os : Os) {H : Type} (enc : TypeId × Value → H) : ∃ places, DataW.whole enc Tryd.prog ((laidWorld os).forCall (fun _ _ => 0) ⟨#[], #[.slice none 0 0, .slice none 0 0], []⟩).memory Tryd.f7.params.toList Rows.pasteJoinsSpec.vars false (#[.slice none 0 0, .slice none 0 0] : Array Value).toList 8 = some ([.nil, .nil], [], places) :=
  ⟨[], by kernel_rfl⟩
set_option maxRecDepth 100000 in
theorem pasteJoins_lifted (os : Os) (started : os.Started) (H : Type) (enc : TypeId × Value → H) (F : Stop.Interp) :
    ReturnsInHanded {} Tryd.checked os 7 .any ((OpenSpec.ofChange Rows.pasteJoinsSpec).preRow enc Tryd.prog Tryd.f7 Rows.pasteJoinsRow.domain false Rows.pasteJoinsRow.laid) (((OpenSpec.ofChange Rows.pasteJoinsSpec).at F).post enc Tryd.prog Tryd.f7 false true false false) := by
  obtain ⟨places, hx⟩ := pasteJoins_reads os enc
  refine returnsInHanded_of_row (C := Tryd.checked) (s := OpenSpec.ofChange Rows.pasteJoinsSpec) own started (by kernel_rfl) Tryd.func7
    (witness_row_at (enc := enc) (C := Tryd.checked) false (laidWorld os) #[.slice none 0 0, .slice none 0 0] rfl (by kernel_rfl) (by kernel_rfl) (by kernel_rfl)
      (OpenSpec.preRow_of_cond 8 hx (by kernel_rfl) (fun k hk => by cases hk) (by kernel_rfl) (pasteJoins_laidMet os))) ?_
  intro W base args ds gs before hval hW _ _ hsz hL _ _
  exact pasteJoins_contract H enc W base args ds gs before hval hW _ hsz hL
theorem pasteJoins_said : Rows.PasteJoinsSaid :=
  OpenClaim.holds_of_cond 7 Tryd.f7 rfl rfl rfl rfl rfl rfl rfl ⟨rfl, rfl, rfl, rfl, rfl⟩ rfl rfl rfl rfl rfl (by kernel_rfl) Tryd.func7 (by kernel_rfl)
    (of_decide_eq_true (by kernel_rfl)) (by unfold Func.isWrapper; first | (rw [if_pos (by decide +kernel)]; kernel_rfl) | (rw [if_neg (by decide +kernel)]; exact ⟨rfl, rfl⟩))
    (fun os started H enc _ F => by rw [OpenClaim.pre_eq_preRow]; exact pasteJoins_lifted os started H enc F)
theorem pasteJoins_plain (f : FuncId) (fn : Func) (hf : Tryd.pinned.checked.prog.funcNamed "clavier/clavierlaw17.PasteJoins" = some f) (hfn : Tryd.pinned.checked.prog.funcs[f]? = some fn) :
    false = Tryd.pinned.checked.prog.looks [] ∧ ∀ (j : Nat) t, fn.params[j]? = some t → Tryd.pinned.checked.prog.wantsStandIn t = false := by
  obtain rfl : f = 7 := Option.some.inj ((show Tryd.prog.funcNamed "clavier/clavierlaw17.PasteJoins" = some 7 by kernel_rfl).symm.trans hf) |>.symm
  obtain rfl : fn = Tryd.f7 := (Option.some.inj (Tryd.func7.symm.trans hfn)).symm
  refine ⟨by kernel_rfl, fun j t ht => ?_⟩
  rw [Tryd.params7] at ht
  have hm : t ∈ [24, 24] := by simpa using Array.mem_of_getElem? ht
  have hall : ([24, 24].all fun u => !Tryd.prog.wantsStandIn u) = true := by kernel_rfl
  exact (show Tryd.prog.wantsStandIn t = false by simpa using List.all_eq_true.1 hall t hm)
theorem pasteJoins_card : Rows.PasteJoinsCardSaid :=
  Claim7.holds_tied_plain_at .later [] _ _ _ _ pasteJoins_said (fun _ h => by cases h) (by kernel_rfl) (fun _ h => by cases h) pasteJoins_row_tie rfl ⟨rfl, rfl⟩ (by kernel_rfl) rfl pasteJoins_plain (by kernel_rfl)
#print axioms pasteJoins_card
end Go.Proofs.YtcglbfpmcpammaaDoor
