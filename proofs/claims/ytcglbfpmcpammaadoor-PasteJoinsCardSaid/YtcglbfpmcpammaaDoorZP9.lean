/- P: texts run together by shake.py: Gpasteb PaC PaF PaG PaH KitG3 KitMk. -/
import Derived.ArgAppend
import Derived.Below
import Derived.BigQuiet
import Derived.Deep.AppendLies
import Derived.Deep.CutBlock
import Derived.Deep.DeepCutAuto
import Derived.Deep.Draws
import Derived.Deep.LoopGhost
import Derived.Deep.OwnRows
import Derived.Deep.Quiet
import Derived.Deep.QuietTactic
import Derived.Deep.RegionHeld3
import Derived.KernelRfl
import Derived.Laws.AppendOwn
import Derived.Laws.AppendOwnNone
import Derived.Laws.BitsAllLaws
import Derived.Laws.BitsLemmas
import Derived.Laws.BytesArg
import Derived.Laws.Concat
import Derived.Laws.CopyRow
import Derived.Laws.IdiomCopy
import Derived.Laws.IdiomStrings
import Derived.Laws.MakeOwn
import Derived.Laws.OwnMore
import Derived.Laws.Rows
import Derived.Laws.Slices
import Derived.Laws.StructEq
import Derived.Laws.Tables
import Derived.Lib.AppendIntMem
import Derived.Lib.AppendStr
import Derived.Lib.AppendZeros
import Derived.Lib.Bytes
import Derived.Lib.ConvBytes
import Derived.Lib.Hide
import Derived.Lib.ItoaLen
import Derived.Lib.ItoaNum
import Derived.Lib.LaidTab
import Derived.Lib.OthersKept
import Derived.Lib.SliceRun
import Derived.Lib.TrimU
import Derived.LoopIn
import Derived.MapKept
import Derived.Maps.AppendAt
import Derived.Orders
import Derived.OrdersHeld
import Derived.OrdersIn
import Derived.OwnWalk
import Derived.RangeFuncCalls
import Derived.RangeFuncNested
import Derived.RangeFuncWrites
import Derived.RowKit
import Derived.RowKit3
import Derived.Shelf.Bytes.SlEqualAll
import Derived.Shelf.Bytes.SlSearch0
import Derived.Shelf.Bytes.SlSmallAll
import Derived.Shelf.Bytes.Small
import Derived.Shelf.LaysM
import Derived.Shelf.Slices.Empties2
import Derived.Shelf.Slices.Equal
import Derived.Shelf.Small.Strs
import Derived.Shelf.Small.Utf8
import Derived.Shelf.Strconv.Itoa0
import Derived.Shelf.Strconv.Itoa1
import Derived.Shelf.Strconv.Itoa2
import Derived.Shelf.Strconv.Itoa3
import Derived.Shelf.Strings.Builder1
import Derived.Shelf.Strings.Builder2
import Derived.Shelf.Strings.Builder2Cap
import Derived.Shelf.Strings.BuilderCap
import Derived.Shelf.Strings.BuilderF
import Derived.Shelf.Strings.BuilderK
import Derived.Shelf.Strings.OnBuilder
import Derived.Shelf.Strings.Runes
import Derived.Shelf.Strings.Search1
import Derived.Still
import Derived.Tactics
import Derived.TacticsIn
import Derived.Test.YtcglbfpmcpammaaDoorProg
import Derived.WalkKit
import Derived.WideLaws
import Derived.Test.YtcglbfpmcpammaaDoorZP1
import Derived.Test.YtcglbfpmcpammaaDoorZP2
import Derived.Test.YtcglbfpmcpammaaDoorZP3
import Derived.Test.YtcglbfpmcpammaaDoorZP4
import Derived.Test.YtcglbfpmcpammaaDoorZP5
import Derived.Test.YtcglbfpmcpammaaDoorZP6
import Derived.Test.YtcglbfpmcpammaaDoorZP7
import Derived.Test.YtcglbfpmcpammaaDoorZP8
section
namespace Go.Proofs.YtcglbfpmcpammaaDoor.G
open Go.RowKit Go.Proofs.YtcglbfpmcpammaaDoorW.PrintWords Go.Proofs.YtcglbfpmcpammaaDoorW.PrintLast Go.Proofs.YtcglbfpmcpammaaDoorW.PrintMore
attribute [local go_sem] max2_int min2_int max_two min_two max_three min_three max_four min_four
set_option linter.unusedVariables false
set_option linter.unusedSimpArgs false
def paste_mark.f (k : Nat) (a0 : Int) : Option (List Int) := (wire_Num.f k 0 126 (([a0] : List Int))).bind fun bt188 => ((wire_Put.f k bt188.1 bt188.2.1 bt188.2.2.1 bt188.2.2.2.1 bt188.2.2.2.2.1 bt188.2.2.2.2.2).bind fun bt196 => (some bt196.1))
theorem paste_mark.mono : ∀ a0 k, LeO (paste_mark.f k a0) (paste_mark.f (k + 1) a0) := by
  intro a0 k
  unfold paste_mark.f
  repeat' first
      | (with_reducible exact wire_Num.mono _ _ _ _)
      | (with_reducible exact wire_Put.mono _ _ _ _ _ _ _)
      | (with_reducible exact LeO.refl _)
      | (with_reducible exact LeO.none _)
      | (with_reducible refine LeO.ite ?_ ?_)
      | (with_reducible refine LeO.bind ?_ (fun _ => ?_))
      | exact wire_Num.mono _ _ _ _
      | exact wire_Put.mono _ _ _ _ _ _ _
      | exact LeO.none _
      | refine LeO.ite ?_ ?_
      | refine LeO.bind ?_ (fun _ => ?_)
set_option maxHeartbeats 8000000 in
set_option maxRecDepth 100000 in
theorem paste_mark.calls (k : Nat) (a0 : Int) (r : List Int) (w : World) (hT : Tab w) (h : paste_mark.f k a0 = some r) :
    Calls Tryd.prog 25 #[.int .i64 a0] w fun e w' => ∃ v0_ : Value, e = .returned (v0_) ∧ Kd.R (Kd.int .u8) 5 w' w.heap.size (fun _ => True) v0_ r ∧ Below w.heap.size w w' := by
  have HT := Aside0.mk hT
  clear hT
  have HB := Aside0.mk (Below.refl w.heap.size w)
  have H : ((wire_Num.f k 0 126 (([a0] : List Int))).bind fun bt188 => ((wire_Put.f k bt188.1 bt188.2.1 bt188.2.2.1 bt188.2.2.2.1 bt188.2.2.2.2.1 bt188.2.2.2.2.2).bind fun bt196 => (some bt196.1))) = some r := h
  clear h
  obtain ⟨y185, hy185⟩ : ∃ y_ : List Int, y_ = (([a0] : List Int)) := ⟨_, rfl⟩
  replace H : ((wire_Num.f k 0 126 y185).bind fun bt188 => ((wire_Put.f k bt188.1 bt188.2.1 bt188.2.2.1 bt188.2.2.2.1 bt188.2.2.2.2.1 bt188.2.2.2.2.2).bind fun bt196 => (some bt196.1))) = some r := by first | (rw [hy185]; with_reducible exact H) | (have H2_ := (Option.bind_some _ _).symm.trans H; rw [hy185]; with_reducible exact H2_) | (have H2_ := (Option.bind_some _ _).symm.trans H; with_reducible exact H2_) | with_reducible exact H | (rw [hy185]; exact H) | exact H
  have Ny185 := Aside0.mk hy185
  clear hy185
  replace H := Option.bind_eq_some_iff.mp H
  obtain ⟨⟨t188, t189, t190, t193, t194, t195⟩, A20, H⟩ := H
  replace H : ((wire_Put.f k t188 t189 t190 t193 t194 t195).bind fun bt196 => (some bt196.1)) = some r := H
  have A2 := Aside0.mk A20
  clear A20
  replace H := Option.bind_eq_some_iff.mp H
  obtain ⟨⟨t196, t199⟩, A30, H⟩ := H
  replace H : (some t196) = some r := H
  have A3 := Aside0.mk A30
  clear A30
  obtain rfl := Option.some.inj H
  go_enter Tryd.func25, Tryd.ntmps25
  go_wp2_with (first | ((with_reducible refine gate_dst (N := 7) rfl ?_); refine Kd.R_lit (Kd.int .i64) _ 3 ?hg (N := 7) ?hd (xs := ([a0] : List Int)) (inner := [.int .i64 a0]) (ok := fun _ => True) (okp := fun _ => True) ?hr ?hp (fun _ hk => hk) trivial (Below.refl _ _) (Nat.le_refl _) (by simp) ?_; (case hd => rfl); (case hg => rfl); (case hr => first | (go_simp; done) | (go_simp; rfl)); (case hp => exact (Reps.one (show Kd.M (Kd.int .i64) _ _ _ a0 [.int .i64 a0] from rfl) (Reps.none _ _))); intro v186 w4 ho5 hb hg_ hnew_; clear hg_ hnew_; (first | rw [← Ny185.out] at ho5 | (simp only [Int.reduceToNat] at ho5; rw [← Ny185.out] at ho5)); have n0_ := Aside0.mk (Kd.R_lower ho5 (below_size (by repeat (first | (with_reducible first | exact HB.out | apply below_alloc | apply pw_below_drewN | apply below_drew1) | exact HB.out)))); have n1_ := Aside0.mk (below_step (by repeat (first | (with_reducible first | exact HB.out | apply below_alloc | apply pw_below_drewN | apply below_drew1) | exact HB.out)) hb); clear HB; have HO187 := n0_; have HB := n1_; clear n0_ n1_; clear hb ho5; obtain ⟨Ao6, co6, eo6⟩ := Kd.R_slice HO187.out; subst eo6) | ((with_reducible refine gate_callee (f := 38) rfl ?_); refine goesL_ (some 8) rfl rfl Tryd.func38 (by kernel_rfl) rfl #[.int .u8 0, .int .u8 126, .slice Ao6 y185.length co6] rfl (by (try simp only [List.map_toArray, List.map_cons, List.map_nil]); first | done | rfl | (simp only [List.length_drop, List.length_take]; rfl)) ?_; (with_reducible refine (wire_Num.calls k 0 126 _ _ y185 t188 t189 t190 t193 t194 t195 _ ?side1 ?side2 A2.out).mono ?_); (case side1 => repeat (first | exact (Kd.R_reads' HO187.out).2.2 | (with_reducible refine Kd.C_alloc ?_ _) | (with_reducible refine Kd.C_drewN ?_ _) | (with_reducible refine Kd.C_drew ?_))); (case side2 => exact (Kd.R_reads' HO187.out).2.1); rintro e w7 ⟨v191, rfl, ho0, hb⟩; refine ⟨_, rfl, ?_⟩; have n0_ := Aside0.mk (Kd.R_below (by (with_reducible repeat (first | apply Kd.R_alloc | apply Kd.R_drewN | apply Kd.R_drew)); exact HO187.out) hb); have n1_ := Aside0.mk (Kd.S_lower (Kd.S_new' ho0 (Kd.R_lt (by (with_reducible repeat (first | apply Kd.R_alloc | apply Kd.R_drewN | apply Kd.R_drew)); exact HO187.out))) (below_size (by repeat (first | (with_reducible first | exact HB.out | apply below_alloc | apply pw_below_drewN | apply below_drew1) | exact HB.out)))); have n2_ := Aside0.mk (below_step (by repeat (first | (with_reducible first | exact HB.out | apply below_alloc | apply pw_below_drewN | apply below_drew1) | exact HB.out)) hb); clear HO187; clear HB; have HO187 := n0_; have HO192 := n1_; have HB := n2_; clear n0_ n1_ n2_; (try clear hb); (try clear hb2); (try clear hk); (try clear hi); (try clear ho0); obtain ⟨Ao8, co8, eo8⟩ := Kd.S_slice HO192.out; subst eo8) | ((with_reducible refine gate_callee (f := 37) rfl ?_); refine goesL_ (some 9) rfl rfl Tryd.func37 (by kernel_rfl) rfl #[.agg #[.int .i64 t188, .int .u8 t189, .slice Ao8 t190.length co8, .string t193, .int .u8 t194, .string t195]] rfl (by (try simp only [List.map_toArray, List.map_cons, List.map_nil]); first | done | rfl | (simp only [List.length_drop, List.length_take]; rfl)) ?_; (with_reducible refine (wire_Put.calls k t188 t189 _ _ t190 t193 t194 t195 t196 t199 _ ?side1 ?side2 ?side3 A3.out).mono ?_); (case side1 => repeat (first | exact (Kd.S_reads' HO192.out).2.2 | (with_reducible refine Kd.C_alloc ?_ _) | (with_reducible refine Kd.C_drewN ?_ _) | (with_reducible refine Kd.C_drew ?_))); (case side2 => exact (Kd.S_reads' HO192.out).2.1); (case side3 => exact Tab.below HT.out (by repeat (first | (with_reducible first | exact HB.out | apply below_alloc | apply pw_below_drewN | apply below_drew1) | exact HB.out))); rintro e w9 ⟨v197, rfl, ho0, hb⟩; refine ⟨_, rfl, ?_⟩; have n0_ := Aside0.mk (Kd.R_below (by (with_reducible repeat (first | apply Kd.R_alloc | apply Kd.R_drewN | apply Kd.R_drew)); exact HO187.out) hb); have n1_ := Aside0.mk (Kd.S_below (by (with_reducible repeat (first | apply Kd.S_alloc | apply Kd.S_drewN | apply Kd.S_drew)); exact HO192.out) hb); have n2_ := Aside0.mk (Kd.R_lower ho0 (below_size (by repeat (first | (with_reducible first | exact HB.out | apply below_alloc | apply pw_below_drewN | apply below_drew1) | exact HB.out)))); have n3_ := Aside0.mk (below_step (by repeat (first | (with_reducible first | exact HB.out | apply below_alloc | apply pw_below_drewN | apply below_drew1) | exact HB.out)) hb); clear HO187; clear HO192; clear HB; have HO187 := n0_; have HO192 := n1_; have HO198 := n2_; have HB := n3_; clear n0_ n1_ n2_ n3_; (try clear hb); (try clear hb2); (try clear hk); (try clear hi); (try clear ho0)))
  go_ret
  exact ⟨_, by first | rfl | (simp [errW_none, errW_some] <;> rfl) | (simp [*, errW_none, errW_some] <;> rfl), by (with_reducible repeat (first | apply Kd.R_alloc | apply Kd.R_drewN | apply Kd.R_drew)); exact HO198.out, by repeat (first | (with_reducible first | exact HB.out | apply below_alloc | apply pw_below_drewN | apply below_drew1) | exact HB.out)⟩
def paste_looks_1.f (k : Nat) (a0 : Int) : Option (List Int) := (wire_Num.f k 0 a0 ([] : List Int)).bind fun bt201 => ((wire_Put.f k bt201.1 bt201.2.1 bt201.2.2.1 bt201.2.2.2.1 bt201.2.2.2.2.1 bt201.2.2.2.2.2).bind fun bt209 => (some bt209.1))
theorem paste_looks_1.mono : ∀ a0 k, LeO (paste_looks_1.f k a0) (paste_looks_1.f (k + 1) a0) := by
  intro a0 k
  unfold paste_looks_1.f
  repeat' first
      | (with_reducible exact wire_Num.mono _ _ _ _)
      | (with_reducible exact wire_Put.mono _ _ _ _ _ _ _)
      | (with_reducible exact LeO.refl _)
      | (with_reducible exact LeO.none _)
      | (with_reducible refine LeO.ite ?_ ?_)
      | (with_reducible refine LeO.bind ?_ (fun _ => ?_))
      | exact wire_Num.mono _ _ _ _
      | exact wire_Put.mono _ _ _ _ _ _ _
      | exact LeO.none _
      | refine LeO.ite ?_ ?_
      | refine LeO.bind ?_ (fun _ => ?_)
set_option maxHeartbeats 8000000 in
set_option maxRecDepth 100000 in
theorem paste_looks_1.calls (k : Nat) (a0 : Int) (r : List Int) (w : World) (hT : Tab w) (h : paste_looks_1.f k a0 = some r) :
    Calls Tryd.prog 39 #[.int .u8 a0] w fun e w' => ∃ v0_ : Value, e = .returned (v0_) ∧ Kd.R (Kd.int .u8) 5 w' w.heap.size (fun _ => True) v0_ r ∧ Below w.heap.size w w' := by
  have HT := Aside0.mk hT
  clear hT
  have HB := Aside0.mk (Below.refl w.heap.size w)
  have H : ((wire_Num.f k 0 a0 ([] : List Int)).bind fun bt201 => ((wire_Put.f k bt201.1 bt201.2.1 bt201.2.2.1 bt201.2.2.2.1 bt201.2.2.2.2.1 bt201.2.2.2.2.2).bind fun bt209 => (some bt209.1))) = some r := h
  clear h
  replace H := Option.bind_eq_some_iff.mp H
  obtain ⟨⟨t201, t202, t203, t206, t207, t208⟩, A20, H⟩ := H
  replace H : ((wire_Put.f k t201 t202 t203 t206 t207 t208).bind fun bt209 => (some bt209.1)) = some r := H
  have A2 := Aside0.mk A20
  clear A20
  replace H := Option.bind_eq_some_iff.mp H
  obtain ⟨⟨t209, t212⟩, A30, H⟩ := H
  replace H : (some t209) = some r := H
  have A3 := Aside0.mk A30
  clear A30
  obtain rfl := Option.some.inj H
  go_enter Tryd.func39, Tryd.ntmps39
  go_wp2_with (first | ((with_reducible refine gate_callee (f := 38) rfl ?_); refine goesL_ (some 7) rfl rfl Tryd.func38 (by kernel_rfl) rfl #[.int .u8 0, .int .u8 a0, .slice none 0 0] rfl (by (try simp only [List.map_toArray, List.map_cons, List.map_nil]); first | done | rfl | (simp only [List.length_drop, List.length_take]; rfl)) ?_; (refine (wire_Num.calls k 0 a0 _ _ ([] : List Int) t201 t202 t203 t206 t207 t208 _ ?side1 ?side2 A2.out).mono ?_); (case side1 => exact Kd.C_nil _ _); (case side2 => exact Nat.le_refl _); rintro e w4 ⟨v204, rfl, ho0, hb⟩; refine ⟨_, rfl, ?_⟩; have n0_ := Aside0.mk (Kd.S_lower ho0 (below_size (by repeat (first | (with_reducible first | exact HB.out | apply below_alloc | apply pw_below_drewN | apply below_drew1) | exact HB.out)))); have n1_ := Aside0.mk (below_step (by repeat (first | (with_reducible first | exact HB.out | apply below_alloc | apply pw_below_drewN | apply below_drew1) | exact HB.out)) hb); clear HB; have HO205 := n0_; have HB := n1_; clear n0_ n1_; (try clear hb); (try clear hb2); (try clear hk); (try clear hi); (try clear ho0); obtain ⟨Ao5, co5, eo5⟩ := Kd.S_slice HO205.out; subst eo5) | ((with_reducible refine gate_callee (f := 37) rfl ?_); refine goesL_ (some 8) rfl rfl Tryd.func37 (by kernel_rfl) rfl #[.agg #[.int .i64 t201, .int .u8 t202, .slice Ao5 t203.length co5, .string t206, .int .u8 t207, .string t208]] rfl (by (try simp only [List.map_toArray, List.map_cons, List.map_nil]); first | done | rfl | (simp only [List.length_drop, List.length_take]; rfl)) ?_; (with_reducible refine (wire_Put.calls k t201 t202 _ _ t203 t206 t207 t208 t209 t212 _ ?side1 ?side2 ?side3 A3.out).mono ?_); (case side1 => repeat (first | exact (Kd.S_reads' HO205.out).2.2 | (with_reducible refine Kd.C_alloc ?_ _) | (with_reducible refine Kd.C_drewN ?_ _) | (with_reducible refine Kd.C_drew ?_))); (case side2 => exact (Kd.S_reads' HO205.out).2.1); (case side3 => exact Tab.below HT.out (by repeat (first | (with_reducible first | exact HB.out | apply below_alloc | apply pw_below_drewN | apply below_drew1) | exact HB.out))); rintro e w6 ⟨v210, rfl, ho0, hb⟩; refine ⟨_, rfl, ?_⟩; have n0_ := Aside0.mk (Kd.S_below (by (with_reducible repeat (first | apply Kd.S_alloc | apply Kd.S_drewN | apply Kd.S_drew)); exact HO205.out) hb); have n1_ := Aside0.mk (Kd.R_lower ho0 (below_size (by repeat (first | (with_reducible first | exact HB.out | apply below_alloc | apply pw_below_drewN | apply below_drew1) | exact HB.out)))); have n2_ := Aside0.mk (below_step (by repeat (first | (with_reducible first | exact HB.out | apply below_alloc | apply pw_below_drewN | apply below_drew1) | exact HB.out)) hb); clear HO205; clear HB; have HO205 := n0_; have HO211 := n1_; have HB := n2_; clear n0_ n1_ n2_; (try clear hb); (try clear hb2); (try clear hk); (try clear hi); (try clear ho0)))
  go_ret
  exact ⟨_, by first | rfl | (simp [errW_none, errW_some] <;> rfl) | (simp [*, errW_none, errW_some] <;> rfl), by (with_reducible repeat (first | apply Kd.R_alloc | apply Kd.R_drewN | apply Kd.R_drew)); exact HO211.out, by repeat (first | (with_reducible first | exact HB.out | apply below_alloc | apply pw_below_drewN | apply below_drew1) | exact HB.out)⟩
end Go.Proofs.YtcglbfpmcpammaaDoor.G
end
section
namespace Go.Proofs.YtcglbfpmcpammaaDoor
set_option linter.unusedVariables false
set_option linter.unusedSimpArgs false
open Go.RowKit Kit G Go.Proofs.YtcglbfpmcpammaaDoorW.PrintWords
theorem take_ne {a b : List UInt8} (h : ¬ b.length ≤ a.length) : ¬ a.take b.length = b := fun e => by
  have := congrArg List.length e
  rw [List.length_take] at this
  omega
attribute [local irreducible] wpList Calls wpQuiet
theorem bytesEq_calls (A B : Option Addr) (a b : List UInt8) (ca cb : Nat) (w : World) (ha : Reads w A (a.map byV)) (hb : Reads w B (b.map byV)) :
    Calls Tryd.prog 40 #[.slice A a.length ca, .slice B b.length cb] w fun e w' => e = .returned (.bool (decide (a = b))) ∧ Below w.heap.size w w' := by
  have HO := Mine.start w
  have hcv1 := run_str_of (P := Tryd.prog) (src := 24) (dst := 9) (c := ca) Tryd.underlying24 Tryd.underlying5 Tryd.underlying9 ha rfl
  have hcv2 := run_str_of (P := Tryd.prog) (src := 24) (dst := 9) (c := cb) Tryd.underlying24 Tryd.underlying5 Tryd.underlying9 hb rfl
  have hse := beqD a b
  obtain ⟨r, hr⟩ : ∃ r, decide (a = b) = r := ⟨_, rfl⟩
  rw [hr] at hse ⊢
  clear ha hb hr
  go_enter Tryd.func40, Tryd.ntmps40
  go_wp2
  go_ret
  exact ⟨rfl, HO.below⟩
theorem hasPrefix_calls (A B : Option Addr) (a b : List UInt8) (ca cb : Nat) (hca : a.length ≤ ca) (w : World) (ha : Reads w A (a.map byV)) (hb : Reads w B (b.map byV)) :
    Calls Tryd.prog 28 #[.slice A a.length ca, .slice B b.length cb] w fun e w' => e = .returned (.bool (decide (a.take b.length = b))) ∧ Below w.heap.size w w' := by
  have HO := Mine.start w
  by_cases hl : b.length ≤ a.length
  · have hq := fun W (hW : Below w.heap.size w W) => bytesEq_calls A B (a.take b.length) b ca cb W ((Go.Proofs.YtcglbfpmcpammaaDoor.Reads.take ha b.length).below hW) (hb.below hW)
    have hlt : (a.take b.length).length = b.length := by rw [List.length_take]; omega
    rw [hlt] at hq
    have HQ := Lib.hid hq
    obtain ⟨r, hr⟩ : ∃ r, decide (a.take b.length = b) = r := ⟨_, rfl⟩
    rw [hr] at HQ ⊢
    obtain ⟨m, hm⟩ : ∃ m, b.length = m := ⟨_, rfl⟩
    obtain ⟨n, hn⟩ : ∃ n, a.length = n := ⟨_, rfl⟩
    rw [hm] at HQ
    rw [hm, hn] at hl ⊢
    rw [hn] at hca
    have d1 : decide ((m : Int) ≤ (n : Int)) = true := decide_eq_true (by omega)
    have d2 : decide (m ≤ n) = true := decide_eq_true hl
    have d3 : decide ((m : Int) ≤ (ca : Int)) = true := decide_eq_true (by omega)
    have d4 : decide (m ≤ ca) = true := decide_eq_true (by omega)
    have d5 : ¬ ca < m := by omega
    clear hq hlt ha hb hca hr hm hn
    go_enter Tryd.func28, Tryd.ntmps28
    go_wp2_with (go_at_call 40; refine (HQ.out _ HO.below).mono ?_; rintro eN wN ⟨rfl, hbN⟩; have HON := HO.call hbN; clear HO hbN; have HO := HON; clear HON)
    go_ret
    exact ⟨rfl, HO.below⟩
  · have d1 : decide ((b.length : Int) ≤ (a.length : Int)) = false := decide_eq_false (by omega)
    have d2 : decide (b.length ≤ a.length) = false := decide_eq_false hl
    rw [decide_eq_false (take_ne hl)]
    clear ha hb hca hl
    go_enter Tryd.func28, Tryd.ntmps28
    go_wp2
    go_ret
    exact ⟨rfl, HO.below⟩
def GivesRow (f : Nat) (args : Array Value) (l : List UInt8) (w : World) : Prop := Calls Tryd.prog f args w fun e w' => ∃ v, e = .returned v ∧ Below w.heap.size w w' ∧ fRc l v w'
theorem mark200 : paste_mark.f 30 200 = some (natsB openM) := by decide +kernel
theorem mark201 : paste_mark.f 30 201 = some (natsB shutM) := by decide +kernel
def inM : List UInt8 := [27, 91, 73]
def outM : List UInt8 := [27, 91, 79]
theorem looks73 : paste_looks_1.f 30 73 = some (natsB inM) := by decide +kernel
theorem looks79 : paste_looks_1.f 30 79 = some (natsB outM) := by decide +kernel
theorem open_calls (w : World) (hT : Tab w) : GivesRow 25 #[.int .i64 200] openM w := by
  refine (paste_mark.calls 30 200 (natsB openM) w hT mark200).mono fun e w' ⟨v, h1, h2, h3⟩ => ⟨v, h1, h3, ?_⟩
  obtain ⟨A, c, h4, h5, h6⟩ := R_row h2
  exact ⟨A, c, h4, h5, h6⟩
theorem shut_calls (w : World) (hT : Tab w) : GivesRow 25 #[.int .i64 201] shutM w := by
  refine (paste_mark.calls 30 201 (natsB shutM) w hT mark201).mono fun e w' ⟨v, h1, h2, h3⟩ => ⟨v, h1, h3, ?_⟩
  obtain ⟨A, c, h4, h5, h6⟩ := R_row h2
  exact ⟨A, c, h4, h5, h6⟩
def DropAt (l : List UInt8) (o o' : Nat) : Prop := l = [] ∨ o = o'
theorem cutYes_calls (b0 o0 : Nat) (B : Option Addr) (a b : List UInt8) (ca cb : Nat) (hca : a.length ≤ ca) (hcb : b.length ≤ cb) (hma : a.length ≤ 4611686018427387904) (hmb : b.length ≤ 4611686018427387904) (w : World) (ha : Reads w (some ⟨b0, o0, none⟩) (a.map byV)) (hb : Reads w B (b.map byV)) (hy : a.take b.length = b) :
    Calls Tryd.prog 27 #[.slice (some ⟨b0, o0, none⟩) a.length ca, .slice B b.length cb] w fun e w' => (∃ o, e = .returned (.tuple #[.slice (some ⟨b0, o, none⟩) (a.length - b.length) (ca - b.length), .bool true]) ∧ DropAt (a.drop b.length) o (o0 + b.length)) ∧ Below w.heap.size w w' := by
  have HO := Mine.start w
  have hp := fun W (hW : Below w.heap.size w W) => hasPrefix_calls (some ⟨b0, o0, none⟩) B a b ca cb hca W (ha.below hW) (hb.below hW)
  rw [decide_eq_true hy] at hp
  have HP := Lib.hid hp
  have hl : b.length ≤ a.length := by rw [← hy, List.length_take]; omega
  obtain ⟨m, hm⟩ : ∃ m, b.length = m := ⟨_, rfl⟩
  obtain ⟨n, hn⟩ : ∃ n, a.length = n := ⟨_, rfl⟩
  rw [hm, hn] at HP
  have hdr : n ≤ m → a.drop m = [] := fun h => List.drop_eq_nil_of_le (by omega)
  rw [hm, hn] at hl
  rw [hn] at hca
  have d1 : decide ((m : Int) ≤ (n : Int)) = true := decide_eq_true (by omega)
  have d2 : decide (m ≤ n) = true := decide_eq_true hl
  have d3 : decide ((n : Int) ≤ (ca : Int)) = true := decide_eq_true (by omega)
  have d4 : decide (n ≤ ca) = true := decide_eq_true hca
  rw [hm, hn]
  have HDR := Lib.hid (And.intro hdr hca)
  clear hy hp ha hb hcb hma hmb hm hn hdr
  go_enter Tryd.func27, Tryd.ntmps27
  go_wp2_with (go_at_call 28; refine (HP.out _ HO.below).mono ?_; rintro eN wN ⟨rfl, hbN⟩; have HON := HO.call hbN; clear HO hbN; have HO := HON; clear HON)
  · refine bodyPost_ret (results_tmp2 rfl _ _ _) rfl ?_
    have hx := HDR.out.2
    exact ⟨⟨_, rfl, .inl (HDR.out.1 (by omega))⟩, HO.below⟩
  · refine bodyPost_ret (results_tmp2 rfl _ _ _) rfl ?_
    exact ⟨⟨_, rfl, .inr rfl⟩, HO.below⟩
end Go.Proofs.YtcglbfpmcpammaaDoor
end
section
namespace Go.Proofs.YtcglbfpmcpammaaDoor
set_option linter.unusedVariables false
set_option linter.unusedSimpArgs false
open Go.RowKit Kit G Go.Proofs.YtcglbfpmcpammaaDoorW.PrintWords
theorem own_litB {P : Program} {ops : Array Oper} {Q : Exit → Act → World → Prop} {a : Act} {w W0 : World} {rest : List Oper} {o : Oper} {bs : Res} {cs : List Value} {T : TypeId} (HO : Mine W0 w bs) (hgd : Region.wanted o (yielded ops a.tmps) = true) {n : Nat}
    (hrun : (execOp a.eval o).run P w = .ok (.value (.slice (some ⟨w.heap.size, 0, none⟩) n n)) (w.alloc (.cells cs.toArray T)))
    (h : ∀ g w', W0.heap.size ≤ g → Mine W0 w' ((g, IsCells cs T) :: bs) → Below w.heap.size w w' → wpList P ops Q rest (a.put o.dst (.slice (some ⟨g, 0, none⟩) n n)) w') : wpList P ops Q (o :: rest) a w :=
  wpList_want hgd fun _ hK => by
    unfold Oper.wp
    rw [hrun]
    exact hK _ _ (h _ _ HO.below.size ((HO.new (.cells cs.toArray T) (IsCells cs T) rfl).perm (List.perm_append_comm (l₂ := [_]))) ((Below.refl _ _).alloc (Nat.le_refl _) _))
def sendL (b : Bool) (l : List UInt8) : List UInt8 := if b then sentP l else cleanL l
attribute [local irreducible] wpList Calls wpQuiet
set_option maxRecDepth 100000 in
set_option maxHeartbeats 4000000 in
theorem pasteSend_calls (x0 x1 x2 x3 x4 x5 x6 : Bool) (x7 x8 x9 : Int) (A : Option Addr) (c : Nat) (l : List UInt8) (hc : l.length ≤ c) (h5 : l.length ≤ 100000) (w : World) (hT : Tab w) (hr : Reads w A (l.map byV)) :
    Calls Tryd.prog 12 #[.agg #[.bool x0, .bool x1, .bool x2, .bool x3, .bool x4, .bool x5, .bool x6, .int .i64 x7, .int .i64 x8, .int .i64 x9], .slice A l.length c] w fun e w' => ∃ v R, e = .returned v ∧ GRow 5 v ((sendL x4 l).map byV) R ∧ Mine w w' R := by
  have HO := Mine.start w
  have HCL : Hid (∀ W, Below w.heap.size w W → Calls Tryd.prog 10 #[.slice A l.length c] W fun e w' => ∃ v R, e = .returned v ∧ GRow 5 v ((cleanL l).map byV) R ∧ Mine W w' R) := Lib.hid fun W hW => pasteClean_calls A c l hc h5 W (hr.below hW)
  cases x4
  · clear hr hc h5 hT
    go_enter Tryd.func12, Tryd.ntmps12
    go_wp2_with (first
      | (go_at_call 10; refine (HCL.out _ HO.below).mono ?_; rintro eN wN ⟨v, R, rfl, hR, HM⟩; obtain ⟨p1, q1, c1, rfl⟩ := hR.form; obtain ⟨hq1, hrB, _, _⟩ := hR.readsT HM .here; rw [List.length_map] at hq1; have HQ1 := Lib.hid hq1; have HRB := Lib.hid hrB; have HGR := Lib.hid hR; clear hq1 hrB hR; (try (have HRA2 := Lib.hid (HRA.out.below HM.below); clear HRA; have HRA := HRA2; clear HRA2)); have HON := HO.join HM; clear HO HM; have HO := HON; clear HON; (simp only [List.nil_append, List.cons_append] at HO))
      | ((with_reducible refine gate ?_); (first
      | ((with_reducible refine gateAt (N := 2) rfl ?_); refine own_boxF (T := 23) HO rfl rfl rfl ?_; clear HO; intro gM wN hggM HO; (try simp only [Act.put, List.setIfInBounds_toArray, List.set_cons_zero, List.set_cons_succ]))
      | ((refine own_load1 (T := 4) HO rfl rfl rfl (by first | exact .head _) Tryd.isAgg4 rfl ?_); (try simp only [Act.put, List.setIfInBounds_toArray, List.set_cons_zero, List.set_cons_succ]))
      | ((refine own_store1 (T := 4) HO rfl rfl rfl (by first | exact .const | exact .tmp rfl | exact .func) (by rfl) (by first | exact .here) Tryd.sizeOf4 (by repeat constructor) (by rfl) ?_); clear HO; intro wN HO; (try simp only [Act.put, List.setIfInBounds_toArray, List.set_cons_zero, List.set_cons_succ])))))
    go_ret
    have hfin := HGR.out
    have HO2 := HO.less (List.sublist_cons_self _ _)
    first | exact ⟨_, rfl, _, hfin, HO2⟩ | exact ⟨_, _, rfl, hfin, HO2⟩
  · have HMK : Hid (∀ W, Below w.heap.size w W → GivesRow 25 #[.int .i64 200] openM W) := Lib.hid fun W hW => open_calls W (Tab.below hT hW)
    have HMS : Hid (∀ W, Below w.heap.size w W → GivesRow 25 #[.int .i64 201] shutM W) := Lib.hid fun W hW => shut_calls W (Tab.below hT hW)
    have HLL : Hid ((cleanL l).length ≤ 200000) := Lib.hid (by have := cleanL_le l; omega)
    clear hr hc h5 hT
    go_enter Tryd.func12, Tryd.ntmps12
    go_wp2_with (first
      | (go_at_call 25; first | (refine (HMK.out _ HO.below).mono ?_; clear HMK; rintro eN wN ⟨v, rfl, hbN, pA, cA, rfl, hcA, hrA⟩; have HRA := Lib.hid hrA; clear hrA hcA; have HON := HO.call hbN; clear HO hbN; have HO := HON; clear HON) | (refine (HMS.out _ HO.below).mono ?_; clear HMS; rintro eN wN ⟨v, rfl, hbN, pC, cC, rfl, hcC, hrC⟩; have HRC := Lib.hid hrC; clear hrC hcC; have HRA2 := Lib.hid (HRA.out.below hbN); have HRB2 := Lib.hid (HRB.out.below hbN); clear HRA HRB; have HRA := HRA2; have HRB := HRB2; clear HRA2 HRB2; have HON := HO.call hbN; clear HO hbN; have HO := HON; clear HON))
      | (go_at_call 10; refine (HCL.out _ HO.below).mono ?_; rintro eN wN ⟨v, R, rfl, hR, HM⟩; obtain ⟨p1, q1, c1, rfl⟩ := hR.form; obtain ⟨hq1, hrB, _, _⟩ := hR.readsT HM .here; rw [List.length_map] at hq1; have HQ1 := Lib.hid hq1; have HRB := Lib.hid hrB; have HGR := Lib.hid hR; clear hq1 hrB hR; (try (have HRA2 := Lib.hid (HRA.out.below HM.below); clear HRA; have HRA := HRA2; clear HRA2)); have HON := HO.join HM; clear HO HM; have HO := HON; clear HON; (simp only [List.nil_append, List.cons_append] at HO))
      | (go_at_call 24; have hq := HQ1.out; subst hq; refine (concat3_calls gB pA p1 pC cA c1 cC openM (cleanL l) shutM _ (HO.at (.head _)) HRA.out (by have h := HRB.out; exact h) HRC.out (by decide) HLL.out (by decide) (by decide)).mono ?_; rintro eN wN ⟨v, R2, rfl, hR2, HM⟩; have HGR2 := Lib.hid hR2; clear hR2; have HON := HO.join HM; clear HO HM; have HO := HON; clear HON)
      | (first
      | ((with_reducible refine gate ?_); (first
      | ((with_reducible refine gateAt (N := 14) rfl ?_); refine own_litB HO rfl (n := 3) (cs := [.slice pA openM.length cA, .slice p1 q1 c1, .slice pC shutM.length cC]) (T := 24) (by first | (go_simp; done) | (go_simp; rfl)) ?_; clear HO; intro gB wN hggB HO hbN; have HRA2 := Lib.hid (HRA.out.below hbN); have HRB2 := Lib.hid (HRB.out.below hbN); have HRC2 := Lib.hid (HRC.out.below hbN); clear HRA HRB HRC hbN; have HRA := HRA2; have HRB := HRB2; have HRC := HRC2; clear HRA2 HRB2 HRC2; (try simp only [Act.put, List.setIfInBounds_toArray, List.set_cons_zero, List.set_cons_succ]))
      | ((with_reducible refine gateAt (N := 2) rfl ?_); refine own_boxF (T := 23) HO rfl rfl rfl ?_; clear HO; intro gM wN hggM HO; (try simp only [Act.put, List.setIfInBounds_toArray, List.set_cons_zero, List.set_cons_succ]))
      | ((refine own_load1 (T := 4) HO rfl rfl rfl (by first | exact .head _) Tryd.isAgg4 rfl ?_); (try simp only [Act.put, List.setIfInBounds_toArray, List.set_cons_zero, List.set_cons_succ]))
      | ((refine own_store1 (T := 4) HO rfl rfl rfl (by first | exact .const | exact .tmp rfl | exact .func) (by rfl) (by first | exact .here) Tryd.sizeOf4 (by repeat constructor) (by rfl) ?_); clear HO; intro wN HO; (try simp only [Act.put, List.setIfInBounds_toArray, List.set_cons_zero, List.set_cons_succ]))))))
    go_ret
    have hfin := HGR2.out
    have HO2 : Mine w wN R2 := HO.right
    first | exact ⟨_, rfl, _, hfin, HO2⟩ | exact ⟨_, _, rfl, hfin, HO2⟩
end Go.Proofs.YtcglbfpmcpammaaDoor
end
section
namespace Go.Proofs.YtcglbfpmcpammaaDoor
set_option linter.unusedVariables false
set_option linter.unusedSimpArgs false
open Go.RowKit Kit G Go.Proofs.YtcglbfpmcpammaaDoorW.PrintWords
theorem R_grow {ok : Nat → Prop} {w w' : World} {v : Value} {l : List UInt8} (h : Kd.R (Kd.int .u8) 5 w' w.heap.size ok v (natsB l)) (hb : Below w.heap.size w w') : ∃ R, GRow 5 v (l.map byV) R ∧ Mine w w' R := by
  have ho := Kd.own_of_R h
  have e : encs (Value.int .u8) (natsB l) = l.map byV := by simp [encs, natsB, byV, List.map_map, Function.comp_def]
  rw [e] at ho
  exact GRow.of_own ho hb
def GivesG (f : Nat) (args : Array Value) (l : List UInt8) (w : World) : Prop := Calls Tryd.prog f args w fun e w' => ∃ v R, e = .returned v ∧ GRow 5 v (l.map byV) R ∧ Mine w w' R
theorem inG (w : World) (hT : Tab w) : GivesG 39 #[.int .u8 73] inM w := by
  refine (paste_looks_1.calls 30 73 (natsB inM) w hT looks73).mono fun e w' ⟨v, h1, h2, h3⟩ => ?_
  obtain ⟨R, h4, h5⟩ := R_grow h2 h3
  exact ⟨v, R, h1, h4, h5⟩
theorem outG (w : World) (hT : Tab w) : GivesG 39 #[.int .u8 79] outM w := by
  refine (paste_looks_1.calls 30 79 (natsB outM) w hT looks79).mono fun e w' ⟨v, h1, h2, h3⟩ => ?_
  obtain ⟨R, h4, h5⟩ := R_grow h2 h3
  exact ⟨v, R, h1, h4, h5⟩
attribute [local irreducible] wpList Calls wpQuiet
set_option maxRecDepth 100000 in
set_option maxHeartbeats 4000000 in
theorem looks_calls (w : World) (hT : Tab w) : Calls Tryd.prog 26 #[] w fun e w' => ∃ g pI cI RI pO cO RO, e = .returned (.map (some g)) ∧ GRow 5 (.slice pI 3 cI) (inM.map byV) RI ∧ GRow 5 (.slice pO 3 cO) (outM.map byV) RO ∧
    Mine w w' ((g, IsMapOf [(.bool true, .slice pI 3 cI), (.bool false, .slice pO 3 cO)]) :: (RI ++ RO)) := by
  have HO := Mine.start w
  have HIN : Hid (∀ W, Below w.heap.size w W → GivesG 39 #[.int .u8 73] inM W) := Lib.hid fun W hW => inG W (Tab.below hT hW)
  have HOU : Hid (∀ W, Below w.heap.size w W → GivesG 39 #[.int .u8 79] outM W) := Lib.hid fun W hW => outG W (Tab.below hT hW)
  clear hT
  go_enter Tryd.func26, Tryd.ntmps26
  go_wp2_with (first
    | (go_at_call 39; first | (refine (HIN.out _ HO.below).mono ?_; clear HIN; rintro eN wN ⟨v, RI, rfl, hR, HM⟩; obtain ⟨pI, nI, cI, rfl⟩ := hR.form; have HRI := Lib.hid hR; clear hR; have HON := HO.join HM; clear HO HM; have HO := HON; clear HON; (simp only [List.nil_append, List.cons_append] at HO)) | (refine (HOU.out _ HO.below).mono ?_; clear HOU; rintro eN wN ⟨v, RO, rfl, hR, HM⟩; obtain ⟨pO, nO, cO, rfl⟩ := hR.form; have HRO := Lib.hid hR; clear hR; have HON := HO.join HM; clear HO HM; have HO := HON; clear HON; (simp only [List.nil_append, List.cons_append] at HO)))
    | ((with_reducible refine gate ?_); (first
      | ((refine own_makeMap HO rfl rfl ?_); clear HO; intro gM wN hgN HO; (simp only [List.nil_append, List.cons_append] at HO); (try simp only [Act.put, List.setIfInBounds_toArray, List.set_cons_zero, List.set_cons_succ]))
      | ((refine own_insert (mt := 50) HO rfl rfl rfl (by first | exact .const | exact .tmp rfl | exact .func) (by first | exact .const | exact .tmp rfl | exact .func) Tryd.underlying50 Tryd.underlying4 (by first | exact .here) (by simp [MapKept.IsKey]) (by first | exact rfl | exact trivial) (by simp) ?_); clear HO; intro wN HO; (simp only [List.nil_append, List.cons_append] at HO); (try simp only [Act.put, List.setIfInBounds_toArray, List.set_cons_zero, List.set_cons_succ])))))
  go_ret
  have e1 := HRI.out.len
  have e2 := HRO.out.len
  obtain rfl : nI = 3 := e1
  obtain rfl : nO = 3 := e2
  have h1 := HRI.out
  have h2 := HRO.out
  exact ⟨gM, pI, cI, RI, pO, cO, RO, rfl, h1, h2, HO⟩
def focusL (b is : Bool) : List UInt8 := if b then (if is then inM else outM) else []
set_option maxRecDepth 100000 in
set_option maxHeartbeats 4000000 in
theorem focus_calls (x0 x1 x2 x3 x4 x5 x6 : Bool) (x7 x8 x9 : Int) (is : Bool) (w : World) (hT : Tab w) : Calls Tryd.prog 14 #[.agg #[.bool x0, .bool x1, .bool x2, .bool x3, .bool x4, .bool x5, .bool x6, .int .i64 x7, .int .i64 x8, .int .i64 x9], .bool is] w fun e w' => ∃ v R, e = .returned v ∧ GRow 5 v ((focusL x3 is).map byV) R ∧ Mine w w' R := by
  have HO := Mine.start w
  cases x3
  · clear hT
    go_enter Tryd.func14, Tryd.ntmps14
    go_wp2_with (first
      | ((with_reducible refine gate ?_); (first
      | ((with_reducible refine gateAt (N := 2) rfl ?_); refine own_boxF (T := 23) HO rfl rfl rfl ?_; clear HO; intro gB wN hggB HO; (try simp only [Act.put, List.setIfInBounds_toArray, List.set_cons_zero, List.set_cons_succ]))
      | ((refine own_load1 (T := 4) HO rfl rfl rfl (by first | exact .head _) Tryd.isAgg4 rfl ?_); (try simp only [Act.put, List.setIfInBounds_toArray, List.set_cons_zero, List.set_cons_succ]))
      | ((refine own_store1 (T := 4) HO rfl rfl rfl (by first | exact .const | exact .tmp rfl | exact .func) (by rfl) (by first | exact .here) Tryd.sizeOf4 (by repeat constructor) (by rfl) ?_); clear HO; intro wN HO; (try simp only [Act.put, List.setIfInBounds_toArray, List.set_cons_zero, List.set_cons_succ])))))
    go_ret
    have HO2 := HO.less (List.nil_sublist _)
    first | exact ⟨_, rfl, [], GRow.nil _, HO2⟩ | exact ⟨_, [], rfl, GRow.nil _, HO2⟩ | exact ⟨[], GRow.nil _, HO2⟩
  · have HLK := Lib.hid fun W (hW : Below w.heap.size w W) => looks_calls W (Tab.below hT hW)
    clear hT
    cases is
    · go_enter Tryd.func14, Tryd.ntmps14
      go_wp2_with (first
      | (go_at_call 26; refine (HLK.out _ HO.below).mono ?_; rintro eN wN ⟨gM, pI, cI, RI, pO, cO, RO, rfl, hRI, hRO, HM⟩; have HRI := Lib.hid hRI; have HRO := Lib.hid hRO; clear hRI hRO; have HON := HO.join HM; clear HO HM; have HO := HON; clear HON; (simp only [List.nil_append, List.cons_append] at HO))
      | ((with_reducible refine gate ?_); (first
      | ((with_reducible refine gateAt (N := 10) rfl ?_); (refine own_lookup (mt := 50) HO rfl rfl rfl (by first | exact .const | exact .tmp rfl | exact .func) Tryd.underlying50 Tryd.underlying4 Tryd.zeroValue24 (by first | exact .head _ | exact .tail _ (.head _)) (by simp) (by simp [MapKept.IsKey]) (by first | exact rfl | exact trivial) (.hit _ (.tail _ (.head _))) ?_); (try simp only [Act.put, List.setIfInBounds_toArray, List.set_cons_zero, List.set_cons_succ]))
      | ((with_reducible refine gateAt (N := 2) rfl ?_); refine own_boxF (T := 23) HO rfl rfl rfl ?_; clear HO; intro gB wN hggB HO; (try simp only [Act.put, List.setIfInBounds_toArray, List.set_cons_zero, List.set_cons_succ]))
      | ((refine own_load1 (T := 4) HO rfl rfl rfl (by first | exact .head _) Tryd.isAgg4 rfl ?_); (try simp only [Act.put, List.setIfInBounds_toArray, List.set_cons_zero, List.set_cons_succ]))
      | ((refine own_store1 (T := 4) HO rfl rfl rfl (by first | exact .const | exact .tmp rfl | exact .func) (by rfl) (by first | exact .here) Tryd.sizeOf4 (by repeat constructor) (by rfl) ?_); clear HO; intro wN HO; (try simp only [Act.put, List.setIfInBounds_toArray, List.set_cons_zero, List.set_cons_succ])))))
      go_ret
      have hfin := HRO.out
      have HO2 := HO.less (cs := RO) (.cons _ (.cons _ (List.sublist_append_right _ _)))
      first | exact ⟨_, rfl, _, hfin, HO2⟩ | exact ⟨_, _, rfl, hfin, HO2⟩ | exact ⟨_, hfin, HO2⟩
    · go_enter Tryd.func14, Tryd.ntmps14
      go_wp2_with (first
      | (go_at_call 26; refine (HLK.out _ HO.below).mono ?_; rintro eN wN ⟨gM, pI, cI, RI, pO, cO, RO, rfl, hRI, hRO, HM⟩; have HRI := Lib.hid hRI; have HRO := Lib.hid hRO; clear hRI hRO; have HON := HO.join HM; clear HO HM; have HO := HON; clear HON; (simp only [List.nil_append, List.cons_append] at HO))
      | ((with_reducible refine gate ?_); (first
      | ((with_reducible refine gateAt (N := 10) rfl ?_); (refine own_lookup (mt := 50) HO rfl rfl rfl (by first | exact .const | exact .tmp rfl | exact .func) Tryd.underlying50 Tryd.underlying4 Tryd.zeroValue24 (by first | exact .head _ | exact .tail _ (.head _)) (by simp) (by simp [MapKept.IsKey]) (by first | exact rfl | exact trivial) (.hit _ (.head _)) ?_); (try simp only [Act.put, List.setIfInBounds_toArray, List.set_cons_zero, List.set_cons_succ]))
      | ((with_reducible refine gateAt (N := 2) rfl ?_); refine own_boxF (T := 23) HO rfl rfl rfl ?_; clear HO; intro gB wN hggB HO; (try simp only [Act.put, List.setIfInBounds_toArray, List.set_cons_zero, List.set_cons_succ]))
      | ((refine own_load1 (T := 4) HO rfl rfl rfl (by first | exact .head _) Tryd.isAgg4 rfl ?_); (try simp only [Act.put, List.setIfInBounds_toArray, List.set_cons_zero, List.set_cons_succ]))
      | ((refine own_store1 (T := 4) HO rfl rfl rfl (by first | exact .const | exact .tmp rfl | exact .func) (by rfl) (by first | exact .here) Tryd.sizeOf4 (by repeat constructor) (by rfl) ?_); clear HO; intro wN HO; (try simp only [Act.put, List.setIfInBounds_toArray, List.set_cons_zero, List.set_cons_succ])))))
      go_ret
      have hfin := HRI.out
      have HO2 := HO.less (cs := RI) (.cons _ (.cons _ (List.sublist_append_left _ _)))
      first | exact ⟨_, rfl, _, hfin, HO2⟩ | exact ⟨_, _, rfl, hfin, HO2⟩ | exact ⟨_, hfin, HO2⟩
end Go.Proofs.YtcglbfpmcpammaaDoor
end
section
namespace Go.Proofs.YtcglbfpmcpammaaDoor
set_option linter.unusedVariables false
set_option linter.unusedSimpArgs false
open Go.RowKit Kit G Go.Proofs.YtcglbfpmcpammaaDoorW.PrintWords
attribute [local go_sem] Oper.semAt_some
def lookedL (l : List UInt8) : Bool × Bool := (decide (l.take 3 = inM), decide (l.take 3 = inM) || decide (l.take 3 = outM))
attribute [local irreducible] wpList Calls wpQuiet
set_option maxRecDepth 100000 in
set_option maxHeartbeats 4000000 in
theorem looked_calls (A : Option Addr) (c : Nat) (l : List UInt8) (hc : l.length ≤ c) (w : World) (hT : Tab w) (hr : Reads w A (l.map byV)) :
    Calls Tryd.prog 18 #[.slice A l.length c] w fun e w' => e = .returned (.tuple #[.bool (lookedL l).1, .bool (lookedL l).2]) ∧ Below w.heap.size w w' := by
  have HO := Mine.start w
  have HLK := Lib.hid fun W (hW : Below w.heap.size w W) => looks_calls W (Tab.below hT hW)
  have HR := Lib.hid hr
  have HC := Lib.hid hc
  clear hT hr hc
  obtain ⟨a, ha⟩ : ∃ a, decide (l.take 3 = inM) = a := ⟨_, rfl⟩
  obtain ⟨b, hb⟩ : ∃ b, decide (l.take 3 = outM) = b := ⟨_, rfl⟩
  have e1 : decide (l.take inM.length = inM) = a := ha
  have e2 : decide (l.take outM.length = outM) = b := hb
  have HL : Hid (lookedL l = (a, a || b)) := Lib.hid (by unfold lookedL; rw [ha, hb])
  clear ha hb
  cases a
  · go_enter Tryd.func18, Tryd.ntmps18
    go_wp2_with (first
      | (go_at_call 26; refine (HLK.out _ HO.below).mono ?_; rintro eN wN ⟨gM, pI, cI, RI, pO, cO, RO, rfl, hRI, hRO, HM⟩; have HRI := Lib.hid hRI; have HRO := Lib.hid hRO; clear hRI hRO; have HON := HO.join HM; clear HO HM; have HO := HON; clear HON; (simp only [List.nil_append, List.cons_append] at HO))
      | (go_at_call 28; first | (refine (hasPrefix_calls A pI l inM c cI HC.out _ (HR.out.below HO.below) (HRI.out.reads (bs := []) (HO.less (.cons _ (List.sublist_append_left _ _)))).2.1).mono ?_; clear HRI HRO; rintro eN wN ⟨rfl, hbN⟩; have HON := (HO.call hbN).less (List.nil_sublist _); clear HO hbN; have HO := HON; clear HON) | (refine (hasPrefix_calls A pO l outM c cO HC.out _ (HR.out.below HO.below) (HRO.out.reads (bs := []) (HO.less (.cons _ (List.sublist_append_right _ _)))).2.1).mono ?_; clear HRI HRO; rintro eN wN ⟨rfl, hbN⟩; have HON := (HO.call hbN).less (List.nil_sublist _); clear HO hbN; have HO := HON; clear HON))
      | ((with_reducible refine gate ?_); (first
        | ((with_reducible refine gateAt (N := 8) rfl ?_); (refine own_lookup (mt := 50) HO rfl rfl rfl (by first | exact .const | exact .tmp rfl | exact .func) Tryd.underlying50 Tryd.underlying4 Tryd.zeroValue24 (by first | exact .head _ | exact .tail _ (.head _)) (by simp) (by simp [MapKept.IsKey]) (by first | exact rfl | exact trivial) (.hit _ (.head _)) ?_); (try simp only [Act.put, List.setIfInBounds_toArray, List.set_cons_zero, List.set_cons_succ]))
        | ((with_reducible refine gateAt (N := 12) rfl ?_); (refine own_lookup (mt := 50) HO rfl rfl rfl (by first | exact .const | exact .tmp rfl | exact .func) Tryd.underlying50 Tryd.underlying4 Tryd.zeroValue24 (by first | exact .head _ | exact .tail _ (.head _)) (by simp) (by simp [MapKept.IsKey]) (by first | exact rfl | exact trivial) (.hit _ (.tail _ (.head _))) ?_); (try simp only [Act.put, List.setIfInBounds_toArray, List.set_cons_zero, List.set_cons_succ])))))
    refine bodyPost_ret (results_tmp2 rfl _ _ _) rfl ?_
    exact ⟨by rw [HL.out]; simp [e1, e2], HO.below⟩
  · go_enter Tryd.func18, Tryd.ntmps18
    go_wp2_with (first
      | (go_at_call 26; refine (HLK.out _ HO.below).mono ?_; rintro eN wN ⟨gM, pI, cI, RI, pO, cO, RO, rfl, hRI, hRO, HM⟩; have HRI := Lib.hid hRI; have HRO := Lib.hid hRO; clear hRI hRO; have HON := HO.join HM; clear HO HM; have HO := HON; clear HON; (simp only [List.nil_append, List.cons_append] at HO))
      | (go_at_call 28; first | (refine (hasPrefix_calls A pI l inM c cI HC.out _ (HR.out.below HO.below) (HRI.out.reads (bs := []) (HO.less (.cons _ (List.sublist_append_left _ _)))).2.1).mono ?_; clear HRI HRO; rintro eN wN ⟨rfl, hbN⟩; have HON := (HO.call hbN).less (List.nil_sublist _); clear HO hbN; have HO := HON; clear HON) | (refine (hasPrefix_calls A pO l outM c cO HC.out _ (HR.out.below HO.below) (HRO.out.reads (bs := []) (HO.less (.cons _ (List.sublist_append_right _ _)))).2.1).mono ?_; clear HRI HRO; rintro eN wN ⟨rfl, hbN⟩; have HON := (HO.call hbN).less (List.nil_sublist _); clear HO hbN; have HO := HON; clear HON))
      | ((with_reducible refine gate ?_); (first
        | ((with_reducible refine gateAt (N := 8) rfl ?_); (refine own_lookup (mt := 50) HO rfl rfl rfl (by first | exact .const | exact .tmp rfl | exact .func) Tryd.underlying50 Tryd.underlying4 Tryd.zeroValue24 (by first | exact .head _ | exact .tail _ (.head _)) (by simp) (by simp [MapKept.IsKey]) (by first | exact rfl | exact trivial) (.hit _ (.head _)) ?_); (try simp only [Act.put, List.setIfInBounds_toArray, List.set_cons_zero, List.set_cons_succ]))
        | ((with_reducible refine gateAt (N := 12) rfl ?_); (refine own_lookup (mt := 50) HO rfl rfl rfl (by first | exact .const | exact .tmp rfl | exact .func) Tryd.underlying50 Tryd.underlying4 Tryd.zeroValue24 (by first | exact .head _ | exact .tail _ (.head _)) (by simp) (by simp [MapKept.IsKey]) (by first | exact rfl | exact trivial) (.hit _ (.tail _ (.head _))) ?_); (try simp only [Act.put, List.setIfInBounds_toArray, List.set_cons_zero, List.set_cons_succ])))))
    refine bodyPost_ret (results_tmp2 rfl _ _ _) rfl ?_
    exact ⟨by rw [HL.out]; simp [e1, e2], HO.below⟩
end Go.Proofs.YtcglbfpmcpammaaDoor
end
section
namespace Go.Proofs.YtcglbfpmcpammaaDoor.Kit
set_option linter.unusedVariables false
set_option linter.unusedSimpArgs false
open Go Go.RowKit
section
variable {P : Program} {ops : Array Oper} {Q : Exit → Act → World → Prop} {a : Act} {w W0 : World} {rest : List Oper} {o : Oper} {bs : Res}
def IsBytes (e : TypeId) (n c : Nat) (l : List UInt8) : Obj → Prop := fun o => ∃ cur fz, o = .cells cur e fz ∧ cur.size = c ∧ c ≤ fz.1 ∧ n ≤ c ∧ cur.toList.take n = l.map byV
theorem Mine.row {g n c : Nat} {e : TypeId} {l : List UInt8} (HO : Mine W0 w bs) (hm : (g, IsBytes e n c l) ∈ bs) : Row w g n c e l := by
  obtain ⟨_, o, ho, cur, fz, rfl, h1, h2, h3, h4⟩ := HO.held _ hm
  exact ⟨cur, fz, ho, h1, h2, h3, h4⟩
end
end Go.Proofs.YtcglbfpmcpammaaDoor.Kit
end
section
namespace Go.Proofs.YtcglbfpmcpammaaDoor
set_option linter.unusedVariables false
set_option linter.unusedSimpArgs false
open Go Go.RowKit Kit
section
variable {P : Program} {ops : Array Oper} {Q : Exit → Act → World → Prop} {a : Act} {w W0 : World} {rest : List Oper} {o : Oper} {bs bs' : Res}
theorem freeze_same {g k : Nat} {C : Array Value} {e : TypeId} (hg : w.heap[g]? = some (.cells C e (0, 0))) : (w.freeze ⟨g, k, none⟩ 1).heap[g]? = some (.cells C e (k, k + 1)) := by
  unfold World.freeze
  rw [if_neg (by decide)]
  show (w.heap.modify g _)[g]? = _
  rw [Array.getElem?_modify, if_pos rfl, hg]
  rfl
theorem freeze_other {g k i : Nat} (hi : i ≠ g) : (w.freeze ⟨g, k, none⟩ 1).heap[i]? = w.heap[i]? := by
  unfold World.freeze
  rw [if_neg (by decide)]
  show (w.heap.modify g _)[i]? = _
  rw [Array.getElem?_modify, if_neg (Ne.symm hi)]
theorem freeze_size {g k : Nat} : (w.freeze ⟨g, k, none⟩ 1).heap.size = w.heap.size := by
  unfold World.freeze
  rw [if_neg (by decide)]
  show (w.heap.modify g _).size = _
  rw [Array.size_modify]
theorem run_mark {t e : TypeId} {g n c : Nat} {C : Array Value} (ht : P.underlying t = some (.slice e)) (he : P.underlying e = some (.int .u8)) (hg : w.heap[g]? = some (.cells C e (0, 0))) :
    (convert t t (.slice (some ⟨g, 0, none⟩) n c)).run P w = .ok (.slice (some ⟨g, 0, none⟩) n c) (w.freeze ⟨g, C.size, none⟩ 1) := by
  have hsh : w.shape? g = some (e, C.size) := by unfold World.shape?; rw [hg]
  simp [convert, run_underlying ht, run_underlying he, markStringish, hsh]
theorem own_markF {t e : TypeId} {x : Operand} {g n : Nat} {l : List UInt8} (HO : Mine W0 w bs) (ho : o.op = .convert t t x) (hgd : Region.wanted o (yielded ops a.tmps) = true) (hx : EvalTo a x (.slice (some ⟨g, 0, none⟩) n n)) (ht : P.underlying t = some (.slice e)) (he : P.underlying e = some (.int .u8))
    (hn : l.length = n) (hu : Upd bs g (IsCells (l.map byV) e) (IsBytes e n n l) bs') (h : ∀ w', Mine W0 w' bs' → (∀ p xs, Reads w p xs → Reads w' p xs) → wpList P ops Q rest (a.put o.dst (.slice (some ⟨g, 0, none⟩) n n)) w') : wpList P ops Q (o :: rest) a w :=
  wpList_want hgd fun _ hK => by
    have hg := HO.at hu.mem
    have hr := run_mark (P := P) (n := n) (c := n) ht he hg
    unfold Oper.wp execOp
    simp only [ho, hx.eq, Sem.run_bind, hr, Sem.run_pure, Result.andThen_ok]
    have hsz : (l.map byV).toArray.size = n := by simp [hn]
    rw [hsz]
    refine hK _ _ (h _ (HO.turn hu ?_ ?_ ?_ freeze_size (fun i hi => freeze_other hi) ⟨_, freeze_same hg, (l.map byV).toArray, _, rfl, hsz, Nat.le_refl _, Nat.le_refl _, by rw [List.toList_toArray]; exact List.take_of_length_le (by rw [List.length_map, hn]; exact Nat.le_refl _)⟩) ?_)
    case refine_4 =>
      intro p xs hr k x hk
      obtain ⟨b, o, e, hc⟩ := hr k x hk
      refine ⟨b, o, e, ?_⟩
      by_cases hb : b = g
      · subst hb
        unfold World.cell? at hc ⊢
        rw [hg] at hc
        rw [freeze_same hg]
        exact hc
      · unfold World.cell? at hc ⊢
        rw [freeze_other hb]
        exact hc
    all_goals (unfold World.freeze; rw [if_neg (by decide)])
end
end Go.Proofs.YtcglbfpmcpammaaDoor
end
