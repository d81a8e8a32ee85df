/- S: texts run together by shake.py: Gx0 Gwirea AcH AcI AcJ Greporta AcK KitT OwA MoA SvA SvB AwA SvC SvE Gslicesa Gstacka AcL AcM FrA. -/
import Derived.ArgAppend
import Derived.Below
import Derived.BigFrameIn
import Derived.BigQuiet
import Derived.ChangeKeysEq
import Derived.ChangeOld
import Derived.ChangeSlices
import Derived.Deep.AppendLies
import Derived.Deep.CutBlock
import Derived.Deep.DeepCutAuto
import Derived.Deep.DeepHandedRow
import Derived.Deep.Draws
import Derived.Deep.LoopGhost
import Derived.Deep.OwnRows
import Derived.Deep.Quiet
import Derived.Deep.QuietTactic
import Derived.Deep.RegionHeld3
import Derived.DeepKeys3
import Derived.Ground.GgzProg
import Derived.Ground.Names2Prog
import Derived.Ground.SlgnProg
import Derived.KernelRfl
import Derived.Laws.AppendOwn
import Derived.Laws.AppendOwnNone
import Derived.Laws.BitsLemmas
import Derived.Laws.BytesArg
import Derived.Laws.Concat
import Derived.Laws.CopyRow
import Derived.Laws.IdiomCopy
import Derived.Laws.IdiomStrings
import Derived.Laws.MakeOwn
import Derived.Laws.OwnMore
import Derived.Laws.Rows
import Derived.Laws.Slices
import Derived.Laws.StructEq
import Derived.Laws.Tables
import Derived.Lib.AppendIntMem
import Derived.Lib.AppendStr
import Derived.Lib.ConvBytes
import Derived.Lib.Hide
import Derived.Lib.ItoaLen
import Derived.Lib.ItoaNum
import Derived.Lib.LaidTab
import Derived.Lib.SlKeysI
import Derived.LoopIn
import Derived.LoopNIn
import Derived.MapKept
import Derived.Maps.AppendAt
import Derived.Maps.Own
import Derived.OpenShut
import Derived.Orders
import Derived.OrdersHeld
import Derived.OrdersIn
import Derived.Outline
import Derived.OwnWalk
import Derived.OwnWalkIn
import Derived.ProofKit
import Derived.RangeFuncBound
import Derived.RangeFuncBox
import Derived.RangeFuncCalls
import Derived.RangeFuncLeaves
import Derived.RangeFuncNested
import Derived.RangeFuncWrites
import Derived.RowKit
import Derived.RowKit3
import Derived.Shelf.Abstract
import Derived.Shelf.LaysM
import Derived.Shelf.RegionOpen
import Derived.Shelf.SlIterI.Nil
import Derived.Shelf.Slices.Clone
import Derived.Shelf.Slices.Empties2
import Derived.Shelf.Slices.Equal
import Derived.Shelf.Slices.In.SortNone
import Derived.Shelf.Slices.SearchI
import Derived.Shelf.Slices.Turned
import Derived.Shelf.SlicesE.Clone
import Derived.Shelf.Small.Bits
import Derived.Shelf.Small.Strs
import Derived.Shelf.Small.Utf8
import Derived.Shelf.Small.Wraps
import Derived.Shelf.Sort.Plain
import Derived.Shelf.SortM.Plain
import Derived.Shelf.SortM.SortNone
import Derived.Shelf.Strconv.Itoa0
import Derived.Shelf.Strconv.Itoa1
import Derived.Shelf.Strconv.Itoa2
import Derived.Shelf.Strconv.Itoa3
import Derived.Shelf.Strings.Builder1
import Derived.Shelf.Strings.Builder2
import Derived.Shelf.Strings.Builder2Cap
import Derived.Shelf.Strings.BuilderCap
import Derived.Shelf.Strings.BuilderF
import Derived.Shelf.Strings.BuilderK
import Derived.Shelf.Strings.OnBuilder
import Derived.Shelf.Strings.Runes
import Derived.Shelf.Strings.Search1
import Derived.Shelf.Strings.Search2
import Derived.Shelf.Strings.Search3
import Derived.Shelf.Strings.Shaped
import Derived.Shelf.Unicode.Decode
import Derived.Shelf.Unicode.DecodeAny
import Derived.Shelf.Unicode.DecodeSlow
import Derived.ShutString
import Derived.SizedLaws
import Derived.Still
import Derived.Stop.LaidErr
import Derived.Tactics
import Derived.TacticsIn
import Derived.TacticsInMore
import Derived.Test.YtdmifbffamckbaaGreatDoorCards
import Derived.Test.YtdmifbffamckbaaGreatDoorProg
import Derived.Test.YtdmifbffamckbaaGreatDoorTie
import Derived.WalkKit
import Derived.WalkLawsBesides
import Derived.WalkSpells
import Derived.WideLaws
import Derived.Test.YtdmifbffamckbaaGreatDoorZS1
import Derived.Test.YtdmifbffamckbaaGreatDoorZS2
import Derived.Test.YtdmifbffamckbaaGreatDoorZS3
section
namespace Go.Proofs.YtdmifbffamckbaaGreatDoor.G
open Go.RowKit Go.Proofs.YtdmifbffamckbaaGreatDoorW.PrintWords Go.Proofs.YtdmifbffamckbaaGreatDoorW.PrintLast Go.Proofs.YtdmifbffamckbaaGreatDoorW.PrintMore
attribute [local go_sem] max2_int min2_int max_two min_two max_three min_three max_four min_four
set_option linter.unusedVariables false
set_option linter.unusedSimpArgs false
def errW : Option Int → Value
  | none => .nilIface
  | some c => .iface 0 (.int .i64 c)
theorem errW_none : errW none = .nilIface := rfl
theorem errW_some (c : Int) : errW (some c) = .iface 0 (.int .i64 c) := rfl
theorem info26 : (Tryz.prog.info? 26).map (fun i => (i.zero, i.size, i.bytes)) = some (some (.slice none 0 0), 1, 24) := by kernel_rfl
def rd_L1 (xs : List (List Int)) (i : Int) : (List Int) := xs.getD i.toNat ([] : List Int)
theorem at_L1 {w : World} {A : Option Addr} {n : Nat} {xs : List (List Int)} (h : Kd.C (Kd.slice 3 (Kd.int .i64)) w A n xs) (i : Int) (h0 : 0 ≤ i) (h1 : i < n) : ∃ ad A0 c0, A = some ad ∧ w.cell? (ad.add i.toNat) = some (.slice A0 (rd_L1 xs i).length c0) ∧ (rd_L1 xs i).length ≤ c0 ∧ (Kd.int .i64).C w A0 (rd_L1 xs i).length (rd_L1 xs i) := by
  obtain ⟨ad, c, e, _, hK, hc0⟩ := Kd.C_get h ([] : List Int) i h0 h1
  have hc : ∀ j u, c[j]? = some u → w.cell? (ad.add (i.toNat * 1 + j)) = some u := hc0
  obtain ⟨A0, c0, rfl, l0, g0⟩ := hK
  exact ⟨ad, A0, c0, e, by have hq := hc 0 _ rfl; rwa [Nat.mul_one, Nat.add_zero] at hq, l0, g0⟩
end Go.Proofs.YtdmifbffamckbaaGreatDoor.G
end
section
namespace Go.Proofs.YtdmifbffamckbaaGreatDoor.G
open Go.RowKit Go.Proofs.YtdmifbffamckbaaGreatDoorW.PrintWords Go.Proofs.YtdmifbffamckbaaGreatDoorW.PrintLast Go.Proofs.YtdmifbffamckbaaGreatDoorW.PrintMore
attribute [local go_sem] max2_int min2_int max_two min_two max_three min_three max_four min_four
set_option linter.unusedVariables false
set_option linter.unusedSimpArgs false
def wire_Arg.f (a0_0 : Int) (a0_1 : Int) (l0_2 : List (List Int)) (a0_3 : ByteArray) (a0_4 : Int) (a0_5 : ByteArray) (a1 : Int) (a2 : Int) : Option (Int) := if a1 < 0 then (some a2) else (if a1 ≥ (l0_2.length : Int) then (some a2) else (if 0 ≤ a1 then (if a1 < (l0_2.length : Int) then (if ((rd_L1 l0_2 a1).length : Int) = 0 then (some a2) else (if 0 < ((rd_L1 l0_2 a1).length : Int) then (if (rd (rd_L1 l0_2 a1) 0) < 0 then (some a2) else (some (rd (rd_L1 l0_2 a1) 0))) else (none))) else (none)) else (none)))
set_option maxHeartbeats 8000000 in
set_option maxRecDepth 100000 in
theorem wire_Arg.calls (a0_0 : Int) (a0_1 : Int) (A0_2 : Option Addr) (c0_2 : Nat) (l0_2 : List (List Int)) (a0_3 : ByteArray) (a0_4 : Int) (a0_5 : ByteArray) (a1 : Int) (a2 : Int) (r : Int) (w : World) (hr0_2 : Kd.C (Kd.slice 3 (Kd.int .i64)) w A0_2 l0_2.length l0_2) (hc0_2 : l0_2.length ≤ c0_2) (h : wire_Arg.f a0_0 a0_1 l0_2 a0_3 a0_4 a0_5 a1 a2 = some r) :
    Calls Tryz.prog 86 #[.agg #[.int .i64 a0_0, .int .u8 a0_1, .slice A0_2 l0_2.length c0_2, .string a0_3, .int .u8 a0_4, .string a0_5], .int .i64 a1, .int .i64 a2] w fun e w' => e = .returned (.int .i64 r) ∧ Below w.heap.size w w' := by
  have hu37 := Tryz.underlying37
  have HR0_2 := Aside0.mk hr0_2
  have HC0_2 := Aside0.mk hc0_2
  clear hr0_2 hc0_2
  have HB := Aside0.mk (Below.refl w.heap.size w)
  have H : (if a1 < 0 then (some a2) else (if a1 ≥ (l0_2.length : Int) then (some a2) else (if 0 ≤ a1 then (if a1 < (l0_2.length : Int) then (if ((rd_L1 l0_2 a1).length : Int) = 0 then (some a2) else (if 0 < ((rd_L1 l0_2 a1).length : Int) then (if (rd (rd_L1 l0_2 a1) 0) < 0 then (some a2) else (some (rd (rd_L1 l0_2 a1) 0))) else (none))) else (none)) else (none)))) = some r := h
  clear h
  by_cases c4 : a1 < 0
  · rw [if_pos c4] at H
    have c4b0 : decide (a1 < 0) = true := decide_eq_true c4
    clear c4
    obtain rfl := Option.some.inj H
    go_enter Tryz.func86, Tryz.ntmps86
    go_wp2_with (first | ((with_reducible refine gate_dst (N := 3) rfl ?_); (try (refine gate_guard (by rfl) ?_; dsimp only)); refine box_event ?hg (N := 3) ?hd (cs := #[.int .i64 a0_0, .int .u8 a0_1, .slice A0_2 l0_2.length c0_2, .string a0_3, .int .u8 a0_4, .string a0_5]) (t := 37) ?hr ?_; (case hd => rfl); (case hg => rfl); (case hr => first | (go_simp; done) | (go_simp; rfl)); intro gb101 hg w5 hbox hb; have n0_ := Aside0.mk (below_step (by repeat (first | (with_reducible first | exact HB.out | apply below_alloc | apply pw_below_drewN | apply below_drew1) | exact HB.out)) hb); have n1_ := Aside0.mk (hbox); have n2_ := Aside0.mk ((by rw [hg]; exact (below_size (by repeat (first | (with_reducible first | exact HB.out | apply below_alloc | apply pw_below_drewN | apply below_drew1) | exact HB.out))) : w.heap.size ≤ gb101)); have n3_ := Aside0.mk ((by rw [hg]; exact (below_size (by repeat (first | (with_reducible first | exact HB.out | apply below_alloc | apply pw_below_drewN | apply below_drew1) | exact HB.out))) : w.heap.size ≤ gb101)); clear HB; have HB := n0_; have BK101 := n1_; have GW101 := n2_; have GE101 := n3_; clear n0_ n1_ n2_ n3_; clear hb hbox hg))
    go_ret
    exact ⟨by first | rfl | (simp [errW_none, errW_some] <;> rfl) | (simp [*, errW_none, errW_some] <;> rfl), by repeat (first | (with_reducible first | exact HB.out | apply below_alloc | apply pw_below_drewN | apply below_drew1 | refine below_set ?_ GE101.out) | exact HB.out)⟩
  · rw [if_neg c4] at H
    have c4b0 : decide (a1 < 0) = false := decide_eq_false c4
    clear c4
    by_cases c6 : a1 ≥ (l0_2.length : Int)
    · rw [if_pos c6] at H
      have c6b0 : decide ((l0_2.length : Int) ≤ a1) = true := decide_eq_true c6
      clear c6
      obtain rfl := Option.some.inj H
      go_enter Tryz.func86, Tryz.ntmps86
      go_wp2_with (first | ((with_reducible refine gate_dst (N := 3) rfl ?_); (try (refine gate_guard (by rfl) ?_; dsimp only)); refine box_event ?hg (N := 3) ?hd (cs := #[.int .i64 a0_0, .int .u8 a0_1, .slice A0_2 l0_2.length c0_2, .string a0_3, .int .u8 a0_4, .string a0_5]) (t := 37) ?hr ?_; (case hd => rfl); (case hg => rfl); (case hr => first | (go_simp; done) | (go_simp; rfl)); intro gb101 hg w7 hbox hb; have n0_ := Aside0.mk (below_step (by repeat (first | (with_reducible first | exact HB.out | apply below_alloc | apply pw_below_drewN | apply below_drew1) | exact HB.out)) hb); have n1_ := Aside0.mk (hbox); have n2_ := Aside0.mk ((by rw [hg]; exact (below_size (by repeat (first | (with_reducible first | exact HB.out | apply below_alloc | apply pw_below_drewN | apply below_drew1) | exact HB.out))) : w.heap.size ≤ gb101)); have n3_ := Aside0.mk ((by rw [hg]; exact (below_size (by repeat (first | (with_reducible first | exact HB.out | apply below_alloc | apply pw_below_drewN | apply below_drew1) | exact HB.out))) : w.heap.size ≤ gb101)); clear HB; have HB := n0_; have BK101 := n1_; have GW101 := n2_; have GE101 := n3_; clear n0_ n1_ n2_ n3_; clear hb hbox hg; have hcz8_0 : w7.cell? ⟨gb101, 0, none⟩ = some (.int .i64 a0_0) := (blk_cell BK101.out 0).trans rfl; have hcz8_1 : w7.cell? ⟨gb101, 1, none⟩ = some (.int .u8 a0_1) := (blk_cell BK101.out 1).trans rfl; have hcz8_2 : w7.cell? ⟨gb101, 2, none⟩ = some (.slice A0_2 l0_2.length c0_2) := (blk_cell BK101.out 2).trans rfl; have hcz8_3 : w7.cell? ⟨gb101, 3, none⟩ = some (.string a0_3) := (blk_cell BK101.out 3).trans rfl; have hcz8_4 : w7.cell? ⟨gb101, 4, none⟩ = some (.int .u8 a0_4) := (blk_cell BK101.out 4).trans rfl; have hcz8_5 : w7.cell? ⟨gb101, 5, none⟩ = some (.string a0_5) := (blk_cell BK101.out 5).trans rfl; have hfz8_0 := blk_frozen BK101.out 0; have hfz8_1 := blk_frozen BK101.out 1; have hfz8_2 := blk_frozen BK101.out 2; have hfz8_3 := blk_frozen BK101.out 3; have hfz8_4 := blk_frozen BK101.out 4; have hfz8_5 := blk_frozen BK101.out 5))
      go_ret
      exact ⟨by first | rfl | (simp [errW_none, errW_some] <;> rfl) | (simp [*, errW_none, errW_some] <;> rfl), by repeat (first | (with_reducible first | exact HB.out | apply below_alloc | apply pw_below_drewN | apply below_drew1 | refine below_set ?_ GE101.out) | exact HB.out)⟩
    · rw [if_neg c6] at H
      have c6b0 : decide ((l0_2.length : Int) ≤ a1) = false := decide_eq_false c6
      clear c6
      by_cases c9 : 0 ≤ a1
      · rw [if_pos c9] at H
        have c9b0 : decide (0 ≤ a1) = true := decide_eq_true c9
        clear c9
        by_cases c10 : a1 < (l0_2.length : Int)
        · rw [if_pos c10] at H
          have c10b0 : decide (a1 < (l0_2.length : Int)) = true := decide_eq_true c10
          clear c10
          by_cases c11 : ((rd_L1 l0_2 a1).length : Int) = 0
          · rw [if_pos c11] at H
            have c11b0 : (((rd_L1 l0_2 a1).length : Int) == 0) = true := beq_iff_eq.mpr c11
            have c11b1 : (((rd_L1 l0_2 a1).length : Int) != 0) = false := bne_eq_false_iff_eq.mpr c11
            clear c11
            obtain rfl := Option.some.inj H
            go_enter Tryz.func86, Tryz.ntmps86
            go_wp2_with (first | ((with_reducible refine gate_dst (N := 3) rfl ?_); (try (refine gate_guard (by rfl) ?_; dsimp only)); refine box_event ?hg (N := 3) ?hd (cs := #[.int .i64 a0_0, .int .u8 a0_1, .slice A0_2 l0_2.length c0_2, .string a0_3, .int .u8 a0_4, .string a0_5]) (t := 37) ?hr ?_; (case hd => rfl); (case hg => rfl); (case hr => first | (go_simp; done) | (go_simp; rfl)); intro gb101 hg w12 hbox hb; have n0_ := Aside0.mk (below_step (by repeat (first | (with_reducible first | exact HB.out | apply below_alloc | apply pw_below_drewN | apply below_drew1) | exact HB.out)) hb); have n1_ := Aside0.mk (hbox); have n2_ := Aside0.mk ((by rw [hg]; exact (below_size (by repeat (first | (with_reducible first | exact HB.out | apply below_alloc | apply pw_below_drewN | apply below_drew1) | exact HB.out))) : w.heap.size ≤ gb101)); have n3_ := Aside0.mk ((by rw [hg]; exact (below_size (by repeat (first | (with_reducible first | exact HB.out | apply below_alloc | apply pw_below_drewN | apply below_drew1) | exact HB.out))) : w.heap.size ≤ gb101)); clear HB; have HB := n0_; have BK101 := n1_; have GW101 := n2_; have GE101 := n3_; clear n0_ n1_ n2_ n3_; clear hb hbox hg; have hcz13_0 : w12.cell? ⟨gb101, 0, none⟩ = some (.int .i64 a0_0) := (blk_cell BK101.out 0).trans rfl; have hcz13_1 : w12.cell? ⟨gb101, 1, none⟩ = some (.int .u8 a0_1) := (blk_cell BK101.out 1).trans rfl; have hcz13_2 : w12.cell? ⟨gb101, 2, none⟩ = some (.slice A0_2 l0_2.length c0_2) := (blk_cell BK101.out 2).trans rfl; have hcz13_3 : w12.cell? ⟨gb101, 3, none⟩ = some (.string a0_3) := (blk_cell BK101.out 3).trans rfl; have hcz13_4 : w12.cell? ⟨gb101, 4, none⟩ = some (.int .u8 a0_4) := (blk_cell BK101.out 4).trans rfl; have hcz13_5 : w12.cell? ⟨gb101, 5, none⟩ = some (.string a0_5) := (blk_cell BK101.out 5).trans rfl; have hfz13_0 := blk_frozen BK101.out 0; have hfz13_1 := blk_frozen BK101.out 1; have hfz13_2 := blk_frozen BK101.out 2; have hfz13_3 := blk_frozen BK101.out 3; have hfz13_4 := blk_frozen BK101.out 4; have hfz13_5 := blk_frozen BK101.out 5; have p102 : 0 ≤ (a1 : Int) := of_decide_eq_true (by first | (with_reducible assumption) | assumption); have q102 : a1 < (l0_2.length : Int) := of_decide_eq_true (by first | (with_reducible assumption) | assumption); obtain ⟨ad102, A102_0, c102_0, e102, hx102_0, hl102_0, hi102_0⟩ := at_L1 HR0_2.out a1 p102 q102; cases e102; replace hx102_0 := (HB.out.cell (World.block_lt_of_cell? w _ hx102_0)).trans hx102_0; have HR102_0 := Aside0.mk hi102_0; have HC102_0 := Aside0.mk hl102_0; clear hi102_0 hl102_0; replace p102 := eq_true p102; replace q102 := eq_true q102))
            go_ret
            exact ⟨by first | rfl | (simp [errW_none, errW_some] <;> rfl) | (simp [*, errW_none, errW_some] <;> rfl), by repeat (first | (with_reducible first | exact HB.out | apply below_alloc | apply pw_below_drewN | apply below_drew1 | refine below_set ?_ GE101.out) | exact HB.out)⟩
          · rw [if_neg c11] at H
            have c11b0 : (((rd_L1 l0_2 a1).length : Int) == 0) = false := beq_eq_false_iff_ne.mpr c11
            have c11b1 : (((rd_L1 l0_2 a1).length : Int) != 0) = true := bne_iff_ne.mpr c11
            have c11b2 : ¬ ((rd_L1 l0_2 a1) = []) := fun h_ => c11 (by rw [h_]; rfl)
            by_cases c14 : 0 < ((rd_L1 l0_2 a1).length : Int)
            · rw [if_pos c14] at H
              have c14b0 : decide (0 < ((rd_L1 l0_2 a1).length : Int)) = true := decide_eq_true c14
              have c14b1 : decide (0 < (rd_L1 l0_2 a1).length) = true := decide_eq_true (by omega)
              clear c14
              by_cases c15 : (rd (rd_L1 l0_2 a1) 0) < 0
              · rw [if_pos c15] at H
                have c15b0 : decide ((rd (rd_L1 l0_2 a1) 0) < 0) = true := decide_eq_true c15
                clear c15
                obtain rfl := Option.some.inj H
                go_enter Tryz.func86, Tryz.ntmps86
                go_wp2_with (first | ((with_reducible refine gate_dst (N := 3) rfl ?_); (try (refine gate_guard (by rfl) ?_; dsimp only)); refine box_event ?hg (N := 3) ?hd (cs := #[.int .i64 a0_0, .int .u8 a0_1, .slice A0_2 l0_2.length c0_2, .string a0_3, .int .u8 a0_4, .string a0_5]) (t := 37) ?hr ?_; (case hd => rfl); (case hg => rfl); (case hr => first | (go_simp; done) | (go_simp; rfl)); intro gb101 hg w16 hbox hb; have n0_ := Aside0.mk (below_step (by repeat (first | (with_reducible first | exact HB.out | apply below_alloc | apply pw_below_drewN | apply below_drew1) | exact HB.out)) hb); have n1_ := Aside0.mk (hbox); have n2_ := Aside0.mk ((by rw [hg]; exact (below_size (by repeat (first | (with_reducible first | exact HB.out | apply below_alloc | apply pw_below_drewN | apply below_drew1) | exact HB.out))) : w.heap.size ≤ gb101)); have n3_ := Aside0.mk ((by rw [hg]; exact (below_size (by repeat (first | (with_reducible first | exact HB.out | apply below_alloc | apply pw_below_drewN | apply below_drew1) | exact HB.out))) : w.heap.size ≤ gb101)); clear HB; have HB := n0_; have BK101 := n1_; have GW101 := n2_; have GE101 := n3_; clear n0_ n1_ n2_ n3_; clear hb hbox hg; have hcz17_0 : w16.cell? ⟨gb101, 0, none⟩ = some (.int .i64 a0_0) := (blk_cell BK101.out 0).trans rfl; have hcz17_1 : w16.cell? ⟨gb101, 1, none⟩ = some (.int .u8 a0_1) := (blk_cell BK101.out 1).trans rfl; have hcz17_2 : w16.cell? ⟨gb101, 2, none⟩ = some (.slice A0_2 l0_2.length c0_2) := (blk_cell BK101.out 2).trans rfl; have hcz17_3 : w16.cell? ⟨gb101, 3, none⟩ = some (.string a0_3) := (blk_cell BK101.out 3).trans rfl; have hcz17_4 : w16.cell? ⟨gb101, 4, none⟩ = some (.int .u8 a0_4) := (blk_cell BK101.out 4).trans rfl; have hcz17_5 : w16.cell? ⟨gb101, 5, none⟩ = some (.string a0_5) := (blk_cell BK101.out 5).trans rfl; have hfz17_0 := blk_frozen BK101.out 0; have hfz17_1 := blk_frozen BK101.out 1; have hfz17_2 := blk_frozen BK101.out 2; have hfz17_3 := blk_frozen BK101.out 3; have hfz17_4 := blk_frozen BK101.out 4; have hfz17_5 := blk_frozen BK101.out 5; have p102 : 0 ≤ (a1 : Int) := of_decide_eq_true (by first | (with_reducible assumption) | assumption); have q102 : a1 < (l0_2.length : Int) := of_decide_eq_true (by first | (with_reducible assumption) | assumption); obtain ⟨ad102, A102_0, c102_0, e102, hx102_0, hl102_0, hi102_0⟩ := at_L1 HR0_2.out a1 p102 q102; cases e102; replace hx102_0 := (HB.out.cell (World.block_lt_of_cell? w _ hx102_0)).trans hx102_0; have HR102_0 := Aside0.mk hi102_0; have HC102_0 := Aside0.mk hl102_0; clear hi102_0 hl102_0; replace p102 := eq_true p102; replace q102 := eq_true q102; have p103 : 0 ≤ (a1 : Int) := of_decide_eq_true (by first | (with_reducible assumption) | assumption); have q103 : a1 < (l0_2.length : Int) := of_decide_eq_true (by first | (with_reducible assumption) | assumption); obtain ⟨ad103, A103_0, c103_0, e103, hx103_0, hl103_0, hi103_0⟩ := at_L1 HR0_2.out a1 p103 q103; obtain rfl : ad102 = ad103 := (by injection e103); replace hx103_0 := (HB.out.cell (World.block_lt_of_cell? w _ hx103_0)).trans hx103_0; have HR103_0 := Aside0.mk hi103_0; have HC103_0 := Aside0.mk hl103_0; clear hi103_0 hl103_0; replace p103 := eq_true p103; replace q103 := eq_true q103; have ea_ := Option.some.inj (hx102_0.symm.trans hx103_0); injection ea_ with ea_ en_ ec_; subst ea_; subst ec_; clear en_; have p104 : 0 ≤ (0 : Int) := (by omega); have q104 : 0 < ((rd_L1 l0_2 a1).length : Int) := of_decide_eq_true (by first | (with_reducible assumption) | assumption); obtain ⟨ad104, e104, hx104_0⟩ := Kd.at_int HR103_0.out 0 p104 q104; cases e104; have qi104 : (0 < (rd_L1 l0_2 a1).length) = True := eq_true (by omega); (try rw [show ((0 : Int)).toNat = 0 from rfl] at hx104_0); (try rw [Addr.add_zero'] at hx104_0); replace hx104_0 := (HB.out.cell (World.block_lt_of_cell? w _ hx104_0)).trans hx104_0; replace p104 := eq_true p104; replace q104 := eq_true q104))
                go_ret
                exact ⟨by first | rfl | (simp [errW_none, errW_some] <;> rfl) | (simp [*, errW_none, errW_some] <;> rfl), by repeat (first | (with_reducible first | exact HB.out | apply below_alloc | apply pw_below_drewN | apply below_drew1 | refine below_set ?_ GE101.out) | exact HB.out)⟩
              · rw [if_neg c15] at H
                have c15b0 : decide ((rd (rd_L1 l0_2 a1) 0) < 0) = false := decide_eq_false c15
                clear c15
                obtain rfl := Option.some.inj H
                go_enter Tryz.func86, Tryz.ntmps86
                go_wp2_with (first | ((with_reducible refine gate_dst (N := 3) rfl ?_); (try (refine gate_guard (by rfl) ?_; dsimp only)); refine box_event ?hg (N := 3) ?hd (cs := #[.int .i64 a0_0, .int .u8 a0_1, .slice A0_2 l0_2.length c0_2, .string a0_3, .int .u8 a0_4, .string a0_5]) (t := 37) ?hr ?_; (case hd => rfl); (case hg => rfl); (case hr => first | (go_simp; done) | (go_simp; rfl)); intro gb101 hg w18 hbox hb; have n0_ := Aside0.mk (below_step (by repeat (first | (with_reducible first | exact HB.out | apply below_alloc | apply pw_below_drewN | apply below_drew1) | exact HB.out)) hb); have n1_ := Aside0.mk (hbox); have n2_ := Aside0.mk ((by rw [hg]; exact (below_size (by repeat (first | (with_reducible first | exact HB.out | apply below_alloc | apply pw_below_drewN | apply below_drew1) | exact HB.out))) : w.heap.size ≤ gb101)); have n3_ := Aside0.mk ((by rw [hg]; exact (below_size (by repeat (first | (with_reducible first | exact HB.out | apply below_alloc | apply pw_below_drewN | apply below_drew1) | exact HB.out))) : w.heap.size ≤ gb101)); clear HB; have HB := n0_; have BK101 := n1_; have GW101 := n2_; have GE101 := n3_; clear n0_ n1_ n2_ n3_; clear hb hbox hg; have hcz19_0 : w18.cell? ⟨gb101, 0, none⟩ = some (.int .i64 a0_0) := (blk_cell BK101.out 0).trans rfl; have hcz19_1 : w18.cell? ⟨gb101, 1, none⟩ = some (.int .u8 a0_1) := (blk_cell BK101.out 1).trans rfl; have hcz19_2 : w18.cell? ⟨gb101, 2, none⟩ = some (.slice A0_2 l0_2.length c0_2) := (blk_cell BK101.out 2).trans rfl; have hcz19_3 : w18.cell? ⟨gb101, 3, none⟩ = some (.string a0_3) := (blk_cell BK101.out 3).trans rfl; have hcz19_4 : w18.cell? ⟨gb101, 4, none⟩ = some (.int .u8 a0_4) := (blk_cell BK101.out 4).trans rfl; have hcz19_5 : w18.cell? ⟨gb101, 5, none⟩ = some (.string a0_5) := (blk_cell BK101.out 5).trans rfl; have hfz19_0 := blk_frozen BK101.out 0; have hfz19_1 := blk_frozen BK101.out 1; have hfz19_2 := blk_frozen BK101.out 2; have hfz19_3 := blk_frozen BK101.out 3; have hfz19_4 := blk_frozen BK101.out 4; have hfz19_5 := blk_frozen BK101.out 5; have p102 : 0 ≤ (a1 : Int) := of_decide_eq_true (by first | (with_reducible assumption) | assumption); have q102 : a1 < (l0_2.length : Int) := of_decide_eq_true (by first | (with_reducible assumption) | assumption); obtain ⟨ad102, A102_0, c102_0, e102, hx102_0, hl102_0, hi102_0⟩ := at_L1 HR0_2.out a1 p102 q102; cases e102; replace hx102_0 := (HB.out.cell (World.block_lt_of_cell? w _ hx102_0)).trans hx102_0; have HR102_0 := Aside0.mk hi102_0; have HC102_0 := Aside0.mk hl102_0; clear hi102_0 hl102_0; replace p102 := eq_true p102; replace q102 := eq_true q102; have p103 : 0 ≤ (a1 : Int) := of_decide_eq_true (by first | (with_reducible assumption) | assumption); have q103 : a1 < (l0_2.length : Int) := of_decide_eq_true (by first | (with_reducible assumption) | assumption); obtain ⟨ad103, A103_0, c103_0, e103, hx103_0, hl103_0, hi103_0⟩ := at_L1 HR0_2.out a1 p103 q103; obtain rfl : ad102 = ad103 := (by injection e103); replace hx103_0 := (HB.out.cell (World.block_lt_of_cell? w _ hx103_0)).trans hx103_0; have HR103_0 := Aside0.mk hi103_0; have HC103_0 := Aside0.mk hl103_0; clear hi103_0 hl103_0; replace p103 := eq_true p103; replace q103 := eq_true q103; have ea_ := Option.some.inj (hx102_0.symm.trans hx103_0); injection ea_ with ea_ en_ ec_; subst ea_; subst ec_; clear en_; have p104 : 0 ≤ (0 : Int) := (by omega); have q104 : 0 < ((rd_L1 l0_2 a1).length : Int) := of_decide_eq_true (by first | (with_reducible assumption) | assumption); obtain ⟨ad104, e104, hx104_0⟩ := Kd.at_int HR103_0.out 0 p104 q104; cases e104; have qi104 : (0 < (rd_L1 l0_2 a1).length) = True := eq_true (by omega); (try rw [show ((0 : Int)).toNat = 0 from rfl] at hx104_0); (try rw [Addr.add_zero'] at hx104_0); replace hx104_0 := (HB.out.cell (World.block_lt_of_cell? w _ hx104_0)).trans hx104_0; replace p104 := eq_true p104; replace q104 := eq_true q104; have p105 : 0 ≤ (a1 : Int) := of_decide_eq_true (by first | (with_reducible assumption) | assumption); have q105 : a1 < (l0_2.length : Int) := of_decide_eq_true (by first | (with_reducible assumption) | assumption); obtain ⟨ad105, A105_0, c105_0, e105, hx105_0, hl105_0, hi105_0⟩ := at_L1 HR0_2.out a1 p105 q105; obtain rfl : ad102 = ad105 := (by injection e105); replace hx105_0 := (HB.out.cell (World.block_lt_of_cell? w _ hx105_0)).trans hx105_0; have HR105_0 := Aside0.mk hi105_0; have HC105_0 := Aside0.mk hl105_0; clear hi105_0 hl105_0; replace p105 := eq_true p105; replace q105 := eq_true q105; have ea_ := Option.some.inj (hx102_0.symm.trans hx105_0); injection ea_ with ea_ en_ ec_; subst ea_; subst ec_; clear en_; have p106 : 0 ≤ (0 : Int) := (by omega); have q106 : 0 < ((rd_L1 l0_2 a1).length : Int) := of_decide_eq_true (by first | (with_reducible assumption) | assumption); obtain ⟨ad106, e106, hx106_0⟩ := Kd.at_int HR105_0.out 0 p106 q106; cases e106; have qi106 : (0 < (rd_L1 l0_2 a1).length) = True := eq_true (by omega); (try rw [show ((0 : Int)).toNat = 0 from rfl] at hx106_0); (try rw [Addr.add_zero'] at hx106_0); replace hx106_0 := (HB.out.cell (World.block_lt_of_cell? w _ hx106_0)).trans hx106_0; replace p106 := eq_true p106; replace q106 := eq_true q106))
                go_ret
                exact ⟨by first | rfl | (simp [errW_none, errW_some] <;> rfl) | (simp [*, errW_none, errW_some] <;> rfl), by repeat (first | (with_reducible first | exact HB.out | apply below_alloc | apply pw_below_drewN | apply below_drew1 | refine below_set ?_ GE101.out) | exact HB.out)⟩
            · rw [if_neg c14] at H
              exact absurd H (by simp)
        · rw [if_neg c10] at H
          exact absurd H (by simp)
      · rw [if_neg c9] at H
        exact absurd H (by simp)
def wire_Num.l0 : Nat → List Int → Int → Int → Int → Int → List (List Int) → ByteArray → Int → ByteArray → Option (Int × Int × (List (List Int)) × ByteArray × Int × ByteArray)
  | 0, _, _, _, _, _, _, _, _, _ => none
  | k + 1, x13, x14, x15, x115000, x115001, x115002, x115003, x115004, x115005 => if x15 < x14 then (if 0 ≤ x15 then (if x15 < (x13.length : Int) then (if x115002.length < 5864062014805 then (wire_Num.l0 k x13 x14 (wrap64 (x15 + 1)) x115000 x115001 (x115002 ++ [(([rd x13 x15] : List Int))]) x115003 x115004 x115005) else (none)) else (none)) else (none)) else (some (x115000, x115001, x115002, x115003, x115004, x115005))
def wire_Num.f (k : Nat) (a0 : Int) (a1 : Int) (l2 : List Int) : Option (Int × Int × (List (List Int)) × ByteArray × Int × ByteArray) := wire_Num.l0 k l2 (l2.length : Int) 0 1 a0 ([] : List (List Int)) (⟨#[]⟩ : ByteArray) a1 (⟨#[]⟩ : ByteArray)
theorem wire_Num.mono_l : ∀ k, (∀ y0 y1 y2 y3 y4 y5 y6 y7 y8, LeO (wire_Num.l0 k y0 y1 y2 y3 y4 y5 y6 y7 y8) (wire_Num.l0 (k + 1) y0 y1 y2 y3 y4 y5 y6 y7 y8))
  | 0 => fun _ _ _ _ _ _ _ _ _ r h => by simp [wire_Num.l0] at h
  | k + 1 => by
    have ih0 := wire_Num.mono_l k
    · intro y0 y1 y2 y3 y4 y5 y6 y7 y8
      unfold wire_Num.l0
      repeat' first
      | (with_reducible exact ih0 _ _ _ _ _ _ _ _ _)
      | (with_reducible exact LeO.refl _)
      | (with_reducible exact LeO.none _)
      | (with_reducible refine LeO.ite ?_ ?_)
      | (with_reducible refine LeO.bind ?_ (fun _ => ?_))
      | exact ih0 _ _ _ _ _ _ _ _ _
      | exact LeO.none _
      | refine LeO.ite ?_ ?_
      | refine LeO.bind ?_ (fun _ => ?_)
theorem wire_Num.mono : ∀ a0 a1 a2 k, LeO (wire_Num.f k a0 a1 a2) (wire_Num.f (k + 1) a0 a1 a2) := by
  intro a0 a1 a2 k
  have ih0 := wire_Num.mono_l k
  unfold wire_Num.f
  repeat' first
      | (with_reducible exact ih0 _ _ _ _ _ _ _ _ _)
      | (with_reducible exact LeO.refl _)
      | (with_reducible exact LeO.none _)
      | (with_reducible refine LeO.ite ?_ ?_)
      | (with_reducible refine LeO.bind ?_ (fun _ => ?_))
      | exact ih0 _ _ _ _ _ _ _ _ _
      | exact LeO.none _
      | refine LeO.ite ?_ ?_
      | refine LeO.bind ?_ (fun _ => ?_)
set_option maxHeartbeats 8000000 in
set_option maxRecDepth 100000 in
theorem wire_Num.calls (k : Nat) (a0 : Int) (a1 : Int) (A2 : Option Addr) (c2 : Nat) (l2 : List Int) (r1 : Int) (r2 : Int) (r3 : List (List Int)) (r4 : ByteArray) (r5 : Int) (r6 : ByteArray) (w : World) (hr2 : Kd.C (Kd.int .i64) w A2 l2.length l2) (hc2 : l2.length ≤ c2) (h : wire_Num.f k a0 a1 l2 = some (r1, r2, r3, r4, r5, r6)) :
    Calls Tryz.prog 127 #[.int .u8 a0, .int .u8 a1, .slice A2 l2.length c2] w fun e w' => ∃ v2_ : Value, e = .returned (.agg #[.int .i64 r1, .int .u8 r2, v2_, .string r4, .int .u8 r5, .string r6]) ∧ Kd.S (Kd.slice 3 (Kd.int .i64)) 26 w' w.heap.size (fun _ => True) v2_ r3 ∧ Below w.heap.size w w' := by
  have hu37 := Tryz.underlying37
  have HR2 := Aside0.mk hr2
  have HC2 := Aside0.mk hc2
  clear hr2 hc2
  have HB := Aside0.mk (Below.refl w.heap.size w)
  have H : (wire_Num.l0 k l2 (l2.length : Int) 0 1 a0 ([] : List (List Int)) (⟨#[]⟩ : ByteArray) a1 (⟨#[]⟩ : ByteArray)) = some (r1, r2, r3, r4, r5, r6) := h
  clear h
  have H' := Aside0.mk H
  clear H
  go_enter Tryz.func127, Tryz.ntmps127
  go_wp2_with (first | ((with_reducible refine gate_dst (N := 6) rfl ?_); refine box_event ?hg (N := 6) ?hd (cs := #[.int .i64 0, .int .u8 0, .slice none 0 0, .string (⟨#[]⟩ : ByteArray), .int .u8 0, .string (⟨#[]⟩ : ByteArray)]) (t := 37) ?hr ?_; (case hd => rfl); (case hg => rfl); (case hr => first | (go_simp; done) | (go_simp; rfl)); intro gb113 hg w4 hbox hb; have n0_ := Aside0.mk (below_step (by repeat (first | (with_reducible first | exact HB.out | apply below_alloc | apply pw_below_drewN | apply below_drew1) | exact HB.out)) hb); have n1_ := Aside0.mk (hbox); have n2_ := Aside0.mk ((by rw [hg]; exact (below_size (by repeat (first | (with_reducible first | exact HB.out | apply below_alloc | apply pw_below_drewN | apply below_drew1) | exact HB.out))) : w.heap.size ≤ gb113)); have n3_ := Aside0.mk ((by rw [hg]; exact (below_size (by repeat (first | (with_reducible first | exact HB.out | apply below_alloc | apply pw_below_drewN | apply below_drew1) | exact HB.out))) : w.heap.size ≤ gb113)); clear HB; have HB := n0_; have BK113 := n1_; have GW113 := n2_; have GE113 := n3_; clear n0_ n1_ n2_ n3_; clear hb hbox hg) | ((with_reducible refine gate_dst (N := 7) rfl ?_); refine box_event ?hg (N := 7) ?hd (cs := #[.int .i64 0, .int .u8 0, .slice none 0 0, .string (⟨#[]⟩ : ByteArray), .int .u8 0, .string (⟨#[]⟩ : ByteArray)]) (t := 37) ?hr ?_; (case hd => rfl); (case hg => rfl); (case hr => first | (go_simp; done) | (go_simp; rfl)); intro gb114 hg w5 hbox hb; have n0_ := Aside0.mk (blk_below (g := gb113) (o := .cells #[.int .i64 0, .int .u8 0, .slice none 0 0, .string (⟨#[]⟩ : ByteArray), .int .u8 0, .string (⟨#[]⟩ : ByteArray)] 37 (0, 0)) (by (with_reducible repeat (first | refine blk_drewN ?_ _ | refine blk_drew ?_ | refine blk_alloc ?_ _)); exact BK113.out) hb); have n1_ := Aside0.mk (below_step (by repeat (first | (with_reducible first | exact HB.out | apply below_alloc | apply pw_below_drewN | apply below_drew1 | refine below_set ?_ GE113.out) | exact HB.out)) hb); have n2_ := Aside0.mk (hbox); have n3_ := Aside0.mk ((by rw [hg]; exact (below_size (by repeat (first | (with_reducible first | exact HB.out | apply below_alloc | apply pw_below_drewN | apply below_drew1 | refine below_set ?_ GE113.out) | exact HB.out))) : w.heap.size ≤ gb114)); have n4_ := Aside0.mk ((by rw [hg]; exact (below_size (by repeat (first | (with_reducible first | exact HB.out | apply below_alloc | apply pw_below_drewN | apply below_drew1 | refine below_set ?_ GE113.out) | exact HB.out))) : w.heap.size ≤ gb114)); have n5_ := Aside0.mk ((by rw [hg]; exact Nat.ne_of_lt (blk_lt (g := gb113) (o := .cells #[.int .i64 0, .int .u8 0, .slice none 0 0, .string (⟨#[]⟩ : ByteArray), .int .u8 0, .string (⟨#[]⟩ : ByteArray)] 37 (0, 0)) (by (with_reducible repeat (first | refine blk_drewN ?_ _ | refine blk_drew ?_ | refine blk_alloc ?_ _)); exact BK113.out)) : gb113 ≠ gb114)); have n6_ := Aside0.mk ((by rw [hg]; exact Nat.ne_of_gt (blk_lt (g := gb113) (o := .cells #[.int .i64 0, .int .u8 0, .slice none 0 0, .string (⟨#[]⟩ : ByteArray), .int .u8 0, .string (⟨#[]⟩ : ByteArray)] 37 (0, 0)) (by (with_reducible repeat (first | refine blk_drewN ?_ _ | refine blk_drew ?_ | refine blk_alloc ?_ _)); exact BK113.out)) : gb114 ≠ gb113)); clear BK113; clear HB; have BK113 := n0_; have HB := n1_; have BK114 := n2_; have GW114 := n3_; have GE114 := n4_; have NB113_114 := n5_; have NB114_113 := n6_; clear n0_ n1_ n2_ n3_ n4_ n5_ n6_; clear hb hbox hg; have hnb6 := NB114_113.out; have hnc6 := NB113_114.out; have hcz7_0 : w5.cell? ⟨gb114, 0, none⟩ = some (.int .i64 0) := (blk_cell BK114.out 0).trans rfl; have hcz7_1 : w5.cell? ⟨gb114, 1, none⟩ = some (.int .u8 0) := (blk_cell BK114.out 1).trans rfl; have hcz7_2 : w5.cell? ⟨gb114, 2, none⟩ = some (.slice none 0 0) := (blk_cell BK114.out 2).trans rfl; have hcz7_3 : w5.cell? ⟨gb114, 3, none⟩ = some (.string (⟨#[]⟩ : ByteArray)) := (blk_cell BK114.out 3).trans rfl; have hcz7_4 : w5.cell? ⟨gb114, 4, none⟩ = some (.int .u8 0) := (blk_cell BK114.out 4).trans rfl; have hcz7_5 : w5.cell? ⟨gb114, 5, none⟩ = some (.string (⟨#[]⟩ : ByteArray)) := (blk_cell BK114.out 5).trans rfl; have hfz7_0 := blk_frozen BK114.out 0; have hfz7_1 := blk_frozen BK114.out 1; have hfz7_2 := blk_frozen BK114.out 2; have hfz7_3 := blk_frozen BK114.out 3; have hfz7_4 := blk_frozen BK114.out 4; have hfz7_5 := blk_frozen BK114.out 5))
  go_loopg [15] k (fun kq v15 w' => ∃ (x15_1 : Int) (x115002_1 : List (List Int)) (u115002 : Value), v15 = .int .i64 x15_1 ∧ Aside0 (wire_Num.l0 kq l2 (l2.length : Int) x15_1 1 a0 x115002_1 (⟨#[]⟩ : ByteArray) a1 (⟨#[]⟩ : ByteArray) = some (r1, r2, r3, r4, r5, r6)) ∧ Aside0 (kq ≤ k) ∧ Aside0 (Kd.S (Kd.slice 3 (Kd.int .i64)) 26 w' w.heap.size (fun _ => True) u115002 x115002_1) ∧ Aside0 (w'.heap[gb113]? = some (.cells #[.int .i64 0, .int .u8 0, (.slice none 0 0), .string (⟨#[]⟩ : ByteArray), .int .u8 0, .string (⟨#[]⟩ : ByteArray)] 37 (0, 0))) ∧ Aside0 (w'.heap[gb114]? = some (.cells #[.int .i64 1, .int .u8 a0, u115002, .string (⟨#[]⟩ : ByteArray), .int .u8 a1, .string (⟨#[]⟩ : ByteArray)] 37 (0, 0))) ∧ Aside0 (Below w.heap.size w w'))
  case atStart => exact ⟨(0), (([] : List (List Int))), (.slice none 0 0), (by first | rfl | (simp; done) | (simp [*]; done)), H', ⟨Nat.le_refl _⟩, ⟨by first | exact Kd.S_nil _ _ _ _ _ | exact Kd.N_nil _ _ _ _ _ | exact Kd.V_nil _ _ _ _ _ | exact Kd.Q_nil _ _ _ _ _ | exact Kd.R_nil _ _ _ _ _⟩, ⟨by (with_reducible repeat (first | refine blk_drewN ?_ _ | refine blk_drew ?_ | refine blk_alloc ?_ _)); refine blk_far ?_ NB113_114.out _; (with_reducible repeat (first | refine blk_drewN ?_ _ | refine blk_drew ?_ | refine blk_alloc ?_ _)); refine blk_far ?_ NB113_114.out _; (with_reducible repeat (first | refine blk_drewN ?_ _ | refine blk_drew ?_ | refine blk_alloc ?_ _)); refine blk_far ?_ NB113_114.out _; (with_reducible repeat (first | refine blk_drewN ?_ _ | refine blk_drew ?_ | refine blk_alloc ?_ _)); refine blk_far ?_ NB113_114.out _; (with_reducible repeat (first | refine blk_drewN ?_ _ | refine blk_drew ?_ | refine blk_alloc ?_ _)); refine blk_far ?_ NB113_114.out _; (with_reducible repeat (first | refine blk_drewN ?_ _ | refine blk_drew ?_ | refine blk_alloc ?_ _)); refine blk_far ?_ NB113_114.out _; (with_reducible repeat (first | refine blk_drewN ?_ _ | refine blk_drew ?_ | refine blk_alloc ?_ _)); exact BK113.out⟩, ⟨by (with_reducible repeat (first | refine blk_drewN ?_ _ | refine blk_drew ?_ | refine blk_alloc ?_ _)); refine blk_put (cs := #[.int .i64 1, .int .u8 a0, .slice none 0 0, .string (⟨#[]⟩ : ByteArray), .int .u8 a1, .string (⟨#[]⟩ : ByteArray)]) ?_ 5 _ rfl; (with_reducible repeat (first | refine blk_drewN ?_ _ | refine blk_drew ?_ | refine blk_alloc ?_ _)); refine blk_put (cs := #[.int .i64 1, .int .u8 a0, .slice none 0 0, .string (⟨#[]⟩ : ByteArray), .int .u8 0, .string (⟨#[]⟩ : ByteArray)]) ?_ 4 _ rfl; (with_reducible repeat (first | refine blk_drewN ?_ _ | refine blk_drew ?_ | refine blk_alloc ?_ _)); refine blk_put (cs := #[.int .i64 1, .int .u8 a0, .slice none 0 0, .string (⟨#[]⟩ : ByteArray), .int .u8 0, .string (⟨#[]⟩ : ByteArray)]) ?_ 3 _ rfl; (with_reducible repeat (first | refine blk_drewN ?_ _ | refine blk_drew ?_ | refine blk_alloc ?_ _)); refine blk_put (cs := #[.int .i64 1, .int .u8 a0, .slice none 0 0, .string (⟨#[]⟩ : ByteArray), .int .u8 0, .string (⟨#[]⟩ : ByteArray)]) ?_ 2 _ rfl; (with_reducible repeat (first | refine blk_drewN ?_ _ | refine blk_drew ?_ | refine blk_alloc ?_ _)); refine blk_put (cs := #[.int .i64 1, .int .u8 0, .slice none 0 0, .string (⟨#[]⟩ : ByteArray), .int .u8 0, .string (⟨#[]⟩ : ByteArray)]) ?_ 1 _ rfl; (with_reducible repeat (first | refine blk_drewN ?_ _ | refine blk_drew ?_ | refine blk_alloc ?_ _)); refine blk_put (cs := #[.int .i64 0, .int .u8 0, .slice none 0 0, .string (⟨#[]⟩ : ByteArray), .int .u8 0, .string (⟨#[]⟩ : ByteArray)]) ?_ 0 _ rfl; (with_reducible repeat (first | refine blk_drewN ?_ _ | refine blk_drew ?_ | refine blk_alloc ?_ _)); exact BK114.out⟩, ⟨by repeat (first | (with_reducible first | exact HB.out | apply below_alloc | apply pw_below_drewN | apply below_drew1 | refine below_set ?_ GE113.out | refine below_set ?_ GE114.out) | exact HB.out)⟩⟩
  case round =>
    clear H'
    try clear c1
    try clear c2
    try clear p2
    try clear c6
    try clear hcz7_0
    try clear hcz7_1
    try clear hcz7_2
    try clear hcz7_3
    try clear hcz7_4
    try clear hcz7_5
    try clear hfz7_0
    try clear hfz7_1
    try clear hfz7_2
    try clear hfz7_3
    try clear hfz7_4
    try clear hfz7_5
    obtain ⟨x15_1, x115002_1, u115002, rfl, HA, HK1, HO_115002, BK113, BK114, HB⟩ := hrel
    cases gk with
    | zero => exact absurd HA.out (by simp [wire_Num.l0])
    | succ k1 =>
      have H := HA.out
      clear HA
      simp only [wire_Num.l0] at H
      by_cases c8 : x15_1 < (l2.length : Int)
      · rw [if_pos c8] at H
        have c8b0 : decide (x15_1 < (l2.length : Int)) = true := decide_eq_true c8
        clear c8
        by_cases c9 : 0 ≤ x15_1
        · rw [if_pos c9] at H
          have c9b0 : decide (0 ≤ x15_1) = true := decide_eq_true c9
          clear c9
          by_cases c10 : x15_1 < (l2.length : Int)
          · rw [if_pos c10] at H
            have c10b0 : decide (x15_1 < (l2.length : Int)) = true := decide_eq_true c10
            clear c10
            obtain ⟨y116, hy116⟩ : ∃ y_ : List Int, y_ = (([rd l2 x15_1] : List Int)) := ⟨_, rfl⟩
            replace H : (if x115002_1.length < 5864062014805 then (wire_Num.l0 k1 l2 (l2.length : Int) (wrap64 (x15_1 + 1)) 1 a0 (x115002_1 ++ [y116]) (⟨#[]⟩ : ByteArray) a1 (⟨#[]⟩ : ByteArray)) else (none)) = some (r1, r2, r3, r4, r5, r6) := by first | (rw [hy116]; with_reducible exact H) | (have H2_ := (Option.bind_some _ _).symm.trans H; rw [hy116]; with_reducible exact H2_) | (have H2_ := (Option.bind_some _ _).symm.trans H; with_reducible exact H2_) | with_reducible exact H | (rw [hy116]; exact H) | exact H
            have Ny116 := Aside0.mk hy116
            clear hy116
            by_cases c11 : x115002_1.length < 5864062014805
            · rw [if_pos c11] at H
              have LMc11 := Aside0.mk c11
              clear c11
              obtain ⟨y119, hy119⟩ : ∃ y_ : List (List Int), y_ = (x115002_1 ++ [y116]) := ⟨_, rfl⟩
              replace H : (wire_Num.l0 k1 l2 (l2.length : Int) (wrap64 (x15_1 + 1)) 1 a0 y119 (⟨#[]⟩ : ByteArray) a1 (⟨#[]⟩ : ByteArray)) = some (r1, r2, r3, r4, r5, r6) := by first | (rw [hy119]; with_reducible exact H) | (have H2_ := (Option.bind_some _ _).symm.trans H; rw [hy119]; with_reducible exact H2_) | (have H2_ := (Option.bind_some _ _).symm.trans H; with_reducible exact H2_) | with_reducible exact H | (rw [hy119]; exact H) | exact H
              have Ny119 := Aside0.mk hy119
              clear hy119
              have H' := Aside0.mk H
              clear H
              have p115 : 0 ≤ (x15_1 : Int) := of_decide_eq_true (by first | (with_reducible assumption) | assumption)
              have q115 : x15_1 < (l2.length : Int) := of_decide_eq_true (by first | (with_reducible assumption) | assumption)
              obtain ⟨ad115, e115, hx115_0⟩ := Kd.at_int HR2.out x15_1 p115 q115
              cases e115
              replace hx115_0 := (HB.out.cell (World.block_lt_of_cell? w _ hx115_0)).trans hx115_0
              replace p115 := eq_true p115
              replace q115 := eq_true q115
              have hnb12 := NB114_113.out
              have hnc12 := NB113_114.out
              have hcz13_0 : wr.cell? ⟨gb114, 0, none⟩ = some (.int .i64 1) := (blk_cell BK114.out 0).trans rfl
              have hcz13_1 : wr.cell? ⟨gb114, 1, none⟩ = some (.int .u8 a0) := (blk_cell BK114.out 1).trans rfl
              have hcz13_2 : wr.cell? ⟨gb114, 2, none⟩ = some (u115002) := (blk_cell BK114.out 2).trans rfl
              have hcz13_3 : wr.cell? ⟨gb114, 3, none⟩ = some (.string (⟨#[]⟩ : ByteArray)) := (blk_cell BK114.out 3).trans rfl
              have hcz13_4 : wr.cell? ⟨gb114, 4, none⟩ = some (.int .u8 a1) := (blk_cell BK114.out 4).trans rfl
              have hcz13_5 : wr.cell? ⟨gb114, 5, none⟩ = some (.string (⟨#[]⟩ : ByteArray)) := (blk_cell BK114.out 5).trans rfl
              have hfz13_0 := blk_frozen BK114.out 0
              have hfz13_1 := blk_frozen BK114.out 1
              have hfz13_2 := blk_frozen BK114.out 2
              have hfz13_3 := blk_frozen BK114.out 3
              have hfz13_4 := blk_frozen BK114.out 4
              have hfz13_5 := blk_frozen BK114.out 5
              go_wp2_with (first | ((with_reducible refine gate_dst (N := 22) rfl ?_); refine Kd.R_lit (Kd.int .i64) _ 3 ?hg (N := 22) ?hd (xs := ([rd l2 x15_1] : List Int)) (inner := [.int .i64 (rd l2 x15_1)]) (ok := fun _ => True) (okp := fun _ => True) ?hr ?hp (fun _ hk => hk) trivial (Below.refl _ _) (Nat.le_refl _) (by simp) ?_; (case hd => rfl); (case hg => rfl); (case hr => first | (go_simp; done) | (go_simp; rfl)); (case hp => exact (Reps.one (show Kd.M (Kd.int .i64) _ _ _ (rd l2 x15_1) [.int .i64 (rd l2 x15_1)] from rfl) (Reps.none _ _))); intro v117 w14 ho15 hb hg_ hnew_; clear hg_ hnew_; (first | rw [← Ny116.out] at ho15 | (simp only [Int.reduceToNat] at ho15; rw [← Ny116.out] at ho15)); have n0_ := Aside0.mk (Kd.S_elder' (by (with_reducible repeat (first | apply Kd.S_alloc | apply Kd.S_drewN | apply Kd.S_drew)); exact HO_115002.out) (Kd.R_base ho15) hb); have n1_ := Aside0.mk (Kd.R_lower ho15 (below_size (by repeat (first | (with_reducible first | exact HB.out | apply below_alloc | apply pw_below_drewN | apply below_drew1 | refine below_set ?_ GE113.out | refine below_set ?_ GE114.out) | exact HB.out)))); have n2_ := Aside0.mk (blk_below (g := gb113) (o := .cells #[.int .i64 0, .int .u8 0, .slice none 0 0, .string (⟨#[]⟩ : ByteArray), .int .u8 0, .string (⟨#[]⟩ : ByteArray)] 37 (0, 0)) (by (with_reducible repeat (first | refine blk_drewN ?_ _ | refine blk_drew ?_ | refine blk_alloc ?_ _)); exact BK113.out) hb); have n3_ := Aside0.mk (blk_below (g := gb114) (o := .cells #[.int .i64 1, .int .u8 a0, u115002, .string (⟨#[]⟩ : ByteArray), .int .u8 a1, .string (⟨#[]⟩ : ByteArray)] 37 (0, 0)) (by (with_reducible repeat (first | refine blk_drewN ?_ _ | refine blk_drew ?_ | refine blk_alloc ?_ _)); exact BK114.out) hb); have n4_ := Aside0.mk (below_step (by repeat (first | (with_reducible first | exact HB.out | apply below_alloc | apply pw_below_drewN | apply below_drew1 | refine below_set ?_ GE113.out | refine below_set ?_ GE114.out) | exact HB.out)) hb); clear HO_115002; clear BK113; clear BK114; clear HB; have HO_115002 := n0_; have HO118 := n1_; have BK113 := n2_; have BK114 := n3_; have HB := n4_; clear n0_ n1_ n2_ n3_ n4_; clear hb ho15; obtain ⟨Ao17, co17, eo17⟩ := Kd.R_slice HO118.out; subst eo17) | ((with_reducible refine gate_builtin (b := .append) (xs := #[.tmp 20, .tmp 23]) rfl ?_); at_builtin; refine Kd.S_append (Kd.slice 3 (Kd.int .i64)) (w0 := w) w.heap.size rfl (.tmp 20) (.tmp 23) 35 26 (.slice none 0 0) 24 rfl Tryz.underlying35 info26 rfl (by decide) (by omega) u115002 x115002_1 y116 [.slice Ao17 y116.length co17] (fun _ => True) (fun k_ => some k_ = (.slice Ao17 y116.length co17 : Value).ownBlock) rfl rfl ?aP (fun k_ hk_ => ((Kd.R_mono (ok' := fun k_ => ((fun _ => True)) k_ ∧ some k_ ≠ (u115002 : Value).ownBlock) (Kd.R_apart' (HO118.out) (Kd.S_typed HO_115002.out) (by decide)) (fun k_ hk => ⟨trivial, hk.2⟩))).1 k_ hk_.symm) ?aF ?aO ?aB ?aS ?aL ?_; (case aP => exact Kd.M_row (Kd.R_mono (Kd.R_tight rfl (Kd.R_mono (ok' := fun k_ => ((fun _ => True)) k_ ∧ some k_ ≠ (u115002 : Value).ownBlock) (Kd.R_apart' (HO118.out) (Kd.S_typed HO_115002.out) (by decide)) (fun k_ hk => ⟨trivial, hk.2⟩))) (fun _ h_ => h_))); (case aB => exact (by repeat (first | (with_reducible first | exact HB.out | apply below_alloc | apply pw_below_drewN | apply below_drew1 | refine below_set ?_ GE113.out | refine below_set ?_ GE114.out) | exact HB.out))); (case aF => exact (fun _ _ => trivial)); (case aO => exact (by (with_reducible repeat (first | apply Kd.S_alloc | apply Kd.S_drewN | apply Kd.S_drew)); exact Kd.S_mono HO_115002.out (fun k_ hk => ⟨trivial, fun e_ => hk.2 e_⟩))); (case aS => exact (below_size (by repeat (first | (with_reducible first | exact HB.out | apply below_alloc | apply pw_below_drewN | apply below_drew1 | refine below_set ?_ GE113.out | refine below_set ?_ GE114.out) | exact HB.out)))); (case aL => have := LMc11.out; omega); intro v120 w16 ho hb hg hat; rw [← Ny119.out] at ho; have n0_ := Aside0.mk (blk_grown (g := gb113) (o := .cells #[.int .i64 0, .int .u8 0, .slice none 0 0, .string (⟨#[]⟩ : ByteArray), .int .u8 0, .string (⟨#[]⟩ : ByteArray)] 37 (0, 0)) (by (with_reducible repeat (first | refine blk_drewN ?_ _ | refine blk_drew ?_ | refine blk_alloc ?_ _)); exact BK113.out) hg (Kd.S_ne HO_115002.out BK113.out (by decide))); have n1_ := Aside0.mk (blk_grown (g := gb114) (o := .cells #[.int .i64 1, .int .u8 a0, u115002, .string (⟨#[]⟩ : ByteArray), .int .u8 a1, .string (⟨#[]⟩ : ByteArray)] 37 (0, 0)) (by (with_reducible repeat (first | refine blk_drewN ?_ _ | refine blk_drew ?_ | refine blk_alloc ?_ _)); exact BK114.out) hg (Kd.S_ne HO_115002.out BK114.out (by decide))); have n2_ := Aside0.mk (hb); have n3_ := Aside0.mk (ho); clear BK113; clear BK114; clear HB; clear HO_115002; clear HO118; have BK113 := n0_; have BK114 := n1_; have HB := n2_; have HO121 := n3_; clear n0_ n1_ n2_ n3_; clear ho hb hg hat; obtain ⟨Ao18, co18, eo18⟩ := Kd.S_slice HO121.out; subst eo18; have hcz19_0 : w16.cell? ⟨gb114, 0, none⟩ = some (.int .i64 1) := (blk_cell BK114.out 0).trans rfl; have hcz19_1 : w16.cell? ⟨gb114, 1, none⟩ = some (.int .u8 a0) := (blk_cell BK114.out 1).trans rfl; have hcz19_2 : w16.cell? ⟨gb114, 2, none⟩ = some (u115002) := (blk_cell BK114.out 2).trans rfl; have hcz19_3 : w16.cell? ⟨gb114, 3, none⟩ = some (.string (⟨#[]⟩ : ByteArray)) := (blk_cell BK114.out 3).trans rfl; have hcz19_4 : w16.cell? ⟨gb114, 4, none⟩ = some (.int .u8 a1) := (blk_cell BK114.out 4).trans rfl; have hcz19_5 : w16.cell? ⟨gb114, 5, none⟩ = some (.string (⟨#[]⟩ : ByteArray)) := (blk_cell BK114.out 5).trans rfl; have hfz19_0 := blk_frozen BK114.out 0; have hfz19_1 := blk_frozen BK114.out 1; have hfz19_2 := blk_frozen BK114.out 2; have hfz19_3 := blk_frozen BK114.out 3; have hfz19_4 := blk_frozen BK114.out 4; have hfz19_5 := blk_frozen BK114.out 5))
              go_roundg k1
              case measure => have := HK1.out; omega
              case rel => exact ⟨(wrap64 (x15_1 + 1)), (y119), (.slice Ao18 y119.length co18), (by first | rfl | (simp; done) | (simp [*]; done)), H', ⟨by have := HK1.out; omega⟩, ⟨by (with_reducible repeat (first | apply Kd.S_alloc | apply Kd.S_drewN | apply Kd.S_drew)); exact Kd.S_mono (Kd.S_far (p := ⟨gb114, 2, none⟩) (Kd.S_types HO121.out BK114.out (by decide)) (fun _ hk => hk.2) (.slice Ao18 y119.length co18)) (fun _ hk => trivial)⟩, ⟨by (with_reducible repeat (first | refine blk_drewN ?_ _ | refine blk_drew ?_ | refine blk_alloc ?_ _)); refine blk_far ?_ NB113_114.out _; (with_reducible repeat (first | refine blk_drewN ?_ _ | refine blk_drew ?_ | refine blk_alloc ?_ _)); exact BK113.out⟩, ⟨by (with_reducible repeat (first | refine blk_drewN ?_ _ | refine blk_drew ?_ | refine blk_alloc ?_ _)); refine blk_put (cs := #[.int .i64 1, .int .u8 a0, u115002, .string (⟨#[]⟩ : ByteArray), .int .u8 a1, .string (⟨#[]⟩ : ByteArray)]) ?_ 2 _ rfl; (with_reducible repeat (first | refine blk_drewN ?_ _ | refine blk_drew ?_ | refine blk_alloc ?_ _)); exact BK114.out⟩, ⟨by repeat (first | (with_reducible first | exact HB.out | apply below_alloc | apply pw_below_drewN | apply below_drew1 | refine below_set ?_ GE113.out | refine below_set ?_ GE114.out) | exact HB.out)⟩⟩
            · rw [if_neg c11] at H
              exact absurd H (by simp)
          · rw [if_neg c10] at H
            exact absurd H (by simp)
        · rw [if_neg c9] at H
          exact absurd H (by simp)
      · rw [if_neg c8] at H
        have c8b0 : decide (x15_1 < (l2.length : Int)) = false := decide_eq_false c8
        clear c8
        simp only [Option.some.injEq, Prod.mk.injEq] at H
        obtain ⟨rfl, rfl, rfl, rfl, rfl, rfl⟩ := H
        have hnb20 := NB114_113.out
        have hnc20 := NB113_114.out
        have hcz21_0 : wr.cell? ⟨gb114, 0, none⟩ = some (.int .i64 1) := (blk_cell BK114.out 0).trans rfl
        have hcz21_1 : wr.cell? ⟨gb114, 1, none⟩ = some (.int .u8 a0) := (blk_cell BK114.out 1).trans rfl
        have hcz21_2 : wr.cell? ⟨gb114, 2, none⟩ = some (u115002) := (blk_cell BK114.out 2).trans rfl
        have hcz21_3 : wr.cell? ⟨gb114, 3, none⟩ = some (.string (⟨#[]⟩ : ByteArray)) := (blk_cell BK114.out 3).trans rfl
        have hcz21_4 : wr.cell? ⟨gb114, 4, none⟩ = some (.int .u8 a1) := (blk_cell BK114.out 4).trans rfl
        have hcz21_5 : wr.cell? ⟨gb114, 5, none⟩ = some (.string (⟨#[]⟩ : ByteArray)) := (blk_cell BK114.out 5).trans rfl
        have hfz21_0 := blk_frozen BK114.out 0
        have hfz21_1 := blk_frozen BK114.out 1
        have hfz21_2 := blk_frozen BK114.out 2
        have hfz21_3 := blk_frozen BK114.out 3
        have hfz21_4 := blk_frozen BK114.out 4
        have hfz21_5 := blk_frozen BK114.out 5
        have hcz22_0 : wr.cell? ⟨gb113, 0, none⟩ = some (.int .i64 0) := (blk_cell BK113.out 0).trans rfl
        have hcz22_1 : wr.cell? ⟨gb113, 1, none⟩ = some (.int .u8 0) := (blk_cell BK113.out 1).trans rfl
        have hcz22_2 : wr.cell? ⟨gb113, 2, none⟩ = some (.slice none 0 0) := (blk_cell BK113.out 2).trans rfl
        have hcz22_3 : wr.cell? ⟨gb113, 3, none⟩ = some (.string (⟨#[]⟩ : ByteArray)) := (blk_cell BK113.out 3).trans rfl
        have hcz22_4 : wr.cell? ⟨gb113, 4, none⟩ = some (.int .u8 0) := (blk_cell BK113.out 4).trans rfl
        have hcz22_5 : wr.cell? ⟨gb113, 5, none⟩ = some (.string (⟨#[]⟩ : ByteArray)) := (blk_cell BK113.out 5).trans rfl
        have hfz22_0 := blk_frozen BK113.out 0
        have hfz22_1 := blk_frozen BK113.out 1
        have hfz22_2 := blk_frozen BK113.out 2
        have hfz22_3 := blk_frozen BK113.out 3
        have hfz22_4 := blk_frozen BK113.out 4
        have hfz22_5 := blk_frozen BK113.out 5
        obtain ⟨Ao23, co23, eo23⟩ := Kd.S_slice HO_115002.out
        subst eo23
        go_wp2
        refine bodyPost_ret (results_cell_row rfl _ _ gb113 37 #[.int .i64 1, .int .u8 a0, .slice Ao23 x115002_1.length co23, .string (⟨#[]⟩ : ByteArray), .int .u8 a1, .string (⟨#[]⟩ : ByteArray)] (0, 0) _ rfl (by (with_reducible repeat (first | refine blk_drewN ?_ _ | refine blk_drew ?_ | refine blk_alloc ?_ _)); refine blk_put (cs := #[.int .i64 1, .int .u8 a0, .slice Ao23 x115002_1.length co23, .string (⟨#[]⟩ : ByteArray), .int .u8 a1, .string (⟨#[]⟩ : ByteArray)]) ?_ 5 _ rfl; (with_reducible repeat (first | refine blk_drewN ?_ _ | refine blk_drew ?_ | refine blk_alloc ?_ _)); refine blk_put (cs := #[.int .i64 1, .int .u8 a0, .slice Ao23 x115002_1.length co23, .string (⟨#[]⟩ : ByteArray), .int .u8 0, .string (⟨#[]⟩ : ByteArray)]) ?_ 4 _ rfl; (with_reducible repeat (first | refine blk_drewN ?_ _ | refine blk_drew ?_ | refine blk_alloc ?_ _)); refine blk_put (cs := #[.int .i64 1, .int .u8 a0, .slice Ao23 x115002_1.length co23, .string (⟨#[]⟩ : ByteArray), .int .u8 0, .string (⟨#[]⟩ : ByteArray)]) ?_ 3 _ rfl; (with_reducible repeat (first | refine blk_drewN ?_ _ | refine blk_drew ?_ | refine blk_alloc ?_ _)); refine blk_put (cs := #[.int .i64 1, .int .u8 a0, .slice none 0 0, .string (⟨#[]⟩ : ByteArray), .int .u8 0, .string (⟨#[]⟩ : ByteArray)]) ?_ 2 _ rfl; (with_reducible repeat (first | refine blk_drewN ?_ _ | refine blk_drew ?_ | refine blk_alloc ?_ _)); refine blk_put (cs := #[.int .i64 1, .int .u8 0, .slice none 0 0, .string (⟨#[]⟩ : ByteArray), .int .u8 0, .string (⟨#[]⟩ : ByteArray)]) ?_ 1 _ rfl; (with_reducible repeat (first | refine blk_drewN ?_ _ | refine blk_drew ?_ | refine blk_alloc ?_ _)); refine blk_put (cs := #[.int .i64 0, .int .u8 0, .slice none 0 0, .string (⟨#[]⟩ : ByteArray), .int .u8 0, .string (⟨#[]⟩ : ByteArray)]) ?_ 0 _ rfl; (with_reducible repeat (first | refine blk_drewN ?_ _ | refine blk_drew ?_ | refine blk_alloc ?_ _)); exact BK113.out) Tryz.underlying37 rfl (by kernel_rfl)) rfl ?_
        exact ⟨_, by first | rfl | (simp [errW_none, errW_some] <;> rfl) | (simp [*, errW_none, errW_some] <;> rfl), by (with_reducible repeat (first | apply Kd.S_alloc | apply Kd.S_drewN | apply Kd.S_drew)); exact Kd.S_mono (Kd.S_far (p := ⟨gb113, 5, none⟩) (Kd.S_far (p := ⟨gb113, 4, none⟩) (Kd.S_far (p := ⟨gb113, 3, none⟩) (Kd.S_far (p := ⟨gb113, 2, none⟩) (Kd.S_far (p := ⟨gb113, 1, none⟩) (Kd.S_far (p := ⟨gb113, 0, none⟩) (Kd.S_types HO_115002.out BK113.out (by decide)) (fun _ hk => hk.2) (.int .i64 1)) (fun _ hk => hk.2) (.int .u8 a0)) (fun _ hk => hk.2) (.slice Ao23 x115002_1.length co23)) (fun _ hk => hk.2) (.string (⟨#[]⟩ : ByteArray))) (fun _ hk => hk.2) (.int .u8 a1)) (fun _ hk => hk.2) (.string (⟨#[]⟩ : ByteArray))) (fun _ hk => trivial), by repeat (first | (with_reducible first | exact HB.out | apply below_alloc | apply pw_below_drewN | apply below_drew1 | refine below_set ?_ GE113.out | refine below_set ?_ GE114.out) | exact HB.out)⟩
end Go.Proofs.YtdmifbffamckbaaGreatDoor.G
end
section
namespace Go.Proofs.YtdmifbffamckbaaGreatDoor
set_option linter.unusedVariables false
set_option linter.unusedSimpArgs false
open Go.RowKit Kit Go.Proofs.YtdmifbffamckbaaGreatDoorW.PrintWords
abbrev SeqAt (w : World) (A : Option Addr) (l : List (List Int)) : Prop := Kd.C (Kd.slice 3 (Kd.int .i64)) w A l.length l
theorem arg_f (k p f : Int) (i dt : ByteArray) (l : List (List Int)) (j : Nat) (d : Int) : G.wire_Arg.f k p l i f dt (j : Int) d = some (argI l j d) := by
  unfold G.wire_Arg.f argI
  rw [if_neg (by omega)]
  by_cases h : j < l.length
  · rw [if_neg (by omega), if_pos (by omega), if_pos (by omega), List.getElem?_eq_getElem h]
    have e : G.rd_L1 l (j : Int) = l[j] := by simp [G.rd_L1, h]
    rw [e]
    cases hr : l[j] with
    | nil => simp [numOf]
    | cons x t =>
      rw [if_neg (by simp only [List.length_cons]; omega), if_pos (by simp only [List.length_cons]; omega)]
      have e2 : rd (x :: t) 0 = x := by simp [rd]
      rw [e2]
      show _ = some (if x < 0 then d else x)
      split <;> rfl
  · rw [if_pos (by omega), List.getElem?_eq_none (by omega)]
theorem arg_calls (k p f : Int) (i dt : ByteArray) (A : Option Addr) (c : Nat) (l : List (List Int)) (hc : l.length ≤ c) (j : Nat) (d : Int) (w : World) (hr : SeqAt w A l) :
    Calls Tryz.prog 86 #[.agg #[.int .i64 k, .int .u8 p, .slice A l.length c, .string i, .int .u8 f, .string dt], .int .i64 (j : Int), .int .i64 d] w fun e w' => e = .returned (.int .i64 (argI l j d)) ∧ Below w.heap.size w w' :=
  G.wire_Arg.calls k p A c l i f dt j d _ w hr hc (arg_f k p f i dt l j d)
attribute [local irreducible] wpList Calls wpQuiet
theorem each_calls (k p f : Int) (i dt : ByteArray) (qp : Option Addr) (qn qc : Nat) (w : World) : Calls Tryz.prog 81 #[.agg #[.int .i64 k, .int .u8 p, .slice qp qn qc, .string i, .int .u8 f, .string dt]] w fun e w' => ∃ gD, e = .returned (.func (.func 122) #[] #[.pointer (some ⟨gD, 0, none⟩)]) ∧ Mine w w' [(gD, IsCells [.int .i64 k, .int .u8 p, .slice qp qn qc, .string i, .int .u8 f, .string dt] 37)] := by
  have HO := Mine.start w
  go_enter Tryz.func81, Tryz.ntmps81
  go_wp2_with (first
    | ((with_reducible refine gateAt (N := 1) rfl ?_); refine own_boxF (T := 37) (cs := [.int .i64 k, .int .u8 p, .slice qp qn qc, .string i, .int .u8 f, .string dt]) HO rfl rfl rfl ?_; clear HO; intro gD wN hggD HO; (try simp only [Act.put, List.setIfInBounds_toArray, List.set_cons_zero, List.set_cons_succ])))
  go_ret
  exact ⟨gD, rfl, HO⟩
end Go.Proofs.YtdmifbffamckbaaGreatDoor
end
section
namespace Go.Proofs.YtdmifbffamckbaaGreatDoor
set_option linter.unusedVariables false
set_option linter.unusedSimpArgs false
open Go.RowKit Kit Go.Proofs.YtdmifbffamckbaaGreatDoorW.PrintWords
theorem nums_at {l : List (List Int)} {j : Nat} (h : j < l.length) : (nums l).drop j = argI l j (-1) :: (nums l).drop (j + 1) := by
  have hn : j < (nums l).length := by simpa [nums] using h
  rw [List.drop_eq_getElem_cons hn]
  congr 1
  simp [nums, argI, List.getElem?_eq_getElem h]
theorem mine_cellAt {W0 w : World} {bs : Res} {g : Nat} {cs : List Value} {T : TypeId} (h : Mine W0 w bs) (hm : (g, IsCells cs T) ∈ bs) {j : Nat} {v : Value} (hv : cs[j]? = some v) : w.cell? ⟨g, j, none⟩ = some v := by
  simp [World.cell?, h.at hm, hv]
theorem meas_n {n k : Nat} (h : wrap64 ((k : Int) + 1) = ((k + 1 : Nat) : Int)) (hk : k < n) : n - (intOf (.int .i64 (wrap64 ((k : Int) + 1)))).toNat < n - (intOf (.int .i64 (k : Int))).toNat := by
  rw [h]
  show n - (((k + 1 : Nat) : Int)).toNat < n - ((k : Int)).toNat
  omega
attribute [local irreducible] wpList Calls wpQuiet
set_option maxRecDepth 100000 in
set_option maxHeartbeats 8000000 in
theorem each_yields (W0 : World) (k p f : Int) (i dt : ByteArray) (A : Option Addr) (c : Nat) (l : List (List Int)) (hc : l.length ≤ c) (h63 : l.length ≤ 4611686018427387904) (hr : SeqAt W0 A l) (gD : Nat) :
    Iterates Tryz.prog 122 #[.pointer (some ⟨gD, 0, none⟩)] (fun x : Int => #[.int .i64 x]) (nums l) W0 [(gD, IsCells [.int .i64 k, .int .u8 p, .slice A l.length c, .string i, .int .u8 f, .string dt] 37)] := by
  intro n yl Φ Ψ W bs hM h0 hY
  have hfT : Fence.wide.fn 86 := trivial
  have hdd : ∀ k : Nat, (Fence.wide.depth.isSome = true → 1 ≤ k) := fun k h => by cases h
  refine callsIn_of_wp Tryz.func122 rfl trivial ?_ rfl
  simp only [Tryz.ntmps122, List.size_toArray, List.length_cons, List.length_nil, Nat.reduceAdd, Nat.reduceSub, Array.replicate_succ, Array.replicate_zero, List.push_toArray, List.append_toArray, List.nil_append, List.cons_append]
  have HO := hM.perm List.perm_append_comm
  have HO : Mine W0 W ((gD, IsCells [.int .i64 k, .int .u8 p, .slice A l.length c, .string i, .int .u8 f, .string dt] 37) :: bs) := HO
  clear hM
  have hP := mine_cellAt HO (g := gD) (j := 2) (.head _) rfl
  gi_wp2
  gi_loopw [7] (fun iv wr => ∃ (j : Nat) (pre : List Int) (bs' : Res), j ≤ l.length ∧ iv = .int .i64 (j : Int) ∧ nums l = pre ++ (nums l).drop j ∧ Φ pre bs' ∧ Mine W0 wr ((gD, IsCells [.int .i64 k, .int .u8 p, .slice A l.length c, .string i, .int .u8 f, .string dt] 37) :: bs')) (fun iv _ => l.length - (intOf iv).toNat)
  case atStart => exact ⟨0, [], bs, Nat.zero_le _, rfl, rfl, h0, HO⟩
  case round =>
    obtain ⟨j, pre, bs', hj, rfl, hxs, hΦ, HO2⟩ := hrel
    clear HO hP
    by_cases hlt : j < l.length
    · have d1 : decide ((j : Int) < (l.length : Int)) = true := decide_eq_true (by omega)
      rw [nums_at hlt] at hxs
      have HXS := Lib.hid hxs
      have HJ := Lib.hid hlt
      have HS := Lib.hid (show wrap64 ((j : Int) + 1) = ((j + 1 : Nat) : Int) by unfold wrap64; omega)
      have HAR := Lib.hid fun W (hW : Below W0.heap.size W0 W) => arg_calls k p f i dt A c l hc j (-1) W (Kd.C_below hr hW)
      have HYR := Lib.hid fun (W : World) (h : Mine W0 W (bs' ++ [(gD, IsCells [.int .i64 k, .int .u8 p, .slice A l.length c, .string i, .int .u8 f, .string dt] 37)])) => hY (n - 1) pre (argI l j (-1)) ((nums l).drop (j + 1)) W bs' _ hxs hΦ h
      have HO := HO2
      clear HO2 hxs hΦ hlt hj hY h0 hc h63 hr
      gi_wp2_with (first
        | ((with_reducible refine gateIn ?_); refine own_loadIn (T := 37) HO rfl rfl rfl (.head _) Tryz.isAgg37 Tryz.sizeOf37 (by repeat constructor) ?_; (try simp only [Act.put, List.setIfInBounds_toArray, List.set_cons_zero, List.set_cons_succ]))
        | ((try refine ⟨hdd _, ?_⟩); gi_at_call 86; refine (callsIn_wide.2 (HAR.out _ HO.below)).mono ?_; rintro e w2 ⟨rfl, hb2⟩; have HON := HO.call hb2; clear HO hb2; have HO := HON; clear HON; obtain ⟨fn, tmps, assign, body, hy, hR⟩ := HYR.out _ (HO.perm (List.perm_append_comm (l₁ := [_]))); have HR := Lib.hid hR; clear hR)
        | ((try refine ⟨hdd _, ?_⟩); refine HR.out.mono ?_; rintro e W3 (⟨rfl, bs2, hΦ2, HO3⟩ | ⟨rfl, bs2, hΨ2, HO3⟩)))
      · exact ⟨⟨j + 1, pre ++ [argI l j (-1)], bs2, HJ.out, congrArg (Value.int .i64) HS.out, by rw [List.append_assoc]; exact HXS.out, hΦ2, HO3.perm List.perm_append_comm⟩, meas_n HS.out HJ.out⟩
      · refine bodyPost_ret (results_none rfl _ _ _) rfl ?_
        exact ⟨⟨_, rfl⟩, .inr ⟨_, bs2, ⟨(nums l).drop (j + 1), by rw [List.append_assoc]; exact HXS.out.symm⟩, hΨ2, HO3.left⟩⟩
    · obtain rfl : j = l.length := by omega
      have d1 : decide ((l.length : Int) < (l.length : Int)) = false := decide_eq_false (by omega)
      have HXS := Lib.hid hxs
      have HPHI := Lib.hid hΦ
      have HO := HO2
      clear HO2 hxs hΦ hlt hj hY h0 hc h63 hr
      gi_wp2
      go_end0
      refine ⟨⟨_, rfl⟩, .inl ⟨bs', ?_, HO.less (.cons _ (List.Sublist.refl _))⟩⟩
      have := HXS.out
      rw [List.drop_of_length_le (by simp [nums]), List.append_nil] at this
      rw [this]
      exact HPHI.out
end Go.Proofs.YtdmifbffamckbaaGreatDoor
end
section
namespace Go.Proofs.YtdmifbffamckbaaGreatDoor
set_option linter.unusedVariables false
set_option linter.unusedSimpArgs false
open Go.RowKit Kit Go.Shelf Go.Proofs.YtdmifbffamckbaaGreatDoorW.PrintWords
section
variable {P : Program} {l : List Oper} {s i : Nat} {os o : Oper} {W0 w0 : World} {bs bs' : Res} {fs fs' : List Fact} {vals : Nat → Value} {A : Act}
theorem owes_before (h1 : i ≠ s) (h2 : waits l.toArray os i = true) (h : ∀ w, (∀ j, waits l.toArray o j = true → Facts fs j (vals j) w) → Mine W0 w bs → Below w0.heap.size w0 w → StepOk P l.toArray o A w fun v w' => Below w.heap.size w w' ∧ Facts fs i v w') : Owes P l s os W0 w0 bs bs' fs fs' vals A i o := by
  unfold Owes; rw [if_neg h1, if_pos h2]; exact h
theorem owes_after (h1 : i ≠ s) (h2 : waits l.toArray os i = false) (h : ∀ w, (∀ j, waits l.toArray o j = true → Facts fs j (vals j) w ∨ Facts fs' j (vals j) w) → StepOk P l.toArray o A w fun v w' => w' = w ∧ Facts fs i v w ∧ Facts fs' i v w) : Owes P l s os W0 w0 bs bs' fs fs' vals A i o := by
  unfold Owes; rw [if_neg h1, if_neg (by rw [h2]; decide)]; exact h
theorem owes_store (h : ∀ w, (∀ j, waits l.toArray o j = true → Facts fs j (vals j) w) → Mine W0 w bs → Below w0.heap.size w0 w → StepOk P l.toArray o A w fun v w' => Mine W0 w' bs' ∧ Facts fs' s v w' ∧ ∀ j, j ≠ s → Facts fs j (vals j) w → Facts fs' j (vals j) w') : Owes P l s os W0 w0 bs bs' fs fs' vals A s o := by
  unfold Owes; rw [if_pos rfl]; exact h
end
def stM (m : Md) (rest : List Value) : List Value := .bool m.cursor :: .bool m.keypad :: .bool m.back :: .bool m.focus :: .bool m.paste :: .bool m.lock :: .bool m.line :: .int .i64 m.mouse :: .int .i64 m.coding :: .int .i64 m.other :: rest
def setAll (pr on : Bool) (m : Md) (l : List Int) : Md := l.foldl (fun m n => (setM m pr n on).1) m
attribute [local irreducible] wpList Calls wpQuiet
attribute [local go_sem] Oper.semAt_some
set_option maxRecDepth 100000 in
set_option maxHeartbeats 8000000 in
theorem set_ok (w : World) (m : Md) (rest : List Value) (hrest : rest.length = 14) (sc : List Value) (k p f : Int) (i dt : ByteArray) (A : Option Addr) (c : Nat) (l : List (List Int)) (hc : l.length ≤ c) (h63 : l.length ≤ 4611686018427387904) (hr : SeqAt w A l) :
    DeedOk w (stM m rest) (stM (setAll (p == 63) (f == 104) m (nums l)) rest) (.plain 46) (.agg sc.toArray) (.agg #[.int .i64 k, .int .u8 p, .slice A l.length c, .string i, .int .u8 f, .string dt]) (fun v R => v = .slice none 0 0) := by
  intro gs bs v W hv HO
  obtain rfl : v = .func (.func 46) #[] #[] := hv
  refine ⟨_, _, rfl, enters_of Tryz.func46 (by kernel_rfl) rfl, ?_⟩
  rw [Array.append_empty]
  refine (callsIn_wide (n := 5)).1 ?_
  refine callsIn_of_wp_marks Tryz.func46 rfl trivial ?_ rfl
  simp only [Tryz.ntmps46, List.size_toArray, List.length_cons, List.length_nil, Nat.reduceAdd, Nat.reduceSub, Array.replicate_succ, Array.replicate_zero, List.push_toArray, List.append_toArray, List.nil_append, List.cons_append]
  refine wpIn_seq ?_
  refine wideRegion ?_
  go_wp2_with (first
    | ((with_reducible refine gateAt (N := 3) rfl ?_); refine own_boxF (T := 71) (cs := [.pointer (some ⟨gs, 0, none⟩)]) HO rfl rfl rfl ?_; clear HO; intro gp wN hggp HO; (try simp only [Act.put, List.setIfInBounds_toArray, List.set_cons_zero, List.set_cons_succ]))
    | ((with_reducible refine gateAt (N := 4) rfl ?_); refine own_boxF (T := 34) (cs := sc) HO rfl rfl rfl ?_; clear HO; intro gf wN hggf HO; (try simp only [Act.put, List.setIfInBounds_toArray, List.set_cons_zero, List.set_cons_succ]))
    | ((with_reducible refine gateAt (N := 5) rfl ?_); refine own_boxF (T := 37) (cs := [.int .i64 k, .int .u8 p, .slice A l.length c, .string i, .int .u8 f, .string dt]) HO rfl rfl rfl ?_; clear HO; intro gq wN hggq HO; (try simp only [Act.put, List.setIfInBounds_toArray, List.set_cons_zero, List.set_cons_succ])))
  refine wpIn_seq ?_
  refine wpIn_seq ?_
  refine wideRegion ?_
  go_wp2_with (first
    | (go_at_call 81; refine (each_calls k p f i dt A l.length c _).mono ?_; rintro eN wN ⟨gD, rfl, HM⟩; have HON := HO.join HM; clear HO HM; have HO := HON; clear HON)
    | (first
      | ((with_reducible refine gate ?_); (first
      | ((refine own_load (T := 37) HO rfl rfl rfl (by first | exact .head _ | exact .tail _ (.head _) | exact .tail _ (.tail _ (.head _)) | exact .tail _ (.tail _ (.tail _ (.head _))) | exact .tail _ (.tail _ (.tail _ (.tail _ (.head _)))) | exact .tail _ (.tail _ (.tail _ (.tail _ (.tail _ (.head _)))))) Tryz.isAgg37 Tryz.sizeOf37 (by repeat constructor) ?_); (try simp only [Act.put, List.setIfInBounds_toArray, List.set_cons_zero, List.set_cons_succ]))
      | ((refine own_store (T := 37) HO rfl rfl rfl rfl (by first | exact .here | exact .there (.here) | exact .there (.there (.here)) | exact .there (.there (.there (.here))) | exact .there (.there (.there (.there (.here)))) | exact .there (.there (.there (.there (.there (.here)))))) Tryz.sizeOf37 (by repeat constructor) rfl ?_); clear HO; intro wN HO; (try simp only [Act.put, List.setIfInBounds_toArray, List.set_cons_zero, List.set_cons_succ]))))))
  refine wpIn_block ?_
  have HY := Lib.hid (each_yields w k p f i dt A c l hc h63 hr gD)
  obtain ⟨pr, hpr⟩ : ∃ pr, (p == 63) = pr := ⟨_, rfl⟩
  obtain ⟨on, hon⟩ : ∃ on, (f == 104) = on := ⟨_, rfl⟩
  rw [hpr, hon]
  have HO2 : Mine w wN (((gq, IsCells [.int .i64 k, .int .u8 p, .slice A l.length c, .string i, .int .u8 f, .string dt] 37) :: (gf, IsCells sc 34) :: (gp, IsCells [.pointer (some ⟨gs, 0, none⟩)] 71) :: (gs, IsCells (stM m rest) 44) :: bs) ++ [(gD, IsCells [.int .i64 k, .int .u8 p, .slice A l.length c, .string i, .int .u8 f, .string dt] 37)]) := HO
  clear HO hc h63 hr
  refine wpIn_range_mine (gf := 122) (lb := #[.pointer (some ⟨gD, 0, none⟩)]) rfl (enters_of Tryz.func122 (by kernel_rfl) rfl) HY.out (fun _ => rfl)
    (fun pre b2 => b2 = (((gq, IsCells [.int .i64 k, .int .u8 p, .slice A l.length c, .string i, .int .u8 f, .string dt] 37) :: (gf, IsCells sc 34) :: (gp, IsCells [.pointer (some ⟨gs, 0, none⟩)] 71) :: (gs, IsCells (stM (setAll pr on m pre) rest) 44) :: bs))) (fun c pre b2 => False) HO2 rfl
    (fun x => { tmps := #[.pointer (some ⟨gs, 0, none⟩), .agg sc.toArray, .agg #[.int .i64 k, .int .u8 p, .slice A l.length c, .string i, .int .u8 f, .string dt], .pointer (some ⟨gp, 0, none⟩), .pointer (some ⟨gf, 0, none⟩), .pointer (some ⟨gq, 0, none⟩), .slice none 0 0, .int .i64 x, .agg #[.int .i64 k, .int .u8 p, .slice A l.length c, .string i, .int .u8 f, .string dt], .func (.func 122) #[] #[.pointer (some ⟨gD, 0, none⟩)], .int .i64 x, undef, undef, undef, undef, undef, undef, undef, undef, undef, undef, undef, undef, undef, undef, undef, undef, undef, undef], defers := [] }) ?assign ?body ?done ?stop
  case assign =>
    intro m' l2 x W3 K hK
    gi_wp2
    exact hK
  case body =>
    rintro m' l2 pre x post W2 bs2 fr hxs rfl HM
    obtain ⟨F, hF⟩ : ∃ F, setAll pr on m pre = F := ⟨_, rfl⟩
    obtain ⟨⟨r, ok⟩, hrr⟩ : ∃ r, setM F pr x on = r := ⟨_, rfl⟩
    have hst : setAll pr on m (pre ++ [x]) = r := by
      unfold setAll at hF ⊢
      rw [List.foldl_append, hF]
      show (setM F pr x on).1 = r
      rw [hrr]
    rw [hF] at HM
    have HO : Mine w W2 (((gq, IsCells [.int .i64 k, .int .u8 p, .slice A l.length c, .string i, .int .u8 f, .string dt] 37) :: (gf, IsCells sc 34) :: (gp, IsCells [.pointer (some ⟨gs, 0, none⟩)] 71) :: (gs, IsCells (.bool F.cursor :: .bool F.keypad :: .bool F.back :: .bool F.focus :: .bool F.paste :: .bool F.lock :: .bool F.line :: .int .i64 F.mouse :: .int .i64 F.coding :: .int .i64 F.other :: rest) 44) :: bs) ++ fr) := HM
    have HSC := Lib.hid fun W => set_calls F pr x on W
    have HRR := Lib.hid hrr
    have HST := Lib.hid hst
    clear HM hF hrr hst HO2 hxs
    refine wpIn_block ?_
    refine region_putIn rfl 18 _ [fIs (.pointer (some ⟨gs, 0, none⟩)), fIs (.pointer (some ⟨gs, 0, none⟩)), fIs (.pointer (some ⟨gs, 0, none⟩)), fIs (.pointer (some ⟨gs, 0, none⟩)), fIs (F.v), fIs (.pointer (some ⟨gq, 1, none⟩)), fIs (.int .u8 p), fIs (.bool pr), fIs (.int .i64 x), fIs (.pointer (some ⟨gq, 4, none⟩)), fIs (.int .u8 f), fIs (.bool on), fIs (.tuple #[r.v, .bool ok]), fIs (.tuple #[r.v, .bool ok]), fIs (r.v), fIs (.bool ok), fIs (.pointer (some ⟨gs, 0, none⟩)), fIs (.pointer (some ⟨gs, 0, none⟩))] ([fIs (.pointer (some ⟨gs, 0, none⟩)), fIs (.pointer (some ⟨gs, 0, none⟩)), fIs (.pointer (some ⟨gs, 0, none⟩)), fIs (.pointer (some ⟨gs, 0, none⟩)), fIs (F.v), fIs (.pointer (some ⟨gq, 1, none⟩)), fIs (.int .u8 p), fIs (.bool pr), fIs (.int .i64 x), fIs (.pointer (some ⟨gq, 4, none⟩)), fIs (.int .u8 f), fIs (.bool on), fIs (.tuple #[r.v, .bool ok]), fIs (.tuple #[r.v, .bool ok]), fIs (r.v), fIs (.bool ok), fIs (.pointer (some ⟨gs, 0, none⟩)), fIs (.pointer (some ⟨gs, 0, none⟩))] ++ [fun _ _ => True]) HO (by kernel_rfl) (by kernel_rfl) rfl (stays_cons (Stays.fIs _) (stays_cons (Stays.fIs _) (stays_cons (Stays.fIs _) (stays_cons (Stays.fIs _) (stays_cons (Stays.fIs _) (stays_cons (Stays.fIs _) (stays_cons (Stays.fIs _) (stays_cons (Stays.fIs _) (stays_cons (Stays.fIs _) (stays_cons (Stays.fIs _) (stays_cons (Stays.fIs _) (stays_cons (Stays.fIs _) (stays_cons (Stays.fIs _) (stays_cons (Stays.fIs _) (stays_cons (Stays.fIs _) (stays_cons (Stays.fIs _) (stays_cons (Stays.fIs _) (stays_cons (Stays.fIs _) stays_nil)))))))))))))))))) (stays_cons (Stays.fIs _) (stays_cons (Stays.fIs _) (stays_cons (Stays.fIs _) (stays_cons (Stays.fIs _) (stays_cons (Stays.fIs _) (stays_cons (Stays.fIs _) (stays_cons (Stays.fIs _) (stays_cons (Stays.fIs _) (stays_cons (Stays.fIs _) (stays_cons (Stays.fIs _) (stays_cons (Stays.fIs _) (stays_cons (Stays.fIs _) (stays_cons (Stays.fIs _) (stays_cons (Stays.fIs _) (stays_cons (Stays.fIs _) (stays_cons (Stays.fIs _) (stays_cons (Stays.fIs _) (stays_cons (Stays.fIs _) (stays_cons (fun _ _ _ h _ => h) stays_nil))))))))))))))))))) (bs' := ((gq, IsCells [.int .i64 k, .int .u8 p, .slice A l.length c, .string i, .int .u8 f, .string dt] 37) :: (gf, IsCells sc 34) :: (gp, IsCells [.pointer (some ⟨gs, 0, none⟩)] 71) :: (gs, IsCells (.bool r.cursor :: .bool r.keypad :: .bool r.back :: .bool r.focus :: .bool r.paste :: .bool r.lock :: .bool r.line :: .int .i64 r.mouse :: .int .i64 r.coding :: .int .i64 r.other :: rest) 44) :: bs) ++ fr) ?_
    intro vals A hA
    simp [fillL, dstOf, List.range, List.range.loop, Act.put] at hA
    subst hA
    refine ⟨⟨?_, ?_, ?_, ?_, ?_, ?_, ?_, ?_, ?_, ?_, ?_, ?_, ?_, ?_, ?_, ?_, ?_, ?_, ?_, trivial⟩, ?_⟩
    case refine_1 =>
      refine owes_before (by decide) (by kernel_rfl) ?_
      intro W3 hd hM hb0
      exact st_load1 hM rfl rfl rfl (.tail _ (.tail _ (.head _))) Tryz.isAgg71 rfl rfl
    case refine_2 =>
      refine owes_before (by decide) (by kernel_rfl) ?_
      intro W3 hd hM hb0
      exact st_load1 hM rfl rfl rfl (.tail _ (.tail _ (.head _))) Tryz.isAgg71 rfl rfl
    case refine_3 =>
      refine owes_before (by decide) (by kernel_rfl) ?_
      intro W3 hd hM hb0
      have v1 : vals 1 = .pointer (some ⟨gs, 0, none⟩) := hd 1 (by kernel_rfl)
      rw [v1]
      exact st_val rfl (by simp only [execOp]; first | (go_simp; done) | (go_simp; rfl)) rfl
    case refine_4 =>
      refine owes_before (by decide) (by kernel_rfl) ?_
      intro W3 hd hM hb0
      have v2 : vals 2 = .pointer (some ⟨gs, 0, none⟩) := hd 2 (by kernel_rfl)
      rw [v2]
      exact st_val rfl (by simp only [execOp]; first | (go_simp; done) | (go_simp; rfl)) rfl
    case refine_5 =>
      refine owes_before (by decide) (by kernel_rfl) ?_
      intro W3 hd hM hb0
      have v3 : vals 3 = .pointer (some ⟨gs, 0, none⟩) := hd 3 (by kernel_rfl)
      rw [v3]
      exact st_load hM rfl rfl rfl (.tail _ (.tail _ (.tail _ (.head _)))) Tryz.isAgg23 Tryz.sizeOf23 (by repeat constructor) rfl
    case refine_6 =>
      refine owes_before (by decide) (by kernel_rfl) ?_
      intro W3 hd hM hb0
      exact st_val rfl (by simp only [execOp]; first | (go_simp; done) | (go_simp; rfl)) rfl
    case refine_7 =>
      refine owes_before (by decide) (by kernel_rfl) ?_
      intro W3 hd hM hb0
      have v5 : vals 5 = .pointer (some ⟨gq, 1, none⟩) := hd 5 (by kernel_rfl)
      rw [v5]
      exact st_load1 hM rfl rfl rfl (.head _) Tryz.isAgg5 rfl rfl
    case refine_8 =>
      refine owes_before (by decide) (by kernel_rfl) ?_
      intro W3 hd hM hb0
      have v6 : vals 6 = .int .u8 p := hd 6 (by kernel_rfl)
      rw [v6]
      exact st_val rfl (by simp only [execOp]; first | (go_simp; done) | (go_simp; rfl)) rfl
    case refine_9 =>
      refine owes_before (by decide) (by kernel_rfl) ?_
      intro W3 hd hM hb0
      exact st_val rfl (by simp only [execOp]; first | (go_simp; done) | (go_simp; rfl)) rfl
    case refine_10 =>
      refine owes_before (by decide) (by kernel_rfl) ?_
      intro W3 hd hM hb0
      exact st_val rfl (by simp only [execOp]; first | (go_simp; done) | (go_simp; rfl)) rfl
    case refine_11 =>
      refine owes_before (by decide) (by kernel_rfl) ?_
      intro W3 hd hM hb0
      have v9 : vals 9 = .pointer (some ⟨gq, 4, none⟩) := hd 9 (by kernel_rfl)
      rw [v9]
      exact st_load1 hM rfl rfl rfl (.head _) Tryz.isAgg5 rfl rfl
    case refine_12 =>
      refine owes_before (by decide) (by kernel_rfl) ?_
      intro W3 hd hM hb0
      have v10 : vals 10 = .int .u8 f := hd 10 (by kernel_rfl)
      rw [v10]
      exact st_val rfl (by simp only [execOp]; first | (go_simp; done) | (go_simp; rfl)) rfl
    case refine_13 =>
      refine owes_before (by decide) (by kernel_rfl) ?_
      intro W3 hd hM hb0
      have v4 : vals 4 = F.v := hd 4 (by kernel_rfl)
      have v7 : vals 7 = .bool pr := hd 7 (by kernel_rfl)
      have v8 : vals 8 = .int .i64 x := hd 8 (by kernel_rfl)
      have v11 : vals 11 = .bool on := hd 11 (by kernel_rfl)
      rw [v4, v7, v8, v11]
      have hq := HSC.out W3
      rw [HRR.out] at hq
      exact st_call rfl (by simp only [execOp]; first | (go_simp; done) | (go_simp; rfl)) hq (by rintro e w' ⟨rfl, hb⟩; exact ⟨_, rfl, hb, rfl⟩)
    case refine_14 =>
      refine owes_before (by decide) (by kernel_rfl) ?_
      intro W3 hd hM hb0
      have v12 : vals 12 = .tuple #[r.v, .bool ok] := hd 12 (by kernel_rfl)
      rw [v12]
      exact st_val rfl (by simp only [execOp]; first | (go_simp; done) | (go_simp; rfl)) rfl
    case refine_15 =>
      refine owes_before (by decide) (by kernel_rfl) ?_
      intro W3 hd hM hb0
      have v13 : vals 13 = .tuple #[r.v, .bool ok] := hd 13 (by kernel_rfl)
      rw [v13]
      exact st_val rfl (by simp only [execOp]; first | (go_simp; done) | (go_simp; rfl)) rfl
    case refine_16 =>
      refine owes_after (by decide) (by kernel_rfl) ?_
      intro W3 hd
      have v13 : vals 13 = .tuple #[r.v, .bool ok] := (hd 13 (by kernel_rfl)).elim id id
      rw [v13]
      exact st_pure rfl (fun w => by simp only [execOp]; first | (go_simp; done) | (go_simp; rfl)) ⟨rfl, rfl⟩
    case refine_17 =>
      refine owes_before (by decide) (by kernel_rfl) ?_
      intro W3 hd hM hb0
      have v0 : vals 0 = .pointer (some ⟨gs, 0, none⟩) := hd 0 (by kernel_rfl)
      rw [v0]
      exact st_val rfl (by simp only [execOp]; first | (go_simp; done) | (go_simp; rfl)) rfl
    case refine_18 =>
      refine owes_before (by decide) (by kernel_rfl) ?_
      intro W3 hd hM hb0
      have v16 : vals 16 = .pointer (some ⟨gs, 0, none⟩) := hd 16 (by kernel_rfl)
      rw [v16]
      exact st_val rfl (by simp only [execOp]; first | (go_simp; done) | (go_simp; rfl)) rfl
    case refine_19 =>
      refine owes_store ?_
      intro W3 hd hM hb0
      have v14 : vals 14 = r.v := hd 14 (by kernel_rfl)
      have v17 : vals 17 = .pointer (some ⟨gs, 0, none⟩) := hd 17 (by kernel_rfl)
      rw [v14, v17]
      refine st_store (T := 23) (vs := [.bool r.cursor, .bool r.keypad, .bool r.back, .bool r.focus, .bool r.paste, .bool r.lock, .bool r.line, .int .i64 r.mouse, .int .i64 r.coding, .int .i64 r.other]) hM rfl rfl rfl rfl (.there (.there (.there .here))) Tryz.sizeOf23 (by repeat constructor) rfl ?_
      intro W4 hM4 hb4 hoth hsz
      refine ⟨hM4, trivial, fun k hk hf => facts_turn (pure_cons (Pure.fIs _) (pure_cons (Pure.fIs _) (pure_cons (Pure.fIs _) (pure_cons (Pure.fIs _) (pure_cons (Pure.fIs _) (pure_cons (Pure.fIs _) (pure_cons (Pure.fIs _) (pure_cons (Pure.fIs _) (pure_cons (Pure.fIs _) (pure_cons (Pure.fIs _) (pure_cons (Pure.fIs _) (pure_cons (Pure.fIs _) (pure_cons (Pure.fIs _) (pure_cons (Pure.fIs _) (pure_cons (Pure.fIs _) (pure_cons (Pure.fIs _) (pure_cons (Pure.fIs _) (pure_cons (Pure.fIs _) pure_nil)))))))))))))))))) hk hf⟩
    case refine_20 =>
      intro W3 hd hM
      refine ⟨_, rfl, ?_⟩
      rw [HST.out]
      exact hM
  case done =>
    rintro D W2 bs2 rfl HM
    have HO : Mine w W2 (((gq, IsCells [.int .i64 k, .int .u8 p, .slice A l.length c, .string i, .int .u8 f, .string dt] 37) :: (gf, IsCells sc 34) :: (gp, IsCells [.pointer (some ⟨gs, 0, none⟩)] 71) :: (gs, IsCells (stM (setAll pr on m (nums l)) rest) 44) :: bs) ++ [(D, IsDef)]) := HM
    clear HM HO2
    gi_wp2
    refine leaves_mark (bs := ((gq, IsCells [.int .i64 k, .int .u8 p, .slice A l.length c, .string i, .int .u8 f, .string dt] 37) :: (gf, IsCells sc 34) :: (gp, IsCells [.pointer (some ⟨gs, 0, none⟩)] 71) :: (gs, IsCells (stM (setAll pr on m (nums l)) rest) 44) :: bs)) HO fun W3 HM3 => ?_
    refine ⟨_, results_tmp Tryz.results46 _ _ _, ?_⟩
    refine ⟨_, [], rfl, ?_, rfl⟩
    rw [List.append_nil]
    exact HM3.less (.cons _ (.cons _ (.cons _ (.refl _))))
  case stop =>
    rintro D cc pre W2 bs2 hpre h HM
    exact h.elim
end Go.Proofs.YtdmifbffamckbaaGreatDoor
end
section
namespace Go.Proofs.YtdmifbffamckbaaGreatDoor.G
open Go.RowKit Go.Proofs.YtdmifbffamckbaaGreatDoorW.PrintWords Go.Proofs.YtdmifbffamckbaaGreatDoorW.PrintLast Go.Proofs.YtdmifbffamckbaaGreatDoorW.PrintMore
attribute [local go_sem] max2_int min2_int max_two min_two max_three min_three max_four min_four
set_option linter.unusedVariables false
set_option linter.unusedSimpArgs false
def report_fact.f (a0 : Int) : Option (Int) := some (mn (mx a0 0) 65535)
set_option maxHeartbeats 8000000 in
set_option maxRecDepth 100000 in
theorem report_fact.calls (a0 : Int) (r : Int) (w : World) (h : report_fact.f a0 = some r) :
    Calls Tryz.prog 98 #[.int .i64 a0] w fun e w' => e = .returned (.int .i64 r) ∧ Below w.heap.size w w' := by
  have HB := Aside0.mk (Below.refl w.heap.size w)
  have H : (some (mn (mx a0 0) 65535)) = some r := h
  clear h
  obtain ⟨ji2, hji2⟩ : ∃ j_ : Int, (mx a0 0) = j_ := ⟨_, rfl⟩
  replace H : (some (mn (ji2) 65535)) = some r := by first | (rw [hji2] at H; exact H) | (simp only [hji2] at H ⊢; exact H)
  (try (have hji2l : 0 ≤ ji2 := by (rw [← hji2]; unfold mx; (repeat' split) <;> omega)))
  (try (have hji2m : 0 ≤ ji2 := by omega))
  have hji2_ : (if a0 < 0 then 0 else a0) = ji2 := hji2
  obtain ⟨ji3, hji3⟩ : ∃ j_ : Int, (mn (ji2) 65535) = j_ := ⟨_, rfl⟩
  replace H : (some ji3) = some r := by first | (rw [hji3] at H; exact H) | (simp only [hji3] at H ⊢; exact H)
  have hji3_ : (if 65535 < (ji2) then 65535 else (ji2)) = ji3 := hji3
  obtain rfl := Option.some.inj H
  go_enter Tryz.func98, Tryz.ntmps98
  go_wp2
  go_ret
  exact ⟨by first | rfl | (simp [errW_none, errW_some] <;> rfl) | (simp only [← hji2, ← hji3]; first | rfl | (simp [errW_none, errW_some] <;> rfl)) | (simp [*, errW_none, errW_some] <;> rfl), by repeat (first | (with_reducible first | exact HB.out | apply below_alloc | apply pw_below_drewN | apply below_drew1) | exact HB.out)⟩
def report_Place.f (k : Nat) (a0_0 : Int) (a0_1 : Int) (a0_2 : Int) (a0_3 : Int) (a0_4 : Int) (a0_5 : Int) (a0_6 : Int) (a0_7 : Int) (a0_8 : Int) (a0_9 : Bool) (a0_10 : Bool) (a0_11 : Bool) (a0_12 : Bool) (a0_13 : Bool) (a0_14 : Bool) (a0_15 : Bool) (a0_16 : Int) (a0_17 : Int) (a0_18 : Int) (a1 : Bool) : Option (Int × Int × (List (List Int)) × ByteArray × Int × ByteArray) := (report_fact.f a0_2).bind fun t124 => ((report_fact.f a0_3).bind fun t125 => (if a1 = true then ((wire_Num.f k 63 82 (([t124, t125, 1] : List Int))).bind fun bt129 => (some (bt129.1, bt129.2.1, bt129.2.2.1, bt129.2.2.2.1, bt129.2.2.2.2.1, bt129.2.2.2.2.2))) else ((wire_Num.f k 0 82 (([t124, t125] : List Int))).bind fun bt140 => (some (bt140.1, bt140.2.1, bt140.2.2.1, bt140.2.2.2.1, bt140.2.2.2.2.1, bt140.2.2.2.2.2)))))
theorem report_Place.mono : ∀ a0 a1 a2 a3 a4 a5 a6 a7 a8 a9 a10 a11 a12 a13 a14 a15 a16 a17 a18 a19 k, LeO (report_Place.f k a0 a1 a2 a3 a4 a5 a6 a7 a8 a9 a10 a11 a12 a13 a14 a15 a16 a17 a18 a19) (report_Place.f (k + 1) a0 a1 a2 a3 a4 a5 a6 a7 a8 a9 a10 a11 a12 a13 a14 a15 a16 a17 a18 a19) := by
  intro a0 a1 a2 a3 a4 a5 a6 a7 a8 a9 a10 a11 a12 a13 a14 a15 a16 a17 a18 a19 k
  unfold report_Place.f
  repeat' first
      | (with_reducible exact wire_Num.mono _ _ _ _)
      | (with_reducible exact LeO.refl _)
      | (with_reducible exact LeO.none _)
      | (with_reducible refine LeO.ite ?_ ?_)
      | (with_reducible refine LeO.bind ?_ (fun _ => ?_))
      | exact wire_Num.mono _ _ _ _
      | exact LeO.none _
      | refine LeO.ite ?_ ?_
      | refine LeO.bind ?_ (fun _ => ?_)
def report_Place.T1 : Bool × List (List Nat × List Nat) := (true, [([], []), ([0], [0]), ([1], [1]), ([], []), ([3], [3]), ([4, 2], [4]), ([2, 5, 0, 1, 2], [2]), ([5, 6, 0, 1, 2, 3, 4, 5, 6], [5])])
def report_Place.B1 : List Nat := [0, 1, 3, 0, 8, 31, 63, 127]
theorem report_Place.tab1 : rtab .any (opsOf Tryz.f89 1) = report_Place.T1 := by kernel_rfl
theorem report_Place.bits1 : waitsOk report_Place.T1.2 report_Place.B1 = true := by kernel_rfl
set_option maxHeartbeats 8000000 in
set_option maxRecDepth 100000 in
theorem report_Place.calls (k : Nat) (a0_0 : Int) (a0_1 : Int) (a0_2 : Int) (a0_3 : Int) (a0_4 : Int) (a0_5 : Int) (a0_6 : Int) (a0_7 : Int) (a0_8 : Int) (a0_9 : Bool) (a0_10 : Bool) (a0_11 : Bool) (a0_12 : Bool) (a0_13 : Bool) (a0_14 : Bool) (a0_15 : Bool) (a0_16 : Int) (a0_17 : Int) (a0_18 : Int) (a1 : Bool) (r1 : Int) (r2 : Int) (r3 : List (List Int)) (r4 : ByteArray) (r5 : Int) (r6 : ByteArray) (w : World) (h : report_Place.f k a0_0 a0_1 a0_2 a0_3 a0_4 a0_5 a0_6 a0_7 a0_8 a0_9 a0_10 a0_11 a0_12 a0_13 a0_14 a0_15 a0_16 a0_17 a0_18 a1 = some (r1, r2, r3, r4, r5, r6)) :
    Calls Tryz.prog 89 #[.agg #[.int .i64 a0_0, .int .i64 a0_1, .int .i64 a0_2, .int .i64 a0_3, .int .i64 a0_4, .int .i64 a0_5, .int .i64 a0_6, .int .i64 a0_7, .int .i64 a0_8, .bool a0_9, .bool a0_10, .bool a0_11, .bool a0_12, .bool a0_13, .bool a0_14, .bool a0_15, .int .i64 a0_16, .int .i64 a0_17, .int .i64 a0_18], .bool a1] w fun e w' => ∃ v2_ : Value, e = .returned (.agg #[.int .i64 r1, .int .u8 r2, v2_, .string r4, .int .u8 r5, .string r6]) ∧ Kd.S (Kd.slice 3 (Kd.int .i64)) 26 w' w.heap.size (fun _ => True) v2_ r3 ∧ Below w.heap.size w w' := by
  have hu34 := Tryz.underlying34
  have hu37 := Tryz.underlying37
  have HB := Aside0.mk (Below.refl w.heap.size w)
  have H : ((report_fact.f a0_2).bind fun t124 => ((report_fact.f a0_3).bind fun t125 => (if a1 = true then ((wire_Num.f k 63 82 (([t124, t125, 1] : List Int))).bind fun bt129 => (some (bt129.1, bt129.2.1, bt129.2.2.1, bt129.2.2.2.1, bt129.2.2.2.2.1, bt129.2.2.2.2.2))) else ((wire_Num.f k 0 82 (([t124, t125] : List Int))).bind fun bt140 => (some (bt140.1, bt140.2.1, bt140.2.2.1, bt140.2.2.2.1, bt140.2.2.2.2.1, bt140.2.2.2.2.2)))))) = some (r1, r2, r3, r4, r5, r6) := h
  clear h
  replace H := Option.bind_eq_some_iff.mp H
  obtain ⟨t124, A30, H⟩ := H
  replace H : ((report_fact.f a0_3).bind fun t125 => (if a1 = true then ((wire_Num.f k 63 82 (([t124, t125, 1] : List Int))).bind fun bt129 => (some (bt129.1, bt129.2.1, bt129.2.2.1, bt129.2.2.2.1, bt129.2.2.2.2.1, bt129.2.2.2.2.2))) else ((wire_Num.f k 0 82 (([t124, t125] : List Int))).bind fun bt140 => (some (bt140.1, bt140.2.1, bt140.2.2.1, bt140.2.2.2.1, bt140.2.2.2.2.1, bt140.2.2.2.2.2))))) = some (r1, r2, r3, r4, r5, r6) := H
  have A3 := Aside0.mk A30
  clear A30
  replace H := Option.bind_eq_some_iff.mp H
  obtain ⟨t125, A40, H⟩ := H
  replace H : (if a1 = true then ((wire_Num.f k 63 82 (([t124, t125, 1] : List Int))).bind fun bt129 => (some (bt129.1, bt129.2.1, bt129.2.2.1, bt129.2.2.2.1, bt129.2.2.2.2.1, bt129.2.2.2.2.2))) else ((wire_Num.f k 0 82 (([t124, t125] : List Int))).bind fun bt140 => (some (bt140.1, bt140.2.1, bt140.2.2.1, bt140.2.2.2.1, bt140.2.2.2.2.1, bt140.2.2.2.2.2)))) = some (r1, r2, r3, r4, r5, r6) := H
  have A4 := Aside0.mk A40
  clear A40
  by_cases c5 : a1 = true
  · subst c5
    have H1 : ((wire_Num.f k 63 82 (([t124, t125, 1] : List Int))).bind fun bt129 => (some (bt129.1, bt129.2.1, bt129.2.2.1, bt129.2.2.2.1, bt129.2.2.2.2.1, bt129.2.2.2.2.2))) = some (r1, r2, r3, r4, r5, r6) := by rw [if_pos rfl] at H; exact H
    clear H
    have H := H1
    clear H1
    obtain ⟨y126, hy126⟩ : ∃ y_ : List Int, y_ = (([t124, t125, 1] : List Int)) := ⟨_, rfl⟩
    replace H : ((wire_Num.f k 63 82 y126).bind fun bt129 => (some (bt129.1, bt129.2.1, bt129.2.2.1, bt129.2.2.2.1, bt129.2.2.2.2.1, bt129.2.2.2.2.2))) = some (r1, r2, r3, r4, r5, r6) := by first | (rw [hy126]; with_reducible exact H) | (have H2_ := (Option.bind_some _ _).symm.trans H; rw [hy126]; with_reducible exact H2_) | (have H2_ := (Option.bind_some _ _).symm.trans H; with_reducible exact H2_) | with_reducible exact H | (rw [hy126]; exact H) | exact H
    have Ny126 := Aside0.mk hy126
    clear hy126
    replace H := Option.bind_eq_some_iff.mp H
    obtain ⟨⟨t129, t130, t131, t134, t135, t136⟩, A60, H⟩ := H
    replace H : (some (t129, t130, t131, t134, t135, t136)) = some (r1, r2, r3, r4, r5, r6) := H
    have A6 := Aside0.mk A60
    clear A60
    simp only [Option.some.injEq, Prod.mk.injEq] at H
    obtain ⟨rfl, rfl, rfl, rfl, rfl, rfl⟩ := H
    go_enter Tryz.func89, Tryz.ntmps89
    try go_wp2_with (first | ((with_reducible refine gate_dst (N := 2) rfl ?_); refine box_event ?hg (N := 2) ?hd (cs := #[.int .i64 a0_0, .int .i64 a0_1, .int .i64 a0_2, .int .i64 a0_3, .int .i64 a0_4, .int .i64 a0_5, .int .i64 a0_6, .int .i64 a0_7, .int .i64 a0_8, .bool a0_9, .bool a0_10, .bool a0_11, .bool a0_12, .bool a0_13, .bool a0_14, .bool a0_15, .int .i64 a0_16, .int .i64 a0_17, .int .i64 a0_18]) (t := 34) ?hr ?_; (case hd => rfl); (case hg => rfl); (case hr => first | (go_simp; done) | (go_simp; rfl)); intro gb122 hg w7 hbox hb; have n0_ := Aside0.mk (below_step (by repeat (first | (with_reducible first | exact HB.out | apply below_alloc | apply pw_below_drewN | apply below_drew1) | exact HB.out)) hb); have n1_ := Aside0.mk (hbox); have n2_ := Aside0.mk ((by rw [hg]; exact (below_size (by repeat (first | (with_reducible first | exact HB.out | apply below_alloc | apply pw_below_drewN | apply below_drew1) | exact HB.out))) : w.heap.size ≤ gb122)); have n3_ := Aside0.mk ((by rw [hg]; exact (below_size (by repeat (first | (with_reducible first | exact HB.out | apply below_alloc | apply pw_below_drewN | apply below_drew1) | exact HB.out))) : w.heap.size ≤ gb122)); clear HB; have HB := n0_; have BK122 := n1_; have GW122 := n2_; have GE122 := n3_; clear n0_ n1_ n2_ n3_; clear hb hbox hg) | ((with_reducible refine gate_dst (N := 4) rfl ?_); refine box_event ?hg (N := 4) ?hd (cs := #[.int .i64 0, .int .u8 0, .slice none 0 0, .string (⟨#[]⟩ : ByteArray), .int .u8 0, .string (⟨#[]⟩ : ByteArray)]) (t := 37) ?hr ?_; (case hd => rfl); (case hg => rfl); (case hr => first | (go_simp; done) | (go_simp; rfl)); intro gb123 hg w8 hbox hb; have n0_ := Aside0.mk (blk_below (g := gb122) (o := .cells #[.int .i64 a0_0, .int .i64 a0_1, .int .i64 a0_2, .int .i64 a0_3, .int .i64 a0_4, .int .i64 a0_5, .int .i64 a0_6, .int .i64 a0_7, .int .i64 a0_8, .bool a0_9, .bool a0_10, .bool a0_11, .bool a0_12, .bool a0_13, .bool a0_14, .bool a0_15, .int .i64 a0_16, .int .i64 a0_17, .int .i64 a0_18] 34 (0, 0)) (by (with_reducible repeat (first | refine blk_drewN ?_ _ | refine blk_drew ?_ | refine blk_alloc ?_ _)); exact BK122.out) hb); have n1_ := Aside0.mk (below_step (by repeat (first | (with_reducible first | exact HB.out | apply below_alloc | apply pw_below_drewN | apply below_drew1 | refine below_set ?_ GE122.out) | exact HB.out)) hb); have n2_ := Aside0.mk (hbox); have n3_ := Aside0.mk ((by rw [hg]; exact (below_size (by repeat (first | (with_reducible first | exact HB.out | apply below_alloc | apply pw_below_drewN | apply below_drew1 | refine below_set ?_ GE122.out) | exact HB.out))) : w.heap.size ≤ gb123)); have n4_ := Aside0.mk ((by rw [hg]; exact (below_size (by repeat (first | (with_reducible first | exact HB.out | apply below_alloc | apply pw_below_drewN | apply below_drew1 | refine below_set ?_ GE122.out) | exact HB.out))) : w.heap.size ≤ gb123)); have n5_ := Aside0.mk ((by rw [hg]; exact Nat.ne_of_lt (blk_lt (g := gb122) (o := .cells #[.int .i64 a0_0, .int .i64 a0_1, .int .i64 a0_2, .int .i64 a0_3, .int .i64 a0_4, .int .i64 a0_5, .int .i64 a0_6, .int .i64 a0_7, .int .i64 a0_8, .bool a0_9, .bool a0_10, .bool a0_11, .bool a0_12, .bool a0_13, .bool a0_14, .bool a0_15, .int .i64 a0_16, .int .i64 a0_17, .int .i64 a0_18] 34 (0, 0)) (by (with_reducible repeat (first | refine blk_drewN ?_ _ | refine blk_drew ?_ | refine blk_alloc ?_ _)); exact BK122.out)) : gb122 ≠ gb123)); have n6_ := Aside0.mk ((by rw [hg]; exact Nat.ne_of_gt (blk_lt (g := gb122) (o := .cells #[.int .i64 a0_0, .int .i64 a0_1, .int .i64 a0_2, .int .i64 a0_3, .int .i64 a0_4, .int .i64 a0_5, .int .i64 a0_6, .int .i64 a0_7, .int .i64 a0_8, .bool a0_9, .bool a0_10, .bool a0_11, .bool a0_12, .bool a0_13, .bool a0_14, .bool a0_15, .int .i64 a0_16, .int .i64 a0_17, .int .i64 a0_18] 34 (0, 0)) (by (with_reducible repeat (first | refine blk_drewN ?_ _ | refine blk_drew ?_ | refine blk_alloc ?_ _)); exact BK122.out)) : gb123 ≠ gb122)); clear BK122; clear HB; have BK122 := n0_; have HB := n1_; have BK123 := n2_; have GW123 := n3_; have GE123 := n4_; have NB122_123 := n5_; have NB123_122 := n6_; clear n0_ n1_ n2_ n3_ n4_ n5_ n6_; clear hb hbox hg))
    have n0_ := Aside0.mk (blk_drew BK122.out)
    have n1_ := Aside0.mk (blk_drew BK123.out)
    have n2_ := Aside0.mk (below_drew1 HB.out)
    clear BK122
    clear BK123
    clear HB
    have BK122 := n0_
    have BK123 := n1_
    have HB := n2_
    clear n0_ n1_ n2_
    refine start_ (n := 8) (S := fun w' => w'.cell? ⟨gb122, 0, none⟩ = some (.int .i64 a0_0) ∧ w'.cell? ⟨gb122, 1, none⟩ = some (.int .i64 a0_1) ∧ w'.cell? ⟨gb122, 2, none⟩ = some (.int .i64 a0_2) ∧ w'.cell? ⟨gb122, 3, none⟩ = some (.int .i64 a0_3) ∧ w'.cell? ⟨gb122, 4, none⟩ = some (.int .i64 a0_4) ∧ w'.cell? ⟨gb122, 5, none⟩ = some (.int .i64 a0_5) ∧ w'.cell? ⟨gb122, 6, none⟩ = some (.int .i64 a0_6) ∧ w'.cell? ⟨gb122, 7, none⟩ = some (.int .i64 a0_7) ∧ w'.cell? ⟨gb122, 8, none⟩ = some (.int .i64 a0_8) ∧ w'.cell? ⟨gb122, 9, none⟩ = some (.bool a0_9) ∧ w'.cell? ⟨gb122, 10, none⟩ = some (.bool a0_10) ∧ w'.cell? ⟨gb122, 11, none⟩ = some (.bool a0_11) ∧ w'.cell? ⟨gb122, 12, none⟩ = some (.bool a0_12) ∧ w'.cell? ⟨gb122, 13, none⟩ = some (.bool a0_13) ∧ w'.cell? ⟨gb122, 14, none⟩ = some (.bool a0_14) ∧ w'.cell? ⟨gb122, 15, none⟩ = some (.bool a0_15) ∧ w'.cell? ⟨gb122, 16, none⟩ = some (.int .i64 a0_16) ∧ w'.cell? ⟨gb122, 17, none⟩ = some (.int .i64 a0_17) ∧ w'.cell? ⟨gb122, 18, none⟩ = some (.int .i64 a0_18)) (ds := []) #[false, false, false, false, false, false, false, false] (by kernel_rfl) rfl rfl ⟨(blk_cell BK122.out 0).trans rfl, (blk_cell BK122.out 1).trans rfl, (blk_cell BK122.out 2).trans rfl, (blk_cell BK122.out 3).trans rfl, (blk_cell BK122.out 4).trans rfl, (blk_cell BK122.out 5).trans rfl, (blk_cell BK122.out 6).trans rfl, (blk_cell BK122.out 7).trans rfl, (blk_cell BK122.out 8).trans rfl, (blk_cell BK122.out 9).trans rfl, (blk_cell BK122.out 10).trans rfl, (blk_cell BK122.out 11).trans rfl, (blk_cell BK122.out 12).trans rfl, (blk_cell BK122.out 13).trans rfl, (blk_cell BK122.out 14).trans rfl, (blk_cell BK122.out 15).trans rfl, (blk_cell BK122.out 16).trans rfl, (blk_cell BK122.out 17).trans rfl, (blk_cell BK122.out 18).trans rfl⟩ (fun hHeld => ?_); refine with_tabW report_Place.tab1 report_Place.bits1 (fun HT_ HW_ => ?_)
    generalize w8.drew = w9 at BK122 BK123 HB hHeld ⊢
    refine pure_ (i := 0) (N := some 7) (v := ?_) (a' := ?_) #[true, false, false, false, false, false, false, false] rfl rfl (any_of HT_.out (by kernel_rfl)) (fun _ _ _ h => h) (Or.inl ⟨by rfl, ?_⟩) ?_ ?_
    rotate_left
    · intro w'
      go_simp
      with_reducible rfl
    rotate_left
    · simp only [Act.put, List.setIfInBounds_toArray, List.set_cons_zero, List.set_cons_succ, i64_w, i32_w]
      rfl
    refine pure_ (i := 3) (N := some 10) (v := ?_) (a' := ?_) #[true, false, false, true, false, false, false, false] rfl rfl (any_of HT_.out (by kernel_rfl)) (fun _ _ _ h => h) (Or.inl ⟨by rfl, ?_⟩) ?_ ?_
    rotate_left
    · intro w'
      go_simp
      with_reducible rfl
    rotate_left
    · simp only [Act.put, List.setIfInBounds_toArray, List.set_cons_zero, List.set_cons_succ, i64_w, i32_w]
      rfl
    refine take_ (i := 1) (N := some 8) (v := ?_) (a' := ?_) #[true, true, false, true, false, false, false, false] rfl rfl (take_ofW HT_.out HW_.out (by kernel_rfl)) (fun _ _ _ h => h) (Or.inl ⟨by rfl, ?_⟩) hHeld ?_ ?_
    rotate_left
    · rintro w' ⟨s0, s1, s2, s3, s4, s5, s6, s7, s8, s9, s10, s11, s12, s13, s14, s15, s16, s17, s18⟩
      go_simp
      with_reducible rfl
    rotate_left
    · simp only [Act.put, List.setIfInBounds_toArray, List.set_cons_zero, List.set_cons_succ, i64_w, i32_w]
      rfl
    refine take_ (i := 4) (N := some 11) (v := ?_) (a' := ?_) #[true, true, false, true, true, false, false, false] rfl rfl (take_ofW HT_.out HW_.out (by kernel_rfl)) (fun _ _ _ h => h) (Or.inl ⟨by rfl, ?_⟩) hHeld ?_ ?_
    rotate_left
    · rintro w' ⟨s0, s1, s2, s3, s4, s5, s6, s7, s8, s9, s10, s11, s12, s13, s14, s15, s16, s17, s18⟩
      go_simp
      with_reducible rfl
    rotate_left
    · simp only [Act.put, List.setIfInBounds_toArray, List.set_cons_zero, List.set_cons_succ, i64_w, i32_w]
      rfl
    refine one_ (i := 2) (N := some 9) #[true, true, true, true, true, false, false, false] rfl rfl (one_of HT_.out (by kernel_rfl)) (by decide) (fun K hK => ?_)
    refine goes_ Tryz.func98 (by kernel_rfl) rfl #[.int .i64 a0_2] (by rfl) rfl rfl (by (try simp only [List.map_toArray, List.map_cons, List.map_nil]); first | done | rfl | (simp only [List.length_drop, List.length_take]; rfl)) ?_
    with_reducible refine (report_fact.calls a0_2 t124 _ A3.out).mono ?_
    rintro e w10 ⟨rfl, hb⟩
    refine ⟨_, rfl, ?_⟩
    have n0_ := Aside0.mk (blk_below (g := gb122) (o := .cells #[.int .i64 a0_0, .int .i64 a0_1, .int .i64 a0_2, .int .i64 a0_3, .int .i64 a0_4, .int .i64 a0_5, .int .i64 a0_6, .int .i64 a0_7, .int .i64 a0_8, .bool a0_9, .bool a0_10, .bool a0_11, .bool a0_12, .bool a0_13, .bool a0_14, .bool a0_15, .int .i64 a0_16, .int .i64 a0_17, .int .i64 a0_18] 34 (0, 0)) (by (with_reducible repeat (first | refine blk_drewN ?_ _ | refine blk_drew ?_ | refine blk_alloc ?_ _)); exact BK122.out) hb)
    have n1_ := Aside0.mk (blk_below (g := gb123) (o := .cells #[.int .i64 0, .int .u8 0, .slice none 0 0, .string (⟨#[]⟩ : ByteArray), .int .u8 0, .string (⟨#[]⟩ : ByteArray)] 37 (0, 0)) (by (with_reducible repeat (first | refine blk_drewN ?_ _ | refine blk_drew ?_ | refine blk_alloc ?_ _)); exact BK123.out) hb)
    have n2_ := Aside0.mk (below_step (by repeat (first | (with_reducible first | exact HB.out | apply below_alloc | apply pw_below_drewN | apply below_drew1 | refine below_set ?_ GE122.out | refine below_set ?_ GE123.out) | exact HB.out)) hb)
    clear BK122
    clear BK123
    clear HB
    have BK122 := n0_
    have BK123 := n1_
    have HB := n2_
    clear n0_ n1_ n2_
    (try clear hb)
    (try clear hb2)
    (try clear hk)
    (try clear hi)
    refine hK.out _ _ ⟨(blk_cell BK122.out 0).trans rfl, (blk_cell BK122.out 1).trans rfl, (blk_cell BK122.out 2).trans rfl, (blk_cell BK122.out 3).trans rfl, (blk_cell BK122.out 4).trans rfl, (blk_cell BK122.out 5).trans rfl, (blk_cell BK122.out 6).trans rfl, (blk_cell BK122.out 7).trans rfl, (blk_cell BK122.out 8).trans rfl, (blk_cell BK122.out 9).trans rfl, (blk_cell BK122.out 10).trans rfl, (blk_cell BK122.out 11).trans rfl, (blk_cell BK122.out 12).trans rfl, (blk_cell BK122.out 13).trans rfl, (blk_cell BK122.out 14).trans rfl, (blk_cell BK122.out 15).trans rfl, (blk_cell BK122.out 16).trans rfl, (blk_cell BK122.out 17).trans rfl, (blk_cell BK122.out 18).trans rfl⟩ (fun hHeld => ?_)
    clear hK K
    refine norm_ (a' := ?_) ?_ ?_
    rotate_left
    · show Act.put _ (some 9) _ = _
      simp only [Act.put, List.setIfInBounds_toArray, List.set_cons_zero, List.set_cons_succ, i64_w, i32_w]
      rfl
    refine one_ (i := 5) (N := some 12) #[true, true, true, true, true, true, false, false] rfl rfl (one_of HT_.out (by kernel_rfl)) (by decide) (fun K hK => ?_)
    refine goes_ Tryz.func98 (by kernel_rfl) rfl #[.int .i64 a0_3] (by rfl) rfl rfl (by (try simp only [List.map_toArray, List.map_cons, List.map_nil]); first | done | rfl | (simp only [List.length_drop, List.length_take]; rfl)) ?_
    with_reducible refine (report_fact.calls a0_3 t125 _ A4.out).mono ?_
    rintro e w11 ⟨rfl, hb⟩
    refine ⟨_, rfl, ?_⟩
    have n0_ := Aside0.mk (blk_below (g := gb122) (o := .cells #[.int .i64 a0_0, .int .i64 a0_1, .int .i64 a0_2, .int .i64 a0_3, .int .i64 a0_4, .int .i64 a0_5, .int .i64 a0_6, .int .i64 a0_7, .int .i64 a0_8, .bool a0_9, .bool a0_10, .bool a0_11, .bool a0_12, .bool a0_13, .bool a0_14, .bool a0_15, .int .i64 a0_16, .int .i64 a0_17, .int .i64 a0_18] 34 (0, 0)) (by (with_reducible repeat (first | refine blk_drewN ?_ _ | refine blk_drew ?_ | refine blk_alloc ?_ _)); exact BK122.out) hb)
    have n1_ := Aside0.mk (blk_below (g := gb123) (o := .cells #[.int .i64 0, .int .u8 0, .slice none 0 0, .string (⟨#[]⟩ : ByteArray), .int .u8 0, .string (⟨#[]⟩ : ByteArray)] 37 (0, 0)) (by (with_reducible repeat (first | refine blk_drewN ?_ _ | refine blk_drew ?_ | refine blk_alloc ?_ _)); exact BK123.out) hb)
    have n2_ := Aside0.mk (below_step (by repeat (first | (with_reducible first | exact HB.out | apply below_alloc | apply pw_below_drewN | apply below_drew1 | refine below_set ?_ GE122.out | refine below_set ?_ GE123.out) | exact HB.out)) hb)
    clear BK122
    clear BK123
    clear HB
    have BK122 := n0_
    have BK123 := n1_
    have HB := n2_
    clear n0_ n1_ n2_
    (try clear hb)
    (try clear hb2)
    (try clear hk)
    (try clear hi)
    refine hK.out _ _ ⟨(blk_cell BK122.out 0).trans rfl, (blk_cell BK122.out 1).trans rfl, (blk_cell BK122.out 2).trans rfl, (blk_cell BK122.out 3).trans rfl, (blk_cell BK122.out 4).trans rfl, (blk_cell BK122.out 5).trans rfl, (blk_cell BK122.out 6).trans rfl, (blk_cell BK122.out 7).trans rfl, (blk_cell BK122.out 8).trans rfl, (blk_cell BK122.out 9).trans rfl, (blk_cell BK122.out 10).trans rfl, (blk_cell BK122.out 11).trans rfl, (blk_cell BK122.out 12).trans rfl, (blk_cell BK122.out 13).trans rfl, (blk_cell BK122.out 14).trans rfl, (blk_cell BK122.out 15).trans rfl, (blk_cell BK122.out 16).trans rfl, (blk_cell BK122.out 17).trans rfl, (blk_cell BK122.out 18).trans rfl⟩ (fun hHeld => ?_)
    clear hK K
    refine norm_ (a' := ?_) ?_ ?_
    rotate_left
    · show Act.put _ (some 12) _ = _
      simp only [Act.put, List.setIfInBounds_toArray, List.set_cons_zero, List.set_cons_succ, i64_w, i32_w]
      rfl
    refine pure_ (i := 6) (N := some 5) (v := ?_) (a' := ?_) #[true, true, true, true, true, true, true, false] rfl rfl (any_of HT_.out (by kernel_rfl)) (fun _ _ _ h => h) (Or.inl ⟨by rfl, ?_⟩) ?_ ?_
    rotate_left
    · intro w'
      go_simp
      with_reducible rfl
    rotate_left
    · simp only [Act.put, List.setIfInBounds_toArray, List.set_cons_zero, List.set_cons_succ, i64_w, i32_w]
      rfl
    refine pure_ (i := 7) (N := some 6) (v := ?_) (a' := ?_) #[true, true, true, true, true, true, true, true] rfl rfl (any_of HT_.out (by kernel_rfl)) (fun _ _ _ h => h) (Or.inl ⟨by rfl, ?_⟩) ?_ ?_
    rotate_left
    · intro w'
      go_simp
      with_reducible rfl
    rotate_left
    · simp only [Act.put, List.setIfInBounds_toArray, List.set_cons_zero, List.set_cons_succ, i64_w, i32_w]
      rfl
    refine done_ (done_of HT_.out (by kernel_rfl)) ?_
    try go_wp2_with (first | ((with_reducible refine gate_dst (N := 16) rfl ?_); refine Kd.R_lit (Kd.int .i64) _ 3 ?hg (N := 16) ?hd (xs := ([t124, t125, 1] : List Int)) (inner := [.int .i64 t124, .int .i64 t125, .int .i64 1]) (ok := fun _ => True) (okp := fun _ => True) ?hr ?hp (fun _ hk => hk) trivial (Below.refl _ _) (Nat.le_refl _) (by simp) ?_; (case hd => rfl); (case hg => rfl); (case hr => first | (go_simp; done) | (go_simp; rfl)); (case hp => exact (Reps.one (show Kd.M (Kd.int .i64) _ _ _ t124 [.int .i64 t124] from rfl) (Reps.one (show Kd.M (Kd.int .i64) _ _ _ t125 [.int .i64 t125] from rfl) (Reps.one (show Kd.M (Kd.int .i64) _ _ _ 1 [.int .i64 1] from rfl) (Reps.none _ _))))); intro v127 w12 ho13 hb hg_ hnew_; clear hg_ hnew_; (first | rw [← Ny126.out] at ho13 | (simp only [Int.reduceToNat] at ho13; rw [← Ny126.out] at ho13)); have n0_ := Aside0.mk (Kd.R_lower ho13 (below_size (by repeat (first | (with_reducible first | exact HB.out | apply below_alloc | apply pw_below_drewN | apply below_drew1 | refine below_set ?_ GE122.out | refine below_set ?_ GE123.out) | exact HB.out)))); have n1_ := Aside0.mk (blk_below (g := gb122) (o := .cells #[.int .i64 a0_0, .int .i64 a0_1, .int .i64 a0_2, .int .i64 a0_3, .int .i64 a0_4, .int .i64 a0_5, .int .i64 a0_6, .int .i64 a0_7, .int .i64 a0_8, .bool a0_9, .bool a0_10, .bool a0_11, .bool a0_12, .bool a0_13, .bool a0_14, .bool a0_15, .int .i64 a0_16, .int .i64 a0_17, .int .i64 a0_18] 34 (0, 0)) (by (with_reducible repeat (first | refine blk_drewN ?_ _ | refine blk_drew ?_ | refine blk_alloc ?_ _)); exact BK122.out) hb); have n2_ := Aside0.mk (blk_below (g := gb123) (o := .cells #[.int .i64 0, .int .u8 0, .slice none 0 0, .string (⟨#[]⟩ : ByteArray), .int .u8 0, .string (⟨#[]⟩ : ByteArray)] 37 (0, 0)) (by (with_reducible repeat (first | refine blk_drewN ?_ _ | refine blk_drew ?_ | refine blk_alloc ?_ _)); exact BK123.out) hb); have n3_ := Aside0.mk (below_step (by repeat (first | (with_reducible first | exact HB.out | apply below_alloc | apply pw_below_drewN | apply below_drew1 | refine below_set ?_ GE122.out | refine below_set ?_ GE123.out) | exact HB.out)) hb); clear BK122; clear BK123; clear HB; have HO128 := n0_; have BK122 := n1_; have BK123 := n2_; have HB := n3_; clear n0_ n1_ n2_ n3_; clear hb ho13; obtain ⟨Ao14, co14, eo14⟩ := Kd.R_slice HO128.out; subst eo14) | ((with_reducible refine gate_callee (f := 127) rfl ?_); refine goesL_ (some 17) rfl rfl Tryz.func127 (by kernel_rfl) rfl #[.int .u8 63, .int .u8 82, .slice Ao14 y126.length co14] rfl (by (try simp only [List.map_toArray, List.map_cons, List.map_nil]); first | done | rfl | (simp only [List.length_drop, List.length_take]; rfl)) ?_; (with_reducible refine (wire_Num.calls k 63 82 _ _ y126 t129 t130 t131 t134 t135 t136 _ ?side1 ?side2 A6.out).mono ?_); (case side1 => repeat (first | exact (Kd.R_reads' HO128.out).2.2 | (with_reducible refine Kd.C_alloc ?_ _) | (with_reducible refine Kd.C_drewN ?_ _) | (with_reducible refine Kd.C_drew ?_))); (case side2 => exact (Kd.R_reads' HO128.out).2.1); rintro e w15 ⟨v132, rfl, ho0, hb⟩; refine ⟨_, rfl, ?_⟩; have n0_ := Aside0.mk (Kd.R_below (by (with_reducible repeat (first | apply Kd.R_alloc | apply Kd.R_drewN | apply Kd.R_drew)); exact HO128.out) hb); have n1_ := Aside0.mk (Kd.S_lower (Kd.S_new' ho0 (Kd.R_lt (by (with_reducible repeat (first | apply Kd.R_alloc | apply Kd.R_drewN | apply Kd.R_drew)); exact HO128.out))) (below_size (by repeat (first | (with_reducible first | exact HB.out | apply below_alloc | apply pw_below_drewN | apply below_drew1 | refine below_set ?_ GE122.out | refine below_set ?_ GE123.out) | exact HB.out)))); have n2_ := Aside0.mk (blk_below (g := gb122) (o := .cells #[.int .i64 a0_0, .int .i64 a0_1, .int .i64 a0_2, .int .i64 a0_3, .int .i64 a0_4, .int .i64 a0_5, .int .i64 a0_6, .int .i64 a0_7, .int .i64 a0_8, .bool a0_9, .bool a0_10, .bool a0_11, .bool a0_12, .bool a0_13, .bool a0_14, .bool a0_15, .int .i64 a0_16, .int .i64 a0_17, .int .i64 a0_18] 34 (0, 0)) (by (with_reducible repeat (first | refine blk_drewN ?_ _ | refine blk_drew ?_ | refine blk_alloc ?_ _)); exact BK122.out) hb); have n3_ := Aside0.mk (blk_below (g := gb123) (o := .cells #[.int .i64 0, .int .u8 0, .slice none 0 0, .string (⟨#[]⟩ : ByteArray), .int .u8 0, .string (⟨#[]⟩ : ByteArray)] 37 (0, 0)) (by (with_reducible repeat (first | refine blk_drewN ?_ _ | refine blk_drew ?_ | refine blk_alloc ?_ _)); exact BK123.out) hb); have n4_ := Aside0.mk (below_step (by repeat (first | (with_reducible first | exact HB.out | apply below_alloc | apply pw_below_drewN | apply below_drew1 | refine below_set ?_ GE122.out | refine below_set ?_ GE123.out) | exact HB.out)) hb); clear HO128; clear BK122; clear BK123; clear HB; have HO128 := n0_; have HO133 := n1_; have BK122 := n2_; have BK123 := n3_; have HB := n4_; clear n0_ n1_ n2_ n3_ n4_; (try clear hb); (try clear hb2); (try clear hk); (try clear hi); (try clear ho0); have hnb16 := NB123_122.out; have hnc16 := NB122_123.out; have hcz17_0 : w15.cell? ⟨gb123, 0, none⟩ = some (.int .i64 0) := (blk_cell BK123.out 0).trans rfl; have hcz17_1 : w15.cell? ⟨gb123, 1, none⟩ = some (.int .u8 0) := (blk_cell BK123.out 1).trans rfl; have hcz17_2 : w15.cell? ⟨gb123, 2, none⟩ = some (.slice none 0 0) := (blk_cell BK123.out 2).trans rfl; have hcz17_3 : w15.cell? ⟨gb123, 3, none⟩ = some (.string (⟨#[]⟩ : ByteArray)) := (blk_cell BK123.out 3).trans rfl; have hcz17_4 : w15.cell? ⟨gb123, 4, none⟩ = some (.int .u8 0) := (blk_cell BK123.out 4).trans rfl; have hcz17_5 : w15.cell? ⟨gb123, 5, none⟩ = some (.string (⟨#[]⟩ : ByteArray)) := (blk_cell BK123.out 5).trans rfl; have hfz17_0 := blk_frozen BK123.out 0; have hfz17_1 := blk_frozen BK123.out 1; have hfz17_2 := blk_frozen BK123.out 2; have hfz17_3 := blk_frozen BK123.out 3; have hfz17_4 := blk_frozen BK123.out 4; have hfz17_5 := blk_frozen BK123.out 5; obtain ⟨Ao18, co18, eo18⟩ := Kd.S_slice HO133.out; subst eo18))
    refine bodyPost_ret (results_cell_row rfl _ _ gb123 37 #[.int .i64 t129, .int .u8 t130, .slice Ao18 t131.length co18, .string t134, .int .u8 t135, .string t136] (0, 0) _ rfl (by (with_reducible repeat (first | refine blk_drewN ?_ _ | refine blk_drew ?_ | refine blk_alloc ?_ _)); refine blk_put (cs := #[.int .i64 t129, .int .u8 t130, .slice Ao18 t131.length co18, .string t134, .int .u8 t135, .string (⟨#[]⟩ : ByteArray)]) ?_ 5 _ rfl; (with_reducible repeat (first | refine blk_drewN ?_ _ | refine blk_drew ?_ | refine blk_alloc ?_ _)); refine blk_put (cs := #[.int .i64 t129, .int .u8 t130, .slice Ao18 t131.length co18, .string t134, .int .u8 0, .string (⟨#[]⟩ : ByteArray)]) ?_ 4 _ rfl; (with_reducible repeat (first | refine blk_drewN ?_ _ | refine blk_drew ?_ | refine blk_alloc ?_ _)); refine blk_put (cs := #[.int .i64 t129, .int .u8 t130, .slice Ao18 t131.length co18, .string (⟨#[]⟩ : ByteArray), .int .u8 0, .string (⟨#[]⟩ : ByteArray)]) ?_ 3 _ rfl; (with_reducible repeat (first | refine blk_drewN ?_ _ | refine blk_drew ?_ | refine blk_alloc ?_ _)); refine blk_put (cs := #[.int .i64 t129, .int .u8 t130, .slice none 0 0, .string (⟨#[]⟩ : ByteArray), .int .u8 0, .string (⟨#[]⟩ : ByteArray)]) ?_ 2 _ rfl; (with_reducible repeat (first | refine blk_drewN ?_ _ | refine blk_drew ?_ | refine blk_alloc ?_ _)); refine blk_put (cs := #[.int .i64 t129, .int .u8 0, .slice none 0 0, .string (⟨#[]⟩ : ByteArray), .int .u8 0, .string (⟨#[]⟩ : ByteArray)]) ?_ 1 _ rfl; (with_reducible repeat (first | refine blk_drewN ?_ _ | refine blk_drew ?_ | refine blk_alloc ?_ _)); refine blk_put (cs := #[.int .i64 0, .int .u8 0, .slice none 0 0, .string (⟨#[]⟩ : ByteArray), .int .u8 0, .string (⟨#[]⟩ : ByteArray)]) ?_ 0 _ rfl; (with_reducible repeat (first | refine blk_drewN ?_ _ | refine blk_drew ?_ | refine blk_alloc ?_ _)); exact BK123.out) Tryz.underlying37 rfl (by kernel_rfl)) rfl ?_
    exact ⟨_, by first | rfl | (simp [errW_none, errW_some] <;> rfl) | (simp [*, errW_none, errW_some] <;> rfl), by (with_reducible repeat (first | apply Kd.S_alloc | apply Kd.S_drewN | apply Kd.S_drew)); exact Kd.S_mono (Kd.S_far (p := ⟨gb123, 5, none⟩) (Kd.S_far (p := ⟨gb123, 4, none⟩) (Kd.S_far (p := ⟨gb123, 3, none⟩) (Kd.S_far (p := ⟨gb123, 2, none⟩) (Kd.S_far (p := ⟨gb123, 1, none⟩) (Kd.S_far (p := ⟨gb123, 0, none⟩) (Kd.S_types HO133.out BK123.out (by decide)) (fun _ hk => hk.2) (.int .i64 t129)) (fun _ hk => hk.2) (.int .u8 t130)) (fun _ hk => hk.2) (.slice Ao18 t131.length co18)) (fun _ hk => hk.2) (.string t134)) (fun _ hk => hk.2) (.int .u8 t135)) (fun _ hk => hk.2) (.string t136)) (fun _ hk => trivial), by repeat (first | (with_reducible first | exact HB.out | apply below_alloc | apply pw_below_drewN | apply below_drew1 | refine below_set ?_ GE122.out | refine below_set ?_ GE123.out) | exact HB.out)⟩
  · replace c5 := Bool.eq_false_iff.mpr c5
    subst c5
    have H1 : ((wire_Num.f k 0 82 (([t124, t125] : List Int))).bind fun bt140 => (some (bt140.1, bt140.2.1, bt140.2.2.1, bt140.2.2.2.1, bt140.2.2.2.2.1, bt140.2.2.2.2.2))) = some (r1, r2, r3, r4, r5, r6) := by rw [if_neg (show ¬ (false = true) by decide)] at H; exact H
    clear H
    have H := H1
    clear H1
    obtain ⟨y137, hy137⟩ : ∃ y_ : List Int, y_ = (([t124, t125] : List Int)) := ⟨_, rfl⟩
    replace H : ((wire_Num.f k 0 82 y137).bind fun bt140 => (some (bt140.1, bt140.2.1, bt140.2.2.1, bt140.2.2.2.1, bt140.2.2.2.2.1, bt140.2.2.2.2.2))) = some (r1, r2, r3, r4, r5, r6) := by first | (rw [hy137]; with_reducible exact H) | (have H2_ := (Option.bind_some _ _).symm.trans H; rw [hy137]; with_reducible exact H2_) | (have H2_ := (Option.bind_some _ _).symm.trans H; with_reducible exact H2_) | with_reducible exact H | (rw [hy137]; exact H) | exact H
    have Ny137 := Aside0.mk hy137
    clear hy137
    replace H := Option.bind_eq_some_iff.mp H
    obtain ⟨⟨t140, t141, t142, t145, t146, t147⟩, A190, H⟩ := H
    replace H : (some (t140, t141, t142, t145, t146, t147)) = some (r1, r2, r3, r4, r5, r6) := H
    have A19 := Aside0.mk A190
    clear A190
    simp only [Option.some.injEq, Prod.mk.injEq] at H
    obtain ⟨rfl, rfl, rfl, rfl, rfl, rfl⟩ := H
    go_enter Tryz.func89, Tryz.ntmps89
    try go_wp2_with (first | ((with_reducible refine gate_dst (N := 2) rfl ?_); refine box_event ?hg (N := 2) ?hd (cs := #[.int .i64 a0_0, .int .i64 a0_1, .int .i64 a0_2, .int .i64 a0_3, .int .i64 a0_4, .int .i64 a0_5, .int .i64 a0_6, .int .i64 a0_7, .int .i64 a0_8, .bool a0_9, .bool a0_10, .bool a0_11, .bool a0_12, .bool a0_13, .bool a0_14, .bool a0_15, .int .i64 a0_16, .int .i64 a0_17, .int .i64 a0_18]) (t := 34) ?hr ?_; (case hd => rfl); (case hg => rfl); (case hr => first | (go_simp; done) | (go_simp; rfl)); intro gb122 hg w20 hbox hb; have n0_ := Aside0.mk (below_step (by repeat (first | (with_reducible first | exact HB.out | apply below_alloc | apply pw_below_drewN | apply below_drew1) | exact HB.out)) hb); have n1_ := Aside0.mk (hbox); have n2_ := Aside0.mk ((by rw [hg]; exact (below_size (by repeat (first | (with_reducible first | exact HB.out | apply below_alloc | apply pw_below_drewN | apply below_drew1) | exact HB.out))) : w.heap.size ≤ gb122)); have n3_ := Aside0.mk ((by rw [hg]; exact (below_size (by repeat (first | (with_reducible first | exact HB.out | apply below_alloc | apply pw_below_drewN | apply below_drew1) | exact HB.out))) : w.heap.size ≤ gb122)); clear HB; have HB := n0_; have BK122 := n1_; have GW122 := n2_; have GE122 := n3_; clear n0_ n1_ n2_ n3_; clear hb hbox hg) | ((with_reducible refine gate_dst (N := 4) rfl ?_); refine box_event ?hg (N := 4) ?hd (cs := #[.int .i64 0, .int .u8 0, .slice none 0 0, .string (⟨#[]⟩ : ByteArray), .int .u8 0, .string (⟨#[]⟩ : ByteArray)]) (t := 37) ?hr ?_; (case hd => rfl); (case hg => rfl); (case hr => first | (go_simp; done) | (go_simp; rfl)); intro gb123 hg w21 hbox hb; have n0_ := Aside0.mk (blk_below (g := gb122) (o := .cells #[.int .i64 a0_0, .int .i64 a0_1, .int .i64 a0_2, .int .i64 a0_3, .int .i64 a0_4, .int .i64 a0_5, .int .i64 a0_6, .int .i64 a0_7, .int .i64 a0_8, .bool a0_9, .bool a0_10, .bool a0_11, .bool a0_12, .bool a0_13, .bool a0_14, .bool a0_15, .int .i64 a0_16, .int .i64 a0_17, .int .i64 a0_18] 34 (0, 0)) (by (with_reducible repeat (first | refine blk_drewN ?_ _ | refine blk_drew ?_ | refine blk_alloc ?_ _)); exact BK122.out) hb); have n1_ := Aside0.mk (below_step (by repeat (first | (with_reducible first | exact HB.out | apply below_alloc | apply pw_below_drewN | apply below_drew1 | refine below_set ?_ GE122.out) | exact HB.out)) hb); have n2_ := Aside0.mk (hbox); have n3_ := Aside0.mk ((by rw [hg]; exact (below_size (by repeat (first | (with_reducible first | exact HB.out | apply below_alloc | apply pw_below_drewN | apply below_drew1 | refine below_set ?_ GE122.out) | exact HB.out))) : w.heap.size ≤ gb123)); have n4_ := Aside0.mk ((by rw [hg]; exact (below_size (by repeat (first | (with_reducible first | exact HB.out | apply below_alloc | apply pw_below_drewN | apply below_drew1 | refine below_set ?_ GE122.out) | exact HB.out))) : w.heap.size ≤ gb123)); have n5_ := Aside0.mk ((by rw [hg]; exact Nat.ne_of_lt (blk_lt (g := gb122) (o := .cells #[.int .i64 a0_0, .int .i64 a0_1, .int .i64 a0_2, .int .i64 a0_3, .int .i64 a0_4, .int .i64 a0_5, .int .i64 a0_6, .int .i64 a0_7, .int .i64 a0_8, .bool a0_9, .bool a0_10, .bool a0_11, .bool a0_12, .bool a0_13, .bool a0_14, .bool a0_15, .int .i64 a0_16, .int .i64 a0_17, .int .i64 a0_18] 34 (0, 0)) (by (with_reducible repeat (first | refine blk_drewN ?_ _ | refine blk_drew ?_ | refine blk_alloc ?_ _)); exact BK122.out)) : gb122 ≠ gb123)); have n6_ := Aside0.mk ((by rw [hg]; exact Nat.ne_of_gt (blk_lt (g := gb122) (o := .cells #[.int .i64 a0_0, .int .i64 a0_1, .int .i64 a0_2, .int .i64 a0_3, .int .i64 a0_4, .int .i64 a0_5, .int .i64 a0_6, .int .i64 a0_7, .int .i64 a0_8, .bool a0_9, .bool a0_10, .bool a0_11, .bool a0_12, .bool a0_13, .bool a0_14, .bool a0_15, .int .i64 a0_16, .int .i64 a0_17, .int .i64 a0_18] 34 (0, 0)) (by (with_reducible repeat (first | refine blk_drewN ?_ _ | refine blk_drew ?_ | refine blk_alloc ?_ _)); exact BK122.out)) : gb123 ≠ gb122)); clear BK122; clear HB; have BK122 := n0_; have HB := n1_; have BK123 := n2_; have GW123 := n3_; have GE123 := n4_; have NB122_123 := n5_; have NB123_122 := n6_; clear n0_ n1_ n2_ n3_ n4_ n5_ n6_; clear hb hbox hg))
    have n0_ := Aside0.mk (blk_drew BK122.out)
    have n1_ := Aside0.mk (blk_drew BK123.out)
    have n2_ := Aside0.mk (below_drew1 HB.out)
    clear BK122
    clear BK123
    clear HB
    have BK122 := n0_
    have BK123 := n1_
    have HB := n2_
    clear n0_ n1_ n2_
    refine start_ (n := 8) (S := fun w' => w'.cell? ⟨gb122, 0, none⟩ = some (.int .i64 a0_0) ∧ w'.cell? ⟨gb122, 1, none⟩ = some (.int .i64 a0_1) ∧ w'.cell? ⟨gb122, 2, none⟩ = some (.int .i64 a0_2) ∧ w'.cell? ⟨gb122, 3, none⟩ = some (.int .i64 a0_3) ∧ w'.cell? ⟨gb122, 4, none⟩ = some (.int .i64 a0_4) ∧ w'.cell? ⟨gb122, 5, none⟩ = some (.int .i64 a0_5) ∧ w'.cell? ⟨gb122, 6, none⟩ = some (.int .i64 a0_6) ∧ w'.cell? ⟨gb122, 7, none⟩ = some (.int .i64 a0_7) ∧ w'.cell? ⟨gb122, 8, none⟩ = some (.int .i64 a0_8) ∧ w'.cell? ⟨gb122, 9, none⟩ = some (.bool a0_9) ∧ w'.cell? ⟨gb122, 10, none⟩ = some (.bool a0_10) ∧ w'.cell? ⟨gb122, 11, none⟩ = some (.bool a0_11) ∧ w'.cell? ⟨gb122, 12, none⟩ = some (.bool a0_12) ∧ w'.cell? ⟨gb122, 13, none⟩ = some (.bool a0_13) ∧ w'.cell? ⟨gb122, 14, none⟩ = some (.bool a0_14) ∧ w'.cell? ⟨gb122, 15, none⟩ = some (.bool a0_15) ∧ w'.cell? ⟨gb122, 16, none⟩ = some (.int .i64 a0_16) ∧ w'.cell? ⟨gb122, 17, none⟩ = some (.int .i64 a0_17) ∧ w'.cell? ⟨gb122, 18, none⟩ = some (.int .i64 a0_18)) (ds := []) #[false, false, false, false, false, false, false, false] (by kernel_rfl) rfl rfl ⟨(blk_cell BK122.out 0).trans rfl, (blk_cell BK122.out 1).trans rfl, (blk_cell BK122.out 2).trans rfl, (blk_cell BK122.out 3).trans rfl, (blk_cell BK122.out 4).trans rfl, (blk_cell BK122.out 5).trans rfl, (blk_cell BK122.out 6).trans rfl, (blk_cell BK122.out 7).trans rfl, (blk_cell BK122.out 8).trans rfl, (blk_cell BK122.out 9).trans rfl, (blk_cell BK122.out 10).trans rfl, (blk_cell BK122.out 11).trans rfl, (blk_cell BK122.out 12).trans rfl, (blk_cell BK122.out 13).trans rfl, (blk_cell BK122.out 14).trans rfl, (blk_cell BK122.out 15).trans rfl, (blk_cell BK122.out 16).trans rfl, (blk_cell BK122.out 17).trans rfl, (blk_cell BK122.out 18).trans rfl⟩ (fun hHeld => ?_); refine with_tabW report_Place.tab1 report_Place.bits1 (fun HT_ HW_ => ?_)
    generalize w21.drew = w22 at BK122 BK123 HB hHeld ⊢
    refine pure_ (i := 0) (N := some 7) (v := ?_) (a' := ?_) #[true, false, false, false, false, false, false, false] rfl rfl (any_of HT_.out (by kernel_rfl)) (fun _ _ _ h => h) (Or.inl ⟨by rfl, ?_⟩) ?_ ?_
    rotate_left
    · intro w'
      go_simp
      with_reducible rfl
    rotate_left
    · simp only [Act.put, List.setIfInBounds_toArray, List.set_cons_zero, List.set_cons_succ, i64_w, i32_w]
      rfl
    refine pure_ (i := 3) (N := some 10) (v := ?_) (a' := ?_) #[true, false, false, true, false, false, false, false] rfl rfl (any_of HT_.out (by kernel_rfl)) (fun _ _ _ h => h) (Or.inl ⟨by rfl, ?_⟩) ?_ ?_
    rotate_left
    · intro w'
      go_simp
      with_reducible rfl
    rotate_left
    · simp only [Act.put, List.setIfInBounds_toArray, List.set_cons_zero, List.set_cons_succ, i64_w, i32_w]
      rfl
    refine take_ (i := 1) (N := some 8) (v := ?_) (a' := ?_) #[true, true, false, true, false, false, false, false] rfl rfl (take_ofW HT_.out HW_.out (by kernel_rfl)) (fun _ _ _ h => h) (Or.inl ⟨by rfl, ?_⟩) hHeld ?_ ?_
    rotate_left
    · rintro w' ⟨s0, s1, s2, s3, s4, s5, s6, s7, s8, s9, s10, s11, s12, s13, s14, s15, s16, s17, s18⟩
      go_simp
      with_reducible rfl
    rotate_left
    · simp only [Act.put, List.setIfInBounds_toArray, List.set_cons_zero, List.set_cons_succ, i64_w, i32_w]
      rfl
    refine take_ (i := 4) (N := some 11) (v := ?_) (a' := ?_) #[true, true, false, true, true, false, false, false] rfl rfl (take_ofW HT_.out HW_.out (by kernel_rfl)) (fun _ _ _ h => h) (Or.inl ⟨by rfl, ?_⟩) hHeld ?_ ?_
    rotate_left
    · rintro w' ⟨s0, s1, s2, s3, s4, s5, s6, s7, s8, s9, s10, s11, s12, s13, s14, s15, s16, s17, s18⟩
      go_simp
      with_reducible rfl
    rotate_left
    · simp only [Act.put, List.setIfInBounds_toArray, List.set_cons_zero, List.set_cons_succ, i64_w, i32_w]
      rfl
    refine one_ (i := 2) (N := some 9) #[true, true, true, true, true, false, false, false] rfl rfl (one_of HT_.out (by kernel_rfl)) (by decide) (fun K hK => ?_)
    refine goes_ Tryz.func98 (by kernel_rfl) rfl #[.int .i64 a0_2] (by rfl) rfl rfl (by (try simp only [List.map_toArray, List.map_cons, List.map_nil]); first | done | rfl | (simp only [List.length_drop, List.length_take]; rfl)) ?_
    with_reducible refine (report_fact.calls a0_2 t124 _ A3.out).mono ?_
    rintro e w23 ⟨rfl, hb⟩
    refine ⟨_, rfl, ?_⟩
    have n0_ := Aside0.mk (blk_below (g := gb122) (o := .cells #[.int .i64 a0_0, .int .i64 a0_1, .int .i64 a0_2, .int .i64 a0_3, .int .i64 a0_4, .int .i64 a0_5, .int .i64 a0_6, .int .i64 a0_7, .int .i64 a0_8, .bool a0_9, .bool a0_10, .bool a0_11, .bool a0_12, .bool a0_13, .bool a0_14, .bool a0_15, .int .i64 a0_16, .int .i64 a0_17, .int .i64 a0_18] 34 (0, 0)) (by (with_reducible repeat (first | refine blk_drewN ?_ _ | refine blk_drew ?_ | refine blk_alloc ?_ _)); exact BK122.out) hb)
    have n1_ := Aside0.mk (blk_below (g := gb123) (o := .cells #[.int .i64 0, .int .u8 0, .slice none 0 0, .string (⟨#[]⟩ : ByteArray), .int .u8 0, .string (⟨#[]⟩ : ByteArray)] 37 (0, 0)) (by (with_reducible repeat (first | refine blk_drewN ?_ _ | refine blk_drew ?_ | refine blk_alloc ?_ _)); exact BK123.out) hb)
    have n2_ := Aside0.mk (below_step (by repeat (first | (with_reducible first | exact HB.out | apply below_alloc | apply pw_below_drewN | apply below_drew1 | refine below_set ?_ GE122.out | refine below_set ?_ GE123.out) | exact HB.out)) hb)
    clear BK122
    clear BK123
    clear HB
    have BK122 := n0_
    have BK123 := n1_
    have HB := n2_
    clear n0_ n1_ n2_
    (try clear hb)
    (try clear hb2)
    (try clear hk)
    (try clear hi)
    refine hK.out _ _ ⟨(blk_cell BK122.out 0).trans rfl, (blk_cell BK122.out 1).trans rfl, (blk_cell BK122.out 2).trans rfl, (blk_cell BK122.out 3).trans rfl, (blk_cell BK122.out 4).trans rfl, (blk_cell BK122.out 5).trans rfl, (blk_cell BK122.out 6).trans rfl, (blk_cell BK122.out 7).trans rfl, (blk_cell BK122.out 8).trans rfl, (blk_cell BK122.out 9).trans rfl, (blk_cell BK122.out 10).trans rfl, (blk_cell BK122.out 11).trans rfl, (blk_cell BK122.out 12).trans rfl, (blk_cell BK122.out 13).trans rfl, (blk_cell BK122.out 14).trans rfl, (blk_cell BK122.out 15).trans rfl, (blk_cell BK122.out 16).trans rfl, (blk_cell BK122.out 17).trans rfl, (blk_cell BK122.out 18).trans rfl⟩ (fun hHeld => ?_)
    clear hK K
    refine norm_ (a' := ?_) ?_ ?_
    rotate_left
    · show Act.put _ (some 9) _ = _
      simp only [Act.put, List.setIfInBounds_toArray, List.set_cons_zero, List.set_cons_succ, i64_w, i32_w]
      rfl
    refine one_ (i := 5) (N := some 12) #[true, true, true, true, true, true, false, false] rfl rfl (one_of HT_.out (by kernel_rfl)) (by decide) (fun K hK => ?_)
    refine goes_ Tryz.func98 (by kernel_rfl) rfl #[.int .i64 a0_3] (by rfl) rfl rfl (by (try simp only [List.map_toArray, List.map_cons, List.map_nil]); first | done | rfl | (simp only [List.length_drop, List.length_take]; rfl)) ?_
    with_reducible refine (report_fact.calls a0_3 t125 _ A4.out).mono ?_
    rintro e w24 ⟨rfl, hb⟩
    refine ⟨_, rfl, ?_⟩
    have n0_ := Aside0.mk (blk_below (g := gb122) (o := .cells #[.int .i64 a0_0, .int .i64 a0_1, .int .i64 a0_2, .int .i64 a0_3, .int .i64 a0_4, .int .i64 a0_5, .int .i64 a0_6, .int .i64 a0_7, .int .i64 a0_8, .bool a0_9, .bool a0_10, .bool a0_11, .bool a0_12, .bool a0_13, .bool a0_14, .bool a0_15, .int .i64 a0_16, .int .i64 a0_17, .int .i64 a0_18] 34 (0, 0)) (by (with_reducible repeat (first | refine blk_drewN ?_ _ | refine blk_drew ?_ | refine blk_alloc ?_ _)); exact BK122.out) hb)
    have n1_ := Aside0.mk (blk_below (g := gb123) (o := .cells #[.int .i64 0, .int .u8 0, .slice none 0 0, .string (⟨#[]⟩ : ByteArray), .int .u8 0, .string (⟨#[]⟩ : ByteArray)] 37 (0, 0)) (by (with_reducible repeat (first | refine blk_drewN ?_ _ | refine blk_drew ?_ | refine blk_alloc ?_ _)); exact BK123.out) hb)
    have n2_ := Aside0.mk (below_step (by repeat (first | (with_reducible first | exact HB.out | apply below_alloc | apply pw_below_drewN | apply below_drew1 | refine below_set ?_ GE122.out | refine below_set ?_ GE123.out) | exact HB.out)) hb)
    clear BK122
    clear BK123
    clear HB
    have BK122 := n0_
    have BK123 := n1_
    have HB := n2_
    clear n0_ n1_ n2_
    (try clear hb)
    (try clear hb2)
    (try clear hk)
    (try clear hi)
    refine hK.out _ _ ⟨(blk_cell BK122.out 0).trans rfl, (blk_cell BK122.out 1).trans rfl, (blk_cell BK122.out 2).trans rfl, (blk_cell BK122.out 3).trans rfl, (blk_cell BK122.out 4).trans rfl, (blk_cell BK122.out 5).trans rfl, (blk_cell BK122.out 6).trans rfl, (blk_cell BK122.out 7).trans rfl, (blk_cell BK122.out 8).trans rfl, (blk_cell BK122.out 9).trans rfl, (blk_cell BK122.out 10).trans rfl, (blk_cell BK122.out 11).trans rfl, (blk_cell BK122.out 12).trans rfl, (blk_cell BK122.out 13).trans rfl, (blk_cell BK122.out 14).trans rfl, (blk_cell BK122.out 15).trans rfl, (blk_cell BK122.out 16).trans rfl, (blk_cell BK122.out 17).trans rfl, (blk_cell BK122.out 18).trans rfl⟩ (fun hHeld => ?_)
    clear hK K
    refine norm_ (a' := ?_) ?_ ?_
    rotate_left
    · show Act.put _ (some 12) _ = _
      simp only [Act.put, List.setIfInBounds_toArray, List.set_cons_zero, List.set_cons_succ, i64_w, i32_w]
      rfl
    refine pure_ (i := 6) (N := some 5) (v := ?_) (a' := ?_) #[true, true, true, true, true, true, true, false] rfl rfl (any_of HT_.out (by kernel_rfl)) (fun _ _ _ h => h) (Or.inl ⟨by rfl, ?_⟩) ?_ ?_
    rotate_left
    · intro w'
      go_simp
      with_reducible rfl
    rotate_left
    · simp only [Act.put, List.setIfInBounds_toArray, List.set_cons_zero, List.set_cons_succ, i64_w, i32_w]
      rfl
    refine pure_ (i := 7) (N := some 6) (v := ?_) (a' := ?_) #[true, true, true, true, true, true, true, true] rfl rfl (any_of HT_.out (by kernel_rfl)) (fun _ _ _ h => h) (Or.inl ⟨by rfl, ?_⟩) ?_ ?_
    rotate_left
    · intro w'
      go_simp
      with_reducible rfl
    rotate_left
    · simp only [Act.put, List.setIfInBounds_toArray, List.set_cons_zero, List.set_cons_succ, i64_w, i32_w]
      rfl
    refine done_ (done_of HT_.out (by kernel_rfl)) ?_
    try go_wp2_with (first | ((with_reducible refine gate_dst (N := 20) rfl ?_); refine Kd.R_lit (Kd.int .i64) _ 3 ?hg (N := 20) ?hd (xs := ([t124, t125] : List Int)) (inner := [.int .i64 t124, .int .i64 t125]) (ok := fun _ => True) (okp := fun _ => True) ?hr ?hp (fun _ hk => hk) trivial (Below.refl _ _) (Nat.le_refl _) (by simp) ?_; (case hd => rfl); (case hg => rfl); (case hr => first | (go_simp; done) | (go_simp; rfl)); (case hp => exact (Reps.one (show Kd.M (Kd.int .i64) _ _ _ t124 [.int .i64 t124] from rfl) (Reps.one (show Kd.M (Kd.int .i64) _ _ _ t125 [.int .i64 t125] from rfl) (Reps.none _ _)))); intro v138 w25 ho26 hb hg_ hnew_; clear hg_ hnew_; (first | rw [← Ny137.out] at ho26 | (simp only [Int.reduceToNat] at ho26; rw [← Ny137.out] at ho26)); have n0_ := Aside0.mk (Kd.R_lower ho26 (below_size (by repeat (first | (with_reducible first | exact HB.out | apply below_alloc | apply pw_below_drewN | apply below_drew1 | refine below_set ?_ GE122.out | refine below_set ?_ GE123.out) | exact HB.out)))); have n1_ := Aside0.mk (blk_below (g := gb122) (o := .cells #[.int .i64 a0_0, .int .i64 a0_1, .int .i64 a0_2, .int .i64 a0_3, .int .i64 a0_4, .int .i64 a0_5, .int .i64 a0_6, .int .i64 a0_7, .int .i64 a0_8, .bool a0_9, .bool a0_10, .bool a0_11, .bool a0_12, .bool a0_13, .bool a0_14, .bool a0_15, .int .i64 a0_16, .int .i64 a0_17, .int .i64 a0_18] 34 (0, 0)) (by (with_reducible repeat (first | refine blk_drewN ?_ _ | refine blk_drew ?_ | refine blk_alloc ?_ _)); exact BK122.out) hb); have n2_ := Aside0.mk (blk_below (g := gb123) (o := .cells #[.int .i64 0, .int .u8 0, .slice none 0 0, .string (⟨#[]⟩ : ByteArray), .int .u8 0, .string (⟨#[]⟩ : ByteArray)] 37 (0, 0)) (by (with_reducible repeat (first | refine blk_drewN ?_ _ | refine blk_drew ?_ | refine blk_alloc ?_ _)); exact BK123.out) hb); have n3_ := Aside0.mk (below_step (by repeat (first | (with_reducible first | exact HB.out | apply below_alloc | apply pw_below_drewN | apply below_drew1 | refine below_set ?_ GE122.out | refine below_set ?_ GE123.out) | exact HB.out)) hb); clear BK122; clear BK123; clear HB; have HO139 := n0_; have BK122 := n1_; have BK123 := n2_; have HB := n3_; clear n0_ n1_ n2_ n3_; clear hb ho26; obtain ⟨Ao27, co27, eo27⟩ := Kd.R_slice HO139.out; subst eo27) | ((with_reducible refine gate_callee (f := 127) rfl ?_); refine goesL_ (some 21) rfl rfl Tryz.func127 (by kernel_rfl) rfl #[.int .u8 0, .int .u8 82, .slice Ao27 y137.length co27] rfl (by (try simp only [List.map_toArray, List.map_cons, List.map_nil]); first | done | rfl | (simp only [List.length_drop, List.length_take]; rfl)) ?_; (with_reducible refine (wire_Num.calls k 0 82 _ _ y137 t140 t141 t142 t145 t146 t147 _ ?side1 ?side2 A19.out).mono ?_); (case side1 => repeat (first | exact (Kd.R_reads' HO139.out).2.2 | (with_reducible refine Kd.C_alloc ?_ _) | (with_reducible refine Kd.C_drewN ?_ _) | (with_reducible refine Kd.C_drew ?_))); (case side2 => exact (Kd.R_reads' HO139.out).2.1); rintro e w28 ⟨v143, rfl, ho0, hb⟩; refine ⟨_, rfl, ?_⟩; have n0_ := Aside0.mk (Kd.R_below (by (with_reducible repeat (first | apply Kd.R_alloc | apply Kd.R_drewN | apply Kd.R_drew)); exact HO139.out) hb); have n1_ := Aside0.mk (Kd.S_lower (Kd.S_new' ho0 (Kd.R_lt (by (with_reducible repeat (first | apply Kd.R_alloc | apply Kd.R_drewN | apply Kd.R_drew)); exact HO139.out))) (below_size (by repeat (first | (with_reducible first | exact HB.out | apply below_alloc | apply pw_below_drewN | apply below_drew1 | refine below_set ?_ GE122.out | refine below_set ?_ GE123.out) | exact HB.out)))); have n2_ := Aside0.mk (blk_below (g := gb122) (o := .cells #[.int .i64 a0_0, .int .i64 a0_1, .int .i64 a0_2, .int .i64 a0_3, .int .i64 a0_4, .int .i64 a0_5, .int .i64 a0_6, .int .i64 a0_7, .int .i64 a0_8, .bool a0_9, .bool a0_10, .bool a0_11, .bool a0_12, .bool a0_13, .bool a0_14, .bool a0_15, .int .i64 a0_16, .int .i64 a0_17, .int .i64 a0_18] 34 (0, 0)) (by (with_reducible repeat (first | refine blk_drewN ?_ _ | refine blk_drew ?_ | refine blk_alloc ?_ _)); exact BK122.out) hb); have n3_ := Aside0.mk (blk_below (g := gb123) (o := .cells #[.int .i64 0, .int .u8 0, .slice none 0 0, .string (⟨#[]⟩ : ByteArray), .int .u8 0, .string (⟨#[]⟩ : ByteArray)] 37 (0, 0)) (by (with_reducible repeat (first | refine blk_drewN ?_ _ | refine blk_drew ?_ | refine blk_alloc ?_ _)); exact BK123.out) hb); have n4_ := Aside0.mk (below_step (by repeat (first | (with_reducible first | exact HB.out | apply below_alloc | apply pw_below_drewN | apply below_drew1 | refine below_set ?_ GE122.out | refine below_set ?_ GE123.out) | exact HB.out)) hb); clear HO139; clear BK122; clear BK123; clear HB; have HO139 := n0_; have HO144 := n1_; have BK122 := n2_; have BK123 := n3_; have HB := n4_; clear n0_ n1_ n2_ n3_ n4_; (try clear hb); (try clear hb2); (try clear hk); (try clear hi); (try clear ho0); have hnb29 := NB123_122.out; have hnc29 := NB122_123.out; have hcz30_0 : w28.cell? ⟨gb123, 0, none⟩ = some (.int .i64 0) := (blk_cell BK123.out 0).trans rfl; have hcz30_1 : w28.cell? ⟨gb123, 1, none⟩ = some (.int .u8 0) := (blk_cell BK123.out 1).trans rfl; have hcz30_2 : w28.cell? ⟨gb123, 2, none⟩ = some (.slice none 0 0) := (blk_cell BK123.out 2).trans rfl; have hcz30_3 : w28.cell? ⟨gb123, 3, none⟩ = some (.string (⟨#[]⟩ : ByteArray)) := (blk_cell BK123.out 3).trans rfl; have hcz30_4 : w28.cell? ⟨gb123, 4, none⟩ = some (.int .u8 0) := (blk_cell BK123.out 4).trans rfl; have hcz30_5 : w28.cell? ⟨gb123, 5, none⟩ = some (.string (⟨#[]⟩ : ByteArray)) := (blk_cell BK123.out 5).trans rfl; have hfz30_0 := blk_frozen BK123.out 0; have hfz30_1 := blk_frozen BK123.out 1; have hfz30_2 := blk_frozen BK123.out 2; have hfz30_3 := blk_frozen BK123.out 3; have hfz30_4 := blk_frozen BK123.out 4; have hfz30_5 := blk_frozen BK123.out 5; obtain ⟨Ao31, co31, eo31⟩ := Kd.S_slice HO144.out; subst eo31))
    refine bodyPost_ret (results_cell_row rfl _ _ gb123 37 #[.int .i64 t140, .int .u8 t141, .slice Ao31 t142.length co31, .string t145, .int .u8 t146, .string t147] (0, 0) _ rfl (by (with_reducible repeat (first | refine blk_drewN ?_ _ | refine blk_drew ?_ | refine blk_alloc ?_ _)); refine blk_put (cs := #[.int .i64 t140, .int .u8 t141, .slice Ao31 t142.length co31, .string t145, .int .u8 t146, .string (⟨#[]⟩ : ByteArray)]) ?_ 5 _ rfl; (with_reducible repeat (first | refine blk_drewN ?_ _ | refine blk_drew ?_ | refine blk_alloc ?_ _)); refine blk_put (cs := #[.int .i64 t140, .int .u8 t141, .slice Ao31 t142.length co31, .string t145, .int .u8 0, .string (⟨#[]⟩ : ByteArray)]) ?_ 4 _ rfl; (with_reducible repeat (first | refine blk_drewN ?_ _ | refine blk_drew ?_ | refine blk_alloc ?_ _)); refine blk_put (cs := #[.int .i64 t140, .int .u8 t141, .slice Ao31 t142.length co31, .string (⟨#[]⟩ : ByteArray), .int .u8 0, .string (⟨#[]⟩ : ByteArray)]) ?_ 3 _ rfl; (with_reducible repeat (first | refine blk_drewN ?_ _ | refine blk_drew ?_ | refine blk_alloc ?_ _)); refine blk_put (cs := #[.int .i64 t140, .int .u8 t141, .slice none 0 0, .string (⟨#[]⟩ : ByteArray), .int .u8 0, .string (⟨#[]⟩ : ByteArray)]) ?_ 2 _ rfl; (with_reducible repeat (first | refine blk_drewN ?_ _ | refine blk_drew ?_ | refine blk_alloc ?_ _)); refine blk_put (cs := #[.int .i64 t140, .int .u8 0, .slice none 0 0, .string (⟨#[]⟩ : ByteArray), .int .u8 0, .string (⟨#[]⟩ : ByteArray)]) ?_ 1 _ rfl; (with_reducible repeat (first | refine blk_drewN ?_ _ | refine blk_drew ?_ | refine blk_alloc ?_ _)); refine blk_put (cs := #[.int .i64 0, .int .u8 0, .slice none 0 0, .string (⟨#[]⟩ : ByteArray), .int .u8 0, .string (⟨#[]⟩ : ByteArray)]) ?_ 0 _ rfl; (with_reducible repeat (first | refine blk_drewN ?_ _ | refine blk_drew ?_ | refine blk_alloc ?_ _)); exact BK123.out) Tryz.underlying37 rfl (by kernel_rfl)) rfl ?_
    exact ⟨_, by first | rfl | (simp [errW_none, errW_some] <;> rfl) | (simp [*, errW_none, errW_some] <;> rfl), by (with_reducible repeat (first | apply Kd.S_alloc | apply Kd.S_drewN | apply Kd.S_drew)); exact Kd.S_mono (Kd.S_far (p := ⟨gb123, 5, none⟩) (Kd.S_far (p := ⟨gb123, 4, none⟩) (Kd.S_far (p := ⟨gb123, 3, none⟩) (Kd.S_far (p := ⟨gb123, 2, none⟩) (Kd.S_far (p := ⟨gb123, 1, none⟩) (Kd.S_far (p := ⟨gb123, 0, none⟩) (Kd.S_types HO144.out BK123.out (by decide)) (fun _ hk => hk.2) (.int .i64 t140)) (fun _ hk => hk.2) (.int .u8 t141)) (fun _ hk => hk.2) (.slice Ao31 t142.length co31)) (fun _ hk => hk.2) (.string t145)) (fun _ hk => hk.2) (.int .u8 t146)) (fun _ hk => hk.2) (.string t147)) (fun _ hk => trivial), by repeat (first | (with_reducible first | exact HB.out | apply below_alloc | apply pw_below_drewN | apply below_drew1 | refine below_set ?_ GE122.out | refine below_set ?_ GE123.out) | exact HB.out)⟩
end Go.Proofs.YtdmifbffamckbaaGreatDoor.G
end
section
namespace Go.Proofs.YtdmifbffamckbaaGreatDoor
set_option linter.unusedVariables false
set_option linter.unusedSimpArgs false
open Go.RowKit Kit Go.Shelf Go.Proofs.YtdmifbffamckbaaGreatDoorW.PrintWords
attribute [local irreducible] wpList Calls wpQuiet
set_option maxRecDepth 100000 in
set_option maxHeartbeats 8000000 in
theorem status_place (w : World) (st : List Value) (s0 s1 s2 s3 s4 s5 s6 s7 s8 s9 s10 s11 : Int) (b0 b1 b2 b3 b4 b5 b6 : Bool) (k p f : Int) (i dt : ByteArray) (A : Option Addr) (c : Nat) (l : List (List Int)) (hc : l.length ≤ c) (hr : SeqAt w A l) (h6 : argI l 0 (-1) = 6) (fu : Nat) (r1 r2 r5 : Int) (r3 : List (List Int)) (r4 r6 : ByteArray) (hf : G.report_Place.f fu s0 s1 s2 s3 s4 s5 s6 s7 s8 b0 b1 b2 b3 b4 b5 b6 s9 s10 s11 (p == 63) = some (r1, r2, r3, r4, r5, r6)) :
    DeedOk w st st (.plain 51) (.agg #[.int .i64 s0, .int .i64 s1, .int .i64 s2, .int .i64 s3, .int .i64 s4, .int .i64 s5, .int .i64 s6, .int .i64 s7, .int .i64 s8, .bool b0, .bool b1, .bool b2, .bool b3, .bool b4, .bool b5, .bool b6, .int .i64 s9, .int .i64 s10, .int .i64 s11]) (.agg #[.int .i64 k, .int .u8 p, .slice A l.length c, .string i, .int .u8 f, .string dt]) (fun v R => ∃ gA v2, v = .slice (some ⟨gA, 0, none⟩) 1 1 ∧ R = [(gA, IsCells [.int .i64 r1, .int .u8 r2, v2, .string r4, .int .u8 r5, .string r6] 37)]) := by
  intro gs bs v W hv HO
  obtain rfl : v = .func (.func 51) #[] #[] := hv
  refine ⟨_, _, rfl, enters_of Tryz.func51 (by kernel_rfl) rfl, ?_⟩
  rw [Array.append_empty]
  have HA := Lib.hid fun W (hW : Below w.heap.size w W) => arg_calls k p f i dt A c l hc 0 (-1) W (Kd.C_below hr hW)
  rw [h6] at HA
  obtain ⟨pr, hpr⟩ : ∃ pr, (p == 63) = pr := ⟨_, rfl⟩
  rw [hpr] at hf
  have HP := Lib.hid fun W => G.report_Place.calls fu s0 s1 s2 s3 s4 s5 s6 s7 s8 b0 b1 b2 b3 b4 b5 b6 s9 s10 s11 pr r1 r2 r3 r4 r5 r6 W hf
  clear hr hc h6 hf
  go_enter Tryz.func51, Tryz.ntmps51
  go_wp2_with (first
    | (go_at_call 86; refine (HA.out _ HO.below).mono ?_; rintro eN wN ⟨rfl, hbN⟩; have HON := HO.call hbN; clear HO hbN; have HO := HON; clear HON)
    | (go_at_call 89; refine (HP.out _).mono ?_; rintro eN wN ⟨v2, rfl, hS, hbN⟩; have HON := HO.call hbN; clear HO hbN; have HO := HON; clear HON)
    | ((with_reducible refine gateAt (N := 4) rfl ?_); refine own_boxF (T := 34) (cs := [.int .i64 s0, .int .i64 s1, .int .i64 s2, .int .i64 s3, .int .i64 s4, .int .i64 s5, .int .i64 s6, .int .i64 s7, .int .i64 s8, .bool b0, .bool b1, .bool b2, .bool b3, .bool b4, .bool b5, .bool b6, .int .i64 s9, .int .i64 s10, .int .i64 s11]) HO rfl rfl rfl ?_; clear HO; intro gf wN hggf HO; (try simp only [Act.put, List.setIfInBounds_toArray, List.set_cons_zero, List.set_cons_succ]))
    | ((with_reducible refine gateAt (N := 5) rfl ?_); refine own_boxF (T := 37) (cs := [.int .i64 k, .int .u8 p, .slice A l.length c, .string i, .int .u8 f, .string dt]) HO rfl rfl rfl ?_; clear HO; intro gq wN hggq HO; (try simp only [Act.put, List.setIfInBounds_toArray, List.set_cons_zero, List.set_cons_succ]))
    | ((with_reducible refine gateAt (N := 28) rfl ?_); refine own_litF HO rfl (n := 1) (cs := [.int .i64 r1, .int .u8 r2, v2, .string r4, .int .u8 r5, .string r6]) (T := 37) (by first | (go_simp; done) | (go_simp; rfl)) ?_; clear HO; intro gA wN hggA HO; (try simp only [Act.put, List.setIfInBounds_toArray, List.set_cons_zero, List.set_cons_succ]))
    | (first
      | ((with_reducible refine gate ?_); (first
      | ((refine own_load (T := 37) HO rfl rfl rfl (by first | exact .head _ | exact .tail _ (.head _) | exact .tail _ (.tail _ (.head _)) | exact .tail _ (.tail _ (.tail _ (.head _))) | exact .tail _ (.tail _ (.tail _ (.tail _ (.head _)))) | exact .tail _ (.tail _ (.tail _ (.tail _ (.tail _ (.head _)))))) Tryz.isAgg37 Tryz.sizeOf37 (by repeat constructor) ?_); (try simp only [Act.put, List.setIfInBounds_toArray, List.set_cons_zero, List.set_cons_succ]))
      | ((refine own_load (T := 34) HO rfl rfl rfl (by first | exact .head _ | exact .tail _ (.head _) | exact .tail _ (.tail _ (.head _)) | exact .tail _ (.tail _ (.tail _ (.head _))) | exact .tail _ (.tail _ (.tail _ (.tail _ (.head _)))) | exact .tail _ (.tail _ (.tail _ (.tail _ (.tail _ (.head _)))))) Tryz.isAgg34 Tryz.sizeOf34 (by repeat constructor) ?_); (try simp only [Act.put, List.setIfInBounds_toArray, List.set_cons_zero, List.set_cons_succ]))
      | ((refine own_load1 (T := 5) HO rfl rfl rfl (by first | exact .head _ | exact .tail _ (.head _) | exact .tail _ (.tail _ (.head _)) | exact .tail _ (.tail _ (.tail _ (.head _))) | exact .tail _ (.tail _ (.tail _ (.tail _ (.head _)))) | exact .tail _ (.tail _ (.tail _ (.tail _ (.tail _ (.head _)))))) Tryz.isAgg5 rfl ?_); (try simp only [Act.put, List.setIfInBounds_toArray, List.set_cons_zero, List.set_cons_succ]))
      | ((refine own_store1 (T := 5) HO rfl rfl rfl (by first | exact .const | exact .tmp rfl | exact .func) (by rfl) (by first | exact .here | exact .there (.here) | exact .there (.there (.here)) | exact .there (.there (.there (.here))) | exact .there (.there (.there (.there (.here)))) | exact .there (.there (.there (.there (.there (.here)))))) Tryz.sizeOf5 (by repeat constructor) (by rfl) ?_); clear HO; intro wN HO; (try simp only [Act.put, List.setIfInBounds_toArray, List.set_cons_zero, List.set_cons_succ]))
      | ((refine own_store (T := 37) HO rfl rfl rfl rfl (by first | exact .here | exact .there (.here) | exact .there (.there (.here)) | exact .there (.there (.there (.here))) | exact .there (.there (.there (.there (.here)))) | exact .there (.there (.there (.there (.there (.here)))))) Tryz.sizeOf37 (by repeat constructor) rfl ?_); clear HO; intro wN HO; (try simp only [Act.put, List.setIfInBounds_toArray, List.set_cons_zero, List.set_cons_succ]))
      | ((refine own_store (T := 34) HO rfl rfl rfl rfl (by first | exact .here | exact .there (.here) | exact .there (.there (.here)) | exact .there (.there (.there (.here))) | exact .there (.there (.there (.there (.here)))) | exact .there (.there (.there (.there (.there (.here)))))) Tryz.sizeOf34 (by repeat constructor) rfl ?_); clear HO; intro wN HO; (try simp only [Act.put, List.setIfInBounds_toArray, List.set_cons_zero, List.set_cons_succ]))))))
  go_ret
  exact ⟨_, _, rfl, (HO.less (.cons_cons _ (.cons _ (.cons _ (.refl _))))).perm (List.perm_append_comm (l₁ := [_])), gA, v2, rfl, rfl⟩
end Go.Proofs.YtdmifbffamckbaaGreatDoor
end
section
namespace Go.Proofs.YtdmifbffamckbaaGreatDoor.Kit
set_option linter.unusedVariables false
set_option linter.unusedSimpArgs false
open Go Go.RowKit
def IsMapD {H : Type} (P : Program) (k : TypeId) (R : Value → Option (DataW H × List MemPlace)) (n : Nat) (D : DataW H) (o : Obj) : Prop :=
  ∃ es clock, o = .map es clock ∧ Go.WideElems.Fit P k R es clock ∧ es.size ≤ n ∧ D = .map ((es.toList.map (Go.WideElems.rg P k R)).foldr DataW.insert [])
variable {H : Type} {P : Program} {ops : Array Oper} {Q : Exit → Act → World → Prop} {a : Act} {w w' W0 : World} {rest : List Oper} {o : Oper} {bs bs' : Res} {g n : Nat} {t k e : TypeId} {R : Value → Option (DataW H × List MemPlace)} {D d : DataW H} {p p' : Obj → Prop}
theorem Mine.ownsMap (HO : Mine W0 w bs) (hm : (g, IsMapD P k R n D) ∈ bs) : w.ownsMap P k R g n D := by
  obtain ⟨_, o, ho, es, c, rfl, h1, h2, h3⟩ := HO.held _ hm
  exact ⟨es, c, ho, h1, h2, h3⟩
theorem Mine.grownT (h : Mine W0 w bs) (hu : Upd bs g p p' bs') (hgr : w.grownBy w' (some g)) (hg : ∃ o, w'.heap[g]? = some o ∧ p' o) : Mine W0 w' bs' := by
  have hge := (h.held _ hu.mem).1
  refine ⟨h.below.grown hgr h.below.size (fun k e => by cases e; exact hge), by rw [hu.keys]; exact h.nodup, fun q hq => ?_⟩
  rcases hu.cases h.nodup q hq with rfl | ⟨hq, hne⟩
  · exact ⟨hge, hg⟩
  · obtain ⟨h1, o, h2, h3⟩ := h.held q hq
    exact ⟨h1, o, (hgr.block q.1 (h.lt hq) (fun e => hne (Option.some.inj e))).trans h2, h3⟩
theorem own_makeMapD (P' : Program) (k : TypeId) (R : Value → Option (DataW H × List MemPlace)) (HO : Mine W0 w bs) {t : TypeId} (ho : o.op = .makeMap t none) (hgd : Region.wanted o (yielded ops a.tmps) = true)
    (h : ∀ g w', W0.heap.size ≤ g → Mine W0 w' (bs ++ [(g, IsMapD P' k R 0 (.map []))]) → wpList P ops Q rest (a.put o.dst (.map (some g))) w') : wpList P ops Q (o :: rest) a w :=
  wpList_want hgd fun _ hK => by
    have hr : (execOp a.eval o).run P w = .ok (.value (.map (some w.heap.size))) (w.alloc (.map #[] 0)) := by
      simp only [execOp, ho]; rfl
    unfold Oper.wp
    rw [hr]
    obtain ⟨es, c, h1, h2, h3, h4⟩ := World.ownsMap_made w P' k R
    refine hK _ _ (h _ _ HO.below.size (HO.new (.map #[] 0) (IsMapD P' k R 0 (.map [])) ?_))
    have e1 := (MapKept.heap_alloc w (.map #[] 0)).1
    rw [e1] at h1
    obtain ⟨rfl, rfl⟩ := Obj.map.inj (Option.some.inj h1)
    exact ⟨_, _, rfl, h2, h3, h4⟩
theorem own_put (HO : Mine W0 w bs) {m x y : Operand} {key val : Value} {kl : Lit} {ps : List MemPlace} (ho : o.op = .mapUpdate t m x y) (hgd : Region.wanted o (yielded ops a.tmps) = true) (hm : a.eval m = .map (some g)) (hkx : EvalTo a x key) (hvy : EvalTo a y val)
    (K : Maps.Keyed P k) (ht : P.underlying t = some (.map k e)) (hu : Upd bs g (IsMapD P k R n D) (IsMapD P k R (n + 1) (D.put kl d)) bs') (hn : n < maxLen) (hkey : Go.keyOf P k key = some kl) (hval : R val = some (d, ps))
    (h : ∀ w', Mine W0 w' bs' → wpList P ops Q rest (a.put o.dst undef) w') : wpList P ops Q (o :: rest) a w :=
  wpList_want hgd fun _ hK => by
    have e1 := hkx.eq
    have e2 := hvy.eq
    obtain ⟨w', hrun, ⟨es, c, h1, h2, h3, h4⟩, r2⟩ := (HO.ownsMap hu.mem).update K ht hn hkey hval
    unfold Oper.wp
    simp [execOp, ho, hm, e1, e2, hrun, Result.andThen]
    exact hK _ _ (h _ (HO.grownT hu r2 ⟨_, h1, es, c, rfl, h2, h3, h4⟩))
end Go.Proofs.YtdmifbffamckbaaGreatDoor.Kit
end
section
namespace Go.Proofs.YtdmifbffamckbaaGreatDoor
set_option linter.unusedVariables false
set_option linter.unusedSimpArgs false
open Go.RowKit Kit Go.Maps Go.Sort Go.Shelf
def ownL : List Int := [1, 9, 66, 67, 1000, 1002, 1003, 1004, 1005, 1006, 1015, 2004]
def ownTo (k : Nat) : List Int := ownL.filter fun n => decide (n < k)
def ownD (l : List Int) : DataW Unit := l.foldl (fun D n => D.put (.int .i64 n) (.lit (.bool true))) (.map [])
theorem ownD_snoc (l : List Int) (n : Int) : ownD (l ++ [n]) = (ownD l).put (.int .i64 n) (.lit (.bool true)) := by simp [ownD]
theorem mem_ownL {n : Int} : n ∈ ownL ↔ (n = 1 ∨ n = 9 ∨ n = 66 ∨ n = 67 ∨ n = 1000 ∨ n = 1002 ∨ n = 1003 ∨ n = 1004 ∨ n = 1005 ∨ n = 1006 ∨ n = 1015 ∨ n = 2004) := by simp [ownL]
theorem ownTo_in {k : Nat} (h : (k : Int) ∈ ownL) : ownTo (k + 1) = ownTo k ++ [(k : Int)] := by
  have h := mem_ownL.1 h
  have : k = 1 ∨ k = 9 ∨ k = 66 ∨ k = 67 ∨ k = 1000 ∨ k = 1002 ∨ k = 1003 ∨ k = 1004 ∨ k = 1005 ∨ k = 1006 ∨ k = 1015 ∨ k = 2004 := by omega
  rcases this with rfl | rfl | rfl | rfl | rfl | rfl | rfl | rfl | rfl | rfl | rfl | rfl <;> decide
theorem ownTo_out {k : Nat} (h : (k : Int) ∉ ownL) : ownTo (k + 1) = ownTo k := by
  unfold ownTo
  refine List.filter_congr fun n hn => ?_
  have : n ≠ (k : Int) := fun e => h (e ▸ hn)
  rw [decide_eq_decide]
  omega
theorem ownTo_le (k : Nat) : (ownTo k).length ≤ 12 := List.length_filter_le _ _
theorem ownTo_all : ownTo 2005 = ownL := by decide
theorem setM_ok (m : Md) (n : Int) (on : Bool) : (setM m true n on).2 = decide (n ∈ ownL) := by
  by_cases h : n ∈ ownL
  · rw [decide_eq_true h]
    rcases mem_ownL.1 h with rfl | rfl | rfl | rfl | rfl | rfl | rfl | rfl | rfl | rfl | rfl | rfl <;> rfl
  · rw [decide_eq_false h]
    rw [mem_ownL] at h
    simp only [not_or] at h
    obtain ⟨h1, h2, h3, h4, h5, h6, h7, h8, h9, h10, h11, h12⟩ := h
    simp [setM, flagIx, choiceIx, isMouse, isCoding, h1, h2, h3, h4, h5, h6, h7, h8, h9, h10, h11, h12]
theorem setM_pair (m : Md) (n : Int) (on : Bool) : setM m true n on = ((setM m true n on).1, decide (n ∈ ownL)) := by
  rw [← setM_ok m n on]
theorem keys_of {ss : List Int} (h : ss.Perm (intKeys (ownD ownL))) : ss.mergeSort (fun x y => decide (x ≤ y)) = ownL := by
  rw [mergeSort_of_perm_i h]
  exact (mergeSort_of_perm_i (l' := ownL) (by decide)).trans (List.mergeSort_of_pairwise (by decide))
theorem keys_calls (mb : Option Nat) (W : World) : Calls Tryz.prog 175 #[.map mb] W fun e w' => e = .returned (.func (.func 187) #[] #[.pointer (some ⟨W.heap.size, 0, none⟩)]) ∧ w' = W.alloc (.cells #[.map mb] 186) :=
  (callsIn_wide (n := 5)).1 (AnyZI.keys_in Tryz.keysA Fence.wide 5 trivial rfl mb W)
theorem sortsA (m : Nat) : AnyZI.SortsIn Tryz.prog Tryz.sortedA_ren Fence.wide m :=
  ⟨fun blk off cap ss W hH hblk hsz => callsIn_wide.2 (Tryz.slices_Sort_int blk off cap ss W hH hblk hsz),
   fun p cap W => callsIn_wide.2 (Tryz.slices_Sort_int_none p cap W)⟩
theorem sorted_calls (g nn : Nat) (D : DataW Unit) (W : World) (hown : W.ownsMap Tryz.prog 3 (plainElem (H := Unit) Tryz.prog 4) g nn D) (hmax : Maps.size D ≤ maxLen) (hbytes : Maps.size D * 8 ≤ 140737488355328) :
    Calls Tryz.prog 174 #[.func (.func 187) #[] #[.pointer (some ⟨W.heap.size, 0, none⟩)]] (W.alloc (.cells #[.map (some g)] 186)) fun e w' => ∃ (v : Value) (ss : List Int), e = .returned v ∧ ss.Perm (intKeys D) ∧
      w'.ownsRow (W.heap.size + 1) 3 1 v ss.length ((ss.mergeSort (fun x y => decide (x ≤ y))).map encZ) ∧ Below (W.heap.size + 1) (W.alloc (.cells #[.map (some g)] 186)) w' := by
  refine (callsIn_wide (n := 5)).1 ?_
  have hbl := hown.lt
  have hseq : SeqGives Fence.wide 2 Tryz.prog 187 #[.pointer (some ⟨W.heap.size, 0, none⟩)] encZ (fun ss => ss.Perm (intKeys D)) (Maps.size D) (W.alloc (.cells #[.map (some g)] 186)) :=
    AnyZI.keys_gives (ρ := Tryz.keysA_ren) { Tryz.keysA with } Fence.wide _ trivial rfl (by omega) W.heap.size g nn D _ (by simp) (by simp) (by
      obtain ⟨es, clock, hb, Ft, hs, hD⟩ := hown
      exact ⟨es, clock, (Below.heap_alloc _ _ g hbl).trans hb, Ft, hs, hD⟩)
  have cS := AnyZI.sorted_in Tryz.sortedA Fence.wide 5 trivial trivial trivial trivial rfl (by omega) (sortsA _) (enters_of Tryz.func186 (by kernel_rfl) rfl) 187 #[.pointer (some ⟨W.heap.size, 0, none⟩)] trivial (enters_of Tryz.func187 (by kernel_rfl) rfl) _ _ hmax hbytes _ hseq
  change CallsIn _ _ Tryz.prog 174 _ _ _ at cS
  refine cS.mono ?_
  rintro e w' ⟨v, ss, rfl, hS, hrow, hnil, hb⟩
  rw [Kit.size_alloc] at hrow hb
  exact ⟨v, ss, rfl, hS, hrow, hb⟩
def OwnAns (B : Nat) (v : Value) (w' : World) : Prop := ∃ g cap rest, v = .slice (some ⟨g, 0, none⟩) 12 cap ∧ B ≤ g ∧ w'.heap[g]? = some (.cells (ownL.map (Value.int .i64) ++ rest).toArray 3 (0, 0)) ∧ 12 ≤ cap
theorem wf_small (k : Nat) (h : k < 2005) : (Lit.int .i64 (k : Int)).wf = true := by
  simp [Lit.wf, IntKind.min, IntKind.max, IntKind.signed, IntKind.bits]
  omega
theorem meas2005 (k : Nat) (h : k < 2005) : 2005 - (intOf (.int .i64 (wrap64 ((k : Int) + 1)))).toNat < 2005 - (intOf (.int .i64 (k : Int))).toNat := by
  have e : wrap64 ((k : Int) + 1) = ((k + 1 : Nat) : Int) := by unfold wrap64; omega
  rw [e]
  show 2005 - (((k + 1 : Nat) : Int)).toNat < 2005 - ((k : Int)).toNat
  rw [Int.toNat_natCast, Int.toNat_natCast]
  omega
attribute [local irreducible] wpList Calls wpQuiet
theorem set_of (m : Md) (p : Bool) (n : Int) (on : Bool) (r : Md) (ok : Bool) (h : setM m p n on = (r, ok)) (w : World) :
    Calls Tryz.prog 82 #[m.v, .bool p, .int .i64 n, .bool on] w fun e w' => e = .returned (.tuple #[r.v, .bool ok]) ∧ Below w.heap.size w w' := by
  have := set_calls m p n on w
  rw [h] at this
  exact this
set_option maxRecDepth 100000 in
set_option maxHeartbeats 4000000 in
theorem own_calls (w : World) : Calls Tryz.prog 157 #[] w fun e w' => ∃ v, e = .returned v ∧ OwnAns w.heap.size v w' ∧ Below w.heap.size w w' := by
  have HO := Mine.start w
  go_enter Tryz.func157, Tryz.ntmps157
  go_wp2_with (first
      | ((with_reducible refine gate ?_); (first
      | ((refine own_makeMapD Tryz.prog 3 (plainElem (H := Unit) Tryz.prog 4) HO rfl rfl ?_); clear HO; intro gM wN hgM HO; (simp only [List.nil_append, List.cons_append] at HO); (try simp only [Act.put, List.setIfInBounds_toArray, List.set_cons_zero, List.set_cons_succ]))
      | ((refine own_box HO rfl rfl rfl ?_); clear HO; intro gN wN hgN HO; (simp only [List.nil_append, List.cons_append] at HO); (try simp only [Act.put, List.setIfInBounds_toArray, List.set_cons_zero, List.set_cons_succ]))
      | ((refine own_alloc (T := 23) HO rfl rfl Tryz.zeroValue23 rfl ?_); clear HO; intro gN wN hgN HO; (simp only [List.nil_append, List.cons_append] at HO); (try simp only [Act.put, List.setIfInBounds_toArray, List.set_cons_zero, List.set_cons_succ]))
      | ((refine own_load (T := 23) HO rfl rfl rfl (by first | exact .head _ | exact .tail _ (.head _) | exact .tail _ (.tail _ (.head _)) | exact .tail _ (.tail _ (.tail _ (.head _))) | exact .tail _ (.tail _ (.tail _ (.tail _ (.head _)))) | exact .tail _ (.tail _ (.tail _ (.tail _ (.tail _ (.head _)))))) Tryz.isAgg23 Tryz.sizeOf23 (by repeat constructor) ?_); (try simp only [Act.put, List.setIfInBounds_toArray, List.set_cons_zero, List.set_cons_succ]))
      | ((refine own_store (T := 23) HO rfl rfl rfl rfl (by first | exact .here | exact .there (.here) | exact .there (.there (.here)) | exact .there (.there (.there (.here))) | exact .there (.there (.there (.there (.here)))) | exact .there (.there (.there (.there (.there (.here)))))) Tryz.sizeOf23 (by repeat constructor) rfl ?_); clear HO; intro wN HO; (try simp only [Act.put, List.setIfInBounds_toArray, List.set_cons_zero, List.set_cons_succ])))))
  go_loopw [7] (fun i wr => ∃ k : Nat, k ≤ 2005 ∧ i = .int .i64 (k : Int) ∧ Mine w wr [(gN, IsCells [Value.bool false, Value.bool false, Value.bool false, Value.bool false, Value.bool false, Value.bool false, Value.bool false, Value.int .i64 0, Value.int .i64 0, Value.int .i64 0] 23), (gM, IsMapD Tryz.prog 3 (plainElem (H := Unit) Tryz.prog 4) (ownTo k).length (ownD (ownTo k)))]) (fun i _ => 2005 - (intOf i).toNat)
  case atStart => exact ⟨0, by omega, rfl, HO⟩
  case round =>
    obtain ⟨k, hk, rfl, HOn⟩ := hrel
    clear HO
    have HO := HOn
    clear HOn
    by_cases hlt : k < 2005
    · have hc1 : decide ((k : Int) < 2005) = true := decide_eq_true (by omega)
      have HLT := Lib.hid hlt
      by_cases hin : (k : Int) ∈ ownL
      · have hs := setM_pair Md.zero (k : Int) true
        rw [decide_eq_true hin] at hs
        have HS := Lib.hid hs
        have hto := ownTo_in hin
        have HTO := Lib.hid hto
        have hwf : (Lit.int .i64 (k : Int)).wf = true := wf_small k hlt
        have hkey : Go.keyOf Tryz.prog 3 (.int .i64 (k : Int)) = some (.int .i64 (k : Int)) := Maps.keyOf_int_mk Tryz.underlying3 hwf
        have HKEY := Lib.hid hkey
        have hroom : (ownTo k).length < maxLen := Nat.lt_of_le_of_lt (ownTo_le k) (by decide)
        have HROOM := Lib.hid hroom
        clear hs hto hwf hkey hroom hin hlt hk
        go_wp2_with (first
      | (go_at_call 82; refine (set_of Md.zero true (k : Int) true _ true HS.out _).mono ?_; rintro eN wN ⟨rfl, hbN⟩; have HON := HO.call hbN; clear HO hbN; have HO := HON; clear HON)
      | ((with_reducible refine gate ?_); (first
      | ((refine own_put (R := (plainElem (H := Unit) Tryz.prog 4)) HO rfl rfl rfl (by first | exact .const | exact .tmp rfl | exact .func) (by first | exact .const | exact .tmp rfl | exact .func) (Maps.int_keyed Tryz.underlying3) Tryz.underlying186 (by first | exact .here | exact .there .here) HROOM.out HKEY.out (plainElem_bool Tryz.underlying4 true) ?_); clear HO; intro wN HO; (try simp only [Act.put, List.setIfInBounds_toArray, List.set_cons_zero, List.set_cons_succ]))
      | ((refine own_box HO rfl rfl rfl ?_); clear HO; intro gX wN hgN HO; (simp only [List.nil_append, List.cons_append] at HO); (try simp only [Act.put, List.setIfInBounds_toArray, List.set_cons_zero, List.set_cons_succ]))
      | ((refine own_alloc (T := 23) HO rfl rfl Tryz.zeroValue23 rfl ?_); clear HO; intro gZ wN hgZ HO; (simp only [List.nil_append, List.cons_append] at HO); (try simp only [Act.put, List.setIfInBounds_toArray, List.set_cons_zero, List.set_cons_succ]))
      | ((refine own_load (T := 23) HO rfl rfl rfl (by first | exact .head _ | exact .tail _ (.head _) | exact .tail _ (.tail _ (.head _)) | exact .tail _ (.tail _ (.tail _ (.head _))) | exact .tail _ (.tail _ (.tail _ (.tail _ (.head _)))) | exact .tail _ (.tail _ (.tail _ (.tail _ (.tail _ (.head _)))))) Tryz.isAgg23 Tryz.sizeOf23 (by repeat constructor) ?_); (try simp only [Act.put, List.setIfInBounds_toArray, List.set_cons_zero, List.set_cons_succ]))
      | ((refine own_store (T := 23) HO rfl rfl rfl rfl (by first | exact .here | exact .there (.here) | exact .there (.there (.here)) | exact .there (.there (.there (.here))) | exact .there (.there (.there (.there (.here)))) | exact .there (.there (.there (.there (.there (.here)))))) Tryz.sizeOf23 (by repeat constructor) rfl ?_); clear HO; intro wN HO; (try simp only [Act.put, List.setIfInBounds_toArray, List.set_cons_zero, List.set_cons_succ])))))
        go_roundw
        case rel =>
          refine ⟨k + 1, by have := HLT.out; omega, congrArg (Value.int .i64) (show wrap64 ((k : Int) + 1) = ((k + 1 : Nat) : Int) by have := HLT.out; unfold wrap64; omega), ?_⟩
          rw [HTO.out, ownD_snoc, List.length_append]
          exact HO.less (.cons_cons _ (.cons_cons _ (.cons _ .slnil)))
        case measure => exact meas2005 k HLT.out
      · have hs := setM_pair Md.zero (k : Int) true
        rw [decide_eq_false hin] at hs
        have HS := Lib.hid hs
        have HTO := Lib.hid (ownTo_out hin)
        clear hs hin hlt hk
        go_wp2_with (first
      | (go_at_call 82; refine (set_of Md.zero true (k : Int) true _ false HS.out _).mono ?_; rintro eN wN ⟨rfl, hbN⟩; have HON := HO.call hbN; clear HO hbN; have HO := HON; clear HON)
      | ((with_reducible refine gate ?_); (first
      | ((refine own_box HO rfl rfl rfl ?_); clear HO; intro gX wN hgN HO; (simp only [List.nil_append, List.cons_append] at HO); (try simp only [Act.put, List.setIfInBounds_toArray, List.set_cons_zero, List.set_cons_succ]))
      | ((refine own_alloc (T := 23) HO rfl rfl Tryz.zeroValue23 rfl ?_); clear HO; intro gZ wN hgZ HO; (simp only [List.nil_append, List.cons_append] at HO); (try simp only [Act.put, List.setIfInBounds_toArray, List.set_cons_zero, List.set_cons_succ]))
      | ((refine own_load (T := 23) HO rfl rfl rfl (by first | exact .head _ | exact .tail _ (.head _) | exact .tail _ (.tail _ (.head _)) | exact .tail _ (.tail _ (.tail _ (.head _))) | exact .tail _ (.tail _ (.tail _ (.tail _ (.head _)))) | exact .tail _ (.tail _ (.tail _ (.tail _ (.tail _ (.head _)))))) Tryz.isAgg23 Tryz.sizeOf23 (by repeat constructor) ?_); (try simp only [Act.put, List.setIfInBounds_toArray, List.set_cons_zero, List.set_cons_succ]))
      | ((refine own_store (T := 23) HO rfl rfl rfl rfl (by first | exact .here | exact .there (.here) | exact .there (.there (.here)) | exact .there (.there (.there (.here))) | exact .there (.there (.there (.there (.here)))) | exact .there (.there (.there (.there (.there (.here)))))) Tryz.sizeOf23 (by repeat constructor) rfl ?_); clear HO; intro wN HO; (try simp only [Act.put, List.setIfInBounds_toArray, List.set_cons_zero, List.set_cons_succ])))))
        go_roundw
        case rel =>
          refine ⟨k + 1, by have := HLT.out; omega, congrArg (Value.int .i64) (show wrap64 ((k : Int) + 1) = ((k + 1 : Nat) : Int) by have := HLT.out; unfold wrap64; omega), ?_⟩
          rw [HTO.out]
          exact HO.less (.cons_cons _ (.cons_cons _ (.cons _ .slnil)))
        case measure => exact meas2005 k HLT.out
    · obtain rfl : k = 2005 := by omega
      rw [ownTo_all] at HO
      have hsz : Maps.size (ownD ownL) = 12 := by decide
      have HZ := Lib.hid hsz
      clear hsz hlt hk
      go_wp2_with (first
        | (go_at_call 175; refine (keys_calls _ _).mono ?_; rintro eN wN ⟨rfl, rfl⟩)
        | (go_at_call 174; refine (sorted_calls gM _ _ _ (HO.ownsMap (.tail _ (.head _))) (by rw [HZ.out]; decide) (by rw [HZ.out]; decide)).mono ?_; rintro eN wN ⟨v, ss, rfl, hS, hrow, hb⟩))
      go_ret
      have hsl := keys_of hS
      have hlen : ss.length = 12 := by have := congrArg List.length hsl; rw [List.length_mergeSort] at this; rw [this]; rfl
      rw [hsl, hlen] at hrow
      refine ⟨v, rfl, ?_, (HO.below.alloc HO.below.size _).trans (hb.mono (by have := HO.below.size; omega))⟩
      rcases hrow.2 with ⟨_, h0⟩ | ⟨g, cap, cur, rfl, hbase, hg, r1, r2, r3, r4⟩
      · cases h0
      · refine ⟨g, cap, cur.toList.drop 12, rfl, by have := HO.below.size; omega, ?_, r1⟩
        rw [hg]
        have : cur = (List.map (Value.int .i64) ownL ++ cur.toList.drop 12).toArray := by
          have h4 : cur.toList.take 12 = List.map (Value.int .i64) ownL := r4
          apply Array.ext'
          rw [← h4]
          simp
        rw [← this]
end Go.Proofs.YtdmifbffamckbaaGreatDoor
end
section
namespace Go.Proofs.YtdmifbffamckbaaGreatDoor
set_option linter.unusedVariables false
set_option linter.unusedSimpArgs false
open Go.RowKit
def idxI : List Int → Int → Int
  | [], _ => -1
  | z :: zs, v => if v = z then 0 else (if idxI zs v < 0 then -1 else idxI zs v + 1)
theorem idxI_range (zs : List Int) (v : Int) : -1 ≤ idxI zs v ∧ idxI zs v < zs.length := by
  induction zs with
  | nil => simp [idxI]
  | cons z zs ih => simp only [idxI]; split <;> (try split) <;> simp <;> omega
theorem idxI_skip (zs : List Int) (v : Int) (k : Nat) (hk : k ≤ zs.length) (h : ∀ j, j < k → zs.getD j 0 ≠ v) : idxI zs v = if idxI (zs.drop k) v < 0 then -1 else idxI (zs.drop k) v + k := by
  induction k generalizing zs with
  | zero => have := idxI_range zs v; simp; omega
  | succ k ih =>
    cases zs with
    | nil => simp at hk
    | cons z zs =>
      have h0 : v ≠ z := fun e => h 0 (by omega) (by simp [e])
      have h1 := ih zs (by simpa using hk) (fun j hj => by have := h (j + 1) (by omega); simpa using this)
      simp only [idxI, if_neg h0, List.drop_succ_cons]
      rw [h1]
      split <;> split <;> simp at * <;> omega
theorem idxI_hit (zs : List Int) (v : Int) (k : Nat) (hk : k < zs.length) (h : ∀ j, j < k → zs.getD j 0 ≠ v) (he : zs.getD k 0 = v) : idxI zs v = k := by
  rw [idxI_skip zs v k (by omega) h]
  have : zs.drop k = zs.getD k 0 :: zs.drop (k + 1) := by simp [List.getElem?_eq_getElem hk]
  rw [this, he]
  simp [idxI]
theorem idxI_miss (zs : List Int) (v : Int) (h : ∀ j, j < zs.length → zs.getD j 0 ≠ v) : idxI zs v = -1 := by
  rw [idxI_skip zs v zs.length (by omega) h]
  simp [idxI]
set_option maxHeartbeats 400000 in
theorem index_ints (b off n cap : Nat) (zs : List Int) (v : Int) (w : World) (hl : zs.length = n) (hm : n ≤ 4611686018427387904)
    (hc : ∀ j, j < n → w.cell? ⟨b, off + j, none⟩ = some (.int .i64 (zs[j]?.getD 0))) :
    Calls Tryz.prog 159 #[.slice (some ⟨b, off, none⟩) n cap, .int .i64 v] w fun e w' => e = .returned (.int .i64 (idxI zs v)) ∧ w' = w := by
  have HL := Lib.hid hl
  have HC := Lib.hid hc
  clear hc hl
  go_enter Tryz.func159, Tryz.ntmps159
  go_wp2
  go_loop [5, 8] (fun _ i => ∃ k : Nat, k ≤ n ∧ i = .int .i64 k ∧ Hid (∀ j, j < k → zs.getD j 0 ≠ v)) (fun _ i => n - (intOf i).toNat)
  case atStart => exact ⟨0, Nat.zero_le _, rfl, Lib.hid (by intro j hj; omega)⟩
  case round =>
    obtain ⟨k, hk, rfl, HN⟩ := hrel
    by_cases hlt : k < n
    · have hcell := HC.out k hlt
      by_cases he : v = zs[k]?.getD 0
      · have hb : (v == zs[k]?.getD 0) = true := beq_iff_eq.2 he
        have HE : zs.getD k 0 = v := by rw [he]; simp
        have H2 := Lib.hid (idxI_hit zs v k (by rw [HL.out]; exact hlt) HN.out HE)
        clear he HE
        go_wp2
        go_ret
        exact ⟨ret_int H2.out.symm, rfl⟩
      · have hb : (v == zs[k]?.getD 0) = false := beq_eq_false_iff_ne.2 he
        have HE : zs.getD k 0 ≠ v := fun h => he (by rw [← h]; simp)
        have H2 : Hid (∀ j, j < k + 1 → zs.getD j 0 ≠ v) := Lib.hid (by intro j hj; by_cases e : j = k; (subst e; exact HE); exact HN.out j (by omega))
        clear he HE
        go_wp2
        go_round
        case rel => exact ⟨k + 1, by omega, by go_num, H2⟩
        case measure => simp [intOf]; omega
    · have H2 := Lib.hid (idxI_miss zs v (by intro j hj; rw [HL.out] at hj; exact HN.out j (by omega)))
      go_wp2
      go_ret
      exact ⟨ret_int H2.out.symm, rfl⟩
end Go.Proofs.YtdmifbffamckbaaGreatDoor
end
section
namespace Go.Proofs.YtdmifbffamckbaaGreatDoor
set_option linter.unusedVariables false
set_option linter.unusedSimpArgs false
open Go.RowKit Kit Go.Shelf Go.Proofs.YtdmifbffamckbaaGreatDoorW.PrintWords
def HasCells (w : World) (g : Nat) (cs : List Value) (T : TypeId) : Prop := w.heap[g]? = some (.cells cs.toArray T (0, 0))
structure Keep (g : Nat) (A B : World) : Prop where
  size : A.heap.size ≤ B.heap.size
  same : ∀ k, k < A.heap.size → k ≠ g → B.heap[k]? = A.heap[k]?
theorem Keep.refl (g : Nat) (A : World) : Keep g A A := ⟨Nat.le_refl _, fun _ _ _ => rfl⟩
theorem Keep.below {g : Nat} {A B C : World} (h : Keep g A B) (hb : Below B.heap.size B C) : Keep g A C :=
  ⟨Nat.le_trans h.size hb.size, fun k hk hne => (hb.block k (Nat.lt_of_lt_of_le hk h.size)).trans (h.same k hk hne)⟩
def Kp (n1 g : Nat) (A B : World) : Prop := ∀ k o, k < n1 → k ≠ g → A.heap[k]? = some o → B.heap[k]? = some o
theorem Kp.refl (n1 g : Nat) (A : World) : Kp n1 g A A := fun _ _ _ _ h => h
theorem Kp.trans {n1 g : Nat} {A B C : World} (h : Kp n1 g A B) (k : Kp n1 g B C) : Kp n1 g A C := fun i o h1 h2 h3 => k i o h1 h2 (h i o h1 h2 h3)
theorem Keep.kp {g : Nat} {A B : World} (h : Keep g A B) (n1 : Nat) : Kp n1 g A B := fun k o _ h2 h3 => (h.same k (Array.getElem?_eq_some_iff.1 h3).1 h2).trans h3
theorem Keep.from {g B0 : Nat} {A B : World} (h : Keep g A B) (hg : g < B0) : KeepsFrom B0 A B :=
  ⟨h.size, fun k o hB hk _ => (h.same k (Array.getElem?_eq_some_iff.1 hk).1 (by omega)).trans hk⟩
theorem Kp.cell {n1 g : Nat} {A B : World} (h : Kp n1 g A B) {p : Addr} {v : Value} (hc : A.cell? p = some v) (hp : p.block < n1) (hne : p.block ≠ g) : B.cell? p = some v := by
  have hlt := World.block_lt_of_cell? A _ hc
  have h1 : A.heap[p.block]? = some A.heap[p.block] := by simp [hlt]
  have h2 := h _ _ hp hne h1
  unfold World.cell? at hc ⊢
  rw [h1] at hc
  rw [h2]
  exact hc
theorem HasCells.cell {w : World} {g : Nat} {v : Value} {T : TypeId} (h : HasCells w g [v] T) : w.cell? ⟨g, 0, none⟩ = some v := by
  unfold HasCells at h
  simp [World.cell?, h]
def pairO (n : Int) : Option (Fin 12 × Int) := if h : 0 ≤ idxI ownL n ∧ idxI ownL n < 12 then some (⟨(idxI ownL n).toNat, by omega⟩, n) else none
def pairsL (l : List Int) : List (Fin 12 × Int) := l.filterMap pairO
theorem idx_fin {n : Int} (h : 0 ≤ idxI ownL n) : ∃ j : Fin 12, idxI ownL n = (j.val : Int) ∧ pairO n = some (j, n) := by
  have h2 : idxI ownL n < 12 := (idxI_range ownL n).2
  refine ⟨⟨(idxI ownL n).toNat, by omega⟩, by simp; omega, ?_⟩
  unfold pairO
  rw [dif_pos ⟨h, h2⟩]
theorem idx_none {n : Int} (h : ¬ 0 ≤ idxI ownL n) : pairO n = none := by
  unfold pairO
  rw [dif_neg (fun e => h e.1)]
attribute [local irreducible] wpList Calls wpQuiet
def PlAns (W w' : World) (sv : Value) (v : Value) : Prop := ∃ g1 g3 gL cap rest, v = .func (.func 158) #[] #[.pointer (some ⟨g1, 0, none⟩), .pointer (some ⟨g3, 0, none⟩)] ∧ W.heap.size ≤ g1 ∧ W.heap.size ≤ g3 ∧ W.heap.size ≤ gL ∧
  HasCells w' g1 [sv] 26 ∧ HasCells w' g3 [.slice (some ⟨gL, 0, none⟩) 12 cap] 26 ∧ HasCells w' gL (ownL.map (Value.int .i64) ++ rest) 3 ∧ 12 ≤ cap
set_option maxRecDepth 100000 in
set_option maxHeartbeats 4000000 in
theorem places_calls (A : Option Addr) (n c : Nat) (w : World) : Calls Tryz.prog 125 #[.slice A n c] w fun e w' => ∃ v, e = .returned v ∧ PlAns w w' (.slice A n c) v ∧ Below w.heap.size w w' := by
  have HO := Mine.start w
  go_enter Tryz.func125, Tryz.ntmps125
  go_wp2_with (first
      | (go_at_call 157; refine (own_calls _).mono ?_; rintro eN wN ⟨v, rfl, ⟨gL, cpgL, rsL, rfl, hge, hgL, hcp⟩, hbN⟩; have HCP := Lib.hid hcp; clear hcp; have HON := (HO.call hbN).take (p := IsCells (Value.int .i64 1 :: Value.int .i64 9 :: Value.int .i64 66 :: Value.int .i64 67 :: Value.int .i64 1000 :: Value.int .i64 1002 :: Value.int .i64 1003 :: Value.int .i64 1004 :: Value.int .i64 1005 :: Value.int .i64 1006 :: Value.int .i64 1015 :: Value.int .i64 2004 :: rsL) 3) (fun q hq => HO.lt hq) HO.below.size hge ⟨_, hgL, rfl⟩; clear HO hbN hgL hge; have HO := HON; clear HON; (simp only [List.nil_append, List.cons_append] at HO))
      | ((with_reducible refine gate ?_); (first
      | ((refine own_box HO rfl rfl rfl ?_); clear HO; intro gB wN hgN HO; (simp only [List.nil_append, List.cons_append] at HO); (try simp only [Act.put, List.setIfInBounds_toArray, List.set_cons_zero, List.set_cons_succ]))
      | ((refine own_alloc (T := 26) HO rfl rfl Tryz.zeroValue26 rfl ?_); clear HO; intro gA wN hgA HO; (simp only [List.nil_append, List.cons_append] at HO); (try simp only [Act.put, List.setIfInBounds_toArray, List.set_cons_zero, List.set_cons_succ]))
      | ((refine own_load1 (T := 26) HO rfl rfl rfl (by first | exact .head _ | exact .tail _ (.head _) | exact .tail _ (.tail _ (.head _)) | exact .tail _ (.tail _ (.tail _ (.head _))) | exact .tail _ (.tail _ (.tail _ (.tail _ (.head _)))) | exact .tail _ (.tail _ (.tail _ (.tail _ (.tail _ (.head _)))))) Tryz.isAgg26 rfl ?_); (try simp only [Act.put, List.setIfInBounds_toArray, List.set_cons_zero, List.set_cons_succ]))
      | ((refine own_store (T := 26) HO rfl rfl rfl rfl (by first | exact .here | exact .there (.here) | exact .there (.there (.here)) | exact .there (.there (.there (.here))) | exact .there (.there (.there (.there (.here)))) | exact .there (.there (.there (.there (.there (.here)))))) Tryz.sizeOf26 (by repeat constructor) rfl ?_); clear HO; intro wN HO; (try simp only [Act.put, List.setIfInBounds_toArray, List.set_cons_zero, List.set_cons_succ])))))
  go_ret
  exact ⟨_, rfl, ⟨gB, gA, gL, cpgL, rsL, rfl, (HO.held _ (.head _)).1, (HO.held _ (.tail _ (.tail _ (.head _)))).1, (HO.held _ (.tail _ (.head _))).1, HO.at (.head _), HO.at (.tail _ (.tail _ (.head _))), HO.at (.tail _ (.head _)), HCP.out⟩, HO.below⟩
end Go.Proofs.YtdmifbffamckbaaGreatDoor
end
section
namespace Go.Proofs.YtdmifbffamckbaaGreatDoor
set_option linter.unusedVariables false
set_option linter.unusedSimpArgs false
open Go.RowKit Kit Go.Shelf Go.Proofs.YtdmifbffamckbaaGreatDoorW.PrintWords
attribute [local go_sem] Oper.semAt_some
theorem add_block (ad : Addr) (j : Nat) : (ad.add j).block = ad.block := by unfold Addr.add; split <;> rfl
theorem pairs_in {l : List Int} {k : Nat} (hk : k < l.length) {x : Int} (hx : l.getD k 0 = x) {j : Fin 12} (h : pairO x = some (j, x)) : pairsL (l.take (k + 1)) = pairsL (l.take k) ++ [(j, x)] := by
  have e : l[k] = x := by rw [← hx]; simp [List.getD, hk]
  rw [List.take_succ_eq_append_getElem hk, pairsL, List.filterMap_append, e]
  simp [h, pairsL]
theorem pairs_out {l : List Int} {k : Nat} (hk : k < l.length) {x : Int} (hx : l.getD k 0 = x) (h : pairO x = none) : pairsL (l.take (k + 1)) = pairsL (l.take k) := by
  have e : l[k] = x := by rw [← hx]; simp [List.getD, hk]
  rw [List.take_succ_eq_append_getElem hk, pairsL, List.filterMap_append, e]
  simp [h, pairsL]
theorem pairs_lt {l : List Int} {k : Nat} (hk : k < l.length) {x : Int} (hx : l.getD k 0 = x) {j : Fin 12} (h : pairO x = some (j, x)) : (pairsL (l.take k)).length < (pairsL l).length := by
  have h1 := pairs_in hk hx h
  have h2 : pairsL (l.take (k + 1) ++ l.drop (k + 1)) = pairsL (l.take (k + 1)) ++ pairsL (l.drop (k + 1)) := List.filterMap_append
  rw [List.take_append_drop] at h2
  rw [h2, h1]
  simp
theorem pairs_pre (l : List Int) (k : Nat) : pairsL (l.take k) <+: pairsL l := by
  have h2 : pairsL (l.take k ++ l.drop k) = pairsL (l.take k) ++ pairsL (l.drop k) := List.filterMap_append
  rw [List.take_append_drop] at h2
  exact ⟨_, h2.symm⟩
theorem own_cells {w : World} {gL : Nat} {rest : List Value} (h : HasCells w gL (ownL.map (Value.int .i64) ++ rest) 3) : ∀ j, j < 12 → w.cell? ⟨gL, 0 + j, none⟩ = some (.int .i64 (ownL[j]?.getD 0)) := by
  intro j hj
  unfold HasCells at h
  have h2 : (ownL.map (Value.int .i64) ++ rest)[j]? = some (.int .i64 (ownL[j]?.getD 0)) := by
    have hl : (ownL.map (Value.int .i64)).length = 12 := rfl
    rw [List.getElem?_append_left (by omega), List.getElem?_map]
    have : j < ownL.length := hj
    simp [this]
  simp [World.cell?, h, h2]
theorem meas_len (len k : Nat) (h : k < len) : len - (intOf (.int .i64 ((k : Int) + 1))).toNat < len - (intOf (.int .i64 (k : Int))).toNat := by
  show len - ((k : Int) + 1).toNat < len - ((k : Int)).toNat
  omega
set_option maxRecDepth 100000 in
set_option maxHeartbeats 4000000 in
theorem places1_in (n : Nat) (hn : 2 ≤ n) (l n1 g g1 g3 gL cap len c : Nat) (rest : List Value) (A : Option Addr) (nums : List Int) (hlen : nums.length = len) (hreach : len ≤ 1000000) (J Jx : List (Fin 12 × Int) → World → Prop)
    (hY : ∀ pre x W, J pre W → pre.length < (pairsL nums).length → YieldAt Fence.wide (n - 1) Tryz.prog l #[.int .i64 (x.1.val : Int), .int .i64 x.2] W fun e W' =>
      (e = .returned (.bool true) ∧ J (pre ++ [x]) W' ∧ Kp n1 g W W') ∨ (e = .returned (.bool false) ∧ Jx (pre ++ [x]) W'))
    (W : World) (h1 : HasCells W g1 [.slice A len c] 26) (h3 : HasCells W g3 [.slice (some ⟨gL, 0, none⟩) 12 cap] 26) (hL : HasCells W gL (ownL.map (Value.int .i64) ++ rest) 3)
    (b3 : g3 < n1 ∧ g3 ≠ g) (bL : gL < n1 ∧ gL ≠ g) (hA : ∀ j, j < len → ∃ ad, A = some ad ∧ W.cell? (ad.add j) = some (.int .i64 (nums.getD j 0)) ∧ ad.block < n1 ∧ ad.block ≠ g) (h0 : J [] W) :
    CallsIn Fence.wide n Tryz.prog 158 #[.func (.yield l) #[] #[], .pointer (some ⟨g1, 0, none⟩), .pointer (some ⟨g3, 0, none⟩)] W fun e W' => (∃ v, e = .returned v) ∧
      ((∃ ys, ys = pairsL nums ∧ J ys W') ∨ (∃ pre, pre <+: pairsL nums ∧ Jx pre W')) := by
  have c1 := h1.cell
  have hn1 : 1 ≤ n := by omega
  have hfI : Fence.wide.fn 159 := trivial
  refine callsIn_of_wp Tryz.func158 rfl trivial ?_ rfl
  simp only [Tryz.ntmps158, List.size_toArray, List.length_cons, List.length_nil, Nat.reduceAdd, Nat.reduceSub, Array.replicate_succ, Array.replicate_zero, List.push_toArray, List.append_toArray, List.nil_append, List.cons_append]
  gi_wp2
  gi_loopw [9] (fun i wr => ∃ k : Nat, k ≤ len ∧ i = .int .i64 k ∧ J (pairsL (nums.take k)) wr ∧ Kp n1 g W wr) (fun i _ => len - (intOf i).toNat)
  case atStart => exact ⟨0, Nat.zero_le _, rfl, h0, Kp.refl _ _ _⟩
  case round =>
    obtain ⟨k, hk, rfl, hJs, hkp⟩ := hrel
    by_cases hlt : k < len
    · obtain ⟨ad, rfl, hcell, hb1, hb2⟩ := hA k hlt
      have hc2 := hkp.cell hcell (by rw [add_block]; exact hb1) (by rw [add_block]; exact hb2)
      have hc3 := hkp.cell h3.cell b3.1 b3.2
      have hcL : HasCells wr gL (ownL.map (Value.int .i64) ++ rest) 3 := hkp _ _ bL.1 bL.2 hL
      obtain ⟨x, hx⟩ : ∃ x, nums.getD k 0 = x := ⟨_, rfl⟩
      rw [hx] at hc2
      have cI := index_ints gL 0 12 cap ownL x wr rfl (by decide) (own_cells hcL)
      by_cases hi : 0 ≤ idxI ownL x
      · obtain ⟨j, hj, hp⟩ := idx_fin hi
        have hpl := pairs_lt (l := nums) (k := k) (by omega) hx hp
        have hpi := pairs_in (l := nums) (k := k) (by omega) hx hp
        rw [hj] at cI
        obtain ⟨fn, tmps, assign, body, hy, hR⟩ := hY _ (j, x) wr hJs hpl
        dsimp only at hy
        rw [← hpi] at hR
        have HR := Lib.hid hR
        have HK := Lib.hid hkp
        have hd : decide (0 ≤ (j.val : Int)) = true := decide_eq_true (by omega)
        clear hR hkp hcell hA hpl hpi hi hcL hj hp
        gi_wp2_with (gi_at_call 159; refine (callsIn_wide.2 cI).mono ?_; rintro e w' ⟨rfl, rfl⟩)
        refine HR.out.mono ?_
        rintro e W3 (⟨rfl, hJ3, hk3⟩ | ⟨rfl, hJx3⟩)
        · gi_wp2
          go_roundw
          case rel => exact ⟨k + 1, by omega, by simp, hJ3, HK.out.trans hk3⟩
          case measure => exact meas_len len k hlt
        · gi_wp2
          refine bodyPost_ret (results_none rfl _ _ _) rfl ?_
          exact ⟨⟨_, rfl⟩, .inr ⟨_, pairs_pre nums (k + 1), hJx3⟩⟩
      · have hpo := pairs_out (l := nums) (k := k) (by omega) hx (idx_none hi)
        have hd : decide (0 ≤ idxI ownL x) = false := decide_eq_false hi
        have HJ := Lib.hid hJs
        have HK := Lib.hid hkp
        have HP := Lib.hid hpo
        clear hJs hkp hcell hA hpo hi hcL
        gi_wp2_with (gi_at_call 159; refine (callsIn_wide.2 cI).mono ?_; rintro e w' ⟨rfl, rfl⟩)
        refine ⟨fun _ h => (by cases h), ?_⟩
        gi_wp2
        go_roundw
        case rel => exact ⟨k + 1, by omega, by simp, by rw [HP.out]; exact HJ.out, HK.out⟩
        case measure => exact meas_len len k hlt
    · obtain rfl : k = len := by omega
      rw [List.take_of_length_le (by omega)] at hJs
      gi_wp2
      go_end0
      exact ⟨⟨_, rfl⟩, .inl ⟨_, rfl, hJs⟩⟩
def Nums (n1 g : Nat) (A : Option Addr) (nums : List Int) (W : World) : Prop := ∀ j, j < nums.length → ∃ ad, A = some ad ∧ W.cell? (ad.add j) = some (.int .i64 (nums.getD j 0)) ∧ ad.block < n1 ∧ ad.block ≠ g
theorem places_stops (n : Nat) (hn : 2 ≤ n) (n1 g g1 g3 gL cap c : Nat) (rest : List Value) (A : Option Addr) (nums : List Int) (hreach : nums.length ≤ 1000000) (w : World) (h1 : HasCells w g1 [.slice A nums.length c] 26) (h3 : HasCells w g3 [.slice (some ⟨gL, 0, none⟩) 12 cap] 26) (hL : HasCells w gL (ownL.map (Value.int .i64) ++ rest) 3)
    (b3 : g3 < n1 ∧ g3 ≠ g) (bL : gL < n1 ∧ gL ≠ g) (hA : Nums n1 g A nums w) :
    SeqStopsK Fence.wide n Tryz.prog 158 #[.pointer (some ⟨g1, 0, none⟩), .pointer (some ⟨g3, 0, none⟩)] (fun x : Fin 12 × Int => #[Value.int .i64 (x.1.val : Int), Value.int .i64 x.2]) (Kp n1 g) (fun ys => ys = pairsL nums) (fun pre => pre <+: pairsL nums) (pairsL nums).length w := by
  intro l J Jx W hW _ _ hY h0
  have st : ∀ {b : Nat} {cs : List Value} {T : TypeId}, HasCells w b cs T → HasCells W b cs T := fun {b cs T} h => (hW.block b (Array.getElem?_eq_some_iff.1 h).1).trans h
  exact places1_in n hn l n1 g g1 g3 gL cap nums.length c rest A nums rfl hreach J Jx hY W (st h1) (st h3) (st hL) b3 bL (fun j hj => by
    obtain ⟨ad, e, hc, h4, h5⟩ := hA j hj
    exact ⟨ad, e, (hW.cell (World.block_lt_of_cell? w _ hc)).trans hc, h4, h5⟩) h0
end Go.Proofs.YtdmifbffamckbaaGreatDoor
end
section
namespace Go.Proofs.YtdmifbffamckbaaGreatDoor
set_option linter.unusedVariables false
set_option linter.unusedSimpArgs false
open Go.RowKit Kit
attribute [local irreducible] wpList Calls wpQuiet
theorem set_calls' (m : Md) (p : Bool) (n : Int) (on : Bool) (r : Md) (ok : Bool) (h : setM m p n on = (r, ok)) (w : World) :
    Calls Tryz.prog 82 #[m.v, .bool p, .int .i64 n, .bool on] w fun e w' => e = .returned (.tuple #[r.v, .bool ok]) ∧ Below w.heap.size w w' := by
  have := set_calls m p n on w; rw [h] at this; exact this
theorem get_calls' (m : Md) (p : Bool) (n : Int) (r : Int) (h : getM m p n = r) (w : World) :
    Calls Tryz.prog 126 #[m.v, .bool p, .int .i64 n] w fun e w' => e = .returned (.int .i64 r) ∧ Below w.heap.size w w' := by
  have := get_calls m p n w; rw [h] at this; exact this
end Go.Proofs.YtdmifbffamckbaaGreatDoor
end
section
namespace Go.Proofs.YtdmifbffamckbaaGreatDoor
set_option linter.unusedVariables false
set_option linter.unusedSimpArgs false
open Go.RowKit Kit Go.Shelf Go.Proofs.YtdmifbffamckbaaGreatDoorW.PrintWords
attribute [local go_sem] Oper.semAt_some
theorem wideRegionS {P : Program} {Q : Exit → Act → World → Prop} {a : Act} {w : World} {n id : Nat} {l : List Oper} (h : wpList P l.toArray Q l a w) : (Code.region id l.toArray false).wpIn Fence.wide n P Q a w := wpIn_wide.2 (wp_region_lit h)
abbrev u8s (l : List Int) : List Value := l.map (Value.int .u8)
def stepS (m : Md) (s : List Int) (p : Fin 12 × Int) : List Int := s.set p.1.val (if getM m true p.2 = 1 then 1 else 2)
def saveL (m : Md) (s : List Int) (nums : List Int) : List Int := (pairsL nums).foldl (stepS m) s
theorem stepS_len (m : Md) (s : List Int) (p : Fin 12 × Int) : (stepS m s p).length = s.length := by simp [stepS]
theorem foldS_len (m : Md) : ∀ (l : List (Fin 12 × Int)) (s : List Int), (l.foldl (stepS m) s).length = s.length
  | [], _ => rfl
  | p :: l, s => by rw [List.foldl_cons, foldS_len m l, stepS_len]
theorem Slc.all {α : Type} : ∀ (l : List α), Slc l 0 l.length l
  | [] => .nil
  | _ :: l => .take (Slc.all l)
theorem PutAt.all {α : Type} : ∀ (l vs : List α), vs.length = l.length → PutAt l 0 vs vs
  | [], [], _ => .nil
  | _ :: l, _ :: vs, h => .put (PutAt.all l vs (by simpa using h))
theorem PutAt.one {α : Type} (v : α) : ∀ (l : List α) (k : Nat), k < l.length → PutAt l k [v] (l.set k v)
  | _ :: _, 0, _ => .put .nil
  | _ :: l, k + 1, h => .skip (PutAt.one v l k (by simpa using h))
theorem Keep.setRow {g : Nat} {A B : World} (h : Keep g A B) (cs : Array Value) : Keep g A (B.setRow g cs) :=
  ⟨by rw [size_setRow]; exact h.size, fun k hk hne => (setRow_other B g k _ hne).trans (h.same k hk hne)⟩
section
variable {P : Program} {ops : Array Oper} {Q : Exit → Act → World → Prop} {a : Act} {w W W0 : World} {rest : List Oper} {o : Oper} {bs bs' : Res} {g off n : Nat} {cs cs' vs : List Value} {T E : TypeId} {v : Value}
theorem own_put1 (HO : Mine W0 w bs) (HK : Keep g W w) {x y : Operand} (ho : o.op = .store T x y) (hgd : Region.wanted o (yielded ops a.tmps) = true) (hx : a.eval x = .pointer (some ⟨g, off, none⟩)) (hy : EvalTo a y v) (hc : v.cells = [v].toArray)
    (hu : Upd bs g (IsCells cs E) (IsCells (cs.set off v) E) bs') (hoff : off < cs.length) (hsz : ∀ w, (sizeOf T).run P w = .ok 1 w) (h1 : v.oneCell' = true)
    (h : ∀ w', Mine W0 w' bs' → Keep g W w' → wpList P ops Q rest (a.put o.dst undef) w') : wpList P ops Q (o :: rest) a w :=
  wpList_want hgd fun _ hK => by
    have hr := run_store_own (P := P) (T := T) (v := v) (HO.at hu.mem) (vs := [v]) hc hsz (PutAt.one v cs off hoff) (by simp [h1])
    unfold Oper.wp execOp
    simp only [ho, hx, hy.eq, Instr.storeAt, Instr.sureAddr, Sem.run_bind, Sem.run_pure, Result.andThen_ok, hr]
    exact hK _ _ (h _ (HO.setRow hu) (HK.setRow _))
end
theorem rd_int' (l : List Int) (i : Nat) (h : i < l.length) : rd l (i : Int) = l.getD i 0 := by
  simp [rd, List.getD, h]
theorem nums_of {A : Option Addr} {nums : List Int} {w wN : World} {g : Nat} (hC : (Kd.int .i64).C w A nums.length nums) (hb : Below w.heap.size w wN) (hge : w.heap.size ≤ g) (hlt : g < wN.heap.size) : Nums wN.heap.size g A nums wN := fun j hj => by
  obtain ⟨ad, e, hcell⟩ := Kd.at_int hC (j : Int) (by omega) (by omega)
  rw [Int.toNat_natCast] at hcell
  have hbl := World.block_lt_of_cell? w _ hcell
  rw [add_block] at hbl
  have hsz := hb.size
  refine ⟨ad, e, (hb.cell (by rw [add_block]; exact hbl)).trans (hcell.trans ?_), by omega, by omega⟩
  rw [rd_int' nums j hj]
attribute [local irreducible] wpList Calls wpQuiet
set_option maxRecDepth 100000 in
set_option maxHeartbeats 4000000 in
theorem save_calls (s : List Int) (hs : s.length = 12) (m : Md) (A : Option Addr) (c : Nat) (nums : List Int) (hn : nums.length ≤ 1000000) (w : World) (hC : (Kd.int .i64).C w A nums.length nums) :
    Calls Tryz.prog 83 #[.agg (u8s s).toArray, m.v, .slice A nums.length c] w fun e w' => e = .returned (.agg (u8s (saveL m s nums)).toArray) ∧ Below w.heap.size w w' := by
  refine (callsIn_wide (n := 5)).1 ?_
  have HO := Mine.start w
  have HS := Lib.hid hs
  have HC := Lib.hid hC
  have HN := Lib.hid hn
  clear hs hC hn
  refine callsIn_of_wp_marks Tryz.func83 rfl trivial ?_ rfl
  simp only [Tryz.ntmps83, List.size_toArray, List.length_cons, List.length_nil, Nat.reduceAdd, Nat.reduceSub, Array.replicate_succ, Array.replicate_zero, List.push_toArray, List.append_toArray, List.nil_append, List.cons_append]
  refine wpIn_seq ?_
  refine wideRegionS ?_
  go_wp2_with (first
      | ((with_reducible refine gate ?_); (first
      | ((with_reducible refine gateAt (N := 4) rfl ?_); refine own_box HO rfl rfl (cs := [.bool m.cursor, .bool m.keypad, .bool m.back, .bool m.focus, .bool m.paste, .bool m.lock, .bool m.line, .int .i64 m.mouse, .int .i64 m.coding, .int .i64 m.other]) rfl ?_; clear HO; intro gM wN hgN HO; (simp only [List.nil_append, List.cons_append] at HO); (try simp only [Act.put, List.setIfInBounds_toArray, List.set_cons_zero, List.set_cons_succ]))
      | ((with_reducible refine gateAt (N := 3) rfl ?_); refine own_box HO rfl rfl (cs := u8s s) rfl ?_; clear HO; intro gS wN hgN HO; (simp only [List.nil_append, List.cons_append] at HO); (try simp only [Act.put, List.setIfInBounds_toArray, List.set_cons_zero, List.set_cons_succ]))
      | ((refine own_box HO rfl rfl rfl ?_); clear HO; intro gR wN hgR HO; (simp only [List.nil_append, List.cons_append] at HO); (try simp only [Act.put, List.setIfInBounds_toArray, List.set_cons_zero, List.set_cons_succ]))
      | ((refine own_alloc (T := 41) HO rfl rfl Tryz.zeroValue41 rfl ?_); clear HO; intro gR wN hgR HO; (simp only [List.nil_append, List.cons_append] at HO); (try simp only [Act.put, List.setIfInBounds_toArray, List.set_cons_zero, List.set_cons_succ]))
      | ((refine own_load (T := 23) HO rfl rfl rfl (by first | exact .head _ | exact .tail _ (.head _) | exact .tail _ (.tail _ (.head _)) | exact .tail _ (.tail _ (.tail _ (.head _))) | exact .tail _ (.tail _ (.tail _ (.tail _ (.head _)))) | exact .tail _ (.tail _ (.tail _ (.tail _ (.tail _ (.head _)))))) Tryz.isAgg23 Tryz.sizeOf23 (by repeat constructor) ?_); (try simp only [Act.put, List.setIfInBounds_toArray, List.set_cons_zero, List.set_cons_succ]))
      | ((refine own_store (T := 23) HO rfl rfl rfl rfl (by first | exact .here | exact .there (.here) | exact .there (.there (.here)) | exact .there (.there (.there (.here))) | exact .there (.there (.there (.there (.here)))) | exact .there (.there (.there (.there (.there (.here)))))) Tryz.sizeOf23 (by repeat constructor) rfl ?_); clear HO; intro wN HO; (try simp only [Act.put, List.setIfInBounds_toArray, List.set_cons_zero, List.set_cons_succ])))))
  refine wpIn_seq ?_
  refine wpIn_seq ?_
  refine wideRegionS ?_
  go_wp2_with (go_at_call 125; refine (places_calls A _ c _).mono ?_; rintro eN wN ⟨v, rfl, ⟨g1, g3, gL, cap, rest, rfl, hg1, hg3, hgL, hc1, hc3, hcL, hcap⟩, hbN⟩; have hlt : gS < _ := HO.lt (.head _); have HON := HO.call hbN; have HX := Lib.hid (And.intro (Nat.ne_of_gt (Nat.lt_of_lt_of_le hlt hg3)) (And.intro (Nat.ne_of_gt (Nat.lt_of_lt_of_le hlt hgL)) (And.intro hc1 (And.intro hc3 hcL)))); clear HO hbN hlt hg1 hg3 hgL hc1 hc3 hcL hcap; have HO := HON; clear HON)
  refine wpIn_block ?_
  obtain ⟨hX3, hXL, hc1, hc3, hcL⟩ := HX.out
  have hge : w.heap.size ≤ gS := (HO.held _ (.head _)).1
  have hlt : gS < wN.heap.size := HO.lt (.head _)
  refine wpIn_rangeFunc_ownG (F := Fence.wide) rfl (by omega) (gf := 158) (lb := #[.pointer (some ⟨g1, 0, none⟩), .pointer (some ⟨g3, 0, none⟩)]) rfl trivial (enters_of Tryz.func158 (by kernel_rfl) rfl)
    (places_stops 4 (by omega) wN.heap.size gS g1 g3 gL cap c rest A nums HN.out wN hc1 hc3 hcL ⟨(Array.getElem?_eq_some_iff.1 hc3).1, hX3⟩ ⟨(Array.getElem?_eq_some_iff.1 hcL).1, hXL⟩ (fun j hj => by
      obtain ⟨ad, e, hcell⟩ := Kd.at_int HC.out (j : Int) (by omega) (by omega)
      rw [Int.toNat_natCast] at hcell
      have hb := World.block_lt_of_cell? w _ hcell
      rw [add_block] at hb
      have hsz := HO.below.size
      refine ⟨ad, e, (HO.below.cell (by rw [add_block]; exact hb)).trans (hcell.trans ?_), by omega, by omega⟩
      rw [rd_int' nums j hj])) (fun h k => h.trans k) (fun W l o o' hl _ _ _ k o2 hk hne h => (World.putObj_heap_other (show k ≠ l by omega)).trans h) (Below.refl _ _) (fun _ => rfl)
    (fun pre W => Mine w W [(gS, IsCells (u8s (pre.foldl (stepS m) s)) 41), (gM, IsCells [.bool m.cursor, .bool m.keypad, .bool m.back, .bool m.focus, .bool m.paste, .bool m.lock, .bool m.line, .int .i64 m.mouse, .int .i64 m.coding, .int .i64 m.other] 23), (gR, IsCells [.int .u8 0, .int .u8 0, .int .u8 0, .int .u8 0, .int .u8 0, .int .u8 0, .int .u8 0, .int .u8 0, .int .u8 0, .int .u8 0, .int .u8 0, .int .u8 0] 41)])
    (fun _ _ _ => False)
    (mine_own _ (fun s p hp o ho => by
      simp only [List.mem_cons, List.not_mem_nil, or_false] at hp
      rcases hp with rfl | rfl | rfl <;> exact cells_isCells ho) (by have := HO.below.size; omega))
    (fun _ _ _ _ _ hs _ _ => hs) HO
    (fun x => { tmps := #[.agg (u8s s).toArray, m.v, .slice A nums.length c, .pointer (some ⟨gS, 0, none⟩), .pointer (some ⟨gM, 0, none⟩), undef, .pointer (some ⟨gR, 0, none⟩), .int .i64 (x.1.val : Int), .int .i64 x.2, .slice A nums.length c, .func (.func 158) #[] #[.pointer (some ⟨g1, 0, none⟩), .pointer (some ⟨g3, 0, none⟩)], .int .i64 (x.1.val : Int), .int .i64 x.2, undef, undef, undef, undef, undef, undef, undef, undef, undef], defers := [] }) ?assign ?body ?done ?stop
  case assign =>
    intro l x W K hK
    gi_wp2
    exact hK
  case body =>
    rintro l pre x W hI _
    clear HO hc1 hc3 hcL
    have HO := hI
    have HK := Keep.refl gS W
    clear hI
    obtain ⟨⟨j, hj⟩, y⟩ := x
    obtain ⟨F, hF⟩ : ∃ F, List.foldl (stepS m) s pre = F := ⟨_, rfl⟩
    have hFl : F.length = 12 := by rw [← hF, foldS_len, HS.out]
    have hl1 : j < (u8s F).length := by simp [hFl, hj]
    have hl2 : ∀ v, j < ((u8s F).set j v).length := fun v => by simp [hFl, hj]
    have HL1 := Lib.hid hl1
    have HL2 := Lib.hid hl2
    have hst : ∀ g : Int, getM m true y = g → u8s (List.foldl (stepS m) s (pre ++ [(⟨j, hj⟩, y)])) = (u8s F).set j (.int .u8 (if g = 1 then 1 else 2)) := fun g e => by
      rw [List.foldl_append, hF]
      simp [stepS, e, List.map_set]
    have HST := Lib.hid hst
    rw [hF] at HO
    clear hF hFl hl1 hl2 hst
    have hj0 : (j : Int) < 12 := by omega
    refine wpIn_block ?_
    refine wpIn_seq ?_
    refine inRegion (fun ⟨_, _, h⟩ => h) rfl ?_
    go_wp2_with ((with_reducible refine gate ?_); refine own_put1 HO HK rfl rfl rfl (by first | exact .const | exact .tmp rfl) rfl .here (by first | exact HL1.out | exact HL2.out _) Tryz.sizeOf5 rfl ?_; clear HO HK; intro wN HO HK; (try simp only [Act.put, List.setIfInBounds_toArray, List.set_cons_zero, List.set_cons_succ]))
    refine wpIn_seq ?_
    refine inRegion (fun ⟨_, _, h⟩ => h) rfl ?_
    obtain ⟨g, hg⟩ : ∃ g, getM m true y = g := ⟨_, rfl⟩
    have hst := HST.out g hg
    have HG := Lib.hid hg
    clear hg HST
    by_cases h1 : g = 1
    · have H3 := Lib.hid (hst.trans (by rw [if_pos h1]))
      clear hst
      subst h1
      go_wp2_with (first
      | (go_at_call 126; refine (get_calls' m true y 1 HG.out _).mono ?_; rintro eN wN ⟨rfl, hbN⟩; have HON := HO.call hbN; have HKN := HK.below hbN; clear HO HK hbN; have HO := HON; have HK := HKN; clear HON HKN)
      | ((with_reducible refine gate ?_); (first
      | ((refine own_box HO rfl rfl rfl ?_); clear HO; intro gN wN hgN HO; (simp only [List.nil_append, List.cons_append] at HO); (try simp only [Act.put, List.setIfInBounds_toArray, List.set_cons_zero, List.set_cons_succ]))
      | ((refine own_load (T := 23) HO rfl rfl rfl (by first | exact .head _ | exact .tail _ (.head _) | exact .tail _ (.tail _ (.head _)) | exact .tail _ (.tail _ (.tail _ (.head _))) | exact .tail _ (.tail _ (.tail _ (.tail _ (.head _)))) | exact .tail _ (.tail _ (.tail _ (.tail _ (.tail _ (.head _)))))) Tryz.isAgg23 Tryz.sizeOf23 (by repeat constructor) ?_); (try simp only [Act.put, List.setIfInBounds_toArray, List.set_cons_zero, List.set_cons_succ]))
      | ((refine own_store (T := 23) HO rfl rfl rfl rfl (by first | exact .here | exact .there (.here) | exact .there (.there (.here)) | exact .there (.there (.there (.here))) | exact .there (.there (.there (.there (.here)))) | exact .there (.there (.there (.there (.there (.here)))))) Tryz.sizeOf23 (by repeat constructor) rfl ?_); clear HO; intro wN HO; (try simp only [Act.put, List.setIfInBounds_toArray, List.set_cons_zero, List.set_cons_succ])))))
      refine wpIn_cond_true rfl ?_
      refine inRegion (fun ⟨_, _, h⟩ => h) rfl ?_
      go_wp2_with ((with_reducible refine gate ?_); refine own_put1 HO HK rfl rfl rfl (by first | exact .const | exact .tmp rfl) rfl .here (by first | exact HL1.out | exact HL2.out _) Tryz.sizeOf5 rfl ?_; clear HO HK; intro wN HO HK; (try simp only [Act.put, List.setIfInBounds_toArray, List.set_cons_zero, List.set_cons_succ]))
      refine ⟨HK.from hlt, HK.kp _, ?_⟩
      dsimp only
      rw [H3.out]
      rw [List.set_set] at HO
      exact HO
    · have b1 : (g == 1) = false := beq_eq_false_iff_ne.2 h1
      have H3 := Lib.hid (hst.trans (by rw [if_neg h1]))
      clear hst h1
      go_wp2_with (first
      | (go_at_call 126; refine (get_calls' m true y g HG.out _).mono ?_; rintro eN wN ⟨rfl, hbN⟩; have HON := HO.call hbN; have HKN := HK.below hbN; clear HO HK hbN; have HO := HON; have HK := HKN; clear HON HKN)
      | ((with_reducible refine gate ?_); (first
      | ((refine own_box HO rfl rfl rfl ?_); clear HO; intro gN wN hgN HO; (simp only [List.nil_append, List.cons_append] at HO); (try simp only [Act.put, List.setIfInBounds_toArray, List.set_cons_zero, List.set_cons_succ]))
      | ((refine own_load (T := 23) HO rfl rfl rfl (by first | exact .head _ | exact .tail _ (.head _) | exact .tail _ (.tail _ (.head _)) | exact .tail _ (.tail _ (.tail _ (.head _))) | exact .tail _ (.tail _ (.tail _ (.tail _ (.head _)))) | exact .tail _ (.tail _ (.tail _ (.tail _ (.tail _ (.head _)))))) Tryz.isAgg23 Tryz.sizeOf23 (by repeat constructor) ?_); (try simp only [Act.put, List.setIfInBounds_toArray, List.set_cons_zero, List.set_cons_succ]))
      | ((refine own_store (T := 23) HO rfl rfl rfl rfl (by first | exact .here | exact .there (.here) | exact .there (.there (.here)) | exact .there (.there (.there (.here))) | exact .there (.there (.there (.there (.here)))) | exact .there (.there (.there (.there (.there (.here)))))) Tryz.sizeOf23 (by repeat constructor) rfl ?_); clear HO; intro wN HO; (try simp only [Act.put, List.setIfInBounds_toArray, List.set_cons_zero, List.set_cons_succ])))))
      refine wpIn_cond_false rfl ?_
      refine wpIn_skip ?_
      refine ⟨HK.from hlt, HK.kp _, ?_⟩
      dsimp only
      rw [H3.out]
      exact HO
  case done =>
    rintro D ys W hD rfl hI hK
    clear HO hc1 hc3 hcL
    have HO := hI
    clear hI
    obtain ⟨R, hR⟩ : ∃ R, List.foldl (stepS m) s (pairsL nums) = R := ⟨_, rfl⟩
    have hRl : R.length = 12 := by rw [← hR, foldS_len, HS.out]
    rw [hR] at HO
    have hsv : saveL m s nums = R := hR
    rw [hsv]
    have hln : (u8s R).length = 12 := by simp [hRl]
    have HSL : Hid (Slc (u8s R) 0 12 (u8s R)) := Lib.hid (by have := Slc.all (u8s R); rwa [hln] at this)
    have HSZ : Hid (∀ w, (sizeOf 41).run Tryz.prog w = .ok (u8s R).length w) := Lib.hid (by rw [hln]; exact Tryz.sizeOf41)
    have HONE : Hid ((u8s R).all (·.oneCell') = true) := Lib.hid (by rw [List.all_eq_true]; intro v hv; obtain ⟨z, _, rfl⟩ := List.mem_map.1 hv; rfl)
    have HLN := Lib.hid hln
    have HXS : XS 41 (fun w : World => w.heap[D]? = some (.deferred (some []))) := fun w g cs cs' h hg => (setRow_other w g D _ (fun e => by subst e; dsimp only at h; rw [hg] at h; cases h)).trans h
    have hD2 : w.heap.size ≤ D := by omega
    clear hR hRl hsv hln
    refine wpIn_seq ?_
    refine wideRegionS ?_
    go_wp2_with ((with_reducible refine gate ?_); (first
      | (refine own_load (T := 41) (n := 12) (vs := u8s R) HO rfl rfl rfl (.head _) Tryz.isAgg41 Tryz.sizeOf41 HSL.out ?_; (try simp only [Act.put, List.setIfInBounds_toArray, List.set_cons_zero, List.set_cons_succ]))
      | (refine own_storeX (T := 41) (vs := u8s R) HO (X := fun w : World => w.heap[D]? = some (.deferred (some []))) hK rfl rfl rfl rfl (.there (.there .here)) HXS HSZ.out (PutAt.all _ _ HLN.out) HONE.out ?_; clear HO hK; intro wN HO hK; (try simp only [Act.put, List.setIfInBounds_toArray, List.set_cons_zero, List.set_cons_succ]))))
    refine wpIn_ret ?_
    have HO2 : Mine w (wN.putObj D (.deferred none)) _ := (mine_own (β := Unit) (B := w.heap.size) (fun _ => _) (fun s p hp o ho => by
      simp only [List.mem_cons, List.not_mem_nil, or_false] at hp
      rcases hp with rfl | rfl | rfl <;> exact cells_isCells ho) (Nat.le_refl _)).putObj (s := ()) _ HO hD2 hK rfl
    refine ⟨by simp, .inl ⟨_, _, rfl, run_takeDeferred hK, ?_⟩⟩
    exact ⟨_, own_results1 HO2 Tryz.results83 rfl (.tail _ (.tail _ (.head _))) Tryz.isAgg41 Tryz.sizeOf41 HSL.out, rfl, HO2.below⟩
  case stop =>
    rintro D c pre W _ _ h _
    exact h.elim
end Go.Proofs.YtdmifbffamckbaaGreatDoor
end
section
namespace Go.Proofs.YtdmifbffamckbaaGreatDoor
set_option linter.unusedVariables false
set_option linter.unusedSimpArgs false
open Go.RowKit Kit
theorem part_u8 (xs : List Int) (i : Nat) (h : i < xs.length) (w : World) : (part 5 (u8s xs).toArray (i * 1)).run Tryz.prog w = .ok (.int .u8 (xs.getD i 0)) w := by
  have hx : (u8s xs)[i]? = some (.int .u8 (xs.getD i 0)) := by simp [h, List.getD]
  have h1 := Tryz.isAgg5 w
  simp [part, Sem.run_bind, h1, hx, h, Sem.run, Result.andThen, List.getD]
theorem eqItems_u8 (d : Nat) (xs ys : List Int) (w : World) : ∀ (is : List Nat), (∀ i ∈ is, i < xs.length ∧ i < ys.length) →
    (Op.eqItems (d + 1) 5 1 (u8s xs).toArray (u8s ys).toArray is).run Tryz.prog w = .ok (is.all fun i => xs.getD i 0 == ys.getD i 0) w
  | [], _ => by simp [Op.eqItems]
  | i :: is, h => by
    have hi := h i (by simp)
    have ih := eqItems_u8 d xs ys w is (fun j hj => h j (by simp [hj]))
    have e : (Op.equalIn (d + 1) 5 (.int .u8 (xs.getD i 0)) (.int .u8 (ys.getD i 0))).run Tryz.prog w = .ok (xs.getD i 0 == ys.getD i 0) w := by go_simp
    simp only [Op.eqItems, Sem.run_bind, part_u8 xs i hi.1, part_u8 ys i hi.2, Result.andThen_ok, e]
    rw [List.all_cons]
    cases hb : xs.getD i 0 == ys.getD i 0
    · simp only [Bool.not_false, if_true, Sem.run_pure, Bool.false_and]
    · simp only [Bool.not_true, Bool.false_eq_true, if_false, Bool.true_and]
      exact ih
theorem all_same (xs ys : List Int) (hx : xs.length = 12) (hy : ys.length = 12) : ((List.range 12).all fun i => xs.getD i 0 == ys.getD i 0) = decide (xs = ys) := by
  rw [Bool.eq_iff_iff, decide_eq_true_iff, List.all_eq_true]
  constructor
  · intro h
    apply List.ext_getElem (by omega)
    intro i h1 h2
    have := h i (List.mem_range.2 (by omega))
    simpa [List.getD, h1, h2] using this
  · rintro rfl i _
    simp
theorem equal_saved (xs ys : List Int) (hx : xs.length = 12) (hy : ys.length = 12) (w : World) : (Op.equal 41 (.agg (u8s xs).toArray) (.agg (u8s ys).toArray)).run Tryz.prog w = .ok (decide (xs = ys)) w := by
  obtain ⟨i, hi⟩ : ∃ i, Tryz.prog.info? 5 = some i := Option.isSome_iff_exists.1 (by kernel_rfl : (Tryz.prog.info? 5).isSome = true)
  rw [← all_same xs ys hx hy]
  refine (run_equalIn_array (P := Tryz.prog) (w := w) _ (u8s xs).toArray (u8s ys).toArray Tryz.underlying41 hi).trans ?_
  rw [show Tryz.prog.cellsOf 5 = 1 by kernel_rfl]
  exact eqItems_u8 _ xs ys w _ (fun i hi => by have := List.mem_range.1 hi; omega)
end Go.Proofs.YtdmifbffamckbaaGreatDoor
end
section
namespace Go.Proofs.YtdmifbffamckbaaGreatDoor.G
open Go.RowKit Go.Proofs.YtdmifbffamckbaaGreatDoorW.PrintWords Go.Proofs.YtdmifbffamckbaaGreatDoorW.PrintLast Go.Proofs.YtdmifbffamckbaaGreatDoorW.PrintMore
attribute [local go_sem] max2_int min2_int max_two min_two max_three min_three max_four min_four
set_option linter.unusedVariables false
set_option linter.unusedSimpArgs false
def slices_Equal_int_int.l0 : Nat → List Int → List Int → Int → Int → Option (Bool)
  | 0, _, _, _, _ => none
  | k + 1, x0, x1, x12, x13 => if x13 < x12 then (if 0 ≤ x13 then (if x13 < (x0.length : Int) then (if x13 < (x1.length : Int) then (if (rd x0 x13) = (rd x1 x13) then (slices_Equal_int_int.l0 k x0 x1 x12 (wrap64 (x13 + 1))) else (some false)) else (none)) else (none)) else (none)) else (some true)
def slices_Equal_int_int.f (k : Nat) (l0 : List Int) (l1 : List Int) : Option (Bool) := if (l0.length : Int) = (l1.length : Int) then (slices_Equal_int_int.l0 k l0 l1 (l0.length : Int) 0) else (some false)
theorem slices_Equal_int_int.mono_l : ∀ k, (∀ y0 y1 y2 y3, LeO (slices_Equal_int_int.l0 k y0 y1 y2 y3) (slices_Equal_int_int.l0 (k + 1) y0 y1 y2 y3))
  | 0 => fun _ _ _ _ r h => by simp [slices_Equal_int_int.l0] at h
  | k + 1 => by
    have ih0 := slices_Equal_int_int.mono_l k
    · intro y0 y1 y2 y3
      unfold slices_Equal_int_int.l0
      repeat' first
      | (with_reducible exact ih0 _ _ _ _)
      | (with_reducible exact LeO.refl _)
      | (with_reducible exact LeO.none _)
      | (with_reducible refine LeO.ite ?_ ?_)
      | (with_reducible refine LeO.bind ?_ (fun _ => ?_))
      | exact ih0 _ _ _ _
      | exact LeO.none _
      | refine LeO.ite ?_ ?_
      | refine LeO.bind ?_ (fun _ => ?_)
theorem slices_Equal_int_int.mono : ∀ a0 a1 k, LeO (slices_Equal_int_int.f k a0 a1) (slices_Equal_int_int.f (k + 1) a0 a1) := by
  intro a0 a1 k
  have ih0 := slices_Equal_int_int.mono_l k
  unfold slices_Equal_int_int.f
  repeat' first
      | (with_reducible exact ih0 _ _ _ _)
      | (with_reducible exact LeO.refl _)
      | (with_reducible exact LeO.none _)
      | (with_reducible refine LeO.ite ?_ ?_)
      | (with_reducible refine LeO.bind ?_ (fun _ => ?_))
      | exact ih0 _ _ _ _
      | exact LeO.none _
      | refine LeO.ite ?_ ?_
      | refine LeO.bind ?_ (fun _ => ?_)
set_option maxHeartbeats 8000000 in
set_option maxRecDepth 100000 in
theorem slices_Equal_int_int.calls (k : Nat) (A0 : Option Addr) (c0 : Nat) (l0 : List Int) (A1 : Option Addr) (c1 : Nat) (l1 : List Int) (r : Bool) (w : World) (hr0 : Kd.C (Kd.int .i64) w A0 l0.length l0) (hc0 : l0.length ≤ c0) (hr1 : Kd.C (Kd.int .i64) w A1 l1.length l1) (hc1 : l1.length ≤ c1) (h : slices_Equal_int_int.f k l0 l1 = some r) :
    Calls Tryz.prog 78 #[.slice A0 l0.length c0, .slice A1 l1.length c1] w fun e w' => e = .returned (.bool r) ∧ Drawn0 w w' := by
  have HR0 := Aside0.mk hr0
  have HC0 := Aside0.mk hc0
  clear hr0 hc0
  have HR1 := Aside0.mk hr1
  have HC1 := Aside0.mk hc1
  clear hr1 hc1
  have H : (if (l0.length : Int) = (l1.length : Int) then (slices_Equal_int_int.l0 k l0 l1 (l0.length : Int) 0) else (some false)) = some r := h
  clear h
  by_cases c3 : (l0.length : Int) = (l1.length : Int)
  · rw [if_pos c3] at H
    have c3b0 : ((l0.length : Int) == (l1.length : Int)) = true := beq_iff_eq.mpr c3
    have c3b1 : ((l0.length : Int) != (l1.length : Int)) = false := bne_eq_false_iff_eq.mpr c3
    have c3b2 : (l0.length == l1.length) = true := by first | simpa using c3 | (simp at c3 ⊢; omega)
    clear c3
    have H' := Aside0.mk H
    clear H
    go_enter Tryz.func78, Tryz.ntmps78
    go_wp2
    repeat (go_quiet (fail); try go_wp2)
    go_loopg [13] k (fun kq v13 w' => ∃ (x13_1 : Int), v13 = .int .i64 x13_1 ∧ Aside0 (slices_Equal_int_int.l0 kq l0 l1 (l0.length : Int) x13_1 = some r) ∧ Aside0 (kq ≤ k) ∧ Drawn0 w w')
    case atStart => exact ⟨(0), (by first | rfl | (simp; done) | (simp [*]; done)), H', ⟨Nat.le_refl _⟩, by repeat (first | exact Drawn0.refl _ | apply Drawn0.step)⟩
    case round =>
      clear H'
      try clear c1
      try clear p2
      try clear c3
      try clear c3b0
      try clear c3b1
      try clear c3b2
      obtain ⟨x13_1, rfl, HA, HK1, ⟨m1, rfl⟩⟩ := hrel
      cases gk with
      | zero => exact absurd HA.out (by simp [slices_Equal_int_int.l0])
      | succ k1 =>
        have H := HA.out
        clear HA
        simp only [slices_Equal_int_int.l0] at H
        by_cases c4 : x13_1 < (l0.length : Int)
        · rw [if_pos c4] at H
          have c4b0 : decide (x13_1 < (l0.length : Int)) = true := decide_eq_true c4
          clear c4
          by_cases c5 : 0 ≤ x13_1
          · rw [if_pos c5] at H
            have c5b0 : decide (0 ≤ x13_1) = true := decide_eq_true c5
            clear c5
            by_cases c6 : x13_1 < (l0.length : Int)
            · rw [if_pos c6] at H
              have c6b0 : decide (x13_1 < (l0.length : Int)) = true := decide_eq_true c6
              clear c6
              by_cases c7 : x13_1 < (l1.length : Int)
              · rw [if_pos c7] at H
                have c7b0 : decide (x13_1 < (l1.length : Int)) = true := decide_eq_true c7
                clear c7
                by_cases c8 : (rd l0 x13_1) = (rd l1 x13_1)
                · rw [if_pos c8] at H
                  have c8b0 : ((rd l0 x13_1) == (rd l1 x13_1)) = true := beq_iff_eq.mpr c8
                  have c8b1 : ((rd l0 x13_1) != (rd l1 x13_1)) = false := bne_eq_false_iff_eq.mpr c8
                  clear c8
                  have H' := Aside0.mk H
                  clear H
                  have p224 : 0 ≤ (x13_1 : Int) := of_decide_eq_true (by first | (with_reducible assumption) | assumption)
                  have q224 : x13_1 < (l0.length : Int) := of_decide_eq_true (by first | (with_reducible assumption) | assumption)
                  obtain ⟨ad224, e224, hx224_0⟩ := Kd.at_int HR0.out x13_1 p224 q224
                  cases e224
                  replace p224 := eq_true p224
                  replace q224 := eq_true q224
                  have p225 : 0 ≤ (x13_1 : Int) := of_decide_eq_true (by first | (with_reducible assumption) | assumption)
                  have q225 : x13_1 < (l1.length : Int) := of_decide_eq_true (by first | (with_reducible assumption) | assumption)
                  obtain ⟨ad225, e225, hx225_0⟩ := Kd.at_int HR1.out x13_1 p225 q225
                  cases e225
                  replace p225 := eq_true p225
                  replace q225 := eq_true q225
                  go_wp2
                  repeat (go_quiet (fail); try go_wp2)
                  go_roundg k1
                  case measure => have := HK1.out; omega
                  case rel => exact ⟨(wrap64 (x13_1 + 1)), (by first | rfl | (simp; done) | (simp [*]; done)), H', ⟨by have := HK1.out; omega⟩, by repeat (first | exact Drawn0.refl _ | apply Drawn0.step)⟩
                · rw [if_neg c8] at H
                  have c8b0 : ((rd l0 x13_1) == (rd l1 x13_1)) = false := beq_eq_false_iff_ne.mpr c8
                  have c8b1 : ((rd l0 x13_1) != (rd l1 x13_1)) = true := bne_iff_ne.mpr c8
                  obtain rfl := Option.some.inj H
                  have p224 : 0 ≤ (x13_1 : Int) := of_decide_eq_true (by first | (with_reducible assumption) | assumption)
                  have q224 : x13_1 < (l0.length : Int) := of_decide_eq_true (by first | (with_reducible assumption) | assumption)
                  obtain ⟨ad224, e224, hx224_0⟩ := Kd.at_int HR0.out x13_1 p224 q224
                  cases e224
                  replace p224 := eq_true p224
                  replace q224 := eq_true q224
                  have p225 : 0 ≤ (x13_1 : Int) := of_decide_eq_true (by first | (with_reducible assumption) | assumption)
                  have q225 : x13_1 < (l1.length : Int) := of_decide_eq_true (by first | (with_reducible assumption) | assumption)
                  obtain ⟨ad225, e225, hx225_0⟩ := Kd.at_int HR1.out x13_1 p225 q225
                  cases e225
                  replace p225 := eq_true p225
                  replace q225 := eq_true q225
                  go_wp2
                  repeat (go_quiet (fail); try go_wp2)
                  go_ret
                  exact ⟨by first | rfl | (simp; done) | (simp [*]; done), by repeat (first | exact Drawn0.refl _ | apply Drawn0.step)⟩
              · rw [if_neg c7] at H
                exact absurd H (by simp)
            · rw [if_neg c6] at H
              exact absurd H (by simp)
          · rw [if_neg c5] at H
            exact absurd H (by simp)
        · rw [if_neg c4] at H
          have c4b0 : decide (x13_1 < (l0.length : Int)) = false := decide_eq_false c4
          clear c4
          obtain rfl := Option.some.inj H
          go_wp2
          repeat (go_quiet (fail); try go_wp2)
          go_ret
          exact ⟨by first | rfl | (simp; done) | (simp [*]; done), by repeat (first | exact Drawn0.refl _ | apply Drawn0.step)⟩
  · rw [if_neg c3] at H
    have c3b0 : ((l0.length : Int) == (l1.length : Int)) = false := beq_eq_false_iff_ne.mpr c3
    have c3b1 : ((l0.length : Int) != (l1.length : Int)) = true := bne_iff_ne.mpr c3
    have c3b2 : (l0.length == l1.length) = false := by first | simpa using c3 | (simp at c3 ⊢; omega)
    obtain rfl := Option.some.inj H
    go_enter Tryz.func78, Tryz.ntmps78
    go_wp2
    repeat (go_quiet (fail); try go_wp2)
    go_ret
    exact ⟨by first | rfl | (simp; done) | (simp [*]; done), by repeat (first | exact Drawn0.refl _ | apply Drawn0.step)⟩
end Go.Proofs.YtdmifbffamckbaaGreatDoor.G
end
section
namespace Go.Proofs.YtdmifbffamckbaaGreatDoor.G
open Go.RowKit Go.Proofs.YtdmifbffamckbaaGreatDoorW.PrintWords Go.Proofs.YtdmifbffamckbaaGreatDoorW.PrintLast Go.Proofs.YtdmifbffamckbaaGreatDoorW.PrintMore
attribute [local go_sem] max2_int min2_int max_two min_two max_three min_three max_four min_four
set_option linter.unusedVariables false
set_option linter.unusedSimpArgs false
def stack_Same.f (k : Nat) (a0_0 : Int) (l0_1 : List Int) (a1_0 : Int) (l1_1 : List Int) : Option (Bool) := if a0_0 = a1_0 then ((slices_Equal_int_int.f k l0_1 l1_1).bind fun t228 => (some t228)) else (some false)
theorem stack_Same.mono : ∀ a0 a1 a2 a3 k, LeO (stack_Same.f k a0 a1 a2 a3) (stack_Same.f (k + 1) a0 a1 a2 a3) := by
  intro a0 a1 a2 a3 k
  unfold stack_Same.f
  repeat' first
      | (with_reducible exact slices_Equal_int_int.mono _ _ _)
      | (with_reducible exact LeO.refl _)
      | (with_reducible exact LeO.none _)
      | (with_reducible refine LeO.ite ?_ ?_)
      | (with_reducible refine LeO.bind ?_ (fun _ => ?_))
      | exact slices_Equal_int_int.mono _ _ _
      | exact LeO.none _
      | refine LeO.ite ?_ ?_
      | refine LeO.bind ?_ (fun _ => ?_)
set_option maxHeartbeats 8000000 in
set_option maxRecDepth 100000 in
theorem stack_Same.calls (k : Nat) (a0_0 : Int) (A0_1 : Option Addr) (c0_1 : Nat) (l0_1 : List Int) (a1_0 : Int) (A1_1 : Option Addr) (c1_1 : Nat) (l1_1 : List Int) (r : Bool) (w : World) (hr0_1 : Kd.C (Kd.int .i64) w A0_1 l0_1.length l0_1) (hc0_1 : l0_1.length ≤ c0_1) (hr1_1 : Kd.C (Kd.int .i64) w A1_1 l1_1.length l1_1) (hc1_1 : l1_1.length ≤ c1_1) (h : stack_Same.f k a0_0 l0_1 a1_0 l1_1 = some r) :
    Calls Tryz.prog 41 #[.agg #[.int .i64 a0_0, .slice A0_1 l0_1.length c0_1], .agg #[.int .i64 a1_0, .slice A1_1 l1_1.length c1_1]] w fun e w' => e = .returned (.bool r) ∧ Below w.heap.size w w' := by
  have hu42 := Tryz.underlying42
  have HR0_1 := Aside0.mk hr0_1
  have HC0_1 := Aside0.mk hc0_1
  clear hr0_1 hc0_1
  have HR1_1 := Aside0.mk hr1_1
  have HC1_1 := Aside0.mk hc1_1
  clear hr1_1 hc1_1
  have HB := Aside0.mk (Below.refl w.heap.size w)
  have H : (if a0_0 = a1_0 then ((slices_Equal_int_int.f k l0_1 l1_1).bind fun t228 => (some t228)) else (some false)) = some r := h
  clear h
  by_cases c3 : a0_0 = a1_0
  · rw [if_pos c3] at H
    have c3b0 : (a0_0 == a1_0) = true := beq_iff_eq.mpr c3
    have c3b1 : (a0_0 != a1_0) = false := bne_eq_false_iff_eq.mpr c3
    clear c3
    replace H := Option.bind_eq_some_iff.mp H
    obtain ⟨t228, A40, H⟩ := H
    replace H : (some t228) = some r := H
    have A4 := Aside0.mk A40
    clear A40
    obtain rfl := Option.some.inj H
    go_enter Tryz.func41, Tryz.ntmps41
    go_wp2_with (first | ((with_reducible refine gate_dst (N := 2) rfl ?_); refine box_event ?hg (N := 2) ?hd (cs := #[.int .i64 a0_0, .slice A0_1 l0_1.length c0_1]) (t := 42) ?hr ?_; (case hd => rfl); (case hg => rfl); (case hr => first | (go_simp; done) | (go_simp; rfl)); intro gb226 hg w5 hbox hb; have n0_ := Aside0.mk (below_step (by repeat (first | (with_reducible first | exact HB.out | apply below_alloc | apply pw_below_drewN | apply below_drew1) | exact HB.out)) hb); have n1_ := Aside0.mk (hbox); have n2_ := Aside0.mk ((by rw [hg]; exact (below_size (by repeat (first | (with_reducible first | exact HB.out | apply below_alloc | apply pw_below_drewN | apply below_drew1) | exact HB.out))) : w.heap.size ≤ gb226)); have n3_ := Aside0.mk ((by rw [hg]; exact (below_size (by repeat (first | (with_reducible first | exact HB.out | apply below_alloc | apply pw_below_drewN | apply below_drew1) | exact HB.out))) : w.heap.size ≤ gb226)); clear HB; have HB := n0_; have BK226 := n1_; have GW226 := n2_; have GE226 := n3_; clear n0_ n1_ n2_ n3_; clear hb hbox hg) | ((with_reducible refine gate_dst (N := 3) rfl ?_); refine box_event ?hg (N := 3) ?hd (cs := #[.int .i64 a1_0, .slice A1_1 l1_1.length c1_1]) (t := 42) ?hr ?_; (case hd => rfl); (case hg => rfl); (case hr => first | (go_simp; done) | (go_simp; rfl)); intro gb227 hg w6 hbox hb; have n0_ := Aside0.mk (blk_below (g := gb226) (o := .cells #[.int .i64 a0_0, .slice A0_1 l0_1.length c0_1] 42 (0, 0)) (by (with_reducible repeat (first | refine blk_drewN ?_ _ | refine blk_drew ?_ | refine blk_alloc ?_ _)); exact BK226.out) hb); have n1_ := Aside0.mk (below_step (by repeat (first | (with_reducible first | exact HB.out | apply below_alloc | apply pw_below_drewN | apply below_drew1 | refine below_set ?_ GE226.out) | exact HB.out)) hb); have n2_ := Aside0.mk (hbox); have n3_ := Aside0.mk ((by rw [hg]; exact (below_size (by repeat (first | (with_reducible first | exact HB.out | apply below_alloc | apply pw_below_drewN | apply below_drew1 | refine below_set ?_ GE226.out) | exact HB.out))) : w.heap.size ≤ gb227)); have n4_ := Aside0.mk ((by rw [hg]; exact (below_size (by repeat (first | (with_reducible first | exact HB.out | apply below_alloc | apply pw_below_drewN | apply below_drew1 | refine below_set ?_ GE226.out) | exact HB.out))) : w.heap.size ≤ gb227)); have n5_ := Aside0.mk ((by rw [hg]; exact Nat.ne_of_lt (blk_lt (g := gb226) (o := .cells #[.int .i64 a0_0, .slice A0_1 l0_1.length c0_1] 42 (0, 0)) (by (with_reducible repeat (first | refine blk_drewN ?_ _ | refine blk_drew ?_ | refine blk_alloc ?_ _)); exact BK226.out)) : gb226 ≠ gb227)); have n6_ := Aside0.mk ((by rw [hg]; exact Nat.ne_of_gt (blk_lt (g := gb226) (o := .cells #[.int .i64 a0_0, .slice A0_1 l0_1.length c0_1] 42 (0, 0)) (by (with_reducible repeat (first | refine blk_drewN ?_ _ | refine blk_drew ?_ | refine blk_alloc ?_ _)); exact BK226.out)) : gb227 ≠ gb226)); clear BK226; clear HB; have BK226 := n0_; have HB := n1_; have BK227 := n2_; have GW227 := n3_; have GE227 := n4_; have NB226_227 := n5_; have NB227_226 := n6_; clear n0_ n1_ n2_ n3_ n4_ n5_ n6_; clear hb hbox hg; have hnb7 := NB226_227.out; have hnc7 := NB227_226.out; have hcz8_0 : w6.cell? ⟨gb226, 0, none⟩ = some (.int .i64 a0_0) := (blk_cell BK226.out 0).trans rfl; have hcz8_1 : w6.cell? ⟨gb226, 1, none⟩ = some (.slice A0_1 l0_1.length c0_1) := (blk_cell BK226.out 1).trans rfl; have hfz8_0 := blk_frozen BK226.out 0; have hfz8_1 := blk_frozen BK226.out 1; have hcz9_0 : w6.cell? ⟨gb227, 0, none⟩ = some (.int .i64 a1_0) := (blk_cell BK227.out 0).trans rfl; have hcz9_1 : w6.cell? ⟨gb227, 1, none⟩ = some (.slice A1_1 l1_1.length c1_1) := (blk_cell BK227.out 1).trans rfl; have hfz9_0 := blk_frozen BK227.out 0; have hfz9_1 := blk_frozen BK227.out 1) | (go_at_call 78; (with_reducible refine (slices_Equal_int_int.calls k _ _ l0_1 _ _ l1_1 t228 _ ?side1 ?side2 ?side3 ?side4 A4.out).mono ?_); (case side1 => repeat (first | exact (Kd.C_below HR0_1.out HB.out) | (with_reducible refine Kd.C_alloc ?_ _) | (with_reducible refine Kd.C_drewN ?_ _) | (with_reducible refine Kd.C_drew ?_))); (case side2 => exact HC0_1.out); (case side3 => repeat (first | exact (Kd.C_below HR1_1.out HB.out) | (with_reducible refine Kd.C_alloc ?_ _) | (with_reducible refine Kd.C_drewN ?_ _) | (with_reducible refine Kd.C_drew ?_))); (case side4 => exact HC1_1.out); rintro e w' ⟨rfl, ⟨nd, rfl⟩⟩))
    go_ret
    exact ⟨by first | rfl | (simp [errW_none, errW_some] <;> rfl) | (simp [*, errW_none, errW_some] <;> rfl), by repeat (first | (with_reducible first | exact HB.out | apply below_alloc | apply pw_below_drewN | apply below_drew1 | refine below_set ?_ GE226.out | refine below_set ?_ GE227.out) | exact HB.out)⟩
  · rw [if_neg c3] at H
    have c3b0 : (a0_0 == a1_0) = false := beq_eq_false_iff_ne.mpr c3
    have c3b1 : (a0_0 != a1_0) = true := bne_iff_ne.mpr c3
    obtain rfl := Option.some.inj H
    go_enter Tryz.func41, Tryz.ntmps41
    go_wp2_with (first | ((with_reducible refine gate_dst (N := 2) rfl ?_); refine box_event ?hg (N := 2) ?hd (cs := #[.int .i64 a0_0, .slice A0_1 l0_1.length c0_1]) (t := 42) ?hr ?_; (case hd => rfl); (case hg => rfl); (case hr => first | (go_simp; done) | (go_simp; rfl)); intro gb226 hg w10 hbox hb; have n0_ := Aside0.mk (below_step (by repeat (first | (with_reducible first | exact HB.out | apply below_alloc | apply pw_below_drewN | apply below_drew1) | exact HB.out)) hb); have n1_ := Aside0.mk (hbox); have n2_ := Aside0.mk ((by rw [hg]; exact (below_size (by repeat (first | (with_reducible first | exact HB.out | apply below_alloc | apply pw_below_drewN | apply below_drew1) | exact HB.out))) : w.heap.size ≤ gb226)); have n3_ := Aside0.mk ((by rw [hg]; exact (below_size (by repeat (first | (with_reducible first | exact HB.out | apply below_alloc | apply pw_below_drewN | apply below_drew1) | exact HB.out))) : w.heap.size ≤ gb226)); clear HB; have HB := n0_; have BK226 := n1_; have GW226 := n2_; have GE226 := n3_; clear n0_ n1_ n2_ n3_; clear hb hbox hg) | ((with_reducible refine gate_dst (N := 3) rfl ?_); refine box_event ?hg (N := 3) ?hd (cs := #[.int .i64 a1_0, .slice A1_1 l1_1.length c1_1]) (t := 42) ?hr ?_; (case hd => rfl); (case hg => rfl); (case hr => first | (go_simp; done) | (go_simp; rfl)); intro gb227 hg w11 hbox hb; have n0_ := Aside0.mk (blk_below (g := gb226) (o := .cells #[.int .i64 a0_0, .slice A0_1 l0_1.length c0_1] 42 (0, 0)) (by (with_reducible repeat (first | refine blk_drewN ?_ _ | refine blk_drew ?_ | refine blk_alloc ?_ _)); exact BK226.out) hb); have n1_ := Aside0.mk (below_step (by repeat (first | (with_reducible first | exact HB.out | apply below_alloc | apply pw_below_drewN | apply below_drew1 | refine below_set ?_ GE226.out) | exact HB.out)) hb); have n2_ := Aside0.mk (hbox); have n3_ := Aside0.mk ((by rw [hg]; exact (below_size (by repeat (first | (with_reducible first | exact HB.out | apply below_alloc | apply pw_below_drewN | apply below_drew1 | refine below_set ?_ GE226.out) | exact HB.out))) : w.heap.size ≤ gb227)); have n4_ := Aside0.mk ((by rw [hg]; exact (below_size (by repeat (first | (with_reducible first | exact HB.out | apply below_alloc | apply pw_below_drewN | apply below_drew1 | refine below_set ?_ GE226.out) | exact HB.out))) : w.heap.size ≤ gb227)); have n5_ := Aside0.mk ((by rw [hg]; exact Nat.ne_of_lt (blk_lt (g := gb226) (o := .cells #[.int .i64 a0_0, .slice A0_1 l0_1.length c0_1] 42 (0, 0)) (by (with_reducible repeat (first | refine blk_drewN ?_ _ | refine blk_drew ?_ | refine blk_alloc ?_ _)); exact BK226.out)) : gb226 ≠ gb227)); have n6_ := Aside0.mk ((by rw [hg]; exact Nat.ne_of_gt (blk_lt (g := gb226) (o := .cells #[.int .i64 a0_0, .slice A0_1 l0_1.length c0_1] 42 (0, 0)) (by (with_reducible repeat (first | refine blk_drewN ?_ _ | refine blk_drew ?_ | refine blk_alloc ?_ _)); exact BK226.out)) : gb227 ≠ gb226)); clear BK226; clear HB; have BK226 := n0_; have HB := n1_; have BK227 := n2_; have GW227 := n3_; have GE227 := n4_; have NB226_227 := n5_; have NB227_226 := n6_; clear n0_ n1_ n2_ n3_ n4_ n5_ n6_; clear hb hbox hg; have hnb12 := NB226_227.out; have hnc12 := NB227_226.out; have hcz13_0 : w11.cell? ⟨gb226, 0, none⟩ = some (.int .i64 a0_0) := (blk_cell BK226.out 0).trans rfl; have hcz13_1 : w11.cell? ⟨gb226, 1, none⟩ = some (.slice A0_1 l0_1.length c0_1) := (blk_cell BK226.out 1).trans rfl; have hfz13_0 := blk_frozen BK226.out 0; have hfz13_1 := blk_frozen BK226.out 1; have hcz14_0 : w11.cell? ⟨gb227, 0, none⟩ = some (.int .i64 a1_0) := (blk_cell BK227.out 0).trans rfl; have hcz14_1 : w11.cell? ⟨gb227, 1, none⟩ = some (.slice A1_1 l1_1.length c1_1) := (blk_cell BK227.out 1).trans rfl; have hfz14_0 := blk_frozen BK227.out 0; have hfz14_1 := blk_frozen BK227.out 1))
    go_ret
    exact ⟨by first | rfl | (simp [errW_none, errW_some] <;> rfl) | (simp [*, errW_none, errW_some] <;> rfl), by repeat (first | (with_reducible first | exact HB.out | apply below_alloc | apply pw_below_drewN | apply below_drew1 | refine below_set ?_ GE226.out | refine below_set ?_ GE227.out) | exact HB.out)⟩
end Go.Proofs.YtdmifbffamckbaaGreatDoor.G
end
section
namespace Go.Proofs.YtdmifbffamckbaaGreatDoor
set_option linter.unusedVariables false
set_option linter.unusedSimpArgs false
open Go.RowKit Kit Go.Proofs.YtdmifbffamckbaaGreatDoorW.PrintWords
theorem Slc.mid {α : Type} : ∀ (a b c : List α), Slc (a ++ (b ++ c)) a.length b.length b
  | [], [], c => .nil
  | [], x :: b, c => .take (Slc.mid [] b c)
  | x :: a, b, c => .skip (Slc.mid a b c)
theorem eqI_l0 (a b : List Int) (hlen : a.length = b.length) (h63 : a.length ≤ 4611686018427387904) : ∀ (k j : Nat), a.length - j < k → j ≤ a.length → G.slices_Equal_int_int.l0 k a b (a.length : Int) (j : Int) = some (decide (a.drop j = b.drop j))
  | 0, j, h, _ => by omega
  | k + 1, j, h, hj => by
    unfold G.slices_Equal_int_int.l0
    by_cases hlt : j < a.length
    · have hb : j < b.length := by omega
      rw [if_pos (by omega), if_pos (by omega), if_pos (by omega), if_pos (by omega)]
      have ea : rd a (j : Int) = a[j] := by simp [rd, hlt]
      have eb : rd b (j : Int) = b[j] := by simp [rd, hb]
      rw [ea, eb, List.drop_eq_getElem_cons hlt, List.drop_eq_getElem_cons hb]
      by_cases he : a[j] = b[j]
      · rw [if_pos he, show wrap64 ((j : Int) + 1) = ((j + 1 : Nat) : Int) by unfold wrap64; omega, eqI_l0 a b hlen h63 k (j + 1) (by omega) (by omega)]
        congr 1
        rw [decide_eq_decide, he, List.cons.injEq]
        simp only [true_and]
      · rw [if_neg he]
        congr 1
        rw [eq_comm, decide_eq_false_iff_not]
        intro h
        injection h with h1 _
        exact he h1
    · have : j = a.length := by omega
      subst this
      rw [if_neg (by omega), List.drop_length, hlen, List.drop_length]
      rfl
theorem eqI_f (a b : List Int) (h63 : a.length ≤ 4611686018427387904) : G.slices_Equal_int_int.f (a.length + 1) a b = some (decide (a = b)) := by
  unfold G.slices_Equal_int_int.f
  by_cases hlen : a.length = b.length
  · rw [if_pos (by omega)]
    have := eqI_l0 a b hlen h63 (a.length + 1) 0 (by omega) (by omega)
    simpa using this
  · rw [if_neg (by omega)]
    congr 1
    rw [eq_comm, decide_eq_false_iff_not]
    intro h
    exact hlen (congrArg List.length h)
theorem stackSame_calls (x y : Int) (A B : Option Addr) (ca cb : Nat) (a b : List Int) (ha : a.length ≤ ca) (hb : b.length ≤ cb) (h63 : a.length ≤ 4611686018427387904) (w : World) (hA : Kd.C (Kd.int .i64) w A a.length a) (hB : Kd.C (Kd.int .i64) w B b.length b) :
    Calls Tryz.prog 41 #[.agg #[.int .i64 x, .slice A a.length ca], .agg #[.int .i64 y, .slice B b.length cb]] w fun e w' => e = .returned (.bool (decide (x = y) && decide (a = b))) ∧ Below w.heap.size w w' := by
  refine G.stack_Same.calls (a.length + 1) x A ca a y B cb b _ w hA ha hB hb ?_
  unfold G.stack_Same.f
  rw [eqI_f a b h63]
  by_cases h : x = y
  · rw [if_pos h, decide_eq_true h]
    rfl
  · rw [if_neg h, decide_eq_false h]
    rfl
end Go.Proofs.YtdmifbffamckbaaGreatDoor
end
section
namespace Go.Proofs.YtdmifbffamckbaaGreatDoor
set_option linter.unusedVariables false
set_option linter.unusedSimpArgs false
open Go.RowKit Kit Go.Proofs.YtdmifbffamckbaaGreatDoorW.PrintWords
def mdL (m : Md) : List Value := [.bool m.cursor, .bool m.keypad, .bool m.back, .bool m.focus, .bool m.paste, .bool m.lock, .bool m.line, .int .i64 m.mouse, .int .i64 m.coding, .int .i64 m.other]
def stS (m : Md) (s : List Int) (x : Int) (K : Value) : List Value := stM m (u8s s ++ [.int .i64 x, K])
theorem stS_len {m : Md} {s : List Int} {x : Int} {K : Value} (h : s.length = 12) : (stS m s x K).length = 24 := by
  unfold stS stM
  simp [h]
theorem slc_m (m : Md) (rest : List Value) : Slc (stM m rest) 0 10 (mdL m) := by
  unfold stM mdL
  repeat constructor
theorem slc_sv (m : Md) (s : List Int) (t : List Value) (h : s.length = 12) : Slc (stM m (u8s s ++ t)) 10 12 (u8s s) := by
  have := Slc.mid (mdL m) (u8s s) t
  rwa [show (u8s s).length = 12 by simp [h]] at this
theorem slc_st (m : Md) (s : List Int) (x y : Value) (h : s.length = 12) : Slc (stM m (u8s s ++ [x, y])) 22 2 [x, y] := by
  have := Slc.mid (mdL m ++ u8s s) [x, y] []
  rw [show (mdL m ++ u8s s).length = 22 by simp [mdL, h]] at this
  rw [List.append_nil, List.append_assoc] at this
  exact this
attribute [local irreducible] wpList Calls wpQuiet
set_option maxRecDepth 100000 in
set_option maxHeartbeats 8000000 in
theorem actSame_calls (m n : Md) (sa sb : List Int) (hsa : sa.length = 12) (hsb : sb.length = 12) (x y : Int) (A B : Option Addr) (ca cb : Nat) (a b : List Int) (ha : a.length ≤ ca) (hb : b.length ≤ cb) (h63 : a.length ≤ 4611686018427387904) (w : World) (hA : Kd.C (Kd.int .i64) w A a.length a) (hB : Kd.C (Kd.int .i64) w B b.length b) :
    Calls Tryz.prog 18 #[.agg (stS m sa x (.slice A a.length ca)).toArray, .agg (stS n sb y (.slice B b.length cb)).toArray] w fun e w' => e = .returned (.bool (decide (m = n) && (decide (sa = sb) && (decide (x = y) && decide (a = b))))) ∧ Below w.heap.size w w' := by
  have HO := Mine.start w
  have hs := fun W (hW : Below w.heap.size w W) => stackSame_calls x y A B ca cb a b ha hb h63 W (Kd.C_below hA hW) (Kd.C_below hB hW)
  have he1 := fun w => equal_modes m n w
  have he2 := fun w => equal_saved sa sb hsa hsb w
  obtain ⟨e1, h1⟩ : ∃ e, decide (m = n) = e := ⟨_, rfl⟩
  obtain ⟨e2, h2⟩ : ∃ e, decide (sa = sb) = e := ⟨_, rfl⟩
  obtain ⟨e3, h3⟩ : ∃ e, (decide (x = y) && decide (a = b)) = e := ⟨_, rfl⟩
  rw [h1] at he1 ⊢
  rw [h2] at he2 ⊢
  rw [h3] at hs ⊢
  have HE1 : Hid (∀ w, (Op.equal 23 (.agg (mdL m).toArray) (.agg (mdL n).toArray)).run Tryz.prog w = .ok e1 w) := Lib.hid he1
  have HE2 := Lib.hid he2
  have HS := Lib.hid hs
  clear he1 he2 hs h1 h2 h3 hA hB ha hb h63
  go_enter Tryz.func18, Tryz.ntmps18
  cases e1 <;> cases e2
  all_goals
    go_wp2_with (first
      | ((with_reducible refine gateAt (N := 2) rfl ?_); refine own_boxF (T := 44) (cs := stS m sa x (.slice A a.length ca)) HO rfl rfl rfl ?_; clear HO; intro g2 wN hgg2 HO; (try simp only [Act.put, List.setIfInBounds_toArray, List.set_cons_zero, List.set_cons_succ]))
      | ((with_reducible refine gateAt (N := 3) rfl ?_); refine own_boxF (T := 44) (cs := stS n sb y (.slice B b.length cb)) HO rfl rfl rfl ?_; clear HO; intro g3 wN hgg3 HO; (try simp only [Act.put, List.setIfInBounds_toArray, List.set_cons_zero, List.set_cons_succ]))
      | (go_at_call 41; refine (HS.out _ HO.below).mono ?_; rintro eN wN ⟨rfl, hbN⟩; have HON := HO.call hbN; clear HO hbN; have HO := HON; clear HON)
      | ((with_reducible refine gate ?_); (first
        | ((refine own_load (T := 23) HO rfl rfl rfl (by first | exact .head _ | exact .tail _ (.head _) | exact .tail _ (.tail _ (.head _))) Tryz.isAgg23 Tryz.sizeOf23 (slc_m m _) ?_); (try simp only [Act.put, List.setIfInBounds_toArray, List.set_cons_zero, List.set_cons_succ]))
        | ((refine own_load (T := 23) HO rfl rfl rfl (by first | exact .head _ | exact .tail _ (.head _) | exact .tail _ (.tail _ (.head _))) Tryz.isAgg23 Tryz.sizeOf23 (slc_m n _) ?_); (try simp only [Act.put, List.setIfInBounds_toArray, List.set_cons_zero, List.set_cons_succ]))
        | ((refine own_load (T := 41) HO rfl rfl rfl (by first | exact .head _ | exact .tail _ (.head _) | exact .tail _ (.tail _ (.head _))) Tryz.isAgg41 Tryz.sizeOf41 (slc_sv m sa _ hsa) ?_); (try simp only [Act.put, List.setIfInBounds_toArray, List.set_cons_zero, List.set_cons_succ]))
        | ((refine own_load (T := 41) HO rfl rfl rfl (by first | exact .head _ | exact .tail _ (.head _) | exact .tail _ (.tail _ (.head _))) Tryz.isAgg41 Tryz.sizeOf41 (slc_sv n sb _ hsb) ?_); (try simp only [Act.put, List.setIfInBounds_toArray, List.set_cons_zero, List.set_cons_succ]))
        | ((refine own_load (T := 42) HO rfl rfl rfl (by first | exact .head _ | exact .tail _ (.head _) | exact .tail _ (.tail _ (.head _))) Tryz.isAgg42 Tryz.sizeOf42 (slc_st m sa _ _ hsa) ?_); (try simp only [Act.put, List.setIfInBounds_toArray, List.set_cons_zero, List.set_cons_succ]))
        | ((refine own_load (T := 42) HO rfl rfl rfl (by first | exact .head _ | exact .tail _ (.head _) | exact .tail _ (.tail _ (.head _))) Tryz.isAgg42 Tryz.sizeOf42 (slc_st n sb _ _ hsb) ?_); (try simp only [Act.put, List.setIfInBounds_toArray, List.set_cons_zero, List.set_cons_succ]))
        | ((refine own_eql (t := 23) rfl rfl rfl rfl (by kernel_rfl) HE1.out ?_); (try simp only [Act.put, List.setIfInBounds_toArray, List.set_cons_zero, List.set_cons_succ]))
        | ((refine own_eql (t := 41) rfl rfl rfl rfl (by kernel_rfl) HE2.out ?_); (try simp only [Act.put, List.setIfInBounds_toArray, List.set_cons_zero, List.set_cons_succ])))))
    go_ret
    exact ⟨rfl, HO.below⟩
end Go.Proofs.YtdmifbffamckbaaGreatDoor
end
section
namespace Go.Proofs.YtdmifbffamckbaaGreatDoor
open Go.ChangeShapes Go.WideShapes Go.ChangeAt Go.RowKit Go.Proofs.YtdmifbffamckbaaGreatDoorW.PrintWords Kit
set_option linter.unusedVariables false
set_option maxRecDepth 100000
set_option linter.unusedSimpArgs false
theorem own : ownKnob Tryz.prog.godebug = none := by kernel_rfl
theorem laidOut : laidOutB Tryz.prog = true := by kernel_rfl
theorem cells_pow : Tryz.prog.cellsOf 213 = 20 := by kernel_rfl
theorem cells_u64 : Tryz.prog.cellsOf 202 = 1 := by kernel_rfl
theorem gPow : Tryz.prog.globalNamed "internal/strconv.uint64pow10" = some 1 := by kernel_rfl
theorem gPowType : (Tryz.prog.globals[1]?).map (·.type) = some 213 := by kernel_rfl
theorem tabOf {W : World} (h : laidMetH Tryz.prog Rows.actResetRow.laid W) : Tab W := by
  have h1 : laidMet Tryz.prog Rows.actResetRow.laid W := h
  exact Lib.tabIs_of_head gPow gPowType Tryz.underlying213 Tryz.underlying202 cells_u64 cells_pow h1.tail.tail
def cellsOf1 (d : DataW Unit) : List Value := match d with
  | .lit (.int k z) => [Value.int k z]
  | _ => []
def cellsOf2 (d : DataW Unit) : List Value := match d with
  | .lit (.int k z) => [Value.int k z]
  | .agg l => l.flatMap cellsOf1
  | _ => []
def cellsOfD (d : DataW Unit) : Array Value := match d with
  | .agg l => (l.flatMap cellsOf2).toArray
  | _ => #[]
def layCells (d : DataW Unit) : Obj → Obj
  | .cells _ t frozen => .cells (cellsOfD d) t frozen
  | o => o
noncomputable def laidWorld (os : Os) : World :=
  { World.holding Tryz.prog os ⟨#[], #[], []⟩ with heap := (((((World.holding Tryz.prog os ⟨#[], #[], []⟩).heap.modify 1 (layCells Rows.laid_internal_strconv_uint64pow10)).modify 4 (layCells Rows.laid_math_bits_deBruijn32tab)).modify 5 (layCells Rows.laid_math_bits_deBruijn64tab)).modify 3 (layCells Rows.laid_unicode_utf8_acceptRanges)).modify 2 (layCells Rows.laid_unicode_utf8_first) }
theorem open_stateX {H : Type} {enc : TypeId × Value → H} {W : World} {v : Value} {d : DataW H} {p : List MemPlace} {r : Reach} {b0 : Nat} (hv : Value.okWide Tryz.prog W r b0 30 v) (h : DataW.Trod enc Tryz.prog W 0 (fun _ => true) true 30 v d p) :
    ∃ (m : Md) (s : List Int) (x : Int) (A : Option Addr) (l : List Int) (c : Nat), v = .agg (stS m s x (.slice A l.length c)).toArray ∧ s.length = 12 ∧ (∀ z ∈ s, (Lit.int .u8 z).wf = true) ∧ (Lit.int .i64 x).wf = true ∧ l.length ≤ c ∧ (Kd.int .i64).C W A l.length l ∧ (∀ z ∈ l, (Lit.int .i64 z).wf = true) := by
  obtain ⟨cs, rfl, hsz⟩ := okWide_struct Tryz.underlying30 hv
  rw [show Tryz.prog.cellsOf 30 = 24 by kernel_rfl] at hsz
  obtain ⟨fuel, hf⟩ := h
  obtain ⟨xs, n, _, _, _, hlen, hx⟩ := DataW.trod_struct Tryz.underlying30 hf
  have hc_bool : Tryz.prog.cellsOf 4 = 1 := by kernel_rfl
  have hc_int : Tryz.prog.cellsOf 3 = 1 := by kernel_rfl
  have hc_uint8 : Tryz.prog.cellsOf 5 = 1 := by kernel_rfl
  have hc_slint : Tryz.prog.cellsOf 26 = 1 := by kernel_rfl
  have hm : Tryz.prog.cellsOf 23 = 10 := by kernel_rfl
  have hs : Tryz.prog.cellsOf 25 = 12 := by kernel_rfl
  have hk : Tryz.prog.cellsOf 28 = 2 := by kernel_rfl
  match cs, hsz with
  | ⟨[c0, c1, c2, c3, c4, c5, c6, c7, c8, c9, c10, c11, c12, c13, c14, c15, c16, c17, c18, c19, c20, c21, c22, c23]⟩, _ =>
    match xs, hlen with
    | [d0, d1, d2], _ =>
      have e0 := hx 0 _ rfl
      have e1 := hx 1 _ rfl
      have e2 := hx 2 _ rfl
      simp [Value.cells, hc_bool, hc_int, hc_uint8, hc_slint, hm, hs, hk] at e0 e1 e2
      obtain ⟨xm, nm, _, _, _, hlm, hxm⟩ := DataW.trod_struct Tryz.underlying23 e0
      match xm, hlm with
      | [m0, m1, m2, m3, m4, m5, m6, m7, m8, m9], _ =>
      have em0 := hxm 0 _ rfl
      have em1 := hxm 1 _ rfl
      have em2 := hxm 2 _ rfl
      have em3 := hxm 3 _ rfl
      have em4 := hxm 4 _ rfl
      have em5 := hxm 5 _ rfl
      have em6 := hxm 6 _ rfl
      have em7 := hxm 7 _ rfl
      have em8 := hxm 8 _ rfl
      have em9 := hxm 9 _ rfl
      simp [Value.cells, hc_bool, hc_int, hc_uint8, hc_slint, hm, hs, hk] at em0 em1 em2 em3 em4 em5 em6 em7 em8 em9
      obtain ⟨y0, z0, _⟩ := DataW.trod_bool Tryz.underlying4 em0
      obtain ⟨y1, z1, _⟩ := DataW.trod_bool Tryz.underlying4 em1
      obtain ⟨y2, z2, _⟩ := DataW.trod_bool Tryz.underlying4 em2
      obtain ⟨y3, z3, _⟩ := DataW.trod_bool Tryz.underlying4 em3
      obtain ⟨y4, z4, _⟩ := DataW.trod_bool Tryz.underlying4 em4
      obtain ⟨y5, z5, _⟩ := DataW.trod_bool Tryz.underlying4 em5
      obtain ⟨y6, z6, _⟩ := DataW.trod_bool Tryz.underlying4 em6
      obtain ⟨y7, z7, _⟩ := DataW.trod_int Tryz.underlying3 em7
      obtain ⟨y8, z8, _⟩ := DataW.trod_int Tryz.underlying3 em8
      obtain ⟨y9, z9, _⟩ := DataW.trod_int Tryz.underlying3 em9
      obtain ⟨xv, nv, _, _, _, hlv, hxv⟩ := DataW.trod_array Tryz.underlying25 e1
      match xv, hlv with
      | [s0, s1, s2, s3, s4, s5, s6, s7, s8, s9, s10, s11], _ =>
      have es0 := hxv 0 (by omega)
      have es1 := hxv 1 (by omega)
      have es2 := hxv 2 (by omega)
      have es3 := hxv 3 (by omega)
      have es4 := hxv 4 (by omega)
      have es5 := hxv 5 (by omega)
      have es6 := hxv 6 (by omega)
      have es7 := hxv 7 (by omega)
      have es8 := hxv 8 (by omega)
      have es9 := hxv 9 (by omega)
      have es10 := hxv 10 (by omega)
      have es11 := hxv 11 (by omega)
      simp [Value.cells, hc_bool, hc_int, hc_uint8, hc_slint, hm, hs, hk] at es0 es1 es2 es3 es4 es5 es6 es7 es8 es9 es10 es11
      obtain ⟨u0, t0, _, wu0⟩ := DataW.trod_int Tryz.underlying5 es0
      obtain ⟨u1, t1, _, wu1⟩ := DataW.trod_int Tryz.underlying5 es1
      obtain ⟨u2, t2, _, wu2⟩ := DataW.trod_int Tryz.underlying5 es2
      obtain ⟨u3, t3, _, wu3⟩ := DataW.trod_int Tryz.underlying5 es3
      obtain ⟨u4, t4, _, wu4⟩ := DataW.trod_int Tryz.underlying5 es4
      obtain ⟨u5, t5, _, wu5⟩ := DataW.trod_int Tryz.underlying5 es5
      obtain ⟨u6, t6, _, wu6⟩ := DataW.trod_int Tryz.underlying5 es6
      obtain ⟨u7, t7, _, wu7⟩ := DataW.trod_int Tryz.underlying5 es7
      obtain ⟨u8, t8, _, wu8⟩ := DataW.trod_int Tryz.underlying5 es8
      obtain ⟨u9, t9, _, wu9⟩ := DataW.trod_int Tryz.underlying5 es9
      obtain ⟨u10, t10, _, wu10⟩ := DataW.trod_int Tryz.underlying5 es10
      obtain ⟨u11, t11, _, wu11⟩ := DataW.trod_int Tryz.underlying5 es11
      obtain ⟨xk, nk, _, _, _, hlk, hxk⟩ := DataW.trod_struct Tryz.underlying28 e2
      match xk, hlk with
      | [k0, k1], _ =>
      have ek0 := hxk 0 _ rfl
      have ek1 := hxk 1 _ rfl
      simp [Value.cells, hc_bool, hc_int, hc_uint8, hc_slint, hm, hs, hk] at ek0 ek1
      obtain ⟨x, tx, _, wx⟩ := DataW.trod_int Tryz.underlying3 ek0
      have hcE : Tryz.prog.cellsOf 3 = 1 := hc_int
      simp at tx z0 z1 z2 z3 z4 z5 z6 z7 z8 z9 t0 t1 t2 t3 t4 t5 t6 t7 t8 t9 t10 t11
      subst tx z0 z1 z2 z3 z4 z5 z6 z7 z8 z9 t0 t1 t2 t3 t4 t5 t6 t7 t8 t9 t10 t11
      have hwu : ∀ z ∈ [u0, u1, u2, u3, u4, u5, u6, u7, u8, u9, u10, u11], (Lit.int .u8 z).wf = true := by simp [wu0, wu1, wu2, wu3, wu4, wu5, wu6, wu7, wu8, wu9, wu10, wu11]
      rcases open_ints Tryz.underlying26 Tryz.underlying3 hcE ek1 with ⟨hcs, hx1⟩ | ⟨a, len', cap', zs, hcs, _, hl, hmx, hz, hx1, hcell, hwz⟩
      · simp at hcs
        subst hcs
        exact ⟨⟨y0, y1, y2, y3, y4, y5, y6, y7, y8, y9⟩, [u0, u1, u2, u3, u4, u5, u6, u7, u8, u9, u10, u11], x, none, [], 0, rfl, rfl, hwu, wx, Nat.le_refl _, ⟨rfl, by simp, fun h => by simp at h⟩, fun z hz => by cases hz⟩
      · simp at hcs
        subst hcs
        simp only [if_true] at hz
        have hlen2 : (zs.take len').length = len' := by rw [List.length_take]; omega
        refine ⟨⟨y0, y1, y2, y3, y4, y5, y6, y7, y8, y9⟩, [u0, u1, u2, u3, u4, u5, u6, u7, u8, u9, u10, u11], x, some a, zs.take len', cap', by rw [hlen2]; rfl, rfl, hwu, wx, by rw [hlen2]; exact hl, ?_, fun z hz => hwz z (List.mem_of_mem_take hz)⟩
        refine Kd.C_of_reads (d := (0 : Int)) ⟨rfl, by rw [hlen2]; unfold maxLen at hmx; omega, fun _ => ⟨a, rfl, fun j hj => ?_⟩⟩
        rw [hlen2] at hj
        have hj2 : j < zs.length := by omega
        rw [hcell j hj2]
        simp [List.getD, hj, hj2]
end Go.Proofs.YtdmifbffamckbaaGreatDoor
end
