/- C: texts run together by shake.py: PuM CaQ. -/
import Derived.ArgAppend
import Derived.Below
import Derived.BigQuiet
import Derived.Deep.AppendLies
import Derived.Deep.CutBlock
import Derived.Deep.DeepCutAuto
import Derived.Deep.DrawnRows
import Derived.Deep.Draws
import Derived.Deep.LoopGhost
import Derived.Deep.OwnRows
import Derived.Deep.Quiet
import Derived.Deep.QuietTactic
import Derived.Deep.RegionHeld3
import Derived.Ground.GgzProg
import Derived.KernelRfl
import Derived.Laws.AppendOwn
import Derived.Laws.AppendOwnNone
import Derived.Laws.BitsAllLaws
import Derived.Laws.BitsLemmas
import Derived.Laws.BytesArg
import Derived.Laws.CopyRow
import Derived.Laws.IdiomCopy
import Derived.Laws.IdiomStrings
import Derived.Laws.MakeOwn
import Derived.Laws.OwnMore
import Derived.Laws.RangeAny
import Derived.Laws.Rows
import Derived.Laws.Slices
import Derived.Laws.StructEq
import Derived.Laws.Tables
import Derived.Lib.AppendStr
import Derived.Lib.ConvBytes
import Derived.Lib.Hide
import Derived.Lib.ItoaNum
import Derived.Lib.OthersKept
import Derived.Lib.SlKeysI
import Derived.Lib.TrimU
import Derived.MapKept
import Derived.Maps.AppendAt
import Derived.Maps.Own
import Derived.Orders
import Derived.OrdersHeld
import Derived.OrdersIn
import Derived.Outline
import Derived.OwnWalk
import Derived.RangeFuncCalls
import Derived.RangeFuncNested
import Derived.RangeFuncWrites
import Derived.RowKit
import Derived.RowKit3
import Derived.Shelf.LaysM
import Derived.Shelf.SlIter.Nil
import Derived.Shelf.Slices.Empties2
import Derived.Shelf.Slices.Equal
import Derived.Shelf.Slices.In.SortNone
import Derived.Shelf.Small.Bits
import Derived.Shelf.Small.Strs
import Derived.Shelf.Small.Utf8
import Derived.Shelf.Sort.Plain
import Derived.Shelf.SortM.Plain
import Derived.Shelf.SortM.SortNone
import Derived.Shelf.Strconv.Itoa0
import Derived.Shelf.Strings.Builder1
import Derived.Shelf.Strings.Builder2
import Derived.Shelf.Strings.Builder2Cap
import Derived.Shelf.Strings.BuilderCap
import Derived.Shelf.Strings.BuilderF
import Derived.Shelf.Strings.BuilderK
import Derived.Shelf.Strings.Cut
import Derived.Shelf.Strings.OnBuilder
import Derived.Shelf.Strings.Runes
import Derived.Shelf.Strings.Search1
import Derived.Shelf.Strings.Search2
import Derived.Shelf.Strings.Search3
import Derived.Shelf.Strings.Shaped
import Derived.Shelf.Unicode.Decode
import Derived.Shelf.Unicode.DecodeAny
import Derived.Shelf.Unicode.DecodeSlow
import Derived.Still
import Derived.Tactics
import Derived.TacticsIn
import Derived.Test.YtclnanhgcnopdaaDoorProg
import Derived.WalkKit
import Derived.WalkLawsBesides
import Derived.WalkSpells
import Derived.WideLaws
import Derived.Test.YtclnanhgcnopdaaDoorZC1
import Derived.Test.YtclnanhgcnopdaaDoorZC2
import Derived.Test.YtclnanhgcnopdaaDoorZC3
import Derived.Test.YtclnanhgcnopdaaDoorZC4
import Derived.Test.YtclnanhgcnopdaaDoorZC5
import Derived.Test.YtclnanhgcnopdaaDoorZC6
section
namespace Go.Proofs.YtclnanhgcnopdaaDoor.G
set_option linter.unusedVariables false
set_option linter.unusedSimpArgs false
open Go.RowKit Kit Go.Proofs.YtclnanhgcnopdaaDoorW.PrintWords Go.Proofs.YtclnanhgcnopdaaDoorW.PrintMore
theorem ints_one (k : Nat) (n : Int) : clavierref02_Ints.f (k + 2) [n] [n] = some true := by simp [clavierref02_Ints.f, clavierref02_Ints.l0, rd, wrap64]
theorem same_one (kd pv fi n : Int) (inter data : ByteArray) : clavierref03_Same.f 8 kd pv [[n]] inter fi data kd pv [[n]] inter fi data = some true := by
  unfold clavierref03_Same.f
  rw [if_pos rfl, if_pos rfl, if_pos rfl, if_pos rfl, if_pos rfl, clavierref03_Same.j0, if_neg (by simp), clavierref03_Same.l0, if_pos (by simp), if_pos (by omega), if_pos (by simp)]
  have e : rd_L4 [[n]] 0 = [n] := rfl
  rw [e, ints_one 4 n, Option.bind_some, if_pos rfl]
  have e2 : wrap64 (0 + 1) = 1 := by unfold wrap64; omega
  rw [e2, clavierref03_Same.l0, if_neg (by simp)]
theorem same_two (kd pv fi n : Int) (inter data : ByteArray) (A B : Option Addr) (c d : Nat) (w : World) (hA : RowsC w A [[n]]) (hB : RowsC w B [[n]]) (hc : 1 ≤ c) (hd : 1 ≤ d) :
    Calls Tryd.prog 11 #[(Sr.mk kd pv [[n]] inter fi data).v A c, (Sr.mk kd pv [[n]] inter fi data).v B d] w fun e w' => e = .returned (.bool true) ∧ Below w.heap.size w w' :=
  clavierref03_Same.calls 8 kd pv A c [[n]] inter fi data kd pv B d [[n]] inter fi data true w hA hc hB hd (same_one kd pv fi n inter data)
end Go.Proofs.YtclnanhgcnopdaaDoor.G
end
section
namespace Go.Proofs.YtclnanhgcnopdaaDoor
set_option linter.unusedVariables false
set_option linter.unusedSimpArgs false
open Go.RowKit Kit G Go.Proofs.YtclnanhgcnopdaaDoorW.PrintWords
attribute [local irreducible] wpList Calls wpQuiet
set_option maxRecDepth 100000 in
set_option maxHeartbeats 4000000 in
theorem capsAnswers_calls (name data : ByteArray) (w : World) : Calls Tryd.prog 3 #[.string name, .string data] w fun e w' => e = .returned (.bool true) ∧ Below w.heap.size w w' := by
  have HO := Mine.start w
  by_cases h1 : 100 < name.size
  · have b1 : decide ((100 : Int) < (name.size : Int)) = true := decide_eq_true (by omega)
    have b2 : decide (100 < name.size) = true := decide_eq_true h1
    clear h1
    go_enter Tryd.func3, Tryd.ntmps3
    go_wp2_with (go_at_call 8; refine (awake20_calls _).mono ?_; rintro eN wN ⟨rfl, hbN⟩; have HON := HO.call hbN; clear HO hbN; have HO := HON; clear HON)
    go_ret
    exact ⟨rfl, HO.below⟩
  have b1 : decide ((100 : Int) < (name.size : Int)) = false := decide_eq_false (by omega)
  have b2 : decide (100 < name.size) = false := decide_eq_false h1
  by_cases h2 : 300 < data.size
  · have b3 : decide ((300 : Int) < (data.size : Int)) = true := decide_eq_true (by omega)
    have b4 : decide (300 < data.size) = true := decide_eq_true h2
    clear h1 h2
    go_enter Tryd.func3, Tryd.ntmps3
    go_wp2_with (go_at_call 8; refine (awake20_calls _).mono ?_; rintro eN wN ⟨rfl, hbN⟩; have HON := HO.call hbN; clear HO hbN; have HO := HON; clear HON)
    go_ret
    exact ⟨rfl, HO.below⟩
  have b3 : decide ((300 : Int) < (data.size : Int)) = false := decide_eq_false (by omega)
  have b4 : decide (300 < data.size) = false := decide_eq_false h2
  obtain ⟨v, k, hvk⟩ : ∃ v k, lookB name = (v, k) := ⟨_, _, rfl⟩
  obtain ⟨n, hn⟩ := capsS_rows data
  have ha := fun W => one_known (answer_calls data (by omega) W) n hn
  have hr := fun W => one_known (refAnswer_calls data (by omega) W) n hn
  obtain ⟨q, hq⟩ : ∃ q, capsS data = q := ⟨_, rfl⟩
  rw [hq] at ha hr
  obtain ⟨kd, pv, rows, inter, fin, dt⟩ := q
  have HA := Lib.hid ha
  have HR := Lib.hid hr
  have HL := Lib.hid hvk
  have g1 : decide (v = v) = true := decide_eq_true rfl
  have g2 : (v.toList == v.toList) = true := beq_self_eq_true _
  have g3 : (k == k) = true := beq_self_eq_true _
  have HS : Hid (∀ (A B : Option Addr) (c d : Nat) (W : World), RowsC W A [[n]] → RowsC W B [[n]] → 1 ≤ c → 1 ≤ d → Calls Tryd.prog 11 #[.agg #[.int .i64 kd, .int .u8 pv, .slice A 1 c, .string inter, .int .u8 fin, .string dt], .agg #[.int .i64 kd, .int .u8 pv, .slice B 1 d, .string inter, .int .u8 fin, .string dt]] W fun e w' => e = .returned (.bool true) ∧ Below W.heap.size W w') := Lib.hid fun A B c d W hA hB hc hd => same_two kd pv fin n inter dt A B c d W hA hB hc hd
  clear h1 h2 hvk ha hr hq hn
  go_enter Tryd.func3, Tryd.ntmps3
  go_wp2_with (first
      | (go_at_call 8; refine (awake20_calls _).mono ?_; rintro eN wN ⟨rfl, hbN⟩; have HON := HO.call hbN; clear HO hbN; have HO := HON; clear HON)
      | (go_at_call 9; refine (look_calls name v k HL.out _).mono ?_; rintro eN wN ⟨rfl, hbN⟩; have HON := HO.call hbN; clear HO hbN; have HO := HON; clear HON)
      | (go_at_call 10; refine (lookC_calls name v k HL.out _).mono ?_; rintro eN wN ⟨rfl, hbN⟩; have HON := HO.call hbN; clear HO hbN; have HO := HON; clear HON)
      | (go_at_call 12; refine (HA.out _).mono ?_; rintro eN wN ⟨g1, g2, rfl, HM⟩; have HON := (HO.join HM).perm List.perm_append_comm; clear HO HM; have HO := HON; clear HON; (simp only [List.nil_append, List.cons_append] at HO))
      | (go_at_call 13; refine (HR.out _).mono ?_; rintro eN wN ⟨g3, g4, rfl, HM⟩; have HON := (HO.join HM).perm List.perm_append_comm; clear HO HM; have HO := HON; clear HON; (simp only [List.nil_append, List.cons_append] at HO))
      | (go_at_call 11; refine (HS.out _ _ 1 1 _ (rows_one1 (HO.at (.tail _ (.tail _ (.tail _ (.head _))))) (HO.at (.tail _ (.tail _ (.head _))))) (rows_one1 (HO.at (.tail _ (.head _))) (HO.at (.head _))) (Nat.le_refl _) (Nat.le_refl _)).mono ?_; rintro eN wN ⟨rfl, hbN⟩; have HON := HO.call hbN; clear HO hbN; have HO := HON; clear HON))
  go_ret
  exact ⟨rfl, HO.below⟩
end Go.Proofs.YtclnanhgcnopdaaDoor
end
