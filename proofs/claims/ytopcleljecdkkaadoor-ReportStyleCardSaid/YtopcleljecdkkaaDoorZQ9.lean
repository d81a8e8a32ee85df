/- Q: texts run together by shake.py: Ggclavierlaw19awake RpW. -/
import Derived.ArgAppend
import Derived.Below
import Derived.BigQuiet
import Derived.ChangeOld
import Derived.ChangeSlices
import Derived.Deep.AppendLies
import Derived.Deep.CutBlock
import Derived.Deep.DeepCutAuto
import Derived.Deep.Draws
import Derived.Deep.LoopGhost
import Derived.Deep.Matrix
import Derived.Deep.OwnRows
import Derived.Deep.Quiet
import Derived.Deep.QuietTactic
import Derived.Deep.RegionHeld3
import Derived.Ground.Names2Prog
import Derived.Ground.SlgnProg
import Derived.KernelRfl
import Derived.Laws.AppendOwn
import Derived.Laws.AppendOwnNone
import Derived.Laws.BitsLemmas
import Derived.Laws.BytesArg
import Derived.Laws.Concat
import Derived.Laws.CopyRow
import Derived.Laws.IdiomCopy
import Derived.Laws.IdiomStrings
import Derived.Laws.MakeOwn
import Derived.Laws.OwnMore
import Derived.Laws.Rows
import Derived.Laws.Slices
import Derived.Laws.StructEq
import Derived.Laws.Tables
import Derived.Lib.AppendIntMem
import Derived.Lib.AppendStr
import Derived.Lib.ConvBytes
import Derived.Lib.Hide
import Derived.Lib.ItoaLen
import Derived.Lib.ItoaNum
import Derived.Lib.Join
import Derived.Lib.LaidTab
import Derived.Lib.Strings
import Derived.MapKept
import Derived.Maps.AppendAt
import Derived.OpenShut
import Derived.Orders
import Derived.OrdersHeld
import Derived.Outline
import Derived.OwnWalk
import Derived.ProofKit
import Derived.RowKit
import Derived.RowKit3
import Derived.Shelf.LaysM
import Derived.Shelf.Slices.Clone
import Derived.Shelf.SlicesE.Clone
import Derived.Shelf.Strconv.Itoa0
import Derived.Shelf.Strconv.Itoa1
import Derived.Shelf.Strconv.Itoa2
import Derived.Shelf.Strconv.Itoa3
import Derived.Shelf.Strings.Builder1
import Derived.Shelf.Strings.Builder2
import Derived.Shelf.Strings.Builder2Cap
import Derived.Shelf.Strings.BuilderCap
import Derived.Shelf.Strings.BuilderF
import Derived.Shelf.Strings.BuilderK
import Derived.Shelf.Strings.OnBuilder
import Derived.ShutString
import Derived.SizedLaws
import Derived.Still
import Derived.Tactics
import Derived.Test.YtopcleljecdkkaaDoorProg
import Derived.WalkKit
import Derived.WalkLawsBesides
import Derived.WalkSpells
import Derived.WideLaws
import Derived.Test.YtopcleljecdkkaaDoorZQ1
import Derived.Test.YtopcleljecdkkaaDoorZQ2
import Derived.Test.YtopcleljecdkkaaDoorZQ3
import Derived.Test.YtopcleljecdkkaaDoorZQ4
import Derived.Test.YtopcleljecdkkaaDoorZQ5
import Derived.Test.YtopcleljecdkkaaDoorZQ6
import Derived.Test.YtopcleljecdkkaaDoorZQ7
import Derived.Test.YtopcleljecdkkaaDoorZQ8
section
namespace Go.Proofs.YtopcleljecdkkaaDoor.G
open Go.RowKit Go.Proofs.YtopcleljecdkkaaDoorW.PrintWords Go.Proofs.YtopcleljecdkkaaDoorW.PrintLast Go.Proofs.YtopcleljecdkkaaDoorW.PrintMore
attribute [local go_sem] max2_int min2_int max_two min_two max_three min_three max_four min_four
set_option linter.unusedVariables false
set_option linter.unusedSimpArgs false
def clavierlaw19_awake.f  : Option (Bool) := some true
theorem tx_of (n : Nat) (l : List UInt8) (h : Lib.decDigits n = l) (hn : n ≤ 1000) : clavierref01_Text.f (n : Int) = some ⟨l.toArray⟩ ∧ num_Text.f (n : Int) = some ⟨l.toArray⟩ := by
  have e : textL (n : Int) = l := by rw [textL_nat, h]
  unfold clavierref01_Text.f num_Text.f
  rw [if_pos ⟨by omega, by omega⟩, e]
  exact ⟨rfl, rfl⟩
theorem dd_small (n : Nat) (h : n < 10) : Lib.decDigits n = [UInt8.ofNat (48 + n)] := by rw [Lib.decDigits, dif_pos h]
theorem dd24 : Lib.decDigits 24 = [50, 52] := by
  rw [Lib.decDigits, dif_neg (by decide), Lib.decDigits, dif_pos (by decide)]
  rfl
theorem awBody1 : clavierref03_body.f 20 1 0 [[3], [4]] ⟨#[]⟩ 82 ⟨#[]⟩ = some ⟨#[51, 59, 52]⟩ := by
  have t3 : clavierref01_Text.f 3 = some ⟨#[51]⟩ := (tx_of 3 _ (dd_small 3 (by decide)) (by decide)).1
  have t4 : clavierref01_Text.f 4 = some ⟨#[52]⟩ := (tx_of 4 _ (dd_small 4 (by decide)) (by decide)).1
  simp [clavierref03_body.f, clavierref03_body.j0, clavierref03_body.l0, clavierref03_body.j2, clavierref03_body.l1, rd, rd_L1, wrap64, t3, t4]
  decide
theorem awBody2 : clavierref03_body.f 20 3 0 [[1]] ⟨#[36]⟩ 114 ⟨#[49, 59, 50, 52, 114]⟩ = some ⟨#[49, 36]⟩ := by
  have t1 : clavierref01_Text.f 1 = some ⟨#[49]⟩ := (tx_of 1 _ (dd_small 1 (by decide)) (by decide)).1
  simp [clavierref03_body.f, clavierref03_body.j0, clavierref03_body.l0, clavierref03_body.j2, clavierref03_body.l1, rd, rd_L1, wrap64, t1]
  decide
theorem awBody3 : clavierref03_body.f 20 3 0 [[0]] ⟨#[36]⟩ 114 ⟨#[]⟩ = some ⟨#[48, 36]⟩ := by
  have t0 : clavierref01_Text.f 0 = some ⟨#[48]⟩ := (tx_of 0 _ (dd_small 0 (by decide)) (by decide)).1
  simp [clavierref03_body.f, clavierref03_body.j0, clavierref03_body.l0, clavierref03_body.j2, clavierref03_body.l1, rd, rd_L1, wrap64, t0]
  decide
theorem awMay1 : clavierref03_May.f 30 1 0 [[3], [4]] ⟨#[]⟩ 82 ⟨#[]⟩ = some 0 := by kernel_rfl
theorem awMay2 : clavierref03_May.f 30 3 0 [[1]] ⟨#[36]⟩ 114 ⟨#[49, 59, 50, 52, 114]⟩ = some 0 := by kernel_rfl
theorem awMay3 : clavierref03_May.f 30 3 0 [[0]] ⟨#[36]⟩ 114 ⟨#[]⟩ = some 0 := by kernel_rfl
theorem awPlace : report_Place.f 20 0 0 3 4 1 24 0 0 0 false false false false false false false 0 0 0 false = some (1, 0, [[3], [4]], ⟨#[]⟩, 82, ⟨#[]⟩) := by kernel_rfl
theorem awSetR : report_Setting.f 20 0 0 3 4 1 24 0 0 0 false false false false false false false 0 0 0 ⟨#[114]⟩ = some (3, 0, [[1]], ⟨#[36]⟩, 114, ⟨#[49, 59, 50, 52, 114]⟩) := by
  have t1 : num_Text.f 1 = some ⟨#[49]⟩ := (tx_of 1 _ (dd_small 1 (by decide)) (by decide)).2
  have t24 : num_Text.f 24 = some ⟨#[50, 52]⟩ := (tx_of 24 _ dd24 (by decide)).2
  have s1 : report_Setting_1.f 1 = some ⟨#[49]⟩ := by unfold report_Setting_1.f; rw [show report_fact.f 1 = some 1 from rfl, Option.bind_some, t1]; rfl
  have s24 : report_Setting_1.f 24 = some ⟨#[50, 52]⟩ := by unfold report_Setting_1.f; rw [show report_fact.f 24 = some 24 from rfl, Option.bind_some, t24]; rfl
  unfold report_Setting.f
  rw [if_neg (by decide), if_pos rfl, s1, Option.bind_some, s24, Option.bind_some, if_pos (by decide)]
  rfl
theorem awSetX : report_Setting.f 20 0 0 3 4 1 24 0 0 0 false false false false false false false 0 0 0 ⟨#[120]⟩ = some (3, 0, [[0]], ⟨#[36]⟩, 114, ⟨#[]⟩) := by
  unfold report_Setting.f
  rw [if_neg (by decide), if_neg (by decide), if_neg (by decide), if_neg (by decide), if_neg (by decide)]
theorem clavierlaw19_awake.calls  (r : Bool) (w : World) (hT : Tab w) (h : clavierlaw19_awake.f  = some r) :
    Calls Tryd.prog 9 #[] w fun e w' => e = .returned (.bool r) ∧ Below w.heap.size w w' := by
  obtain rfl : true = r := Option.some.inj h
  have hp : ∀ (kd pv fi : Int) (rows : List (List Int)) (inter data bd : ByteArray), clavierref03_May.f 30 kd pv rows inter fi data = some 0 → clavierref03_body.f 20 kd pv rows inter fi data = some bd → ∀ W A c, (Kd.slice 3 (Kd.int .i64)).C W A rows.length rows → rows.length ≤ c →
      SeqAt 26 (seqV kd pv (.slice A rows.length c) inter fi data) (.int .i64 0) W ∧ SeqAt 53 (seqV kd pv (.slice A rows.length c) inter fi data) (.string bd) W := by
    intro kd pv fi rows inter data bd hm hb W A c hC hc
    refine ⟨fun W' hW => ?_, fun W' hW => ?_⟩
    · exact (clavierref03_May.calls 30 kd pv A c rows inter fi data 0 W' (Kd.C_below hC hW) hc hm).mono fun e w' h => ⟨h.1, by first | exact h.2 | exact h.2.below⟩
    · exact (clavierref03_body.calls 20 kd pv A c rows inter fi data bd W' (Kd.C_below hC hW) hc hb).mono fun e w' h => ⟨h.1, by first | exact h.2 | exact h.2.below⟩
  refine awake19_calls w (fun W hb => ?_) (fun W hb => ?_) (fun W hb => ?_) (fun W hb => ?_) (fun W A c hb hC hc => ?_) (fun W A c hb hC hc => ?_) (fun W A c hb hC hc => ?_)
  · exact report_Place.calls 20 0 0 3 4 1 24 0 0 0 false false false false false false false 0 0 0 false _ _ _ _ _ _ W awPlace
  · exact report_Setting.calls 20 0 0 3 4 1 24 0 0 0 false false false false false false false 0 0 0 ⟨#[114]⟩ _ _ _ _ _ _ W (Tab.below hT hb) awSetR
  · exact report_Setting.calls 20 0 0 3 4 1 24 0 0 0 false false false false false false false 0 0 0 ⟨#[120]⟩ _ _ _ _ _ _ W (Tab.below hT hb) awSetX
  · exact (report_Version.calls _ _ _ _ _ _ W rfl).mono fun e w' ⟨v, h1, h2, h3⟩ => ⟨v, h1, h3⟩
  · obtain ⟨k1, k2⟩ := hp 1 0 82 [[3], [4]] ⟨#[]⟩ ⟨#[]⟩ _ awMay1 awBody1 W A c hC hc
    exact put_csi 0 82 _ ⟨rfl, rfl⟩ ⟨#[]⟩ ⟨#[]⟩ _ W (by decide) (by decide) k1 k2 (by decide) _ rfl
  · obtain ⟨k1, k2⟩ := hp 3 0 114 [[1]] ⟨#[36]⟩ ⟨#[49, 59, 50, 52, 114]⟩ _ awMay2 awBody2 W A c hC hc
    exact put_dcs 0 114 _ ⟨rfl, rfl⟩ ⟨#[36]⟩ ⟨#[49, 59, 50, 52, 114]⟩ _ W (by decide) (by decide) k1 k2 (by decide) (by decide) _ rfl
  · obtain ⟨k1, k2⟩ := hp 3 0 114 [[0]] ⟨#[36]⟩ ⟨#[]⟩ _ awMay3 awBody3 W A c hC hc
    exact put_dcs 0 114 _ ⟨rfl, rfl⟩ ⟨#[36]⟩ ⟨#[]⟩ _ W (by decide) (by decide) k1 k2 (by decide) (by decide) _ rfl
end Go.Proofs.YtopcleljecdkkaaDoor.G
end
section
namespace Go.Proofs.YtopcleljecdkkaaDoor
set_option linter.unusedVariables false
set_option linter.unusedSimpArgs false
set_option maxRecDepth 100000
open Go.RowKit Kit Go.Proofs.YtopcleljecdkkaaDoorW.PrintWords G
attribute [local irreducible] wpList Calls
theorem awake_gives {w : World} (hT : Tab w) : Gives 9 #[] (.bool true) w := fun W hb => (clavierlaw19_awake.calls true W (Tab.below hT hb) rfl).mono fun e w' h => ⟨h.1, by first | exact h.2 | exact h.2.below⟩
theorem same_at {q1 q2 : Sq} {b : Bool} {k : Nat} {w : World} (h : clavierref03_Same.f k q1.kind q1.priv q1.rows q1.inter q1.fin q1.data q2.kind q2.priv q2.rows q2.inter q2.fin q2.data = some b) : SameIs q1 q2 b w := by
  intro W B1 B2 v1 v2 hb h1 h2
  obtain ⟨u1, rfl, s1⟩ := h1
  obtain ⟨u2, rfl, s2⟩ := h2
  obtain ⟨A1, c1, rfl, l1, r1⟩ := Kd.S_reads s1
  obtain ⟨A2, c2, rfl, l2, r2⟩ := Kd.S_reads s2
  exact (clavierref03_Same.calls k _ _ A1 c1 q1.rows _ _ _ _ _ A2 c2 q2.rows _ _ _ b W r1 l1 r2 l2 h).mono fun e w' h => ⟨h.1, by first | exact h.2 | exact h.2.below⟩
theorem same_by (q1 q2 : Sq) (w : World) (m : Nat) (hm : m ≤ 4611686018427387904) (hw : wide q1.rows m) (ha : q1.rows.length ≤ 4611686018427387904) (hb : q2.rows.length ≤ 4611686018427387904) : SameIs q1 q2 (decide (q1 = q2)) w := by
  have h := Same_is q1.kind q1.priv q1.fin q2.kind q2.priv q2.fin q1.rows q2.rows q1.inter q1.data q2.inter q2.data m hm hw ha hb (q1.rows.length + m + 3) (Nat.le_refl _)
  refine same_at (k := q1.rows.length + m + 3) (h.trans ?_)
  congr 1
  obtain ⟨a1, a2, a3, a4, a5, a6⟩ := q1
  obtain ⟨b1, b2, b3, b4, b5, b6⟩ := q2
  rw [decide_eq_decide, Sq.mk.injEq]
  constructor
  · rintro ⟨h1, h2, h3, h4, h5, h6⟩; exact ⟨h1, h2, h6, h3, h4, h5⟩
  · rintro ⟨h1, h2, h3, h4, h5, h6⟩; exact ⟨h1, h2, h4, h5, h6, h3⟩
end Go.Proofs.YtopcleljecdkkaaDoor
end
