/- R: texts run together by shake.py: Ggclavierlaw19awake RpW RpT. -/
import Derived.ArgAppend
import Derived.Below
import Derived.BigQuiet
import Derived.ChangeOld
import Derived.ChangeSlices
import Derived.Deep.AppendLies
import Derived.Deep.CutBlock
import Derived.Deep.DeepCutAuto
import Derived.Deep.Draws
import Derived.Deep.LoopGhost
import Derived.Deep.Matrix
import Derived.Deep.OwnRows
import Derived.Deep.Quiet
import Derived.Deep.QuietTactic
import Derived.Deep.RegionHeld3
import Derived.Ground.Names2Prog
import Derived.Ground.SlgnProg
import Derived.KernelRfl
import Derived.Laws.AppendOwn
import Derived.Laws.AppendOwnNone
import Derived.Laws.BitsLemmas
import Derived.Laws.BytesArg
import Derived.Laws.Concat
import Derived.Laws.CopyRow
import Derived.Laws.IdiomCopy
import Derived.Laws.IdiomStrings
import Derived.Laws.MakeOwn
import Derived.Laws.OwnMore
import Derived.Laws.Rows
import Derived.Laws.Slices
import Derived.Laws.StructEq
import Derived.Laws.Tables
import Derived.Lib.AppendIntMem
import Derived.Lib.AppendStr
import Derived.Lib.ConvBytes
import Derived.Lib.Hide
import Derived.Lib.ItoaLen
import Derived.Lib.ItoaNum
import Derived.Lib.Join
import Derived.Lib.LaidTab
import Derived.Lib.Strings
import Derived.MapKept
import Derived.Maps.AppendAt
import Derived.OpenShut
import Derived.Orders
import Derived.OrdersHeld
import Derived.Outline
import Derived.OwnWalk
import Derived.ProofKit
import Derived.RowKit
import Derived.RowKit3
import Derived.Shelf.LaysM
import Derived.Shelf.Slices.Clone
import Derived.Shelf.SlicesE.Clone
import Derived.Shelf.Strconv.Itoa0
import Derived.Shelf.Strconv.Itoa1
import Derived.Shelf.Strconv.Itoa2
import Derived.Shelf.Strconv.Itoa3
import Derived.Shelf.Strings.Builder1
import Derived.Shelf.Strings.Builder2
import Derived.Shelf.Strings.Builder2Cap
import Derived.Shelf.Strings.BuilderCap
import Derived.Shelf.Strings.BuilderF
import Derived.Shelf.Strings.BuilderK
import Derived.Shelf.Strings.OnBuilder
import Derived.ShutString
import Derived.SizedLaws
import Derived.Still
import Derived.Tactics
import Derived.Test.YtopcleljecdkkaaDoorProg
import Derived.WalkKit
import Derived.WalkLawsBesides
import Derived.WalkSpells
import Derived.WideLaws
import Derived.Test.YtopcleljecdkkaaDoorZR1
import Derived.Test.YtopcleljecdkkaaDoorZR2
import Derived.Test.YtopcleljecdkkaaDoorZR3
import Derived.Test.YtopcleljecdkkaaDoorZR4
import Derived.Test.YtopcleljecdkkaaDoorZR5
import Derived.Test.YtopcleljecdkkaaDoorZR6
import Derived.Test.YtopcleljecdkkaaDoorZR7
import Derived.Test.YtopcleljecdkkaaDoorZR8
import Derived.Test.YtopcleljecdkkaaDoorZR9
import Derived.Test.YtopcleljecdkkaaDoorZR10
section
namespace Go.Proofs.YtopcleljecdkkaaDoor.G
open Go.RowKit Go.Proofs.YtopcleljecdkkaaDoorW.PrintWords Go.Proofs.YtopcleljecdkkaaDoorW.PrintLast Go.Proofs.YtopcleljecdkkaaDoorW.PrintMore
attribute [local go_sem] max2_int min2_int max_two min_two max_three min_three max_four min_four
set_option linter.unusedVariables false
set_option linter.unusedSimpArgs false
def clavierlaw19_awake.f  : Option (Bool) := some true
theorem tx_of (n : Nat) (l : List UInt8) (h : Lib.decDigits n = l) (hn : n ≤ 1000) : clavierref01_Text.f (n : Int) = some ⟨l.toArray⟩ ∧ num_Text.f (n : Int) = some ⟨l.toArray⟩ := by
  have e : textL (n : Int) = l := by rw [textL_nat, h]
  unfold clavierref01_Text.f num_Text.f
  rw [if_pos ⟨by omega, by omega⟩, e]
  exact ⟨rfl, rfl⟩
theorem dd_small (n : Nat) (h : n < 10) : Lib.decDigits n = [UInt8.ofNat (48 + n)] := by rw [Lib.decDigits, dif_pos h]
theorem dd24 : Lib.decDigits 24 = [50, 52] := by
  rw [Lib.decDigits, dif_neg (by decide), Lib.decDigits, dif_pos (by decide)]
  rfl
theorem awBody1 : clavierref03_body.f 20 1 0 [[3], [4]] ⟨#[]⟩ 82 ⟨#[]⟩ = some ⟨#[51, 59, 52]⟩ := by
  have t3 : clavierref01_Text.f 3 = some ⟨#[51]⟩ := (tx_of 3 _ (dd_small 3 (by decide)) (by decide)).1
  have t4 : clavierref01_Text.f 4 = some ⟨#[52]⟩ := (tx_of 4 _ (dd_small 4 (by decide)) (by decide)).1
  simp [clavierref03_body.f, clavierref03_body.j0, clavierref03_body.l0, clavierref03_body.j2, clavierref03_body.l1, rd, rd_L1, wrap64, t3, t4]
  decide
theorem awBody2 : clavierref03_body.f 20 3 0 [[1]] ⟨#[36]⟩ 114 ⟨#[49, 59, 50, 52, 114]⟩ = some ⟨#[49, 36]⟩ := by
  have t1 : clavierref01_Text.f 1 = some ⟨#[49]⟩ := (tx_of 1 _ (dd_small 1 (by decide)) (by decide)).1
  simp [clavierref03_body.f, clavierref03_body.j0, clavierref03_body.l0, clavierref03_body.j2, clavierref03_body.l1, rd, rd_L1, wrap64, t1]
  decide
theorem awBody3 : clavierref03_body.f 20 3 0 [[0]] ⟨#[36]⟩ 114 ⟨#[]⟩ = some ⟨#[48, 36]⟩ := by
  have t0 : clavierref01_Text.f 0 = some ⟨#[48]⟩ := (tx_of 0 _ (dd_small 0 (by decide)) (by decide)).1
  simp [clavierref03_body.f, clavierref03_body.j0, clavierref03_body.l0, clavierref03_body.j2, clavierref03_body.l1, rd, rd_L1, wrap64, t0]
  decide
theorem awMay1 : clavierref03_May.f 30 1 0 [[3], [4]] ⟨#[]⟩ 82 ⟨#[]⟩ = some 0 := by kernel_rfl
theorem awMay2 : clavierref03_May.f 30 3 0 [[1]] ⟨#[36]⟩ 114 ⟨#[49, 59, 50, 52, 114]⟩ = some 0 := by kernel_rfl
theorem awMay3 : clavierref03_May.f 30 3 0 [[0]] ⟨#[36]⟩ 114 ⟨#[]⟩ = some 0 := by kernel_rfl
theorem awPlace : report_Place.f 20 0 0 3 4 1 24 0 0 0 false false false false false false false 0 0 0 false = some (1, 0, [[3], [4]], ⟨#[]⟩, 82, ⟨#[]⟩) := by kernel_rfl
theorem awSetR : report_Setting.f 20 0 0 3 4 1 24 0 0 0 false false false false false false false 0 0 0 ⟨#[114]⟩ = some (3, 0, [[1]], ⟨#[36]⟩, 114, ⟨#[49, 59, 50, 52, 114]⟩) := by
  have t1 : num_Text.f 1 = some ⟨#[49]⟩ := (tx_of 1 _ (dd_small 1 (by decide)) (by decide)).2
  have t24 : num_Text.f 24 = some ⟨#[50, 52]⟩ := (tx_of 24 _ dd24 (by decide)).2
  have s1 : report_Setting_1.f 1 = some ⟨#[49]⟩ := by unfold report_Setting_1.f; rw [show report_fact.f 1 = some 1 from rfl, Option.bind_some, t1]; rfl
  have s24 : report_Setting_1.f 24 = some ⟨#[50, 52]⟩ := by unfold report_Setting_1.f; rw [show report_fact.f 24 = some 24 from rfl, Option.bind_some, t24]; rfl
  unfold report_Setting.f
  rw [if_neg (by decide), if_pos rfl, s1, Option.bind_some, s24, Option.bind_some, if_pos (by decide)]
  rfl
theorem awSetX : report_Setting.f 20 0 0 3 4 1 24 0 0 0 false false false false false false false 0 0 0 ⟨#[120]⟩ = some (3, 0, [[0]], ⟨#[36]⟩, 114, ⟨#[]⟩) := by
  unfold report_Setting.f
  rw [if_neg (by decide), if_neg (by decide), if_neg (by decide), if_neg (by decide), if_neg (by decide)]
theorem clavierlaw19_awake.calls  (r : Bool) (w : World) (hT : Tab w) (h : clavierlaw19_awake.f  = some r) :
    Calls Tryd.prog 9 #[] w fun e w' => e = .returned (.bool r) ∧ Below w.heap.size w w' := by
  obtain rfl : true = r := Option.some.inj h
  have hp : ∀ (kd pv fi : Int) (rows : List (List Int)) (inter data bd : ByteArray), clavierref03_May.f 30 kd pv rows inter fi data = some 0 → clavierref03_body.f 20 kd pv rows inter fi data = some bd → ∀ W A c, (Kd.slice 3 (Kd.int .i64)).C W A rows.length rows → rows.length ≤ c →
      SeqAt 26 (seqV kd pv (.slice A rows.length c) inter fi data) (.int .i64 0) W ∧ SeqAt 53 (seqV kd pv (.slice A rows.length c) inter fi data) (.string bd) W := by
    intro kd pv fi rows inter data bd hm hb W A c hC hc
    refine ⟨fun W' hW => ?_, fun W' hW => ?_⟩
    · exact (clavierref03_May.calls 30 kd pv A c rows inter fi data 0 W' (Kd.C_below hC hW) hc hm).mono fun e w' h => ⟨h.1, by first | exact h.2 | exact h.2.below⟩
    · exact (clavierref03_body.calls 20 kd pv A c rows inter fi data bd W' (Kd.C_below hC hW) hc hb).mono fun e w' h => ⟨h.1, by first | exact h.2 | exact h.2.below⟩
  refine awake19_calls w (fun W hb => ?_) (fun W hb => ?_) (fun W hb => ?_) (fun W hb => ?_) (fun W A c hb hC hc => ?_) (fun W A c hb hC hc => ?_) (fun W A c hb hC hc => ?_)
  · exact report_Place.calls 20 0 0 3 4 1 24 0 0 0 false false false false false false false 0 0 0 false _ _ _ _ _ _ W awPlace
  · exact report_Setting.calls 20 0 0 3 4 1 24 0 0 0 false false false false false false false 0 0 0 ⟨#[114]⟩ _ _ _ _ _ _ W (Tab.below hT hb) awSetR
  · exact report_Setting.calls 20 0 0 3 4 1 24 0 0 0 false false false false false false false 0 0 0 ⟨#[120]⟩ _ _ _ _ _ _ W (Tab.below hT hb) awSetX
  · exact (report_Version.calls _ _ _ _ _ _ W rfl).mono fun e w' ⟨v, h1, h2, h3⟩ => ⟨v, h1, h3⟩
  · obtain ⟨k1, k2⟩ := hp 1 0 82 [[3], [4]] ⟨#[]⟩ ⟨#[]⟩ _ awMay1 awBody1 W A c hC hc
    exact put_csi 0 82 _ ⟨rfl, rfl⟩ ⟨#[]⟩ ⟨#[]⟩ _ W (by decide) (by decide) k1 k2 (by decide) _ rfl
  · obtain ⟨k1, k2⟩ := hp 3 0 114 [[1]] ⟨#[36]⟩ ⟨#[49, 59, 50, 52, 114]⟩ _ awMay2 awBody2 W A c hC hc
    exact put_dcs 0 114 _ ⟨rfl, rfl⟩ ⟨#[36]⟩ ⟨#[49, 59, 50, 52, 114]⟩ _ W (by decide) (by decide) k1 k2 (by decide) (by decide) _ rfl
  · obtain ⟨k1, k2⟩ := hp 3 0 114 [[0]] ⟨#[36]⟩ ⟨#[]⟩ _ awMay3 awBody3 W A c hC hc
    exact put_dcs 0 114 _ ⟨rfl, rfl⟩ ⟨#[36]⟩ ⟨#[]⟩ _ W (by decide) (by decide) k1 k2 (by decide) (by decide) _ rfl
end Go.Proofs.YtopcleljecdkkaaDoor.G
end
section
namespace Go.Proofs.YtopcleljecdkkaaDoor
set_option linter.unusedVariables false
set_option linter.unusedSimpArgs false
set_option maxRecDepth 100000
open Go.RowKit Kit Go.Proofs.YtopcleljecdkkaaDoorW.PrintWords G
attribute [local irreducible] wpList Calls
theorem awake_gives {w : World} (hT : Tab w) : Gives 9 #[] (.bool true) w := fun W hb => (clavierlaw19_awake.calls true W (Tab.below hT hb) rfl).mono fun e w' h => ⟨h.1, by first | exact h.2 | exact h.2.below⟩
theorem same_at {q1 q2 : Sq} {b : Bool} {k : Nat} {w : World} (h : clavierref03_Same.f k q1.kind q1.priv q1.rows q1.inter q1.fin q1.data q2.kind q2.priv q2.rows q2.inter q2.fin q2.data = some b) : SameIs q1 q2 b w := by
  intro W B1 B2 v1 v2 hb h1 h2
  obtain ⟨u1, rfl, s1⟩ := h1
  obtain ⟨u2, rfl, s2⟩ := h2
  obtain ⟨A1, c1, rfl, l1, r1⟩ := Kd.S_reads s1
  obtain ⟨A2, c2, rfl, l2, r2⟩ := Kd.S_reads s2
  exact (clavierref03_Same.calls k _ _ A1 c1 q1.rows _ _ _ _ _ A2 c2 q2.rows _ _ _ b W r1 l1 r2 l2 h).mono fun e w' h => ⟨h.1, by first | exact h.2 | exact h.2.below⟩
theorem same_by (q1 q2 : Sq) (w : World) (m : Nat) (hm : m ≤ 4611686018427387904) (hw : wide q1.rows m) (ha : q1.rows.length ≤ 4611686018427387904) (hb : q2.rows.length ≤ 4611686018427387904) : SameIs q1 q2 (decide (q1 = q2)) w := by
  have h := Same_is q1.kind q1.priv q1.fin q2.kind q2.priv q2.fin q1.rows q2.rows q1.inter q1.data q2.inter q2.data m hm hw ha hb (q1.rows.length + m + 3) (Nat.le_refl _)
  refine same_at (k := q1.rows.length + m + 3) (h.trans ?_)
  congr 1
  obtain ⟨a1, a2, a3, a4, a5, a6⟩ := q1
  obtain ⟨b1, b2, b3, b4, b5, b6⟩ := q2
  rw [decide_eq_decide, Sq.mk.injEq]
  constructor
  · rintro ⟨h1, h2, h3, h4, h5, h6⟩; exact ⟨h1, h2, h6, h3, h4, h5⟩
  · rintro ⟨h1, h2, h3, h4, h5, h6⟩; exact ⟨h1, h2, h4, h5, h6, h3⟩
def placeS (r c : Int) (p : Bool) : Sq := ⟨1, placeP p, placeR r c p, ⟨#[]⟩, 82, ⟨#[]⟩⟩
def settS (x4 x5 x6 x7 x8 : Int) (s : St) (ask : ByteArray) : Sq := ⟨3, 0, [[settN (settV x4 x5 x6 x7 x8 s ask)]], ⟨#[36]⟩, 114, settV x4 x5 x6 x7 x8 s ask⟩
section
variable (x0 x1 x2 x3 x4 x5 x6 x7 x8 : Int) (b0 b1 b2 b3 b4 b5 b6 : Bool) (u f b : Int) (ask : ByteArray) (p : Bool) {w : World}
theorem place_tells : Tells 11 #[scrV x0 x1 x2 x3 x4 x5 x6 x7 x8 b0 b1 b2 b3 b4 b5 b6 u f b, .bool p] (placeS x2 x3 p) w := fun W _ =>
  (report_Place.calls 10 x0 x1 x2 x3 x4 x5 x6 x7 x8 b0 b1 b2 b3 b4 b5 b6 u f b p _ _ _ _ _ _ W (place_is _ _ _ _ _ _ _ _ _ _ _ _ _ _ _ _ _ _ _ _)).mono fun e w' ⟨v, h1, h2, h3⟩ => ⟨_, h1, ⟨v, rfl, h2⟩, h3⟩
theorem refPlace_tells : Tells 12 #[scrV x0 x1 x2 x3 x4 x5 x6 x7 x8 b0 b1 b2 b3 b4 b5 b6 u f b, .bool p] (placeS x2 x3 p) w := fun W _ =>
  (clavierref19_Place.calls 10 x0 x1 x2 x3 x4 x5 x6 x7 x8 b0 b1 b2 b3 b4 b5 b6 u f b p _ _ _ _ _ _ W (refPlace_is _ _ _ _ _ _ _ _ _ _ _ _ _ _ _ _ _ _ _ _)).mono fun e w' ⟨v, h1, h2, h3⟩ => ⟨_, h1, ⟨v, rfl, h2⟩, h3⟩
theorem setting_tells (hT : Tab w) (hf : -9223372036854775808 ≤ f) (hb : -9223372036854775808 ≤ b) : Tells 13 #[scrV x0 x1 x2 x3 x4 x5 x6 x7 x8 b0 b1 b2 b3 b4 b5 b6 u f b, .string ask] (settS x4 x5 x6 x7 x8 (b0, b1, b2, b3, b4, b5, b6, u, f, b) ask) w := fun W hW =>
  (report_Setting.calls 12000 x0 x1 x2 x3 x4 x5 x6 x7 x8 b0 b1 b2 b3 b4 b5 b6 u f b ask _ _ _ _ _ _ W (Tab.below hT hW) (setting_is _ _ _ _ _ _ _ _ _ _ _ _ _ _ _ _ _ _ _ _ hf hb)).mono fun e w' ⟨v, h1, h2, h3⟩ => ⟨_, h1, ⟨v, rfl, h2⟩, h3⟩
theorem refSetting_tells : Tells 14 #[scrV x0 x1 x2 x3 x4 x5 x6 x7 x8 b0 b1 b2 b3 b4 b5 b6 u f b, .string ask] (settS x4 x5 x6 x7 x8 (b0, b1, b2, b3, b4, b5, b6, u, f, b) ask) w := fun W hW =>
  (clavierref19_Setting.calls 12000 x0 x1 x2 x3 x4 x5 x6 x7 x8 b0 b1 b2 b3 b4 b5 b6 u f b ask _ _ _ _ _ _ W (refSetting_is _ _ _ _ _ _ _ _ _ _ _ _ _ _ _ _ _ _ _ _)).mono fun e w' ⟨v, h1, h2, h3⟩ => ⟨_, h1, ⟨v, rfl, h2⟩, h3⟩
end
theorem place_wide (r c : Int) (p : Bool) : wide (placeS r c p).rows 1 := by cases p <;> simp [wide, placeS, placeR]
theorem place_few (r c : Int) (p : Bool) : (placeS r c p).rows.length ≤ 3 := by cases p <;> simp [placeS, placeR]
theorem same_place (r c : Int) (p : Bool) (q : Sq) (w : World) (hq : q.rows.length ≤ 100) : SameIs (placeS r c p) q (decide (placeS r c p = q)) w := same_by _ _ w 1 (by decide) (place_wide r c p) (by have := place_few r c p; omega) (by omega)
theorem same_sett (x4 x5 x6 x7 x8 : Int) (s : St) (ask : ByteArray) (q : Sq) (w : World) (hq : q.rows.length ≤ 100) : SameIs (settS x4 x5 x6 x7 x8 s ask) q (decide (settS x4 x5 x6 x7 x8 s ask = q)) w := same_by _ _ w 1 (by decide) (by simp [wide, settS]) (by simp [settS]) (by omega)
end Go.Proofs.YtopcleljecdkkaaDoor
end
section
namespace Go.Proofs.YtopcleljecdkkaaDoor
set_option linter.unusedVariables false
set_option linter.unusedSimpArgs false
open Go.RowKit Kit Go.Proofs.YtopcleljecdkkaaDoorW.PrintWords
attribute [local irreducible] wpList Calls
set_option maxRecDepth 100000 in
set_option maxHeartbeats 4000000 in
theorem tells_long (x0 x1 x2 x3 x4 x5 x6 x7 x8 : Int) (b0 b1 b2 b3 b4 b5 b6 : Bool) (u f b : Int) (ask : ByteArray) (p : Bool) (w : World) (ha : Gives 9 #[] (.bool true) w) (hl : 100 < ask.size) :
    Calls Tryd.prog 3 #[scrV x0 x1 x2 x3 x4 x5 x6 x7 x8 b0 b1 b2 b3 b4 b5 b6 u f b, .string ask, .bool p] w fun e w' => e = .returned (.bool true) ∧ Below w.heap.size w w' := by
  have HO := Mine.start w
  have HA := Lib.hid ha
  have hc : decide ((ask.size : Int) > 100) = true := decide_eq_true (by omega)
  have hc2 : decide (100 < (ask.size : Int)) = true := hc
  clear ha hl
  unfold scrV
  go_enter Tryd.func3, Tryd.ntmps3
  go_wp2_with (first
      | (go_at_call 9; refine (HA.out _ HO.below).mono ?_; rintro eN wN ⟨rfl, hbN⟩; have HON := HO.call hbN; clear HO hbN; have HO := HON; clear HON)
      | ((with_reducible refine gate ?_); (first
      | ((refine own_box HO rfl rfl rfl ?_); clear HO; intro gS wN hgN HO; (simp only [List.nil_append, List.cons_append] at HO); (try simp only [Act.put, List.setIfInBounds_toArray, List.set_cons_zero, List.set_cons_succ]))
      | ((refine own_load (T := 25) HO rfl rfl rfl (by first | exact .head _ | exact .tail _ (.head _) | exact .tail _ (.tail _ (.head _)) | exact .tail _ (.tail _ (.tail _ (.head _))) | exact .tail _ (.tail _ (.tail _ (.tail _ (.head _)))) | exact .tail _ (.tail _ (.tail _ (.tail _ (.tail _ (.head _)))))) Tryd.isAgg25 Tryd.sizeOf25 (by repeat constructor) ?_); (try simp only [Act.put, List.setIfInBounds_toArray, List.set_cons_zero, List.set_cons_succ]))
      | ((refine own_store (T := 25) HO rfl rfl rfl rfl (by first | exact .here | exact .there (.here) | exact .there (.there (.here)) | exact .there (.there (.there (.here))) | exact .there (.there (.there (.there (.here)))) | exact .there (.there (.there (.there (.there (.here)))))) Tryd.sizeOf25 (by repeat constructor) rfl ?_); clear HO; intro wN HO; (try simp only [Act.put, List.setIfInBounds_toArray, List.set_cons_zero, List.set_cons_succ])))))
  go_ret
  exact ⟨rfl, HO.below⟩
set_option maxRecDepth 100000 in
set_option maxHeartbeats 4000000 in
theorem tells_short (x0 x1 x2 x3 x4 x5 x6 x7 x8 : Int) (b0 b1 b2 b3 b4 b5 b6 : Bool) (u f b : Int) (ask : ByteArray) (p : Bool) (w : World) (q1 q2 q3 q4 : Sq) (ha : Gives 9 #[] (.bool true) w) (hl : ¬ 100 < ask.size)
    (t1 : Tells 11 #[scrV x0 x1 x2 x3 x4 x5 x6 x7 x8 b0 b1 b2 b3 b4 b5 b6 u f b, .bool p] q1 w)
    (t2 : Tells 12 #[scrV x0 x1 x2 x3 x4 x5 x6 x7 x8 b0 b1 b2 b3 b4 b5 b6 u f b, .bool p] q2 w)
    (t3 : Tells 13 #[scrV x0 x1 x2 x3 x4 x5 x6 x7 x8 b0 b1 b2 b3 b4 b5 b6 u f b, .string ask] q3 w)
    (t4 : Tells 14 #[scrV x0 x1 x2 x3 x4 x5 x6 x7 x8 b0 b1 b2 b3 b4 b5 b6 u f b, .string ask] q4 w)
    (s1 : SameIs q1 q2 true w) (s2 : SameIs q3 q4 true w) :
    Calls Tryd.prog 3 #[scrV x0 x1 x2 x3 x4 x5 x6 x7 x8 b0 b1 b2 b3 b4 b5 b6 u f b, .string ask, .bool p] w fun e w' => e = .returned (.bool true) ∧ Below w.heap.size w w' := by
  have HO := Mine.start w
  have HA := Lib.hid ha
  have T1 := Lib.hid t1
  have T2 := Lib.hid t2
  have T3 := Lib.hid t3
  have T4 := Lib.hid t4
  have S1 := Lib.hid s1
  have S2 := Lib.hid s2
  have hc : decide ((ask.size : Int) > 100) = false := decide_eq_false (by omega)
  have hc2 : decide (100 < (ask.size : Int)) = false := hc
  clear ha hl t1 t2 t3 t4 s1 s2
  unfold scrV at *
  go_enter Tryd.func3, Tryd.ntmps3
  go_wp2_with (first
      | (go_at_call 9; refine (HA.out _ HO.below).mono ?_; rintro eN wN ⟨rfl, hbN⟩; have HON := HO.call hbN; clear HO hbN; have HO := HON; clear HON)
      | ((with_reducible refine gate ?_); (first
      | ((refine own_box HO rfl rfl rfl ?_); clear HO; intro gS wN hgN HO; (simp only [List.nil_append, List.cons_append] at HO); (try simp only [Act.put, List.setIfInBounds_toArray, List.set_cons_zero, List.set_cons_succ]))
      | ((refine own_load (T := 25) HO rfl rfl rfl (by first | exact .head _ | exact .tail _ (.head _) | exact .tail _ (.tail _ (.head _)) | exact .tail _ (.tail _ (.tail _ (.head _))) | exact .tail _ (.tail _ (.tail _ (.tail _ (.head _)))) | exact .tail _ (.tail _ (.tail _ (.tail _ (.tail _ (.head _)))))) Tryd.isAgg25 Tryd.sizeOf25 (by repeat constructor) ?_); (try simp only [Act.put, List.setIfInBounds_toArray, List.set_cons_zero, List.set_cons_succ]))
      | ((refine own_store (T := 25) HO rfl rfl rfl rfl (by first | exact .here | exact .there (.here) | exact .there (.there (.here)) | exact .there (.there (.there (.here))) | exact .there (.there (.there (.there (.here)))) | exact .there (.there (.there (.there (.there (.here)))))) Tryd.sizeOf25 (by repeat constructor) rfl ?_); clear HO; intro wN HO; (try simp only [Act.put, List.setIfInBounds_toArray, List.set_cons_zero, List.set_cons_succ])))))
  refine region_law 19 [fIs (.bool true), fIs (.bool true), fIs (.agg #[.int .i64 x0, .int .i64 x1, .int .i64 x2, .int .i64 x3, .int .i64 x4, .int .i64 x5, .int .i64 x6, .int .i64 x7, .int .i64 x8, .bool b0, .bool b1, .bool b2, .bool b3, .bool b4, .bool b5, .bool b6, .int .i64 u, .int .i64 f, .int .i64 b]), fIs (.bool p), fSq w.heap.size q1, fIs (.agg #[.int .i64 x0, .int .i64 x1, .int .i64 x2, .int .i64 x3, .int .i64 x4, .int .i64 x5, .int .i64 x6, .int .i64 x7, .int .i64 x8, .bool b0, .bool b1, .bool b2, .bool b3, .bool b4, .bool b5, .bool b6, .int .i64 u, .int .i64 f, .int .i64 b]), fIs (.bool p), fSq w.heap.size q2, fIs (.bool true), fIs (.bool true), fIs (.bool true), fIs (.agg #[.int .i64 x0, .int .i64 x1, .int .i64 x2, .int .i64 x3, .int .i64 x4, .int .i64 x5, .int .i64 x6, .int .i64 x7, .int .i64 x8, .bool b0, .bool b1, .bool b2, .bool b3, .bool b4, .bool b5, .bool b6, .int .i64 u, .int .i64 f, .int .i64 b]), fIs (.string ask), fSq w.heap.size q3, fIs (.agg #[.int .i64 x0, .int .i64 x1, .int .i64 x2, .int .i64 x3, .int .i64 x4, .int .i64 x5, .int .i64 x6, .int .i64 x7, .int .i64 x8, .bool b0, .bool b1, .bool b2, .bool b3, .bool b4, .bool b5, .bool b6, .int .i64 u, .int .i64 f, .int .i64 b]), fIs (.string ask), fSq w.heap.size q4, fIs (.bool true), fIs (.bool true)] HO (by kernel_rfl) (by kernel_rfl) (by decide) (by kernel_rfl)
    (stays_cons (Stays.fIs _) (stays_cons (Stays.fIs _) (stays_cons (Stays.fIs _) (stays_cons (Stays.fIs _) (stays_cons (Stays.fSq _ _) (stays_cons (Stays.fIs _) (stays_cons (Stays.fIs _) (stays_cons (Stays.fSq _ _) (stays_cons (Stays.fIs _) (stays_cons (Stays.fIs _) (stays_cons (Stays.fIs _) (stays_cons (Stays.fIs _) (stays_cons (Stays.fIs _) (stays_cons (Stays.fSq _ _) (stays_cons (Stays.fIs _) (stays_cons (Stays.fIs _) (stays_cons (Stays.fSq _ _) (stays_cons (Stays.fIs _) (stays_cons (Stays.fIs _) stays_nil))))))))))))))))))) ?_
  intro vals A hA
  simp [fillL, dstOf, List.range, List.range.loop, Act.put] at hA
  subst hA
  refine ⟨⟨?_, ?_, ?_, ?_, ?_, ?_, ?_, ?_, ?_, ?_, ?_, ?_, ?_, ?_, ?_, ?_, ?_, ?_, ?_, trivial⟩, ?_⟩
  all_goals intro W hd hM hb0
  case refine_1 =>
    skip
    exact st_val rfl (by simp only [execOp]; first | (go_simp; done) | (go_simp; rfl)) rfl
  case refine_2 =>
    have v0 : vals 0 = .bool true := hd 0 (by kernel_rfl)
    rw [v0]
    exact st_val rfl (by simp only [execOp]; first | (go_simp; done) | (go_simp; rfl)) rfl
  case refine_3 =>
    have v1 : vals 1 = .bool true := hd 1 (by kernel_rfl)
    rw [v1]
    exact st_load hM rfl rfl rfl (.head _) Tryd.isAgg25 Tryd.sizeOf25 (by repeat constructor) rfl
  case refine_4 =>
    have v1 : vals 1 = .bool true := hd 1 (by kernel_rfl)
    rw [v1]
    exact st_val rfl (by simp only [execOp]; first | (go_simp; done) | (go_simp; rfl)) rfl
  case refine_5 =>
    have v1 : vals 1 = .bool true := hd 1 (by kernel_rfl)
    have v2 : vals 2 = .agg #[.int .i64 x0, .int .i64 x1, .int .i64 x2, .int .i64 x3, .int .i64 x4, .int .i64 x5, .int .i64 x6, .int .i64 x7, .int .i64 x8, .bool b0, .bool b1, .bool b2, .bool b3, .bool b4, .bool b5, .bool b6, .int .i64 u, .int .i64 f, .int .i64 b] := hd 2 (by kernel_rfl)
    have v3 : vals 3 = .bool p := hd 3 (by kernel_rfl)
    rw [v1, v2, v3]
    exact st_call rfl (by simp only [execOp]; first | (go_simp; done) | (go_simp; rfl)) (T1.out W hM.below) (by rintro e w' ⟨v, rfl, hS, hb⟩; exact ⟨_, rfl, hb, hS.lower hM.below.size⟩)
  case refine_6 =>
    have v1 : vals 1 = .bool true := hd 1 (by kernel_rfl)
    rw [v1]
    exact st_load hM rfl rfl rfl (.head _) Tryd.isAgg25 Tryd.sizeOf25 (by repeat constructor) rfl
  case refine_7 =>
    have v1 : vals 1 = .bool true := hd 1 (by kernel_rfl)
    rw [v1]
    exact st_val rfl (by simp only [execOp]; first | (go_simp; done) | (go_simp; rfl)) rfl
  case refine_8 =>
    have v1 : vals 1 = .bool true := hd 1 (by kernel_rfl)
    have v5 : vals 5 = .agg #[.int .i64 x0, .int .i64 x1, .int .i64 x2, .int .i64 x3, .int .i64 x4, .int .i64 x5, .int .i64 x6, .int .i64 x7, .int .i64 x8, .bool b0, .bool b1, .bool b2, .bool b3, .bool b4, .bool b5, .bool b6, .int .i64 u, .int .i64 f, .int .i64 b] := hd 5 (by kernel_rfl)
    have v6 : vals 6 = .bool p := hd 6 (by kernel_rfl)
    rw [v1, v5, v6]
    exact st_call rfl (by simp only [execOp]; first | (go_simp; done) | (go_simp; rfl)) (T2.out W hM.below) (by rintro e w' ⟨v, rfl, hS, hb⟩; exact ⟨_, rfl, hb, hS.lower hM.below.size⟩)
  case refine_9 =>
    have v1 : vals 1 = .bool true := hd 1 (by kernel_rfl)
    rw [v1]
    exact st_call rfl (by simp only [execOp]; first | (go_simp; done) | (go_simp; rfl)) (S1.out W _ _ _ _ hM.below (hd 4 (by kernel_rfl)) (hd 7 (by kernel_rfl))) (by rintro e w' ⟨rfl, hb⟩; exact ⟨_, rfl, hb, rfl⟩)
  case refine_10 =>
    have v1 : vals 1 = .bool true := hd 1 (by kernel_rfl)
    have v8 : vals 8 = .bool true := hd 8 (by kernel_rfl)
    rw [v1, v8]
    exact st_val rfl (by simp only [execOp]; first | (go_simp; done) | (go_simp; rfl)) rfl
  case refine_11 =>
    have v9 : vals 9 = .bool true := hd 9 (by kernel_rfl)
    rw [v9]
    exact st_val rfl (by simp only [execOp]; first | (go_simp; done) | (go_simp; rfl)) rfl
  case refine_12 =>
    have v10 : vals 10 = .bool true := hd 10 (by kernel_rfl)
    rw [v10]
    exact st_load hM rfl rfl rfl (.head _) Tryd.isAgg25 Tryd.sizeOf25 (by repeat constructor) rfl
  case refine_13 =>
    have v10 : vals 10 = .bool true := hd 10 (by kernel_rfl)
    rw [v10]
    exact st_val rfl (by simp only [execOp]; first | (go_simp; done) | (go_simp; rfl)) rfl
  case refine_14 =>
    have v10 : vals 10 = .bool true := hd 10 (by kernel_rfl)
    have v11 : vals 11 = .agg #[.int .i64 x0, .int .i64 x1, .int .i64 x2, .int .i64 x3, .int .i64 x4, .int .i64 x5, .int .i64 x6, .int .i64 x7, .int .i64 x8, .bool b0, .bool b1, .bool b2, .bool b3, .bool b4, .bool b5, .bool b6, .int .i64 u, .int .i64 f, .int .i64 b] := hd 11 (by kernel_rfl)
    have v12 : vals 12 = .string ask := hd 12 (by kernel_rfl)
    rw [v10, v11, v12]
    exact st_call rfl (by simp only [execOp]; first | (go_simp; done) | (go_simp; rfl)) (T3.out W hM.below) (by rintro e w' ⟨v, rfl, hS, hb⟩; exact ⟨_, rfl, hb, hS.lower hM.below.size⟩)
  case refine_15 =>
    have v10 : vals 10 = .bool true := hd 10 (by kernel_rfl)
    rw [v10]
    exact st_load hM rfl rfl rfl (.head _) Tryd.isAgg25 Tryd.sizeOf25 (by repeat constructor) rfl
  case refine_16 =>
    have v10 : vals 10 = .bool true := hd 10 (by kernel_rfl)
    rw [v10]
    exact st_val rfl (by simp only [execOp]; first | (go_simp; done) | (go_simp; rfl)) rfl
  case refine_17 =>
    have v10 : vals 10 = .bool true := hd 10 (by kernel_rfl)
    have v14 : vals 14 = .agg #[.int .i64 x0, .int .i64 x1, .int .i64 x2, .int .i64 x3, .int .i64 x4, .int .i64 x5, .int .i64 x6, .int .i64 x7, .int .i64 x8, .bool b0, .bool b1, .bool b2, .bool b3, .bool b4, .bool b5, .bool b6, .int .i64 u, .int .i64 f, .int .i64 b] := hd 14 (by kernel_rfl)
    have v15 : vals 15 = .string ask := hd 15 (by kernel_rfl)
    rw [v10, v14, v15]
    exact st_call rfl (by simp only [execOp]; first | (go_simp; done) | (go_simp; rfl)) (T4.out W hM.below) (by rintro e w' ⟨v, rfl, hS, hb⟩; exact ⟨_, rfl, hb, hS.lower hM.below.size⟩)
  case refine_18 =>
    have v10 : vals 10 = .bool true := hd 10 (by kernel_rfl)
    rw [v10]
    exact st_call rfl (by simp only [execOp]; first | (go_simp; done) | (go_simp; rfl)) (S2.out W _ _ _ _ hM.below (hd 13 (by kernel_rfl)) (hd 16 (by kernel_rfl))) (by rintro e w' ⟨rfl, hb⟩; exact ⟨_, rfl, hb, rfl⟩)
  case refine_19 =>
    have v10 : vals 10 = .bool true := hd 10 (by kernel_rfl)
    have v17 : vals 17 = .bool true := hd 17 (by kernel_rfl)
    rw [v10, v17]
    exact st_val rfl (by simp only [execOp]; first | (go_simp; done) | (go_simp; rfl)) rfl
  case refine_20 =>
    have v18 : vals 18 = .bool true := hd 18 (by omega)
    rw [v18]
    simp only [List.drop_succ_cons, List.drop_zero]
    go_wp2
    go_ret
    exact ⟨rfl, hM.below⟩
end Go.Proofs.YtopcleljecdkkaaDoor
end
