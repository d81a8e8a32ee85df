/- M: texts run together by shake.py: PTx PuRa RpW RpX PuRd. -/
import Derived.ArgAppend
import Derived.Below
import Derived.BigQuiet
import Derived.ChangeOld
import Derived.ChangeSlices
import Derived.Deep.AppendLies
import Derived.Deep.CutBlock
import Derived.Deep.DeepCutAuto
import Derived.Deep.Draws
import Derived.Deep.LoopGhost
import Derived.Deep.Matrix
import Derived.Deep.OwnRows
import Derived.Deep.Quiet
import Derived.Deep.QuietTactic
import Derived.Deep.RegionHeld3
import Derived.Ground.Names2Prog
import Derived.Ground.SlgnProg
import Derived.KernelRfl
import Derived.Laws.AppendOwn
import Derived.Laws.AppendOwnNone
import Derived.Laws.Bits128
import Derived.Laws.BitsLemmas
import Derived.Laws.BytesArg
import Derived.Laws.Concat
import Derived.Laws.CopyRow
import Derived.Laws.IdiomCopy
import Derived.Laws.IdiomStrings
import Derived.Laws.MakeOwn
import Derived.Laws.OwnMore
import Derived.Laws.Rows
import Derived.Laws.Slices
import Derived.Laws.StructEq
import Derived.Laws.Tables
import Derived.Lib.AppendIntMem
import Derived.Lib.AppendStr
import Derived.Lib.ConvBytes
import Derived.Lib.Hide
import Derived.Lib.ItoaLen
import Derived.Lib.ItoaNum
import Derived.Lib.Join
import Derived.Lib.LaidTab
import Derived.Lib.Strings
import Derived.MapKept
import Derived.Maps.AppendAt
import Derived.OpenShut
import Derived.Orders
import Derived.OrdersHeld
import Derived.Outline
import Derived.OwnWalk
import Derived.ProofKit
import Derived.RowKit
import Derived.RowKit3
import Derived.Shelf.LaysM
import Derived.Shelf.Slices.Clone
import Derived.Shelf.SlicesE.Clone
import Derived.Shelf.Strconv.Itoa0
import Derived.Shelf.Strconv.Itoa1
import Derived.Shelf.Strconv.Itoa2
import Derived.Shelf.Strconv.Itoa3
import Derived.Shelf.Strings.Builder1
import Derived.Shelf.Strings.Builder2
import Derived.Shelf.Strings.Builder2Cap
import Derived.Shelf.Strings.BuilderCap
import Derived.Shelf.Strings.BuilderF
import Derived.Shelf.Strings.BuilderK
import Derived.Shelf.Strings.OnBuilder
import Derived.ShutString
import Derived.SizedLaws
import Derived.Still
import Derived.Tactics
import Derived.Test.YtopcleljecdkkaaDoorProg
import Derived.WalkKit
import Derived.WalkLawsBesides
import Derived.WalkSpells
import Derived.WideLaws
import Derived.Test.YtopcleljecdkkaaDoorZM1
import Derived.Test.YtopcleljecdkkaaDoorZM2
import Derived.Test.YtopcleljecdkkaaDoorZM3
import Derived.Test.YtopcleljecdkkaaDoorZM4
import Derived.Test.YtopcleljecdkkaaDoorZM5
import Derived.Test.YtopcleljecdkkaaDoorZM6
import Derived.Test.YtopcleljecdkkaaDoorZM10
import Derived.Test.YtopcleljecdkkaaDoorZM11
section
namespace Go.Proofs.YtopcleljecdkkaaDoor
set_option linter.unusedVariables false
set_option linter.unusedSimpArgs false
theorem digit_toNat {d : Nat} (h : d < 10) : (UInt8.ofNat (48 + d)).toNat = 48 + d := by
  rw [UInt8.toNat_ofNat']
  omega
theorem figU_digit {d : Nat} (h : d < 10) : figU (UInt8.ofNat (48 + d)) = true := by
  simp only [figU, digit_toNat h, Bool.and_eq_true, decide_eq_true_eq]
  omega
theorem decDigits_figs (n : Nat) : ∀ c ∈ Lib.decDigits n, figU c = true := by
  induction n using Nat.strongRecOn with
  | _ n ih =>
    intro c hc
    by_cases h : n < 10
    · rw [decDigits_small h] at hc
      rw [List.mem_singleton.1 hc]
      exact figU_digit h
    · rw [decDigits_big h] at hc
      rcases List.mem_append.1 hc with h1 | h1
      · exact ih (n / 10) (by omega) c h1
      · rw [List.mem_singleton.1 h1]
        exact figU_digit (by omega)
theorem textL_figs (n : Int) : ∀ c ∈ textL n, figU c = true := by
  unfold textL
  split
  · intro c hc; cases hc
  · exact decDigits_figs _
end Go.Proofs.YtopcleljecdkkaaDoor
end
section
namespace Go.Proofs.YtopcleljecdkkaaDoor.G
set_option linter.unusedVariables false
set_option linter.unusedSimpArgs false
open Go.RowKit Kit Go.Proofs.YtopcleljecdkkaaDoorW.PrintWords Go.Proofs.YtopcleljecdkkaaDoorW.PrintMore
def placeR (r c : Int) (p : Bool) : List (List Int) := if p then [[clamp r], [clamp c], [1]] else [[clamp r], [clamp c]]
def placeP (p : Bool) : Int := if p then 63 else 0
theorem place_is (x0 x1 x2 x3 x4 x5 x6 x7 x8 : Int) (b0 b1 b2 b3 b4 b5 b6 : Bool) (u f b : Int) (p : Bool) :
    report_Place.f 10 x0 x1 x2 x3 x4 x5 x6 x7 x8 b0 b1 b2 b3 b4 b5 b6 u f b p = some (1, placeP p, placeR x2 x3 p, ⟨#[]⟩, 82, ⟨#[]⟩) := by
  unfold report_Place.f report_fact.f
  cases p
  · rw [Option.bind_some, Option.bind_some, if_neg (by decide), num2]; rfl
  · rw [Option.bind_some, Option.bind_some, if_pos rfl, num3]; rfl
end Go.Proofs.YtopcleljecdkkaaDoor.G
end
section
namespace Go.Proofs.YtopcleljecdkkaaDoor
set_option linter.unusedVariables false
set_option linter.unusedSimpArgs false
set_option maxRecDepth 100000
open Go.RowKit Kit Go.Proofs.YtopcleljecdkkaaDoorW.PrintWords G
attribute [local irreducible] wpList Calls
def placeS (r c : Int) (p : Bool) : Sq := ⟨1, placeP p, placeR r c p, ⟨#[]⟩, 82, ⟨#[]⟩⟩
section
variable (x0 x1 x2 x3 x4 x5 x6 x7 x8 : Int) (b0 b1 b2 b3 b4 b5 b6 : Bool) (u f b : Int) (ask : ByteArray) (p : Bool) {w : World}
theorem place_tells : Tells 11 #[scrV x0 x1 x2 x3 x4 x5 x6 x7 x8 b0 b1 b2 b3 b4 b5 b6 u f b, .bool p] (placeS x2 x3 p) w := fun W _ =>
  (report_Place.calls 10 x0 x1 x2 x3 x4 x5 x6 x7 x8 b0 b1 b2 b3 b4 b5 b6 u f b p _ _ _ _ _ _ W (place_is _ _ _ _ _ _ _ _ _ _ _ _ _ _ _ _ _ _ _ _)).mono fun e w' ⟨v, h1, h2, h3⟩ => ⟨_, h1, ⟨v, rfl, h2⟩, h3⟩
end
end Go.Proofs.YtopcleljecdkkaaDoor
end
section
namespace Go.Proofs.YtopcleljecdkkaaDoor
set_option linter.unusedVariables false
set_option linter.unusedSimpArgs false
open Go.RowKit Kit Go.Proofs.YtopcleljecdkkaaDoorW.PrintWords
def IsMay (q : Sq) (w : World) : Prop := ∀ W B v, Below w.heap.size w W → fSq B q v W → Calls Tryd.prog 26 #[v] W fun e w' => e = .returned (.int .i64 0) ∧ Below W.heap.size W w'
def SqCells (u : Value) (q : Sq) : List Value := [.int .i64 q.kind, .int .u8 q.priv, u, .string q.inter, .int .u8 q.fin, .string q.data]
def flatC : List Value → List Sq → List Value
  | u :: us, q :: qs => SqCells u q ++ flatC us qs
  | _, _ => []
def RowsAll (B : Nat) : List Value → List Sq → World → Prop
  | u :: us, q :: qs, w => Kd.S (Kd.slice 3 (Kd.int .i64)) 52 w B (fun _ => True) u q.rows ∧ RowsAll B us qs w
  | [], [], _ => True
  | _, _, _ => False
theorem RowsAll.below {B : Nat} : ∀ {us : List Value} {qs : List Sq} {w w' : World}, RowsAll B us qs w → Below w.heap.size w w' → RowsAll B us qs w'
  | u :: us, q :: qs, w, w', h, hb => ⟨Kd.S_below h.1 hb, RowsAll.below h.2 hb⟩
  | [], [], _, _, _, _ => trivial
  | _ :: _, [], _, _, h, _ => h.elim
  | [], _ :: _, _, _, h, _ => h.elim
theorem RowsAll.cons {B : Nat} {us : List Value} {q : Sq} {qs : List Sq} {w : World} (h : RowsAll B us (q :: qs) w) : ∃ u vs, us = u :: vs ∧ RowsAll B vs qs w := by
  cases us with
  | nil => exact h.elim
  | cons u vs => exact ⟨u, vs, rfl, h.2⟩
theorem RowsAll.nil {B : Nat} {us : List Value} {w : World} (h : RowsAll B us [] w) : us = [] := by
  cases us with
  | nil => rfl
  | cons u vs => exact h.elim
theorem RowsAll.eleven {B : Nat} {us : List Value} {q0 q1 q2 q3 q4 q5 q6 q7 q8 q9 q10 : Sq} {w : World} (h : RowsAll B us [q0, q1, q2, q3, q4, q5, q6, q7, q8, q9, q10] w) : ∃ u0 u1 u2 u3 u4 u5 u6 u7 u8 u9 u10, us = [u0, u1, u2, u3, u4, u5, u6, u7, u8, u9, u10] := by
  obtain ⟨u0, v0, rfl, h0⟩ := h.cons
  obtain ⟨u1, v1, rfl, h1⟩ := h0.cons
  obtain ⟨u2, v2, rfl, h2⟩ := h1.cons
  obtain ⟨u3, v3, rfl, h3⟩ := h2.cons
  obtain ⟨u4, v4, rfl, h4⟩ := h3.cons
  obtain ⟨u5, v5, rfl, h5⟩ := h4.cons
  obtain ⟨u6, v6, rfl, h6⟩ := h5.cons
  obtain ⟨u7, v7, rfl, h7⟩ := h6.cons
  obtain ⟨u8, v8, rfl, h8⟩ := h7.cons
  obtain ⟨u9, v9, rfl, h9⟩ := h8.cons
  obtain ⟨u10, v10, rfl, h10⟩ := h9.cons
  obtain rfl := h10.nil
  exact ⟨_, _, _, _, _, _, _, _, _, _, _, rfl⟩
def fSqs (B C : Nat) (qs : List Sq) : Fact := fun v w => ∃ b us, v = .slice (some ⟨b, 0, none⟩) qs.length qs.length ∧ C ≤ b ∧ w.heap[b]? = some (.cells (flatC us qs).toArray 30 (0, 0)) ∧ RowsAll B us qs w
theorem Stays.fSqs (B C : Nat) (qs : List Sq) : Stays (fSqs B C qs) := fun v w w' h hb => by
  obtain ⟨b, us, h1, h2, h3, h4⟩ := h
  exact ⟨b, us, h1, h2, (hb.block b (Array.getElem?_eq_some_iff.1 h3).1).trans h3, h4.below hb⟩
theorem meas11 (k : Nat) (h : k < 11) : 11 - (intOf (.int .i64 ((k + 1 : Nat) : Int))).toNat < 11 - (intOf (.int .i64 (k : Int))).toNat := by
  show 11 - (((k + 1 : Nat) : Int)).toNat < 11 - ((k : Int)).toNat
  rw [Int.toNat_natCast, Int.toNat_natCast]
  omega
attribute [local irreducible] wpList Calls
set_option maxRecDepth 100000 in
set_option maxHeartbeats 4000000 in
theorem safe_long (x0 x1 x2 x3 x4 x5 x6 x7 x8 : Int) (b0 b1 b2 b3 b4 b5 b6 : Bool) (u f b : Int) (m0 m1 m2 m3 m4 m5 m6 : Bool) (m7 m8 m9 : Int) (ask : ByteArray) (w : World) (ha : Gives 9 #[] (.bool true) w) (hl : 100 < ask.size) :
    Calls Tryd.prog 8 #[.agg #[.int .i64 x0, .int .i64 x1, .int .i64 x2, .int .i64 x3, .int .i64 x4, .int .i64 x5, .int .i64 x6, .int .i64 x7, .int .i64 x8, .bool b0, .bool b1, .bool b2, .bool b3, .bool b4, .bool b5, .bool b6, .int .i64 u, .int .i64 f, .int .i64 b], .agg #[.bool m0, .bool m1, .bool m2, .bool m3, .bool m4, .bool m5, .bool m6, .int .i64 m7, .int .i64 m8, .int .i64 m9], .string ask] w fun e w' => e = .returned (.bool true) ∧ Below w.heap.size w w' := by
  have HO := Mine.start w
  have HA := Lib.hid ha
  have hc : decide ((ask.size : Int) > 100) = true := decide_eq_true (by omega)
  have hc2 : decide (100 < (ask.size : Int)) = true := hc
  clear ha hl
  go_enter Tryd.func8, Tryd.ntmps8
  go_wp2_with (first
      | (go_at_call 9; refine (HA.out _ HO.below).mono ?_; rintro eN wN ⟨rfl, hbN⟩; have HON := HO.call hbN; clear HO hbN; have HO := HON; clear HON)
      | ((with_reducible refine gate ?_); (first
      | ((refine own_box HO rfl rfl rfl ?_); clear HO; intro gS wN hgN HO; (simp only [List.nil_append, List.cons_append] at HO); (try simp only [Act.put, List.setIfInBounds_toArray, List.set_cons_zero, List.set_cons_succ]))
      | ((refine own_load (T := 25) HO rfl rfl rfl (by first | exact .head _ | exact .tail _ (.head _) | exact .tail _ (.tail _ (.head _)) | exact .tail _ (.tail _ (.tail _ (.head _))) | exact .tail _ (.tail _ (.tail _ (.tail _ (.head _)))) | exact .tail _ (.tail _ (.tail _ (.tail _ (.tail _ (.head _)))))) Tryd.isAgg25 Tryd.sizeOf25 (by repeat constructor) ?_); (try simp only [Act.put, List.setIfInBounds_toArray, List.set_cons_zero, List.set_cons_succ]))
      | ((refine own_load (T := 39) HO rfl rfl rfl (by first | exact .head _ | exact .tail _ (.head _) | exact .tail _ (.tail _ (.head _)) | exact .tail _ (.tail _ (.tail _ (.head _))) | exact .tail _ (.tail _ (.tail _ (.tail _ (.head _)))) | exact .tail _ (.tail _ (.tail _ (.tail _ (.tail _ (.head _)))))) Tryd.isAgg39 Tryd.sizeOf39 (by repeat constructor) ?_); (try simp only [Act.put, List.setIfInBounds_toArray, List.set_cons_zero, List.set_cons_succ]))
      | ((refine own_store (T := 25) HO rfl rfl rfl rfl (by first | exact .here | exact .there (.here) | exact .there (.there (.here)) | exact .there (.there (.there (.here))) | exact .there (.there (.there (.there (.here)))) | exact .there (.there (.there (.there (.there (.here)))))) Tryd.sizeOf25 (by repeat constructor) rfl ?_); clear HO; intro wN HO; (try simp only [Act.put, List.setIfInBounds_toArray, List.set_cons_zero, List.set_cons_succ]))
      | ((refine own_store (T := 39) HO rfl rfl rfl rfl (by first | exact .here | exact .there (.here) | exact .there (.there (.here)) | exact .there (.there (.there (.here))) | exact .there (.there (.there (.there (.here)))) | exact .there (.there (.there (.there (.there (.here)))))) Tryd.sizeOf39 (by repeat constructor) rfl ?_); clear HO; intro wN HO; (try simp only [Act.put, List.setIfInBounds_toArray, List.set_cons_zero, List.set_cons_succ])))))
  go_ret
  exact ⟨rfl, HO.below⟩
set_option maxRecDepth 100000 in
set_option maxHeartbeats 8000000 in
theorem safe_short (x0 x1 x2 x3 x4 x5 x6 x7 x8 : Int) (b0 b1 b2 b3 b4 b5 b6 : Bool) (u f b : Int) (m0 m1 m2 m3 m4 m5 m6 : Bool) (m7 m8 m9 : Int) (ask : ByteArray) (w : World) (q0 q1 q2 q3 q4 q5 q6 q7 q8 q9 q10 : Sq) (ha : Gives 9 #[] (.bool true) w) (hl : ¬ 100 < ask.size)
    (t0 : Tells 11 #[.agg #[.int .i64 x0, .int .i64 x1, .int .i64 x2, .int .i64 x3, .int .i64 x4, .int .i64 x5, .int .i64 x6, .int .i64 x7, .int .i64 x8, .bool b0, .bool b1, .bool b2, .bool b3, .bool b4, .bool b5, .bool b6, .int .i64 u, .int .i64 f, .int .i64 b], .bool true] q0 w)
    (t1 : Tells 11 #[.agg #[.int .i64 x0, .int .i64 x1, .int .i64 x2, .int .i64 x3, .int .i64 x4, .int .i64 x5, .int .i64 x6, .int .i64 x7, .int .i64 x8, .bool b0, .bool b1, .bool b2, .bool b3, .bool b4, .bool b5, .bool b6, .int .i64 u, .int .i64 f, .int .i64 b], .bool false] q1 w)
    (t2 : Tells 18 #[.agg #[.bool m0, .bool m1, .bool m2, .bool m3, .bool m4, .bool m5, .bool m6, .int .i64 m7, .int .i64 m8, .int .i64 m9], .bool true, .int .i64 x2] q2 w)
    (t3 : Tells 18 #[.agg #[.bool m0, .bool m1, .bool m2, .bool m3, .bool m4, .bool m5, .bool m6, .int .i64 m7, .int .i64 m8, .int .i64 m9], .bool false, .int .i64 x3] q3 w)
    (t4 : Tells 13 #[.agg #[.int .i64 x0, .int .i64 x1, .int .i64 x2, .int .i64 x3, .int .i64 x4, .int .i64 x5, .int .i64 x6, .int .i64 x7, .int .i64 x8, .bool b0, .bool b1, .bool b2, .bool b3, .bool b4, .bool b5, .bool b6, .int .i64 u, .int .i64 f, .int .i64 b], .string ask] q4 w)
    (t5 : Tells 20 #[.int .i64 x2] q5 w)
    (t6 : Tells 22 #[] q6 w)
    (t7 : Tells 24 #[] q7 w)
    (t8 : Tells 16 #[.int .u8 0] q8 w)
    (t9 : Tells 16 #[.int .u8 62] q9 w)
    (t10 : Tells 16 #[.int .u8 61] q10 w)
    (y0 : IsMay q0 w) (y1 : IsMay q1 w) (y2 : IsMay q2 w) (y3 : IsMay q3 w) (y4 : IsMay q4 w) (y5 : IsMay q5 w) (y6 : IsMay q6 w) (y7 : IsMay q7 w) (y8 : IsMay q8 w) (y9 : IsMay q9 w) (y10 : IsMay q10 w) :
    Calls Tryd.prog 8 #[.agg #[.int .i64 x0, .int .i64 x1, .int .i64 x2, .int .i64 x3, .int .i64 x4, .int .i64 x5, .int .i64 x6, .int .i64 x7, .int .i64 x8, .bool b0, .bool b1, .bool b2, .bool b3, .bool b4, .bool b5, .bool b6, .int .i64 u, .int .i64 f, .int .i64 b], .agg #[.bool m0, .bool m1, .bool m2, .bool m3, .bool m4, .bool m5, .bool m6, .int .i64 m7, .int .i64 m8, .int .i64 m9], .string ask] w fun e w' => e = .returned (.bool true) ∧ Below w.heap.size w w' := by
  have HO := Mine.start w
  have HA := Lib.hid ha
  have T0 := Lib.hid t0
  have T1 := Lib.hid t1
  have T2 := Lib.hid t2
  have T3 := Lib.hid t3
  have T4 := Lib.hid t4
  have T5 := Lib.hid t5
  have T6 := Lib.hid t6
  have T7 := Lib.hid t7
  have T8 := Lib.hid t8
  have T9 := Lib.hid t9
  have T10 := Lib.hid t10
  have Y0 := Lib.hid y0
  have Y1 := Lib.hid y1
  have Y2 := Lib.hid y2
  have Y3 := Lib.hid y3
  have Y4 := Lib.hid y4
  have Y5 := Lib.hid y5
  have Y6 := Lib.hid y6
  have Y7 := Lib.hid y7
  have Y8 := Lib.hid y8
  have Y9 := Lib.hid y9
  have Y10 := Lib.hid y10
  have hc : decide ((ask.size : Int) > 100) = false := decide_eq_false (by omega)
  have hc2 : decide (100 < (ask.size : Int)) = false := hc
  clear hl ha t0 t1 t2 t3 t4 t5 t6 t7 t8 t9 t10 y0 y1 y2 y3 y4 y5 y6 y7 y8 y9 y10
  go_enter Tryd.func8, Tryd.ntmps8
  go_wp2_with (first
      | (go_at_call 9; refine (HA.out _ HO.below).mono ?_; rintro eN wN ⟨rfl, hbN⟩; have HON := HO.call hbN; clear HO hbN; have HO := HON; clear HON)
      | ((with_reducible refine gate ?_); (first
      | ((with_reducible refine gateAt (N := 4) rfl ?_); refine own_box HO rfl rfl rfl ?_; clear HO; intro gM wN hgN HO; (simp only [List.nil_append, List.cons_append] at HO); (try simp only [Act.put, List.setIfInBounds_toArray, List.set_cons_zero, List.set_cons_succ]))
      | ((refine own_box HO rfl rfl rfl ?_); clear HO; intro gS wN hgN HO; (simp only [List.nil_append, List.cons_append] at HO); (try simp only [Act.put, List.setIfInBounds_toArray, List.set_cons_zero, List.set_cons_succ]))
      | ((refine own_load (T := 25) HO rfl rfl rfl (by first | exact .head _ | exact .tail _ (.head _) | exact .tail _ (.tail _ (.head _)) | exact .tail _ (.tail _ (.tail _ (.head _))) | exact .tail _ (.tail _ (.tail _ (.tail _ (.head _)))) | exact .tail _ (.tail _ (.tail _ (.tail _ (.tail _ (.head _)))))) Tryd.isAgg25 Tryd.sizeOf25 (by repeat constructor) ?_); (try simp only [Act.put, List.setIfInBounds_toArray, List.set_cons_zero, List.set_cons_succ]))
      | ((refine own_load (T := 39) HO rfl rfl rfl (by first | exact .head _ | exact .tail _ (.head _) | exact .tail _ (.tail _ (.head _)) | exact .tail _ (.tail _ (.tail _ (.head _))) | exact .tail _ (.tail _ (.tail _ (.tail _ (.head _)))) | exact .tail _ (.tail _ (.tail _ (.tail _ (.tail _ (.head _)))))) Tryd.isAgg39 Tryd.sizeOf39 (by repeat constructor) ?_); (try simp only [Act.put, List.setIfInBounds_toArray, List.set_cons_zero, List.set_cons_succ]))
      | ((refine own_store (T := 25) HO rfl rfl rfl rfl (by first | exact .here | exact .there (.here) | exact .there (.there (.here)) | exact .there (.there (.there (.here))) | exact .there (.there (.there (.there (.here)))) | exact .there (.there (.there (.there (.there (.here)))))) Tryd.sizeOf25 (by repeat constructor) rfl ?_); clear HO; intro wN HO; (try simp only [Act.put, List.setIfInBounds_toArray, List.set_cons_zero, List.set_cons_succ]))
      | ((refine own_store (T := 39) HO rfl rfl rfl rfl (by first | exact .here | exact .there (.here) | exact .there (.there (.here)) | exact .there (.there (.there (.here))) | exact .there (.there (.there (.there (.here)))) | exact .there (.there (.there (.there (.there (.here)))))) Tryd.sizeOf39 (by repeat constructor) rfl ?_); clear HO; intro wN HO; (try simp only [Act.put, List.setIfInBounds_toArray, List.set_cons_zero, List.set_cons_succ])))))
  have hlt : ∀ q ∈ [(gS, IsCells [.int .i64 x0, .int .i64 x1, .int .i64 x2, .int .i64 x3, .int .i64 x4, .int .i64 x5, .int .i64 x6, .int .i64 x7, .int .i64 x8, .bool b0, .bool b1, .bool b2, .bool b3, .bool b4, .bool b5, .bool b6, .int .i64 u, .int .i64 f, .int .i64 b] 25), (gM, IsCells [.bool m0, .bool m1, .bool m2, .bool m3, .bool m4, .bool m5, .bool m6, .int .i64 m7, .int .i64 m8, .int .i64 m9] 39)], q.1 < wN.heap.size := fun q hq => HO.lt hq
  have hW0 := HO.below.size
  have HL := Lib.hid hlt
  have HW0 := Lib.hid hW0
  clear hlt hW0
  refine region_law 24 [fIs (.agg #[.int .i64 x0, .int .i64 x1, .int .i64 x2, .int .i64 x3, .int .i64 x4, .int .i64 x5, .int .i64 x6, .int .i64 x7, .int .i64 x8, .bool b0, .bool b1, .bool b2, .bool b3, .bool b4, .bool b5, .bool b6, .int .i64 u, .int .i64 f, .int .i64 b]), fSq w.heap.size q0, fIs (.agg #[.int .i64 x0, .int .i64 x1, .int .i64 x2, .int .i64 x3, .int .i64 x4, .int .i64 x5, .int .i64 x6, .int .i64 x7, .int .i64 x8, .bool b0, .bool b1, .bool b2, .bool b3, .bool b4, .bool b5, .bool b6, .int .i64 u, .int .i64 f, .int .i64 b]), fSq w.heap.size q1, fIs (.agg #[.bool m0, .bool m1, .bool m2, .bool m3, .bool m4, .bool m5, .bool m6, .int .i64 m7, .int .i64 m8, .int .i64 m9]), fIs (.pointer (some ⟨gS, 2, none⟩)), fIs (.int .i64 x2), fSq w.heap.size q2, fIs (.agg #[.bool m0, .bool m1, .bool m2, .bool m3, .bool m4, .bool m5, .bool m6, .int .i64 m7, .int .i64 m8, .int .i64 m9]), fIs (.pointer (some ⟨gS, 3, none⟩)), fIs (.int .i64 x3), fSq w.heap.size q3, fIs (.agg #[.int .i64 x0, .int .i64 x1, .int .i64 x2, .int .i64 x3, .int .i64 x4, .int .i64 x5, .int .i64 x6, .int .i64 x7, .int .i64 x8, .bool b0, .bool b1, .bool b2, .bool b3, .bool b4, .bool b5, .bool b6, .int .i64 u, .int .i64 f, .int .i64 b]), fIs (.string ask), fSq w.heap.size q4, fIs (.pointer (some ⟨gS, 2, none⟩)), fIs (.int .i64 x2), fSq w.heap.size q5, fSq w.heap.size q6, fSq w.heap.size q7, fSq w.heap.size q8, fSq w.heap.size q9, fSq w.heap.size q10, fSqs w.heap.size wN.heap.size [q0, q1, q2, q3, q4, q5, q6, q7, q8, q9, q10]] HO (by kernel_rfl) (by kernel_rfl) (by decide) (by kernel_rfl)
    (stays_cons (Stays.fIs _) (stays_cons (Stays.fSq _ _) (stays_cons (Stays.fIs _) (stays_cons (Stays.fSq _ _) (stays_cons (Stays.fIs _) (stays_cons (Stays.fIs _) (stays_cons (Stays.fIs _) (stays_cons (Stays.fSq _ _) (stays_cons (Stays.fIs _) (stays_cons (Stays.fIs _) (stays_cons (Stays.fIs _) (stays_cons (Stays.fSq _ _) (stays_cons (Stays.fIs _) (stays_cons (Stays.fIs _) (stays_cons (Stays.fSq _ _) (stays_cons (Stays.fIs _) (stays_cons (Stays.fIs _) (stays_cons (Stays.fSq _ _) (stays_cons (Stays.fSq _ _) (stays_cons (Stays.fSq _ _) (stays_cons (Stays.fSq _ _) (stays_cons (Stays.fSq _ _) (stays_cons (Stays.fSq _ _) (stays_cons (Stays.fSqs _ _ _) stays_nil)))))))))))))))))))))))) ?_
  intro vals A hA
  simp [fillL, dstOf, List.range, List.range.loop, Act.put] at hA
  subst hA
  refine ⟨⟨?_, ?_, ?_, ?_, ?_, ?_, ?_, ?_, ?_, ?_, ?_, ?_, ?_, ?_, ?_, ?_, ?_, ?_, ?_, ?_, ?_, ?_, ?_, ?_, trivial⟩, ?_⟩
  all_goals intro W hd hM hb0
  case refine_1 =>
    skip
    exact st_load hM rfl rfl rfl (.head _) Tryd.isAgg25 Tryd.sizeOf25 (by repeat constructor) rfl
  case refine_2 =>
    have v0 : vals 0 = .agg #[.int .i64 x0, .int .i64 x1, .int .i64 x2, .int .i64 x3, .int .i64 x4, .int .i64 x5, .int .i64 x6, .int .i64 x7, .int .i64 x8, .bool b0, .bool b1, .bool b2, .bool b3, .bool b4, .bool b5, .bool b6, .int .i64 u, .int .i64 f, .int .i64 b] := hd 0 (by kernel_rfl)
    rw [v0]
    exact st_call rfl (by simp only [execOp]; first | (go_simp; done) | (go_simp; rfl)) (T0.out W hM.below) (by rintro e w' ⟨v, rfl, hS, hb⟩; exact ⟨_, rfl, hb, hS.lower hM.below.size⟩)
  case refine_3 =>
    skip
    exact st_load hM rfl rfl rfl (.head _) Tryd.isAgg25 Tryd.sizeOf25 (by repeat constructor) rfl
  case refine_4 =>
    have v2 : vals 2 = .agg #[.int .i64 x0, .int .i64 x1, .int .i64 x2, .int .i64 x3, .int .i64 x4, .int .i64 x5, .int .i64 x6, .int .i64 x7, .int .i64 x8, .bool b0, .bool b1, .bool b2, .bool b3, .bool b4, .bool b5, .bool b6, .int .i64 u, .int .i64 f, .int .i64 b] := hd 2 (by kernel_rfl)
    rw [v2]
    exact st_call rfl (by simp only [execOp]; first | (go_simp; done) | (go_simp; rfl)) (T1.out W hM.below) (by rintro e w' ⟨v, rfl, hS, hb⟩; exact ⟨_, rfl, hb, hS.lower hM.below.size⟩)
  case refine_5 =>
    skip
    exact st_load hM rfl rfl rfl (.tail _ (.head _)) Tryd.isAgg39 Tryd.sizeOf39 (by repeat constructor) rfl
  case refine_6 =>
    skip
    exact st_val rfl (by simp only [execOp]; first | (go_simp; done) | (go_simp; rfl)) rfl
  case refine_7 =>
    have v5 : vals 5 = .pointer (some ⟨gS, 2, none⟩) := hd 5 (by kernel_rfl)
    rw [v5]
    exact st_load1 hM rfl rfl rfl (.head _) Tryd.isAgg3 rfl rfl
  case refine_8 =>
    have v4 : vals 4 = .agg #[.bool m0, .bool m1, .bool m2, .bool m3, .bool m4, .bool m5, .bool m6, .int .i64 m7, .int .i64 m8, .int .i64 m9] := hd 4 (by kernel_rfl)
    have v6 : vals 6 = .int .i64 x2 := hd 6 (by kernel_rfl)
    rw [v4, v6]
    exact st_call rfl (by simp only [execOp]; first | (go_simp; done) | (go_simp; rfl)) (T2.out W hM.below) (by rintro e w' ⟨v, rfl, hS, hb⟩; exact ⟨_, rfl, hb, hS.lower hM.below.size⟩)
  case refine_9 =>
    skip
    exact st_load hM rfl rfl rfl (.tail _ (.head _)) Tryd.isAgg39 Tryd.sizeOf39 (by repeat constructor) rfl
  case refine_10 =>
    skip
    exact st_val rfl (by simp only [execOp]; first | (go_simp; done) | (go_simp; rfl)) rfl
  case refine_11 =>
    have v9 : vals 9 = .pointer (some ⟨gS, 3, none⟩) := hd 9 (by kernel_rfl)
    rw [v9]
    exact st_load1 hM rfl rfl rfl (.head _) Tryd.isAgg3 rfl rfl
  case refine_12 =>
    have v8 : vals 8 = .agg #[.bool m0, .bool m1, .bool m2, .bool m3, .bool m4, .bool m5, .bool m6, .int .i64 m7, .int .i64 m8, .int .i64 m9] := hd 8 (by kernel_rfl)
    have v10 : vals 10 = .int .i64 x3 := hd 10 (by kernel_rfl)
    rw [v8, v10]
    exact st_call rfl (by simp only [execOp]; first | (go_simp; done) | (go_simp; rfl)) (T3.out W hM.below) (by rintro e w' ⟨v, rfl, hS, hb⟩; exact ⟨_, rfl, hb, hS.lower hM.below.size⟩)
  case refine_13 =>
    skip
    exact st_load hM rfl rfl rfl (.head _) Tryd.isAgg25 Tryd.sizeOf25 (by repeat constructor) rfl
  case refine_14 =>
    skip
    exact st_val rfl (by simp only [execOp]; first | (go_simp; done) | (go_simp; rfl)) rfl
  case refine_15 =>
    have v12 : vals 12 = .agg #[.int .i64 x0, .int .i64 x1, .int .i64 x2, .int .i64 x3, .int .i64 x4, .int .i64 x5, .int .i64 x6, .int .i64 x7, .int .i64 x8, .bool b0, .bool b1, .bool b2, .bool b3, .bool b4, .bool b5, .bool b6, .int .i64 u, .int .i64 f, .int .i64 b] := hd 12 (by kernel_rfl)
    have v13 : vals 13 = .string ask := hd 13 (by kernel_rfl)
    rw [v12, v13]
    exact st_call rfl (by simp only [execOp]; first | (go_simp; done) | (go_simp; rfl)) (T4.out W hM.below) (by rintro e w' ⟨v, rfl, hS, hb⟩; exact ⟨_, rfl, hb, hS.lower hM.below.size⟩)
  case refine_16 =>
    skip
    exact st_val rfl (by simp only [execOp]; first | (go_simp; done) | (go_simp; rfl)) rfl
  case refine_17 =>
    have v15 : vals 15 = .pointer (some ⟨gS, 2, none⟩) := hd 15 (by kernel_rfl)
    rw [v15]
    exact st_load1 hM rfl rfl rfl (.head _) Tryd.isAgg3 rfl rfl
  case refine_18 =>
    have v16 : vals 16 = .int .i64 x2 := hd 16 (by kernel_rfl)
    rw [v16]
    exact st_call rfl (by simp only [execOp]; first | (go_simp; done) | (go_simp; rfl)) (T5.out W hM.below) (by rintro e w' ⟨v, rfl, hS, hb⟩; exact ⟨_, rfl, hb, hS.lower hM.below.size⟩)
  case refine_19 =>
    skip
    exact st_call rfl (by simp only [execOp]; first | (go_simp; done) | (go_simp; rfl)) (T6.out W hM.below) (by rintro e w' ⟨v, rfl, hS, hb⟩; exact ⟨_, rfl, hb, hS.lower hM.below.size⟩)
  case refine_20 =>
    skip
    exact st_call rfl (by simp only [execOp]; first | (go_simp; done) | (go_simp; rfl)) (T7.out W hM.below) (by rintro e w' ⟨v, rfl, hS, hb⟩; exact ⟨_, rfl, hb, hS.lower hM.below.size⟩)
  case refine_21 =>
    skip
    exact st_call rfl (by simp only [execOp]; first | (go_simp; done) | (go_simp; rfl)) (T8.out W hM.below) (by rintro e w' ⟨v, rfl, hS, hb⟩; exact ⟨_, rfl, hb, hS.lower hM.below.size⟩)
  case refine_22 =>
    skip
    exact st_call rfl (by simp only [execOp]; first | (go_simp; done) | (go_simp; rfl)) (T9.out W hM.below) (by rintro e w' ⟨v, rfl, hS, hb⟩; exact ⟨_, rfl, hb, hS.lower hM.below.size⟩)
  case refine_23 =>
    skip
    exact st_call rfl (by simp only [execOp]; first | (go_simp; done) | (go_simp; rfl)) (T10.out W hM.below) (by rintro e w' ⟨v, rfl, hS, hb⟩; exact ⟨_, rfl, hb, hS.lower hM.below.size⟩)
  case refine_24 =>
    skip
    obtain ⟨u0, e0, s0⟩ : fSq w.heap.size q0 (vals 1) W := hd 1 (by kernel_rfl)
    obtain ⟨u1, e1, s1⟩ : fSq w.heap.size q1 (vals 3) W := hd 3 (by kernel_rfl)
    obtain ⟨u2, e2, s2⟩ : fSq w.heap.size q2 (vals 7) W := hd 7 (by kernel_rfl)
    obtain ⟨u3, e3, s3⟩ : fSq w.heap.size q3 (vals 11) W := hd 11 (by kernel_rfl)
    obtain ⟨u4, e4, s4⟩ : fSq w.heap.size q4 (vals 14) W := hd 14 (by kernel_rfl)
    obtain ⟨u5, e5, s5⟩ : fSq w.heap.size q5 (vals 17) W := hd 17 (by kernel_rfl)
    obtain ⟨u6, e6, s6⟩ : fSq w.heap.size q6 (vals 18) W := hd 18 (by kernel_rfl)
    obtain ⟨u7, e7, s7⟩ : fSq w.heap.size q7 (vals 19) W := hd 19 (by kernel_rfl)
    obtain ⟨u8, e8, s8⟩ : fSq w.heap.size q8 (vals 20) W := hd 20 (by kernel_rfl)
    obtain ⟨u9, e9, s9⟩ : fSq w.heap.size q9 (vals 21) W := hd 21 (by kernel_rfl)
    obtain ⟨u10, e10, s10⟩ : fSq w.heap.size q10 (vals 22) W := hd 22 (by kernel_rfl)
    unfold seqV at e0 e1 e2 e3 e4 e5 e6 e7 e8 e9 e10
    rw [e0, e1, e2, e3, e4, e5, e6, e7, e8, e9, e10]
    have s := (show RowsAll w.heap.size [u0, u1, u2, u3, u4, u5, u6, u7, u8, u9, u10] [q0, q1, q2, q3, q4, q5, q6, q7, q8, q9, q10] W from ⟨s0, s1, s2, s3, s4, s5, s6, s7, s8, s9, s10, trivial⟩)
    skip
    obtain ⟨a0, c0, rfl⟩ := Kd.S_slice s0
    obtain ⟨a1, c1, rfl⟩ := Kd.S_slice s1
    obtain ⟨a2, c2, rfl⟩ := Kd.S_slice s2
    obtain ⟨a3, c3, rfl⟩ := Kd.S_slice s3
    obtain ⟨a4, c4, rfl⟩ := Kd.S_slice s4
    obtain ⟨a5, c5, rfl⟩ := Kd.S_slice s5
    obtain ⟨a6, c6, rfl⟩ := Kd.S_slice s6
    obtain ⟨a7, c7, rfl⟩ := Kd.S_slice s7
    obtain ⟨a8, c8, rfl⟩ := Kd.S_slice s8
    obtain ⟨a9, c9, rfl⟩ := Kd.S_slice s9
    obtain ⟨a10, c10, rfl⟩ := Kd.S_slice s10
    exact st_new (ob := .cells (List.toArray (Value.int .i64 q0.kind :: Value.int .u8 q0.priv :: Value.slice a0 q0.rows.length c0 :: Value.string q0.inter :: Value.int .u8 q0.fin :: Value.string q0.data :: Value.int .i64 q1.kind :: Value.int .u8 q1.priv :: Value.slice a1 q1.rows.length c1 :: Value.string q1.inter :: Value.int .u8 q1.fin :: Value.string q1.data :: Value.int .i64 q2.kind :: Value.int .u8 q2.priv :: Value.slice a2 q2.rows.length c2 :: Value.string q2.inter :: Value.int .u8 q2.fin :: Value.string q2.data :: Value.int .i64 q3.kind :: Value.int .u8 q3.priv :: Value.slice a3 q3.rows.length c3 :: Value.string q3.inter :: Value.int .u8 q3.fin :: Value.string q3.data :: Value.int .i64 q4.kind :: Value.int .u8 q4.priv :: Value.slice a4 q4.rows.length c4 :: Value.string q4.inter :: Value.int .u8 q4.fin :: Value.string q4.data :: Value.int .i64 q5.kind :: Value.int .u8 q5.priv :: Value.slice a5 q5.rows.length c5 :: Value.string q5.inter :: Value.int .u8 q5.fin :: Value.string q5.data :: Value.int .i64 q6.kind :: Value.int .u8 q6.priv :: Value.slice a6 q6.rows.length c6 :: Value.string q6.inter :: Value.int .u8 q6.fin :: Value.string q6.data :: Value.int .i64 q7.kind :: Value.int .u8 q7.priv :: Value.slice a7 q7.rows.length c7 :: Value.string q7.inter :: Value.int .u8 q7.fin :: Value.string q7.data :: Value.int .i64 q8.kind :: Value.int .u8 q8.priv :: Value.slice a8 q8.rows.length c8 :: Value.string q8.inter :: Value.int .u8 q8.fin :: Value.string q8.data :: Value.int .i64 q9.kind :: Value.int .u8 q9.priv :: Value.slice a9 q9.rows.length c9 :: Value.string q9.inter :: Value.int .u8 q9.fin :: Value.string q9.data :: Value.int .i64 q10.kind :: Value.int .u8 q10.priv :: Value.slice a10 q10.rows.length c10 :: Value.string q10.inter :: Value.int .u8 q10.fin :: Value.string q10.data :: [])) 30 (0, 0)) rfl (by simp only [execOp]; first | (go_simp; done) | (go_simp; rfl)) (fun h => ⟨_, [Value.slice a0 q0.rows.length c0, Value.slice a1 q1.rows.length c1, Value.slice a2 q2.rows.length c2, Value.slice a3 q3.rows.length c3, Value.slice a4 q4.rows.length c4, Value.slice a5 q5.rows.length c5, Value.slice a6 q6.rows.length c6, Value.slice a7 q7.rows.length c7, Value.slice a8 q8.rows.length c8, Value.slice a9 q9.rows.length c9, Value.slice a10 q10.rows.length c10], rfl, hb0.size, h, s.below ((Below.refl _ _).alloc (Nat.le_refl _) _)⟩)
  case refine_25 =>
    skip
    simp only [List.drop_succ_cons, List.drop_zero]
    obtain ⟨gL, us, e23, hge, hb, hR⟩ : fSqs w.heap.size wN.heap.size [q0, q1, q2, q3, q4, q5, q6, q7, q8, q9, q10] (vals 23) W := hd 23 (by omega)
    obtain ⟨u0, u1, u2, u3, u4, u5, u6, u7, u8, u9, u10, rfl⟩ := hR.eleven
    have HO := hM.take (p := IsCells (Value.int .i64 q0.kind :: Value.int .u8 q0.priv :: u0 :: Value.string q0.inter :: Value.int .u8 q0.fin :: Value.string q0.data :: Value.int .i64 q1.kind :: Value.int .u8 q1.priv :: u1 :: Value.string q1.inter :: Value.int .u8 q1.fin :: Value.string q1.data :: Value.int .i64 q2.kind :: Value.int .u8 q2.priv :: u2 :: Value.string q2.inter :: Value.int .u8 q2.fin :: Value.string q2.data :: Value.int .i64 q3.kind :: Value.int .u8 q3.priv :: u3 :: Value.string q3.inter :: Value.int .u8 q3.fin :: Value.string q3.data :: Value.int .i64 q4.kind :: Value.int .u8 q4.priv :: u4 :: Value.string q4.inter :: Value.int .u8 q4.fin :: Value.string q4.data :: Value.int .i64 q5.kind :: Value.int .u8 q5.priv :: u5 :: Value.string q5.inter :: Value.int .u8 q5.fin :: Value.string q5.data :: Value.int .i64 q6.kind :: Value.int .u8 q6.priv :: u6 :: Value.string q6.inter :: Value.int .u8 q6.fin :: Value.string q6.data :: Value.int .i64 q7.kind :: Value.int .u8 q7.priv :: u7 :: Value.string q7.inter :: Value.int .u8 q7.fin :: Value.string q7.data :: Value.int .i64 q8.kind :: Value.int .u8 q8.priv :: u8 :: Value.string q8.inter :: Value.int .u8 q8.fin :: Value.string q8.data :: Value.int .i64 q9.kind :: Value.int .u8 q9.priv :: u9 :: Value.string q9.inter :: Value.int .u8 q9.fin :: Value.string q9.data :: Value.int .i64 q10.kind :: Value.int .u8 q10.priv :: u10 :: Value.string q10.inter :: Value.int .u8 q10.fin :: Value.string q10.data :: []) 30) HL.out HW0.out hge ⟨_, hb, rfl⟩
    simp only [List.nil_append, List.cons_append] at HO
    rw [e23]
    clear hd hM hb e23 hb0 HL HW0
    simp only [List.length_cons, List.length_nil, Nat.reduceAdd]
    go_wp2
    go_loopw [9] (fun i wr => ∃ k : Nat, k ≤ 11 ∧ i = .int .i64 (k : Int) ∧ Mine w wr [(gS, IsCells [.int .i64 x0, .int .i64 x1, .int .i64 x2, .int .i64 x3, .int .i64 x4, .int .i64 x5, .int .i64 x6, .int .i64 x7, .int .i64 x8, .bool b0, .bool b1, .bool b2, .bool b3, .bool b4, .bool b5, .bool b6, .int .i64 u, .int .i64 f, .int .i64 b] 25), (gM, IsCells [.bool m0, .bool m1, .bool m2, .bool m3, .bool m4, .bool m5, .bool m6, .int .i64 m7, .int .i64 m8, .int .i64 m9] 39), (gL, IsCells (Value.int .i64 q0.kind :: Value.int .u8 q0.priv :: u0 :: Value.string q0.inter :: Value.int .u8 q0.fin :: Value.string q0.data :: Value.int .i64 q1.kind :: Value.int .u8 q1.priv :: u1 :: Value.string q1.inter :: Value.int .u8 q1.fin :: Value.string q1.data :: Value.int .i64 q2.kind :: Value.int .u8 q2.priv :: u2 :: Value.string q2.inter :: Value.int .u8 q2.fin :: Value.string q2.data :: Value.int .i64 q3.kind :: Value.int .u8 q3.priv :: u3 :: Value.string q3.inter :: Value.int .u8 q3.fin :: Value.string q3.data :: Value.int .i64 q4.kind :: Value.int .u8 q4.priv :: u4 :: Value.string q4.inter :: Value.int .u8 q4.fin :: Value.string q4.data :: Value.int .i64 q5.kind :: Value.int .u8 q5.priv :: u5 :: Value.string q5.inter :: Value.int .u8 q5.fin :: Value.string q5.data :: Value.int .i64 q6.kind :: Value.int .u8 q6.priv :: u6 :: Value.string q6.inter :: Value.int .u8 q6.fin :: Value.string q6.data :: Value.int .i64 q7.kind :: Value.int .u8 q7.priv :: u7 :: Value.string q7.inter :: Value.int .u8 q7.fin :: Value.string q7.data :: Value.int .i64 q8.kind :: Value.int .u8 q8.priv :: u8 :: Value.string q8.inter :: Value.int .u8 q8.fin :: Value.string q8.data :: Value.int .i64 q9.kind :: Value.int .u8 q9.priv :: u9 :: Value.string q9.inter :: Value.int .u8 q9.fin :: Value.string q9.data :: Value.int .i64 q10.kind :: Value.int .u8 q10.priv :: u10 :: Value.string q10.inter :: Value.int .u8 q10.fin :: Value.string q10.data :: []) 30)] ∧ RowsAll w.heap.size [u0, u1, u2, u3, u4, u5, u6, u7, u8, u9, u10] [q0, q1, q2, q3, q4, q5, q6, q7, q8, q9, q10] wr) (fun i _ => 11 - (intOf i).toNat)
    case atStart => exact ⟨0, by omega, rfl, HO, hR⟩
    case round =>
      obtain ⟨k, hk, rfl, HOn, hRn⟩ := hrel
      clear HO hR
      have HO := HOn
      have HR := Lib.hid hRn
      clear HOn hRn
      by_cases hlt : k < 11
      · have hcs : k = 0 ∨ k = 1 ∨ k = 2 ∨ k = 3 ∨ k = 4 ∨ k = 5 ∨ k = 6 ∨ k = 7 ∨ k = 8 ∨ k = 9 ∨ k = 10 := by omega
        clear hlt hk
        rcases hcs with rfl | rfl | rfl | rfl | rfl | rfl | rfl | rfl | rfl | rfl | rfl
        · go_wp2_with (first
          | (go_at_call 26; refine (Y0.out _ w.heap.size _ HO.below ⟨_, rfl, HR.out.1⟩).mono ?_; rintro eN wZ ⟨rfl, hbN⟩; have HON := HO.call hbN; have HRN := Lib.hid (HR.out.below hbN); clear HO HR hbN; have HO := HON; have HR := HRN; clear HON HRN)
          | ((with_reducible refine gate ?_); (first
          | ((refine own_box HO rfl rfl rfl ?_); clear HO; intro gN wN hgN HO; (simp only [List.nil_append, List.cons_append] at HO); (try simp only [Act.put, List.setIfInBounds_toArray, List.set_cons_zero, List.set_cons_succ]))
          | ((refine own_load (T := 30) HO rfl rfl rfl (by first | exact .head _ | exact .tail _ (.head _) | exact .tail _ (.tail _ (.head _))) Tryd.isAgg30 Tryd.sizeOf30 (by repeat constructor) ?_); (try simp only [Act.put, List.setIfInBounds_toArray, List.set_cons_zero, List.set_cons_succ]))
          | ((refine own_store (T := 30) HO rfl rfl rfl rfl (by first | exact .here | exact .there (.here) | exact .there (.there (.here))) Tryd.sizeOf30 (by repeat constructor) rfl ?_); clear HO; intro wN HO; (try simp only [Act.put, List.setIfInBounds_toArray, List.set_cons_zero, List.set_cons_succ])))))
          go_roundw
          case rel => exact ⟨1, by omega, rfl, HO, HR.out⟩
          case measure => exact meas11 0 (by omega)
        · go_wp2_with (first
          | (go_at_call 26; refine (Y1.out _ w.heap.size _ HO.below ⟨_, rfl, HR.out.2.1⟩).mono ?_; rintro eN wZ ⟨rfl, hbN⟩; have HON := HO.call hbN; have HRN := Lib.hid (HR.out.below hbN); clear HO HR hbN; have HO := HON; have HR := HRN; clear HON HRN)
          | ((with_reducible refine gate ?_); (first
          | ((refine own_box HO rfl rfl rfl ?_); clear HO; intro gN wN hgN HO; (simp only [List.nil_append, List.cons_append] at HO); (try simp only [Act.put, List.setIfInBounds_toArray, List.set_cons_zero, List.set_cons_succ]))
          | ((refine own_load (T := 30) HO rfl rfl rfl (by first | exact .head _ | exact .tail _ (.head _) | exact .tail _ (.tail _ (.head _))) Tryd.isAgg30 Tryd.sizeOf30 (by repeat constructor) ?_); (try simp only [Act.put, List.setIfInBounds_toArray, List.set_cons_zero, List.set_cons_succ]))
          | ((refine own_store (T := 30) HO rfl rfl rfl rfl (by first | exact .here | exact .there (.here) | exact .there (.there (.here))) Tryd.sizeOf30 (by repeat constructor) rfl ?_); clear HO; intro wN HO; (try simp only [Act.put, List.setIfInBounds_toArray, List.set_cons_zero, List.set_cons_succ])))))
          go_roundw
          case rel => exact ⟨2, by omega, rfl, HO, HR.out⟩
          case measure => exact meas11 1 (by omega)
        · go_wp2_with (first
          | (go_at_call 26; refine (Y2.out _ w.heap.size _ HO.below ⟨_, rfl, HR.out.2.2.1⟩).mono ?_; rintro eN wZ ⟨rfl, hbN⟩; have HON := HO.call hbN; have HRN := Lib.hid (HR.out.below hbN); clear HO HR hbN; have HO := HON; have HR := HRN; clear HON HRN)
          | ((with_reducible refine gate ?_); (first
          | ((refine own_box HO rfl rfl rfl ?_); clear HO; intro gN wN hgN HO; (simp only [List.nil_append, List.cons_append] at HO); (try simp only [Act.put, List.setIfInBounds_toArray, List.set_cons_zero, List.set_cons_succ]))
          | ((refine own_load (T := 30) HO rfl rfl rfl (by first | exact .head _ | exact .tail _ (.head _) | exact .tail _ (.tail _ (.head _))) Tryd.isAgg30 Tryd.sizeOf30 (by repeat constructor) ?_); (try simp only [Act.put, List.setIfInBounds_toArray, List.set_cons_zero, List.set_cons_succ]))
          | ((refine own_store (T := 30) HO rfl rfl rfl rfl (by first | exact .here | exact .there (.here) | exact .there (.there (.here))) Tryd.sizeOf30 (by repeat constructor) rfl ?_); clear HO; intro wN HO; (try simp only [Act.put, List.setIfInBounds_toArray, List.set_cons_zero, List.set_cons_succ])))))
          go_roundw
          case rel => exact ⟨3, by omega, rfl, HO, HR.out⟩
          case measure => exact meas11 2 (by omega)
        · go_wp2_with (first
          | (go_at_call 26; refine (Y3.out _ w.heap.size _ HO.below ⟨_, rfl, HR.out.2.2.2.1⟩).mono ?_; rintro eN wZ ⟨rfl, hbN⟩; have HON := HO.call hbN; have HRN := Lib.hid (HR.out.below hbN); clear HO HR hbN; have HO := HON; have HR := HRN; clear HON HRN)
          | ((with_reducible refine gate ?_); (first
          | ((refine own_box HO rfl rfl rfl ?_); clear HO; intro gN wN hgN HO; (simp only [List.nil_append, List.cons_append] at HO); (try simp only [Act.put, List.setIfInBounds_toArray, List.set_cons_zero, List.set_cons_succ]))
          | ((refine own_load (T := 30) HO rfl rfl rfl (by first | exact .head _ | exact .tail _ (.head _) | exact .tail _ (.tail _ (.head _))) Tryd.isAgg30 Tryd.sizeOf30 (by repeat constructor) ?_); (try simp only [Act.put, List.setIfInBounds_toArray, List.set_cons_zero, List.set_cons_succ]))
          | ((refine own_store (T := 30) HO rfl rfl rfl rfl (by first | exact .here | exact .there (.here) | exact .there (.there (.here))) Tryd.sizeOf30 (by repeat constructor) rfl ?_); clear HO; intro wN HO; (try simp only [Act.put, List.setIfInBounds_toArray, List.set_cons_zero, List.set_cons_succ])))))
          go_roundw
          case rel => exact ⟨4, by omega, rfl, HO, HR.out⟩
          case measure => exact meas11 3 (by omega)
        · go_wp2_with (first
          | (go_at_call 26; refine (Y4.out _ w.heap.size _ HO.below ⟨_, rfl, HR.out.2.2.2.2.1⟩).mono ?_; rintro eN wZ ⟨rfl, hbN⟩; have HON := HO.call hbN; have HRN := Lib.hid (HR.out.below hbN); clear HO HR hbN; have HO := HON; have HR := HRN; clear HON HRN)
          | ((with_reducible refine gate ?_); (first
          | ((refine own_box HO rfl rfl rfl ?_); clear HO; intro gN wN hgN HO; (simp only [List.nil_append, List.cons_append] at HO); (try simp only [Act.put, List.setIfInBounds_toArray, List.set_cons_zero, List.set_cons_succ]))
          | ((refine own_load (T := 30) HO rfl rfl rfl (by first | exact .head _ | exact .tail _ (.head _) | exact .tail _ (.tail _ (.head _))) Tryd.isAgg30 Tryd.sizeOf30 (by repeat constructor) ?_); (try simp only [Act.put, List.setIfInBounds_toArray, List.set_cons_zero, List.set_cons_succ]))
          | ((refine own_store (T := 30) HO rfl rfl rfl rfl (by first | exact .here | exact .there (.here) | exact .there (.there (.here))) Tryd.sizeOf30 (by repeat constructor) rfl ?_); clear HO; intro wN HO; (try simp only [Act.put, List.setIfInBounds_toArray, List.set_cons_zero, List.set_cons_succ])))))
          go_roundw
          case rel => exact ⟨5, by omega, rfl, HO, HR.out⟩
          case measure => exact meas11 4 (by omega)
        · go_wp2_with (first
          | (go_at_call 26; refine (Y5.out _ w.heap.size _ HO.below ⟨_, rfl, HR.out.2.2.2.2.2.1⟩).mono ?_; rintro eN wZ ⟨rfl, hbN⟩; have HON := HO.call hbN; have HRN := Lib.hid (HR.out.below hbN); clear HO HR hbN; have HO := HON; have HR := HRN; clear HON HRN)
          | ((with_reducible refine gate ?_); (first
          | ((refine own_box HO rfl rfl rfl ?_); clear HO; intro gN wN hgN HO; (simp only [List.nil_append, List.cons_append] at HO); (try simp only [Act.put, List.setIfInBounds_toArray, List.set_cons_zero, List.set_cons_succ]))
          | ((refine own_load (T := 30) HO rfl rfl rfl (by first | exact .head _ | exact .tail _ (.head _) | exact .tail _ (.tail _ (.head _))) Tryd.isAgg30 Tryd.sizeOf30 (by repeat constructor) ?_); (try simp only [Act.put, List.setIfInBounds_toArray, List.set_cons_zero, List.set_cons_succ]))
          | ((refine own_store (T := 30) HO rfl rfl rfl rfl (by first | exact .here | exact .there (.here) | exact .there (.there (.here))) Tryd.sizeOf30 (by repeat constructor) rfl ?_); clear HO; intro wN HO; (try simp only [Act.put, List.setIfInBounds_toArray, List.set_cons_zero, List.set_cons_succ])))))
          go_roundw
          case rel => exact ⟨6, by omega, rfl, HO, HR.out⟩
          case measure => exact meas11 5 (by omega)
        · go_wp2_with (first
          | (go_at_call 26; refine (Y6.out _ w.heap.size _ HO.below ⟨_, rfl, HR.out.2.2.2.2.2.2.1⟩).mono ?_; rintro eN wZ ⟨rfl, hbN⟩; have HON := HO.call hbN; have HRN := Lib.hid (HR.out.below hbN); clear HO HR hbN; have HO := HON; have HR := HRN; clear HON HRN)
          | ((with_reducible refine gate ?_); (first
          | ((refine own_box HO rfl rfl rfl ?_); clear HO; intro gN wN hgN HO; (simp only [List.nil_append, List.cons_append] at HO); (try simp only [Act.put, List.setIfInBounds_toArray, List.set_cons_zero, List.set_cons_succ]))
          | ((refine own_load (T := 30) HO rfl rfl rfl (by first | exact .head _ | exact .tail _ (.head _) | exact .tail _ (.tail _ (.head _))) Tryd.isAgg30 Tryd.sizeOf30 (by repeat constructor) ?_); (try simp only [Act.put, List.setIfInBounds_toArray, List.set_cons_zero, List.set_cons_succ]))
          | ((refine own_store (T := 30) HO rfl rfl rfl rfl (by first | exact .here | exact .there (.here) | exact .there (.there (.here))) Tryd.sizeOf30 (by repeat constructor) rfl ?_); clear HO; intro wN HO; (try simp only [Act.put, List.setIfInBounds_toArray, List.set_cons_zero, List.set_cons_succ])))))
          go_roundw
          case rel => exact ⟨7, by omega, rfl, HO, HR.out⟩
          case measure => exact meas11 6 (by omega)
        · go_wp2_with (first
          | (go_at_call 26; refine (Y7.out _ w.heap.size _ HO.below ⟨_, rfl, HR.out.2.2.2.2.2.2.2.1⟩).mono ?_; rintro eN wZ ⟨rfl, hbN⟩; have HON := HO.call hbN; have HRN := Lib.hid (HR.out.below hbN); clear HO HR hbN; have HO := HON; have HR := HRN; clear HON HRN)
          | ((with_reducible refine gate ?_); (first
          | ((refine own_box HO rfl rfl rfl ?_); clear HO; intro gN wN hgN HO; (simp only [List.nil_append, List.cons_append] at HO); (try simp only [Act.put, List.setIfInBounds_toArray, List.set_cons_zero, List.set_cons_succ]))
          | ((refine own_load (T := 30) HO rfl rfl rfl (by first | exact .head _ | exact .tail _ (.head _) | exact .tail _ (.tail _ (.head _))) Tryd.isAgg30 Tryd.sizeOf30 (by repeat constructor) ?_); (try simp only [Act.put, List.setIfInBounds_toArray, List.set_cons_zero, List.set_cons_succ]))
          | ((refine own_store (T := 30) HO rfl rfl rfl rfl (by first | exact .here | exact .there (.here) | exact .there (.there (.here))) Tryd.sizeOf30 (by repeat constructor) rfl ?_); clear HO; intro wN HO; (try simp only [Act.put, List.setIfInBounds_toArray, List.set_cons_zero, List.set_cons_succ])))))
          go_roundw
          case rel => exact ⟨8, by omega, rfl, HO, HR.out⟩
          case measure => exact meas11 7 (by omega)
        · go_wp2_with (first
          | (go_at_call 26; refine (Y8.out _ w.heap.size _ HO.below ⟨_, rfl, HR.out.2.2.2.2.2.2.2.2.1⟩).mono ?_; rintro eN wZ ⟨rfl, hbN⟩; have HON := HO.call hbN; have HRN := Lib.hid (HR.out.below hbN); clear HO HR hbN; have HO := HON; have HR := HRN; clear HON HRN)
          | ((with_reducible refine gate ?_); (first
          | ((refine own_box HO rfl rfl rfl ?_); clear HO; intro gN wN hgN HO; (simp only [List.nil_append, List.cons_append] at HO); (try simp only [Act.put, List.setIfInBounds_toArray, List.set_cons_zero, List.set_cons_succ]))
          | ((refine own_load (T := 30) HO rfl rfl rfl (by first | exact .head _ | exact .tail _ (.head _) | exact .tail _ (.tail _ (.head _))) Tryd.isAgg30 Tryd.sizeOf30 (by repeat constructor) ?_); (try simp only [Act.put, List.setIfInBounds_toArray, List.set_cons_zero, List.set_cons_succ]))
          | ((refine own_store (T := 30) HO rfl rfl rfl rfl (by first | exact .here | exact .there (.here) | exact .there (.there (.here))) Tryd.sizeOf30 (by repeat constructor) rfl ?_); clear HO; intro wN HO; (try simp only [Act.put, List.setIfInBounds_toArray, List.set_cons_zero, List.set_cons_succ])))))
          go_roundw
          case rel => exact ⟨9, by omega, rfl, HO, HR.out⟩
          case measure => exact meas11 8 (by omega)
        · go_wp2_with (first
          | (go_at_call 26; refine (Y9.out _ w.heap.size _ HO.below ⟨_, rfl, HR.out.2.2.2.2.2.2.2.2.2.1⟩).mono ?_; rintro eN wZ ⟨rfl, hbN⟩; have HON := HO.call hbN; have HRN := Lib.hid (HR.out.below hbN); clear HO HR hbN; have HO := HON; have HR := HRN; clear HON HRN)
          | ((with_reducible refine gate ?_); (first
          | ((refine own_box HO rfl rfl rfl ?_); clear HO; intro gN wN hgN HO; (simp only [List.nil_append, List.cons_append] at HO); (try simp only [Act.put, List.setIfInBounds_toArray, List.set_cons_zero, List.set_cons_succ]))
          | ((refine own_load (T := 30) HO rfl rfl rfl (by first | exact .head _ | exact .tail _ (.head _) | exact .tail _ (.tail _ (.head _))) Tryd.isAgg30 Tryd.sizeOf30 (by repeat constructor) ?_); (try simp only [Act.put, List.setIfInBounds_toArray, List.set_cons_zero, List.set_cons_succ]))
          | ((refine own_store (T := 30) HO rfl rfl rfl rfl (by first | exact .here | exact .there (.here) | exact .there (.there (.here))) Tryd.sizeOf30 (by repeat constructor) rfl ?_); clear HO; intro wN HO; (try simp only [Act.put, List.setIfInBounds_toArray, List.set_cons_zero, List.set_cons_succ])))))
          go_roundw
          case rel => exact ⟨10, by omega, rfl, HO, HR.out⟩
          case measure => exact meas11 9 (by omega)
        · go_wp2_with (first
          | (go_at_call 26; refine (Y10.out _ w.heap.size _ HO.below ⟨_, rfl, HR.out.2.2.2.2.2.2.2.2.2.2.1⟩).mono ?_; rintro eN wZ ⟨rfl, hbN⟩; have HON := HO.call hbN; have HRN := Lib.hid (HR.out.below hbN); clear HO HR hbN; have HO := HON; have HR := HRN; clear HON HRN)
          | ((with_reducible refine gate ?_); (first
          | ((refine own_box HO rfl rfl rfl ?_); clear HO; intro gN wN hgN HO; (simp only [List.nil_append, List.cons_append] at HO); (try simp only [Act.put, List.setIfInBounds_toArray, List.set_cons_zero, List.set_cons_succ]))
          | ((refine own_load (T := 30) HO rfl rfl rfl (by first | exact .head _ | exact .tail _ (.head _) | exact .tail _ (.tail _ (.head _))) Tryd.isAgg30 Tryd.sizeOf30 (by repeat constructor) ?_); (try simp only [Act.put, List.setIfInBounds_toArray, List.set_cons_zero, List.set_cons_succ]))
          | ((refine own_store (T := 30) HO rfl rfl rfl rfl (by first | exact .here | exact .there (.here) | exact .there (.there (.here))) Tryd.sizeOf30 (by repeat constructor) rfl ?_); clear HO; intro wN HO; (try simp only [Act.put, List.setIfInBounds_toArray, List.set_cons_zero, List.set_cons_succ])))))
          go_roundw
          case rel => exact ⟨11, by omega, rfl, HO, HR.out⟩
          case measure => exact meas11 10 (by omega)
      · obtain rfl : k = 11 := by omega
        go_wp2_with (first
          | ((with_reducible refine gate ?_); (first
          | ((refine own_box HO rfl rfl rfl ?_); clear HO; intro gN wN hgN HO; (simp only [List.nil_append, List.cons_append] at HO); (try simp only [Act.put, List.setIfInBounds_toArray, List.set_cons_zero, List.set_cons_succ]))
          | ((refine own_load (T := 30) HO rfl rfl rfl (by first | exact .head _ | exact .tail _ (.head _) | exact .tail _ (.tail _ (.head _))) Tryd.isAgg30 Tryd.sizeOf30 (by repeat constructor) ?_); (try simp only [Act.put, List.setIfInBounds_toArray, List.set_cons_zero, List.set_cons_succ]))
          | ((refine own_store (T := 30) HO rfl rfl rfl rfl (by first | exact .here | exact .there (.here) | exact .there (.there (.here))) Tryd.sizeOf30 (by repeat constructor) rfl ?_); clear HO; intro wN HO; (try simp only [Act.put, List.setIfInBounds_toArray, List.set_cons_zero, List.set_cons_succ])))))
        go_ret
        exact ⟨rfl, HO.below⟩
end Go.Proofs.YtopcleljecdkkaaDoor
end
section
namespace Go.Proofs.YtopcleljecdkkaaDoor.G
set_option linter.unusedVariables false
set_option linter.unusedSimpArgs false
open Go.RowKit Kit Go.Proofs.YtopcleljecdkkaaDoorW.PrintWords Go.Proofs.YtopcleljecdkkaaDoorW.PrintMore
def Wi (s : ByteArray) (lo hi : Int) : Prop := ∀ c ∈ s.toList, lo ≤ (c.toNat : Int) ∧ (c.toNat : Int) ≤ hi
theorem within_loop (s : ByteArray) (lo hi : Int) (h : Wi s lo hi) (hs : s.size ≤ 1000000) : ∀ d i k, i + d = s.size → d < k → clavierref03_within.l0 k s lo hi (i : Int) = some true := by
  intro d
  induction d with
  | zero =>
    intro i k hi hk
    obtain ⟨k, rfl⟩ : ∃ m, k = m + 1 := ⟨k - 1, by omega⟩
    rw [clavierref03_within.l0, if_neg (by omega)]
  | succ d ih =>
    intro i k hi hk
    obtain ⟨k, rfl⟩ : ∃ m, k = m + 1 := ⟨k - 1, by omega⟩
    have hlt : i < s.size := by omega
    have hb : bt s (i : Int) = ((s[i]'hlt).toNat : Int) := by
      rw [← bt_at s (i : Int) (by simpa using hlt)]
      simp
    have hm : s[i]'hlt ∈ s.toList := by
      rw [Lib.toList_data]
      exact Array.getElem_mem_toList (by simpa using hlt)
    obtain ⟨h1, h2⟩ := h _ hm
    have hw : wrap64 ((i : Int) + 1) = ((i + 1 : Nat) : Int) := by unfold wrap64; omega
    rw [clavierref03_within.l0, if_pos (by omega), if_pos (by omega), hb, if_neg (by omega), if_neg (by omega), hw]
    exact ih (i + 1) k (by omega) (by omega)
theorem within_ok (s : ByteArray) (lo hi : Int) (h : Wi s lo hi) (hs : s.size ≤ 4096) : clavierref03_within.f 5000 s lo hi = some true :=
  within_loop s lo hi h (by omega) s.size 0 5000 (by omega) (by omega)
theorem params_nil : clavierref03_params.f 5000 [] = some true := by simp [clavierref03_params.f, clavierref03_params.j0, clavierref03_params.l0]
theorem params_one (a : Int) (h0 : 0 ≤ a) (h1 : a ≤ 1114111) : clavierref03_params.f 5000 [[a]] = some true := by
  have n1 : ¬ a = -1 := by omega
  have n2 : ¬ a < -1 := by omega
  have n3 : ¬ a > 1114111 := by omega
  simp [clavierref03_params.f, clavierref03_params.j0, clavierref03_params.l0, clavierref03_params.j2, clavierref03_params.l1, rd, rd_L1, wrap64, n1, n2, n3]
theorem params_two (a b : Int) (h0 : 0 ≤ a) (h1 : a ≤ 1114111) (g0 : 0 ≤ b) (g1 : b ≤ 1114111) : clavierref03_params.f 5000 [[a], [b]] = some true := by
  have n2 : ¬ a < -1 := by omega
  have n3 : ¬ a > 1114111 := by omega
  have m2 : ¬ b < -1 := by omega
  have m3 : ¬ b > 1114111 := by omega
  simp [clavierref03_params.f, clavierref03_params.j0, clavierref03_params.l0, clavierref03_params.j2, clavierref03_params.l1, rd, rd_L1, wrap64, n2, n3, m2, m3]
theorem params_three (a b c : Int) (h0 : 0 ≤ a) (h1 : a ≤ 1114111) (g0 : 0 ≤ b) (g1 : b ≤ 1114111) (i0 : 0 ≤ c) (i1 : c ≤ 1114111) : clavierref03_params.f 5000 [[a], [b], [c]] = some true := by
  have n2 : ¬ a < -1 := by omega
  have n3 : ¬ a > 1114111 := by omega
  have m2 : ¬ b < -1 := by omega
  have m3 : ¬ b > 1114111 := by omega
  have o2 : ¬ c < -1 := by omega
  have o3 : ¬ c > 1114111 := by omega
  simp [clavierref03_params.f, clavierref03_params.j0, clavierref03_params.l0, clavierref03_params.j2, clavierref03_params.l1, rd, rd_L1, wrap64, n2, n3, m2, m3, o2, o3]
theorem may_ok (kd pv fi : Int) (rows : List (List Int)) (inter data : ByteArray) (hk : (kd = 1 ∧ data = ⟨#[]⟩) ∨ kd = 3) (hp : pv = 0 ∨ (60 ≤ pv ∧ pv ≤ 63)) (hr : clavierref03_params.f 5000 rows = some true) (hi : inter.size ≤ 2) (hw : Wi inter 32 47) (hd : data.size ≤ 4096) (hv : Wi data 32 126) (f0 : 64 ≤ fi) (f1 : fi ≤ 126) :
    clavierref03_May.f 5000 kd pv rows inter fi data = some 0 := by
  have hlast : clavierref03_last.f 5000 kd pv rows inter fi data = some true := by
    rcases hk with ⟨rfl, _⟩ | rfl
    · simp [clavierref03_last.f, clavierref03_last.j0, show fi ≥ 64 from f0, f1]
    · simp [clavierref03_last.f, clavierref03_last.j0, show fi ≥ 64 from f0, f1]
  have hbare : clavierref03_bare.f 5000 kd pv rows inter fi data = some true := by
    rcases hk with ⟨rfl, rfl⟩ | rfl
    · have e : (⟨#[]⟩ : ByteArray).toList = [] := by simp [Lib.toList_data]
      simp [clavierref03_bare.f, clavierref03_bare.j0, clavierref03_bare.j1, e]
    · by_cases e : data.toList = [] <;> simp [clavierref03_bare.f, clavierref03_bare.j0, clavierref03_bare.j1, e]
  unfold clavierref03_May.f
  rw [if_neg (by omega)]
  rcases hp with rfl | ⟨h1, h2⟩
  · rw [if_pos rfl, hr, Option.bind_some, if_pos rfl, if_neg (by omega), within_ok _ _ _ hw (by omega), Option.bind_some, if_pos rfl, within_ok _ _ _ hv hd, Option.bind_some, if_pos rfl, hlast, Option.bind_some, if_pos rfl, hbare, Option.bind_some, if_pos rfl]
  · rw [if_neg (by omega), if_neg (by omega), if_neg (by omega), hr, Option.bind_some, if_pos rfl, if_neg (by omega), within_ok _ _ _ hw (by omega), Option.bind_some, if_pos rfl, within_ok _ _ _ hv hd, Option.bind_some, if_pos rfl, hlast, Option.bind_some, if_pos rfl, hbare, Option.bind_some, if_pos rfl]
theorem Wi.nil (lo hi : Int) : Wi ⟨#[]⟩ lo hi := fun c hc => by
  rw [Lib.toList_data] at hc
  simp at hc
theorem Wi.app {a b : ByteArray} {lo hi : Int} (ha : Wi a lo hi) (hb : Wi b lo hi) : Wi (a ++ b) lo hi := by
  intro c hc
  have e : (a ++ b).toList = a.toList ++ b.toList := by simp [Lib.toList_data]
  rw [e, List.mem_append] at hc
  exact hc.elim (ha c) (hb c)
theorem Wi.of_list {l : List UInt8} {lo hi : Int} (h : ∀ c ∈ l, lo ≤ (c.toNat : Int) ∧ (c.toNat : Int) ≤ hi) : Wi ⟨l.toArray⟩ lo hi := by
  intro c hc
  rw [Lib.toList_data] at hc
  exact h c (by simpa using hc)
theorem fig_in {c : UInt8} (h : figU c = true) : 32 ≤ (c.toNat : Int) ∧ (c.toNat : Int) ≤ 126 := by
  simp only [figU, Bool.and_eq_true, decide_eq_true_eq] at h
  have h1 := h.1
  have h2 := h.2
  omega
theorem mem_join {xs : List (List UInt8)} {sep : List UInt8} {c : UInt8} (h : c ∈ Lib.join xs sep) : (∃ x ∈ xs, c ∈ x) ∨ c ∈ sep := by
  induction xs with
  | nil => simp [Lib.join_nil] at h
  | cons x r ih =>
    cases r with
    | nil => rw [Lib.join_one] at h; exact .inl ⟨x, by simp, h⟩
    | cons y r =>
      rw [Lib.join_cons] at h
      rcases List.mem_append.1 h with h | h
      · exact .inl ⟨x, by simp, h⟩
      · have e : Lib.joinTail sep (y :: r) = sep ++ Lib.join (y :: r) sep := by rw [Lib.join_cons]; simp [Lib.joinTail]
        rw [e] at h
        rcases List.mem_append.1 h with h | h
        · exact .inr h
        · rcases ih h with ⟨z, hz, hc⟩ | h
          · exact .inl ⟨z, by simp at hz ⊢; exact .inr hz, hc⟩
          · exact .inr h
theorem textP_in (l : List (List Int)) : ∀ c ∈ textP l, 32 ≤ (c.toNat : Int) ∧ (c.toNat : Int) ≤ 126 := by
  intro c hc
  rcases mem_join hc with ⟨x, hx, h⟩ | h
  · obtain ⟨r, hr, rfl⟩ := List.mem_map.1 hx
    rcases mem_join h with ⟨y, hy, h⟩ | h
    · obtain ⟨n, _, rfl⟩ := List.mem_map.1 hy
      exact fig_in (textL_figs n c h)
    · simp at h; subst h; decide
  · simp at h; subst h; decide
theorem tx_in (n : Int) : Wi (tx n) 32 126 := Wi.of_list fun c hc => fig_in (textL_figs n c hc)
theorem textP_short (s : St) : (textP (paramsV s)).length ≤ 4000 := by
  have := join_le ((paramsV s).map partT) [59] 130 (fun x hx => by
    obtain ⟨r, hr, rfl⟩ := List.mem_map.1 hx
    have h1 := partT_le r (fun z hz => (paramsV_in s r hr z hz).2)
    have h2 := paramsV_rows s r hr
    omega)
  rw [List.length_map] at this
  have h3 := paramsV_len s
  simp only [List.length_singleton] at this
  unfold textP
  omega
theorem settV_ok (x4 x5 x6 x7 x8 : Int) (s : St) (ask : ByteArray) : (settV x4 x5 x6 x7 x8 s ask).size ≤ 4096 ∧ Wi (settV x4 x5 x6 x7 x8 s ask) 32 126 := by
  have one : ∀ l : List UInt8, (∀ c ∈ l, 32 ≤ (c.toNat : Int) ∧ (c.toNat : Int) ≤ 126) → Wi ⟨l.toArray⟩ 32 126 := fun l h => Wi.of_list h
  have t : ∀ n, (tx (clamp n)).size ≤ 20 := fun n => tx_size (clamp_in n).1 (clamp_in n).2
  have e59 : (⟨#[59]⟩ : ByteArray).size = 1 := rfl
  have e114 : (⟨#[114]⟩ : ByteArray).size = 1 := rfl
  have e115 : (⟨#[115]⟩ : ByteArray).size = 1 := rfl
  have e109 : (⟨#[109]⟩ : ByteArray).size = 1 := rfl
  have e2 : (⟨#[32, 113]⟩ : ByteArray).size = 2 := rfl
  unfold settV
  split
  · split
    · refine ⟨?_, Wi.app (Wi.of_list (textP_in _)) (one [109] (by decide))⟩
      have := textP_short s
      rw [ByteArray.size_append, size_list]; omega
    · exact ⟨by decide, Wi.nil _ _⟩
  · split
    · refine ⟨?_, Wi.app (Wi.app (Wi.app (tx_in _) (one [59] (by decide))) (tx_in _)) (one [114] (by decide))⟩
      have h1 := t x4
      have h2 := t x5
      rw [ByteArray.size_append, ByteArray.size_append, ByteArray.size_append]; omega
    · split
      · refine ⟨?_, Wi.app (Wi.app (Wi.app (tx_in _) (one [59] (by decide))) (tx_in _)) (one [115] (by decide))⟩
        have h1 := t x6
        have h2 := t x7
        rw [ByteArray.size_append, ByteArray.size_append, ByteArray.size_append]; omega
      · split
        · refine ⟨?_, Wi.app (tx_in _) (one [32, 113] (by decide))⟩
          have h1 := t x8
          rw [ByteArray.size_append]; omega
        · split
          · exact ⟨by decide, Wi.app (one [54, 50, 59, 49] (by decide)) (one [34, 112] (by decide))⟩
          · exact ⟨by decide, Wi.nil _ _⟩
theorem getM_in (m : Md) (p : Bool) (n : Int) : 0 ≤ getM m p n ∧ getM m p n ≤ 4 := by
  unfold getM fixedM
  repeat' split
  all_goals decide
end Go.Proofs.YtopcleljecdkkaaDoor.G
end
