/- M: texts run together by shake.py: WWords KitO KitS KitQ PSt PuSa PTx PuSb PTj PuSc PuSd PuRa RpW. -/
import Derived.ArgAppend
import Derived.Below
import Derived.BigQuiet
import Derived.ChangeOld
import Derived.ChangeSlices
import Derived.Deep.AppendLies
import Derived.Deep.CutBlock
import Derived.Deep.DeepCutAuto
import Derived.Deep.Draws
import Derived.Deep.LoopGhost
import Derived.Deep.Matrix
import Derived.Deep.OwnRows
import Derived.Deep.Quiet
import Derived.Deep.QuietTactic
import Derived.Deep.RegionHeld3
import Derived.Ground.Names2Prog
import Derived.Ground.SlgnProg
import Derived.KernelRfl
import Derived.Laws.AppendOwn
import Derived.Laws.AppendOwnNone
import Derived.Laws.BitsLemmas
import Derived.Laws.BytesArg
import Derived.Laws.Concat
import Derived.Laws.CopyRow
import Derived.Laws.IdiomCopy
import Derived.Laws.IdiomStrings
import Derived.Laws.MakeOwn
import Derived.Laws.OwnMore
import Derived.Laws.Rows
import Derived.Laws.Slices
import Derived.Laws.StructEq
import Derived.Laws.Tables
import Derived.Lib.AppendIntMem
import Derived.Lib.AppendStr
import Derived.Lib.ConvBytes
import Derived.Lib.Hide
import Derived.Lib.ItoaLen
import Derived.Lib.ItoaNum
import Derived.Lib.Join
import Derived.Lib.LaidTab
import Derived.Lib.Strings
import Derived.MapKept
import Derived.Maps.AppendAt
import Derived.OpenShut
import Derived.Orders
import Derived.OrdersHeld
import Derived.Outline
import Derived.OwnWalk
import Derived.ProofKit
import Derived.RowKit
import Derived.RowKit3
import Derived.Shelf.LaysM
import Derived.Shelf.Slices.Clone
import Derived.Shelf.SlicesE.Clone
import Derived.Shelf.Strconv.Itoa0
import Derived.Shelf.Strconv.Itoa1
import Derived.Shelf.Strconv.Itoa2
import Derived.Shelf.Strconv.Itoa3
import Derived.Shelf.Strings.Builder1
import Derived.Shelf.Strings.Builder2
import Derived.Shelf.Strings.Builder2Cap
import Derived.Shelf.Strings.BuilderCap
import Derived.Shelf.Strings.BuilderF
import Derived.Shelf.Strings.BuilderK
import Derived.Shelf.Strings.OnBuilder
import Derived.ShutString
import Derived.SizedLaws
import Derived.Still
import Derived.Tactics
import Derived.Test.YtopcleljecdkkaaDoorProg
import Derived.WalkKit
import Derived.WalkLawsBesides
import Derived.WalkSpells
import Derived.WideLaws
import Derived.Test.YtopcleljecdkkaaDoorZM1
import Derived.Test.YtopcleljecdkkaaDoorZM2
import Derived.Test.YtopcleljecdkkaaDoorZM3
import Derived.Test.YtopcleljecdkkaaDoorZM4
import Derived.Test.YtopcleljecdkkaaDoorZM5
import Derived.Test.YtopcleljecdkkaaDoorZM6
section
set_option linter.unusedVariables false
set_option linter.unusedSimpArgs false
namespace Go.Proofs.YtopcleljecdkkaaDoorW.PrintWords
open Go.RowKit
def NeRow (v v' : Value) : Prop := ∀ k, v.ownBlock = some k → v'.ownBlock ≠ some k
theorem ne_nil (v' : Value) : NeRow (.slice none 0 0) v' := fun k hk => by simp [Value.ownBlock] at hk
end Go.Proofs.YtopcleljecdkkaaDoorW.PrintWords
end
section
namespace Go.Proofs.YtopcleljecdkkaaDoor
open Go.ChangeShapes Go.WideShapes Go.ChangeAt Go.RowKit Go.Proofs.YtopcleljecdkkaaDoorW.PrintWords Kit
set_option linter.unusedVariables false
set_option maxRecDepth 100000
set_option linter.unusedSimpArgs false
theorem intIn {x : Int} (h : (Lit.int .i64 x).wf = true) : -9223372036854775808 ≤ x ∧ x ≤ 9223372036854775807 := by
  simp [Lit.wf, IntKind.min, IntKind.max, IntKind.signed, IntKind.bits] at h
  omega
end Go.Proofs.YtopcleljecdkkaaDoor
end
section
namespace Go.Proofs.YtopcleljecdkkaaDoor
open Go.ChangeShapes Go.WideShapes Go.ChangeAt Go.RowKit Go.Proofs.YtopcleljecdkkaaDoorW.PrintWords Kit
set_option linter.unusedVariables false
set_option maxRecDepth 100000
set_option linter.unusedSimpArgs false
def AllI (l : List (List Int)) : Prop := ∀ x ∈ l, ∀ z ∈ x, -9223372036854775808 ≤ z ∧ z ≤ 9223372036854775807
end Go.Proofs.YtopcleljecdkkaaDoor
end
section
namespace Go.Proofs.YtopcleljecdkkaaDoor
open Go.ChangeShapes Go.WideShapes Go.ChangeAt Go.RowKit Go.Proofs.YtopcleljecdkkaaDoorW.PrintWords Kit
set_option linter.unusedVariables false
set_option maxRecDepth 100000
set_option linter.unusedSimpArgs false
theorem open_screen {H : Type} {enc : TypeId × Value → H} {W : World} {base : Nat} {spare : Nat → Bool} {held : Bool} {v : Value} {d : DataW H} {p : List MemPlace} {r : Reach} {b0 : Nat} (hv : Value.okWide Tryd.prog W r b0 25 v) (h : DataW.Trod enc Tryd.prog W base spare held 25 v d p) : ∃ (x0 : Int) (x1 : Int) (x2 : Int) (x3 : Int) (x4 : Int) (x5 : Int) (x6 : Int) (x7 : Int) (x8 : Int) (x9 : Bool) (x10 : Bool) (x11 : Bool) (x12 : Bool) (x13 : Bool) (x14 : Bool) (x15 : Bool) (x16 : Int) (x17 : Int) (x18 : Int), v = .agg #[.int .i64 x0, .int .i64 x1, .int .i64 x2, .int .i64 x3, .int .i64 x4, .int .i64 x5, .int .i64 x6, .int .i64 x7, .int .i64 x8, .bool x9, .bool x10, .bool x11, .bool x12, .bool x13, .bool x14, .bool x15, .int .i64 x16, .int .i64 x17, .int .i64 x18] ∧ (Lit.int .i64 x0).wf = true ∧ (Lit.int .i64 x1).wf = true ∧ (Lit.int .i64 x2).wf = true ∧ (Lit.int .i64 x3).wf = true ∧ (Lit.int .i64 x4).wf = true ∧ (Lit.int .i64 x5).wf = true ∧ (Lit.int .i64 x6).wf = true ∧ (Lit.int .i64 x7).wf = true ∧ (Lit.int .i64 x8).wf = true ∧ (Lit.int .i64 x16).wf = true ∧ (Lit.int .i64 x17).wf = true ∧ (Lit.int .i64 x18).wf = true := by
  obtain ⟨cs, rfl, hsz⟩ := okWide_struct Tryd.underlying25 hv
  rw [show Tryd.prog.cellsOf 25 = 19 by kernel_rfl] at hsz
  obtain ⟨fuel, hf⟩ := h
  obtain ⟨xs, n, _, _, _, hlen, hx⟩ := DataW.trod_struct Tryd.underlying25 hf
  have hc_bool : Tryd.prog.cellsOf 4 = 1 := by kernel_rfl
  have hc_int : Tryd.prog.cellsOf 3 = 1 := by kernel_rfl
  have hs_0 : Tryd.prog.cellsOf 23 = 10 := by kernel_rfl
  match cs, hsz with
  | ⟨[c0, c1, c2, c3, c4, c5, c6, c7, c8, c9, c10, c11, c12, c13, c14, c15, c16, c17, c18]⟩, _ =>
    match xs, hlen with
    | [x0, x1, x2, x3, x4, x5, x6, x7, x8, x9], _ =>
      have e0 := hx 0 _ rfl
      simp [Value.cells, hc_bool, hc_int, hs_0] at e0
      obtain ⟨y0, z0, _, w0⟩ := DataW.trod_int Tryd.underlying3 e0
      have e1 := hx 1 _ rfl
      simp [Value.cells, hc_bool, hc_int, hs_0] at e1
      obtain ⟨y1, z1, _, w1⟩ := DataW.trod_int Tryd.underlying3 e1
      have e2 := hx 2 _ rfl
      simp [Value.cells, hc_bool, hc_int, hs_0] at e2
      obtain ⟨y2, z2, _, w2⟩ := DataW.trod_int Tryd.underlying3 e2
      have e3 := hx 3 _ rfl
      simp [Value.cells, hc_bool, hc_int, hs_0] at e3
      obtain ⟨y3, z3, _, w3⟩ := DataW.trod_int Tryd.underlying3 e3
      have e4 := hx 4 _ rfl
      simp [Value.cells, hc_bool, hc_int, hs_0] at e4
      obtain ⟨y4, z4, _, w4⟩ := DataW.trod_int Tryd.underlying3 e4
      have e5 := hx 5 _ rfl
      simp [Value.cells, hc_bool, hc_int, hs_0] at e5
      obtain ⟨y5, z5, _, w5⟩ := DataW.trod_int Tryd.underlying3 e5
      have e6 := hx 6 _ rfl
      simp [Value.cells, hc_bool, hc_int, hs_0] at e6
      obtain ⟨y6, z6, _, w6⟩ := DataW.trod_int Tryd.underlying3 e6
      have e7 := hx 7 _ rfl
      simp [Value.cells, hc_bool, hc_int, hs_0] at e7
      obtain ⟨y7, z7, _, w7⟩ := DataW.trod_int Tryd.underlying3 e7
      have e8 := hx 8 _ rfl
      simp [Value.cells, hc_bool, hc_int, hs_0] at e8
      obtain ⟨y8, z8, _, w8⟩ := DataW.trod_int Tryd.underlying3 e8
      have e9 := hx 9 _ rfl
      simp [Value.cells, hc_bool, hc_int, hs_0] at e9
      obtain ⟨xs9, n9, _, _, _, hlen9, hx9⟩ := DataW.trod_struct Tryd.underlying23 e9
      match xs9, hlen9 with
      | [u9_0, u9_1, u9_2, u9_3, u9_4, u9_5, u9_6, u9_7, u9_8, u9_9], _ =>
      have e9_0 := hx9 0 _ rfl
      simp [Value.cells, hc_bool, hc_int, hs_0] at e9_0
      obtain ⟨y9, z9, _⟩ := DataW.trod_bool Tryd.underlying4 e9_0
      have e9_1 := hx9 1 _ rfl
      simp [Value.cells, hc_bool, hc_int, hs_0] at e9_1
      obtain ⟨y10, z10, _⟩ := DataW.trod_bool Tryd.underlying4 e9_1
      have e9_2 := hx9 2 _ rfl
      simp [Value.cells, hc_bool, hc_int, hs_0] at e9_2
      obtain ⟨y11, z11, _⟩ := DataW.trod_bool Tryd.underlying4 e9_2
      have e9_3 := hx9 3 _ rfl
      simp [Value.cells, hc_bool, hc_int, hs_0] at e9_3
      obtain ⟨y12, z12, _⟩ := DataW.trod_bool Tryd.underlying4 e9_3
      have e9_4 := hx9 4 _ rfl
      simp [Value.cells, hc_bool, hc_int, hs_0] at e9_4
      obtain ⟨y13, z13, _⟩ := DataW.trod_bool Tryd.underlying4 e9_4
      have e9_5 := hx9 5 _ rfl
      simp [Value.cells, hc_bool, hc_int, hs_0] at e9_5
      obtain ⟨y14, z14, _⟩ := DataW.trod_bool Tryd.underlying4 e9_5
      have e9_6 := hx9 6 _ rfl
      simp [Value.cells, hc_bool, hc_int, hs_0] at e9_6
      obtain ⟨y15, z15, _⟩ := DataW.trod_bool Tryd.underlying4 e9_6
      have e9_7 := hx9 7 _ rfl
      simp [Value.cells, hc_bool, hc_int, hs_0] at e9_7
      obtain ⟨y16, z16, _, w16⟩ := DataW.trod_int Tryd.underlying3 e9_7
      have e9_8 := hx9 8 _ rfl
      simp [Value.cells, hc_bool, hc_int, hs_0] at e9_8
      obtain ⟨y17, z17, _, w17⟩ := DataW.trod_int Tryd.underlying3 e9_8
      have e9_9 := hx9 9 _ rfl
      simp [Value.cells, hc_bool, hc_int, hs_0] at e9_9
      obtain ⟨y18, z18, _, w18⟩ := DataW.trod_int Tryd.underlying3 e9_9
      simp at z0 z1 z2 z3 z4 z5 z6 z7 z8 z9 z10 z11 z12 z13 z14 z15 z16 z17 z18
      subst z0 z1 z2 z3 z4 z5 z6 z7 z8 z9 z10 z11 z12 z13 z14 z15 z16 z17 z18
      exact ⟨y0, y1, y2, y3, y4, y5, y6, y7, y8, y9, y10, y11, y12, y13, y14, y15, y16, y17, y18, rfl, w0, w1, w2, w3, w4, w5, w6, w7, w8, w16, w17, w18⟩
end Go.Proofs.YtopcleljecdkkaaDoor
end
section
namespace Go.Proofs.YtopcleljecdkkaaDoor
set_option linter.unusedVariables false
set_option linter.unusedSimpArgs false
abbrev St := Bool × Bool × Bool × Bool × Bool × Bool × Bool × Int × Int × Int
end Go.Proofs.YtopcleljecdkkaaDoor
end
section
namespace Go.Proofs.YtopcleljecdkkaaDoor.G
set_option linter.unusedVariables false
set_option linter.unusedSimpArgs false
open Go.RowKit Kit Go.Proofs.YtopcleljecdkkaaDoorW.PrintWords
def InI (l : List Int) : Prop := ∀ z ∈ l, -9223372036854775808 ≤ z ∧ z ≤ 9223372036854775807
end Go.Proofs.YtopcleljecdkkaaDoor.G
end
section
namespace Go.Proofs.YtopcleljecdkkaaDoor
set_option linter.unusedVariables false
set_option linter.unusedSimpArgs false
theorem decDigits_small {n : Nat} (h : n < 10) : Lib.decDigits n = [UInt8.ofNat (48 + n)] := by rw [Lib.decDigits, dif_pos h]
theorem decDigits_big {n : Nat} (h : ¬ n < 10) : Lib.decDigits n = Lib.decDigits (n / 10) ++ [UInt8.ofNat (48 + n % 10)] := by rw [Lib.decDigits, dif_neg h]
theorem textL_of {n : Int} (h : 0 ≤ n) : textL n = Lib.decDigits n.toNat := by unfold textL; rw [if_neg (by omega)]
theorem decDigits_mono (a : Nat) : ∀ b, a ≤ b → (Lib.decDigits a).length ≤ (Lib.decDigits b).length := by
  induction a using Nat.strongRecOn with
  | _ a ih =>
    intro b hab
    by_cases h : a < 10
    · rw [decDigits_small h]
      rw [Lib.decDigits_length]
      exact Lib.nDigits_pos b
    · rw [decDigits_big h, decDigits_big (show ¬ b < 10 by omega)]
      have := ih (a / 10) (by omega) (b / 10) (by omega)
      simp only [List.length_append, List.length_singleton]
      omega
theorem textL_len {a : Int} (h0 : 0 ≤ a) (h : a ≤ 9223372036854775807) : (textL a).length ≤ 20 ∧ 1 ≤ (textL a).length := by
  rw [textL_of h0, Lib.decDigits_length]
  exact ⟨by
    have : Lib.nDigits a.toNat ≤ 20 := by
      rcases Nat.lt_or_ge 20 (Lib.nDigits a.toNat) with h1 | h1
      · exfalso
        have h2 := Lib.decDigits_length a.toNat
        have h3 : (Lib.decDigits a.toNat).length ≤ (Lib.decDigits 9223372036854775807).length := decDigits_mono _ _ (by omega)
        rw [Lib.decDigits_length, Lib.decDigits_length] at h3
        have h4 : Lib.nDigits 9223372036854775807 = 18 + 1 := Lib.nDigits_unique 18 _ (by decide) (by decide)
        omega
      · exact h1
    exact this, Lib.nDigits_pos _⟩
end Go.Proofs.YtopcleljecdkkaaDoor
end
section
namespace Go.Proofs.YtopcleljecdkkaaDoor.G
set_option linter.unusedVariables false
set_option linter.unusedSimpArgs false
open Go.RowKit Kit Go.Proofs.YtopcleljecdkkaaDoorW.PrintWords
theorem rd_row (l : List (List Int)) (i : Nat) (h : i < l.length) : rd_L1 l (i : Int) = l[i] := by
  unfold rd_L1
  simp [List.getD, h]
end Go.Proofs.YtopcleljecdkkaaDoor.G
end
section
namespace Go.Proofs.YtopcleljecdkkaaDoor
set_option linter.unusedVariables false
set_option linter.unusedSimpArgs false
theorem lens_le (xs : List (List UInt8)) (m : Nat) (h : ∀ x ∈ xs, x.length ≤ m) : Lib.lens xs ≤ m * xs.length := by
  induction xs with
  | nil => simp [Lib.lens]
  | cons x r ih =>
    have h1 := ih (fun y hy => h y (by simp [hy]))
    have h2 := h x (by simp)
    simp only [Lib.lens, List.map_cons, List.sum_cons, List.length_cons] at h1 ⊢
    rw [Nat.mul_succ]
    omega
theorem join_le (xs : List (List UInt8)) (sep : List UInt8) (m : Nat) (h : ∀ x ∈ xs, x.length ≤ m) : (Lib.join xs sep).length ≤ (m + sep.length) * xs.length := by
  cases xs with
  | nil => simp [Lib.join_nil]
  | cons x r =>
    have h1 := lens_le (x :: r) m h
    rw [Lib.join_length]
    have h2 : sep.length * r.length ≤ sep.length * (x :: r).length := Nat.mul_le_mul_left _ (by simp)
    rw [Nat.add_mul]
    omega
def partT (r : List Int) : List UInt8 := Lib.join (r.map textL) [58]
def textP (l : List (List Int)) : List UInt8 := Lib.join (l.map partT) [59]
theorem textL_le {n : Int} (h : n ≤ 9223372036854775807) : (textL n).length ≤ 20 := by
  by_cases h0 : 0 ≤ n
  · exact (textL_len h0 h).1
  · unfold textL; rw [if_pos (by omega)]; simp
theorem partT_le (r : List Int) (h : ∀ z ∈ r, z ≤ 9223372036854775807) : (partT r).length ≤ 21 * r.length := by
  have := join_le (r.map textL) [58] 20 (fun x hx => by obtain ⟨z, hz, rfl⟩ := List.mem_map.1 hx; exact textL_le (h z hz))
  simpa [partT] using this
theorem take_snoc_map {α β : Type} (f : α → β) (l : List α) {i : Nat} (h : i < l.length) : (l.take (i + 1)).map f = (l.take i).map f ++ [f l[i]] := by
  rw [List.take_succ_eq_append_getElem h, List.map_append]
  rfl
end Go.Proofs.YtopcleljecdkkaaDoor
end
section
namespace Go.Proofs.YtopcleljecdkkaaDoor.G
set_option linter.unusedVariables false
set_option linter.unusedSimpArgs false
open Go.RowKit Kit Go.Proofs.YtopcleljecdkkaaDoorW.PrintWords
def Small (l : List (List Int)) : Prop := l.length ≤ 100 ∧ ∀ r ∈ l, r.length ≤ 100
theorem numText_is {n : Int} (h0 : -9223372036854775808 ≤ n) (h1 : n ≤ 9223372036854775807) : num_Text.f n = some ⟨(textL n).toArray⟩ := by unfold num_Text.f; rw [if_pos ⟨h0, h1⟩]
theorem join_is (xs : List (List UInt8)) (sep : List UInt8) (m : Nat) (h : ∀ x ∈ xs, x.length ≤ m) (hm : m ≤ 100000) (hs : sep.length = 1) (hx : xs.length ≤ 1000) : strings_Join.f (xs.map fun x => ⟨x.toArray⟩) ⟨sep.toArray⟩ = some ⟨(Lib.join xs sep).toArray⟩ := by
  unfold strings_Join.f
  have e : (xs.map fun x => (⟨x.toArray⟩ : ByteArray)).map (·.data.toList) = xs := by
    rw [List.map_map]
    conv => rhs; rw [← List.map_id xs]
    rfl
  have hb := join_le xs sep m h
  rw [e]
  rw [if_pos]
  refine ⟨by rw [List.length_map]; omega, ?_⟩
  show (Lib.join xs sep).length ≤ _
  have : (m + sep.length) * xs.length ≤ 100001 * 1000 := Nat.mul_le_mul (by omega) hx
  omega
theorem text_inner (l : List (List Int)) (x3 : List ByteArray) (x10 x11 : Int) (r : List Int) (hi : InI r) (hr : r.length ≤ 100) (hx3 : x3.length ≤ 1000) : ∀ d j k, j + d = r.length → d < k →
    style_Text.l1 k x3 (((r.take j).map textL).map fun x => ⟨x.toArray⟩) l x10 x11 r (r.length : Int) (j : Int) = style_Text.l0 (k - d - 1) (x3 ++ [⟨(partT r).toArray⟩]) l x10 (wrap64 (x11 + 1)) := by
  intro d
  induction d with
  | zero =>
    intro j k hj hk
    obtain ⟨k, rfl⟩ : ∃ m, k = m + 1 := ⟨k - 1, by omega⟩
    have e : r.take j = r := List.take_of_length_le (by omega)
    have hm : ∀ x ∈ r.map textL, x.length ≤ 20 := fun x hx => by
      obtain ⟨z, hz, rfl⟩ := List.mem_map.1 hx
      exact textL_le (hi z hz).2
    have hJ := join_is (r.map textL) [58] 20 hm (by omega) rfl (by simp; omega)
    rw [style_Text.l1, if_neg (by omega), e, show (⟨#[58]⟩ : ByteArray) = ⟨([58] : List UInt8).toArray⟩ from rfl, hJ, Option.bind_some, if_pos (by omega)]
    rfl
  | succ d ih =>
    intro j k hj hk
    obtain ⟨k, rfl⟩ : ∃ m, k = m + 1 := ⟨k - 1, by omega⟩
    have hjl : j < r.length := by omega
    have hw : wrap64 ((j : Int) + 1) = ((j + 1 : Nat) : Int) := by unfold wrap64; omega
    have hz := hi _ (List.getElem_mem hjl)
    have hrd : rd r (j : Int) = r[j] := by unfold rd; simp [List.getD, hjl]
    rw [style_Text.l1, if_pos (by omega), if_pos (by omega), if_pos (by omega), hrd, numText_is hz.1 hz.2, Option.bind_some, if_pos (by simp; omega), hw]
    have e : (((r.take j).map textL).map fun x => (⟨x.toArray⟩ : ByteArray)) ++ [⟨(textL r[j]).toArray⟩] = ((r.take (j + 1)).map textL).map fun x => (⟨x.toArray⟩ : ByteArray) := by
      rw [take_snoc_map textL r hjl]; simp
    rw [e, ih (j + 1) k (by omega) (by omega)]
    congr 1
    omega
theorem text_outer (l : List (List Int)) (hi : AllI l) (hl : Small l) : ∀ d i k, i + d = l.length → d * 110 + 10 ≤ k →
    style_Text.l0 k (((l.take i).map partT).map fun x => ⟨x.toArray⟩) l (l.length : Int) (i : Int) = some ⟨(textP l).toArray⟩ := by
  intro d
  induction d with
  | zero =>
    intro i k hid hk
    obtain ⟨k, rfl⟩ : ∃ m, k = m + 1 := ⟨k - 1, by omega⟩
    have e : l.take i = l := List.take_of_length_le (by omega)
    have hm : ∀ x ∈ l.map partT, x.length ≤ 2100 := fun x hx => by
      obtain ⟨r, hr, rfl⟩ := List.mem_map.1 hx
      have h1 := partT_le r (fun z hz => (hi r hr z hz).2)
      have h2 := hl.2 r hr
      omega
    have h100 := hl.1
    have hJ := join_is (l.map partT) [59] 2100 hm (by omega) rfl (by simp; omega)
    rw [style_Text.l0, if_neg (by omega), e, show (⟨#[59]⟩ : ByteArray) = ⟨([59] : List UInt8).toArray⟩ from rfl, hJ]
    rfl
  | succ d ih =>
    intro i k hid hk
    obtain ⟨k, rfl⟩ : ∃ m, k = m + 1 := ⟨k - 1, by omega⟩
    have hil : i < l.length := by omega
    have h100 := hl.1
    have hr := hl.2 _ (List.getElem_mem hil)
    have hw : wrap64 ((i : Int) + 1) = ((i + 1 : Nat) : Int) := by unfold wrap64; omega
    rw [style_Text.l0, if_pos (by omega), if_pos (by omega), if_pos (by omega), rd_row l i hil]
    have hin := text_inner l (((l.take i).map partT).map fun x => (⟨x.toArray⟩ : ByteArray)) (l.length : Int) (i : Int) l[i] (hi _ (List.getElem_mem hil)) hr (by simp; omega) l[i].length 0 k (by omega) (by omega)
    rw [show (([] : List ByteArray)) = (((l[i].take 0).map textL).map fun x => (⟨x.toArray⟩ : ByteArray)) by simp]
    rw [show (0 : Int) = ((0 : Nat) : Int) from rfl, hin, hw]
    have e : (((l.take i).map partT).map fun x => (⟨x.toArray⟩ : ByteArray)) ++ [⟨(partT l[i]).toArray⟩] = ((l.take (i + 1)).map partT).map fun x => (⟨x.toArray⟩ : ByteArray) := by
      rw [take_snoc_map partT l hil]; simp
    rw [e]
    exact ih (i + 1) _ (by omega) (by omega)
theorem Text_is (l : List (List Int)) (hi : AllI l) (hl : Small l) (k : Nat) (hk : 12000 ≤ k) : style_Text.f k l = some ⟨(textP l).toArray⟩ := by
  have h100 := hl.1
  have := text_outer l hi hl l.length 0 k (by omega) (by omega)
  simpa [style_Text.f] using this
def preT (l : List (List Int)) (i : Nat) : List UInt8 := Lib.join ((l.take i).map partT) [59]
theorem preT_le (l : List (List Int)) (hi : AllI l) (hl : Small l) (i : Nat) : (preT l i).length ≤ 220000 := by
  have h100 := hl.1
  have := join_le ((l.take i).map partT) [59] 2100 (fun x hx => by
    obtain ⟨r, hr, rfl⟩ := List.mem_map.1 hx
    have hr' := List.mem_of_mem_take hr
    have h1 := partT_le r (fun z hz => (hi r hr' z hz).2)
    have h2 := hl.2 r hr'
    omega)
  rw [List.length_map, List.length_take] at this
  have h3 : (2100 + 1) * min i l.length ≤ 2101 * 100 := Nat.mul_le_mul_left _ (by omega)
  unfold preT
  simp only [List.length_singleton] at this
  omega
theorem size_list (a : List UInt8) : (⟨a.toArray⟩ : ByteArray).size = a.length := by simp [ByteArray.size]
end Go.Proofs.YtopcleljecdkkaaDoor.G
end
section
namespace Go.Proofs.YtopcleljecdkkaaDoor.G
set_option linter.unusedVariables false
set_option linter.unusedSimpArgs false
open Go.RowKit Kit Go.Proofs.YtopcleljecdkkaaDoorW.PrintWords
def paramsV (s : St) : List (List Int) :=
  if mayL s.2.2.2.2.2.2.2.1 s.2.2.2.2.2.2.2.2.1 s.2.2.2.2.2.2.2.2.2 then paramsL s.1 s.2.1 s.2.2.1 s.2.2.2.1 s.2.2.2.2.1 s.2.2.2.2.2.1 s.2.2.2.2.2.2.1 s.2.2.2.2.2.2.2.1 s.2.2.2.2.2.2.2.2.1 s.2.2.2.2.2.2.2.2.2 else []
theorem Params_is (b0 b1 b2 b3 b4 b5 b6 : Bool) (u f b : Int) (hf : -9223372036854775808 ≤ f) (hb : -9223372036854775808 ≤ b) : style_Params.f b0 b1 b2 b3 b4 b5 b6 u f b = some (paramsV (b0, b1, b2, b3, b4, b5, b6, u, f, b)) := by
  unfold style_Params.f paramsV
  rw [may_is]
  cases h : mayL u f b with
  | true => rw [if_pos rfl, if_pos ⟨hf, hb⟩, if_pos rfl]
  | false => rw [if_neg (by decide), if_pos rfl, if_neg (by simp [h])]
theorem mark_len (c : Bool) (n : Int) : (markL c n).length ≤ 1 := by cases c <;> simp [markL]
theorem tint_len (n base : Int) : (tintL n base).length ≤ 6 := by
  unfold tintL
  repeat' split
  all_goals simp
theorem mem_mark {c : Bool} {n : Int} {r : List Int} (h : r ∈ markL c n) : r = [n] := by cases c <;> simp [markL] at h; exact h
theorem paramsV_rows (s : St) : ∀ r ∈ paramsV s, r.length ≤ 6 := by
  intro r hr
  unfold paramsV at hr
  split at hr
  · simp only [paramsL, List.mem_append] at hr
    rcases hr with (((((((((h | h) | h) | h) | h) | h) | h) | h) | h) | h) | h
    · simp at h; subst h; simp
    · rw [mem_mark h]; simp
    · rw [mem_mark h]; simp
    · rw [mem_mark h]; simp
    · unfold underL at h; repeat' split at h
      all_goals simp at h; try (subst h; simp)
    · rw [mem_mark h]; simp
    · rw [mem_mark h]; simp
    · rw [mem_mark h]; simp
    · rw [mem_mark h]; simp
    · unfold colourL at h; split at h <;> simp at h; subst h; exact tint_len _ _
    · unfold colourL at h; split at h <;> simp at h; subst h; exact tint_len _ _
  · cases hr
theorem paramsV_len (s : St) : (paramsV s).length ≤ 11 := by
  unfold paramsV
  split
  · have hu : (underL s.2.2.2.2.2.2.2.1).length ≤ 1 := by unfold underL; repeat' split
                                                          all_goals simp
    have hc : ∀ n b, (colourL n b).length ≤ 1 := fun n b => by unfold colourL; split <;> simp
    have h1 := hc s.2.2.2.2.2.2.2.2.1 30
    have h2 := hc s.2.2.2.2.2.2.2.2.2 40
    have m0 := mark_len s.1 1
    have m1 := mark_len s.2.1 2
    have m2 := mark_len s.2.2.1 3
    have m3 := mark_len s.2.2.2.1 5
    have m4 := mark_len s.2.2.2.2.1 7
    have m5 := mark_len s.2.2.2.2.2.1 8
    have m6 := mark_len s.2.2.2.2.2.2.1 9
    simp only [paramsL, List.length_append, List.length_singleton]
    omega
  · simp
theorem paramsV_small (s : St) : Small (paramsV s) := ⟨by have := paramsV_len s; omega, fun r hr => by have := paramsV_rows s r hr; omega⟩
theorem paramsV_in (s : St) : AllI (paramsV s) := by
  intro r hr z hz
  unfold paramsV at hr
  split at hr
  · rename_i hm
    simp only [mayL, colL, Bool.and_eq_true, decide_eq_true_eq] at hm
    have ht : ∀ n base : Int, -1 ≤ n → n < 16777472 → 0 ≤ base → base ≤ 100 → ∀ z ∈ tintL n base, -9223372036854775808 ≤ z ∧ z ≤ 9223372036854775807 := by
      intro n base h0 h1 h2 h3 z hz
      unfold tintL at hz
      repeat' split at hz
      all_goals simp at hz
      all_goals omega
    simp only [paramsL, List.mem_append] at hr
    rcases hr with (((((((((h | h) | h) | h) | h) | h) | h) | h) | h) | h) | h
    · simp at h; subst h; simp at hz; omega
    · rw [mem_mark h] at hz; simp at hz; omega
    · rw [mem_mark h] at hz; simp at hz; omega
    · rw [mem_mark h] at hz; simp at hz; omega
    · unfold underL at h
      repeat' split at h
      all_goals simp at h
      all_goals (subst h; simp at hz; omega)
    · rw [mem_mark h] at hz; simp at hz; omega
    · rw [mem_mark h] at hz; simp at hz; omega
    · rw [mem_mark h] at hz; simp at hz; omega
    · rw [mem_mark h] at hz; simp at hz; omega
    · unfold colourL at h; split at h <;> simp at h; subst h; exact ht _ _ (by omega) (by omega) (by decide) (by decide) z hz
    · unfold colourL at h; split at h <;> simp at h; subst h; exact ht _ _ (by omega) (by omega) (by decide) (by decide) z hz
  · cases hr
end Go.Proofs.YtopcleljecdkkaaDoor.G
end
section
namespace Go.Proofs.YtopcleljecdkkaaDoor.G
set_option linter.unusedVariables false
set_option linter.unusedSimpArgs false
open Go.RowKit Kit Go.Proofs.YtopcleljecdkkaaDoorW.PrintWords Go.Proofs.YtopcleljecdkkaaDoorW.PrintMore
theorem clamp_in (n : Int) : 0 ≤ clamp n ∧ clamp n ≤ 65535 := by unfold clamp mn mx; split <;> split <;> omega
def tx (n : Int) : ByteArray := ⟨(textL n).toArray⟩
theorem tx_size {n : Int} (h0 : 0 ≤ n) (h1 : n ≤ 65535) : (tx n).size ≤ 20 := by
  have := (textL_len h0 (by omega : n ≤ 9223372036854775807)).1
  rw [tx, size_list]; omega
def settV (x4 x5 x6 x7 x8 : Int) (s : St) (ask : ByteArray) : ByteArray :=
  if ask = ⟨#[109]⟩ then (if mayL s.2.2.2.2.2.2.2.1 s.2.2.2.2.2.2.2.2.1 s.2.2.2.2.2.2.2.2.2 = true then ⟨(textP (paramsV s)).toArray⟩ ++ ⟨#[109]⟩ else ⟨#[]⟩)
  else if ask = ⟨#[114]⟩ then tx (clamp x4) ++ ⟨#[59]⟩ ++ tx (clamp x5) ++ ⟨#[114]⟩
  else if ask = ⟨#[115]⟩ then tx (clamp x6) ++ ⟨#[59]⟩ ++ tx (clamp x7) ++ ⟨#[115]⟩
  else if ask = ⟨#[32, 113]⟩ then tx (clamp x8) ++ ⟨#[32, 113]⟩
  else if ask = ⟨#[34, 112]⟩ then ⟨#[54, 50, 59, 49]⟩ ++ ⟨#[34, 112]⟩
  else ⟨#[]⟩
def settN (d : ByteArray) : Int := if d = ⟨#[]⟩ then 0 else 1
theorem ne_nil {a c : ByteArray} (h : c.size ≠ 0) : ¬ (a ++ c = ⟨#[]⟩) := fun e => by
  have h2 := congrArg ByteArray.size e
  rw [ByteArray.size_append] at h2
  have h3 : (⟨#[]⟩ : ByteArray).size = 0 := rfl
  omega
theorem settN_app {a c : ByteArray} (h : c.size ≠ 0) : settN (a ++ c) = 1 := by unfold settN; rw [if_neg (ne_nil h)]
theorem one_is' (n : Int) : report_Setting_1.f n = some (tx (clamp n)) := by
  unfold report_Setting_1.f report_fact.f
  have h := clamp_in n
  rw [Option.bind_some]
  show (num_Text.f (clamp n)).bind _ = _
  rw [numText_is (by omega) (by omega), Option.bind_some]; rfl
theorem textP_len (s : St) : (textP (paramsV s)).length ≤ 220000 := by
  have h := preT_le (paramsV s) (paramsV_in s) (paramsV_small s) (paramsV s).length
  unfold preT at h
  rw [List.take_length] at h
  exact h
theorem setting_is (x0 x1 x2 x3 x4 x5 x6 x7 x8 : Int) (b0 b1 b2 b3 b4 b5 b6 : Bool) (u f b : Int) (ask : ByteArray) (hf : -9223372036854775808 ≤ f) (hb : -9223372036854775808 ≤ b) :
    report_Setting.f 12000 x0 x1 x2 x3 x4 x5 x6 x7 x8 b0 b1 b2 b3 b4 b5 b6 u f b ask = some (3, 0, [[settN (settV x4 x5 x6 x7 x8 (b0, b1, b2, b3, b4, b5, b6, u, f, b) ask)]], ⟨#[36]⟩, 114, settV x4 x5 x6 x7 x8 (b0, b1, b2, b3, b4, b5, b6, u, f, b) ask) := by
  unfold report_Setting.f settV
  by_cases c1 : ask = ⟨#[109]⟩
  · rw [if_pos c1, if_pos c1, may_is, Option.bind_some]
    cases h : mayL u f b with
    | false => rw [if_neg (by decide), if_neg (by simp [h])]; rfl
    | true =>
      rw [if_pos rfl, Params_is b0 b1 b2 b3 b4 b5 b6 u f b hf hb, Option.bind_some, Text_is _ (paramsV_in _) (paramsV_small _) 12000 (by omega), Option.bind_some]
      have hz : (⟨(textP (paramsV (b0, b1, b2, b3, b4, b5, b6, u, f, b))).toArray⟩ : ByteArray).size ≤ 1000000 := by rw [size_list]; have := textP_len (b0, b1, b2, b3, b4, b5, b6, u, f, b); omega
      rw [if_pos hz, if_pos (by simp [h]), settN_app (by decide)]
  rw [if_neg c1, if_neg c1]
  by_cases c2 : ask = ⟨#[114]⟩
  · have h1 := tx_size (clamp_in x4).1 (clamp_in x4).2
    have h2 := tx_size (clamp_in x5).1 (clamp_in x5).2
    rw [if_pos c2, if_pos c2, one_is', Option.bind_some, one_is', Option.bind_some, if_pos ⟨by omega, by omega⟩, settN_app (by decide)]
  rw [if_neg c2, if_neg c2]
  by_cases c3 : ask = ⟨#[115]⟩
  · have h1 := tx_size (clamp_in x6).1 (clamp_in x6).2
    have h2 := tx_size (clamp_in x7).1 (clamp_in x7).2
    rw [if_pos c3, if_pos c3, one_is', Option.bind_some, one_is', Option.bind_some, if_pos ⟨by omega, by omega⟩, settN_app (by decide)]
  rw [if_neg c3, if_neg c3]
  by_cases c4 : ask = ⟨#[32, 113]⟩
  · have h1 := tx_size (clamp_in x8).1 (clamp_in x8).2
    rw [if_pos c4, if_pos c4, one_is', Option.bind_some, if_pos (by omega), settN_app (by decide)]
  rw [if_neg c4, if_neg c4]
  by_cases c5 : ask = ⟨#[34, 112]⟩
  · rw [if_pos c5, if_pos c5, settN_app (by decide)]
  rw [if_neg c5, if_neg c5]
  rfl
end Go.Proofs.YtopcleljecdkkaaDoor.G
end
section
namespace Go.Proofs.YtopcleljecdkkaaDoor
set_option linter.unusedVariables false
set_option linter.unusedSimpArgs false
set_option maxRecDepth 100000
open Go.RowKit Kit Go.Proofs.YtopcleljecdkkaaDoorW.PrintWords G
attribute [local irreducible] wpList Calls
def settS (x4 x5 x6 x7 x8 : Int) (s : St) (ask : ByteArray) : Sq := ⟨3, 0, [[settN (settV x4 x5 x6 x7 x8 s ask)]], ⟨#[36]⟩, 114, settV x4 x5 x6 x7 x8 s ask⟩
section
variable (x0 x1 x2 x3 x4 x5 x6 x7 x8 : Int) (b0 b1 b2 b3 b4 b5 b6 : Bool) (u f b : Int) (ask : ByteArray) (p : Bool) {w : World}
theorem setting_tells (hT : Tab w) (hf : -9223372036854775808 ≤ f) (hb : -9223372036854775808 ≤ b) : Tells 13 #[scrV x0 x1 x2 x3 x4 x5 x6 x7 x8 b0 b1 b2 b3 b4 b5 b6 u f b, .string ask] (settS x4 x5 x6 x7 x8 (b0, b1, b2, b3, b4, b5, b6, u, f, b) ask) w := fun W hW =>
  (report_Setting.calls 12000 x0 x1 x2 x3 x4 x5 x6 x7 x8 b0 b1 b2 b3 b4 b5 b6 u f b ask _ _ _ _ _ _ W (Tab.below hT hW) (setting_is _ _ _ _ _ _ _ _ _ _ _ _ _ _ _ _ _ _ _ _ hf hb)).mono fun e w' ⟨v, h1, h2, h3⟩ => ⟨_, h1, ⟨v, rfl, h2⟩, h3⟩
end
end Go.Proofs.YtopcleljecdkkaaDoor
end
