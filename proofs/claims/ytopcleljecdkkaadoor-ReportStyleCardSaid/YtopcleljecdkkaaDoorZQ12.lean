/- Q: texts run together by shake.py: WWords KitO KitS WEqStruct PSt PuSa PTx PuSb PTj PuSc Gclavierref18a PuSd PuRa RpW RpS PuSf Geq23. -/
import Derived.ArgAppend
import Derived.Below
import Derived.BigQuiet
import Derived.ChangeOld
import Derived.ChangeSlices
import Derived.Deep.AppendLies
import Derived.Deep.CutBlock
import Derived.Deep.DeepCutAuto
import Derived.Deep.Draws
import Derived.Deep.LoopGhost
import Derived.Deep.Matrix
import Derived.Deep.OwnRows
import Derived.Deep.Quiet
import Derived.Deep.QuietTactic
import Derived.Deep.RegionHeld3
import Derived.Ground.Names2Prog
import Derived.Ground.SlgnProg
import Derived.KernelRfl
import Derived.Laws.AppendOwn
import Derived.Laws.AppendOwnNone
import Derived.Laws.BitsLemmas
import Derived.Laws.BytesArg
import Derived.Laws.Concat
import Derived.Laws.CopyRow
import Derived.Laws.IdiomCopy
import Derived.Laws.IdiomStrings
import Derived.Laws.MakeOwn
import Derived.Laws.OwnMore
import Derived.Laws.Rows
import Derived.Laws.Slices
import Derived.Laws.StructEq
import Derived.Laws.Tables
import Derived.Lib.AppendIntMem
import Derived.Lib.AppendStr
import Derived.Lib.ConvBytes
import Derived.Lib.Hide
import Derived.Lib.ItoaLen
import Derived.Lib.ItoaNum
import Derived.Lib.Join
import Derived.Lib.LaidTab
import Derived.Lib.Strings
import Derived.MapKept
import Derived.Maps.AppendAt
import Derived.OpenShut
import Derived.Orders
import Derived.OrdersHeld
import Derived.Outline
import Derived.OwnWalk
import Derived.ProofKit
import Derived.RowKit
import Derived.RowKit3
import Derived.Shelf.LaysM
import Derived.Shelf.Slices.Clone
import Derived.Shelf.SlicesE.Clone
import Derived.Shelf.Strconv.Itoa0
import Derived.Shelf.Strconv.Itoa1
import Derived.Shelf.Strconv.Itoa2
import Derived.Shelf.Strconv.Itoa3
import Derived.Shelf.Strings.Builder1
import Derived.Shelf.Strings.Builder2
import Derived.Shelf.Strings.Builder2Cap
import Derived.Shelf.Strings.BuilderCap
import Derived.Shelf.Strings.BuilderF
import Derived.Shelf.Strings.BuilderK
import Derived.Shelf.Strings.OnBuilder
import Derived.ShutString
import Derived.SizedLaws
import Derived.Still
import Derived.Tactics
import Derived.Test.YtopcleljecdkkaaDoorProg
import Derived.WalkKit
import Derived.WalkLawsBesides
import Derived.WalkSpells
import Derived.WideLaws
import Derived.Test.YtopcleljecdkkaaDoorZQ1
import Derived.Test.YtopcleljecdkkaaDoorZQ2
import Derived.Test.YtopcleljecdkkaaDoorZQ3
import Derived.Test.YtopcleljecdkkaaDoorZQ4
import Derived.Test.YtopcleljecdkkaaDoorZQ5
import Derived.Test.YtopcleljecdkkaaDoorZQ6
import Derived.Test.YtopcleljecdkkaaDoorZQ7
import Derived.Test.YtopcleljecdkkaaDoorZQ8
import Derived.Test.YtopcleljecdkkaaDoorZQ9
section
set_option linter.unusedVariables false
set_option linter.unusedSimpArgs false
namespace Go.Proofs.YtopcleljecdkkaaDoorW.PrintWords
open Go.RowKit
def NeRow (v v' : Value) : Prop := ∀ k, v.ownBlock = some k → v'.ownBlock ≠ some k
theorem ne_nil (v' : Value) : NeRow (.slice none 0 0) v' := fun k hk => by simp [Value.ownBlock] at hk
end Go.Proofs.YtopcleljecdkkaaDoorW.PrintWords
end
section
namespace Go.Proofs.YtopcleljecdkkaaDoor
open Go.ChangeShapes Go.WideShapes Go.ChangeAt Go.RowKit Go.Proofs.YtopcleljecdkkaaDoorW.PrintWords Kit
set_option linter.unusedVariables false
set_option maxRecDepth 100000
set_option linter.unusedSimpArgs false
theorem intIn {x : Int} (h : (Lit.int .i64 x).wf = true) : -9223372036854775808 ≤ x ∧ x ≤ 9223372036854775807 := by
  simp [Lit.wf, IntKind.min, IntKind.max, IntKind.signed, IntKind.bits] at h
  omega
end Go.Proofs.YtopcleljecdkkaaDoor
end
section
namespace Go.Proofs.YtopcleljecdkkaaDoor
open Go.ChangeShapes Go.WideShapes Go.ChangeAt Go.RowKit Go.Proofs.YtopcleljecdkkaaDoorW.PrintWords Kit
set_option linter.unusedVariables false
set_option maxRecDepth 100000
set_option linter.unusedSimpArgs false
def AllI (l : List (List Int)) : Prop := ∀ x ∈ l, ∀ z ∈ x, -9223372036854775808 ≤ z ∧ z ≤ 9223372036854775807
end Go.Proofs.YtopcleljecdkkaaDoor
end
section
namespace Go.Proofs.YtopcleljecdkkaaDoorW.PrintWords
open Go.RowKit
section
variable {P : Program} {d : Nat} {xs ys : Array Value} {f : Field} {fs : List Field} {a b : Value} {r s : Bool} {w : World}
theorem eqf_last (hn : (f.name == "_") = false) (ha : (part f.type xs f.offset).run P w = .ok a w) (hb : (part f.type ys f.offset).run P w = .ok b w) (he : (Op.equalIn d f.type a b).run P w = .ok r w) : (Op.eqFields d xs ys [f]).run P w = .ok r w := by
  have hn' : f.name ≠ "_" := by simpa using hn
  simp only [Op.eqFields, if_pos hn', Sem.run_bind, ha, hb, he, Result.andThen_ok]
  cases r <;> simp
theorem eqf_cons (hn : (f.name == "_") = false) (ha : (part f.type xs f.offset).run P w = .ok a w) (hb : (part f.type ys f.offset).run P w = .ok b w) (he : (Op.equalIn d f.type a b).run P w = .ok r w) (hr : (Op.eqFields d xs ys fs).run P w = .ok s w) : (Op.eqFields d xs ys (f :: fs)).run P w = .ok (r && s) w := by
  have hn' : f.name ≠ "_" := by simpa using hn
  rw [Op.eqFields]
  simp only [if_pos hn', Sem.run_bind, ha, hb, he, Result.andThen_ok]
  cases r
  · simp
  · simpa using hr
theorem eqA_of {t : TypeId} {fs : Array Field} (hu : P.underlying t = some (.struct fs)) (hp : P.stoodInHeld t = false) (h : (Op.eqFields d xs ys fs.toList).run P w = .ok r w) : (Op.equalIn (d + 1) t (.agg xs) (.agg ys)).run P w = .ok r w := by
  have hf : P.fieldsOf t = fs := by simp [Program.fieldsOf, hu]
  rw [run_equalIn_struct (P := P) w d t xs ys (by rw [hf]; exact hu) hp, hf]
  exact h
end
end Go.Proofs.YtopcleljecdkkaaDoorW.PrintWords
end
section
namespace Go.Proofs.YtopcleljecdkkaaDoor
set_option linter.unusedVariables false
set_option linter.unusedSimpArgs false
def byteB (n : Int) : Bool := decide (0 ≤ n) && decide (n < 256)
def splitI (l : List Int) : Int :=
  if l.length = 3 ∧ at_ l 1 = 5 ∧ byteB (at_ l 2) then at_ l 2
  else if l.length = 6 ∧ at_ l 1 = 2 ∧ byteB (at_ l 3) ∧ byteB (at_ l 4) ∧ byteB (at_ l 5) then 256 + at_ l 3 * 65536 + at_ l 4 * 256 + at_ l 5
  else -2
def saidI (l : List Int) (base : Int) : Int :=
  let n := at_ l 0 - base
  if 0 ≤ n ∧ n < 8 then n else if n = 8 then splitI l else if n = 9 then -1 else if 60 ≤ n ∧ n < 68 then n - 52 else -2
abbrev St := Bool × Bool × Bool × Bool × Bool × Bool × Bool × Int × Int × Int
def oneL (b0 b1 b2 b3 b4 b5 b6 : Bool) (u f b : Int) (l : List Int) : St :=
  if l.length = 0 ∨ at_ l 0 ≤ 0 then (false, false, false, false, false, false, false, 0, -1, -1)
  else if at_ l 0 = 4 then
    (b0, b1, b2, b3, b4, b5, b6, (if 1 < l.length then (if 0 ≤ at_ l 1 ∧ at_ l 1 ≤ 5 then at_ l 1 else u) else 1), f, b)
  else
    let n := at_ l 0
    (b0 || n == 1, b1 || n == 2, b2 || n == 3, b3 || n == 5, b4 || n == 7, b5 || n == 8, b6 || n == 9, u, (if saidI l 30 = -2 then f else saidI l 30), (if saidI l 40 = -2 then b else saidI l 40))
end Go.Proofs.YtopcleljecdkkaaDoor
end
section
namespace Go.Proofs.YtopcleljecdkkaaDoor.G
set_option linter.unusedVariables false
set_option linter.unusedSimpArgs false
open Go.RowKit Kit Go.Proofs.YtopcleljecdkkaaDoorW.PrintWords
def InI (l : List Int) : Prop := ∀ z ∈ l, -9223372036854775808 ≤ z ∧ z ≤ 9223372036854775807
end Go.Proofs.YtopcleljecdkkaaDoor.G
end
section
namespace Go.Proofs.YtopcleljecdkkaaDoor
set_option linter.unusedVariables false
set_option linter.unusedSimpArgs false
def foldF (m : Int) (l : List UInt8) : Int := l.foldl nextF m
theorem foldF_append (m : Int) (a b : List UInt8) : foldF m (a ++ b) = foldF (foldF m a) b := by simp [foldF]
theorem digit_toNat {d : Nat} (h : d < 10) : (UInt8.ofNat (48 + d)).toNat = 48 + d := by
  rw [UInt8.toNat_ofNat']
  omega
theorem figU_digit {d : Nat} (h : d < 10) : figU (UInt8.ofNat (48 + d)) = true := by
  simp only [figU, digit_toNat h, Bool.and_eq_true, decide_eq_true_eq]
  omega
theorem decDigits_small {n : Nat} (h : n < 10) : Lib.decDigits n = [UInt8.ofNat (48 + n)] := by rw [Lib.decDigits, dif_pos h]
theorem decDigits_big {n : Nat} (h : ¬ n < 10) : Lib.decDigits n = Lib.decDigits (n / 10) ++ [UInt8.ofNat (48 + n % 10)] := by rw [Lib.decDigits, dif_neg h]
theorem decDigits_figs (n : Nat) : ∀ c ∈ Lib.decDigits n, figU c = true := by
  induction n using Nat.strongRecOn with
  | _ n ih =>
    intro c hc
    by_cases h : n < 10
    · rw [decDigits_small h] at hc
      rw [List.mem_singleton.1 hc]
      exact figU_digit h
    · rw [decDigits_big h] at hc
      rcases List.mem_append.1 hc with h1 | h1
      · exact ih (n / 10) (by omega) c h1
      · rw [List.mem_singleton.1 h1]
        exact figU_digit (by omega)
theorem foldF_dec (n : Nat) : foldF 0 (Lib.decDigits n) = min (n : Int) 1114111 := by
  induction n using Nat.strongRecOn with
  | _ n ih =>
    by_cases h : n < 10
    · rw [decDigits_small h]
      simp only [foldF, List.foldl_cons, List.foldl_nil, nextF, digit_toNat h]
      omega
    · rw [decDigits_big h, foldF_append, ih (n / 10) (by omega)]
      simp only [foldF, List.foldl_cons, List.foldl_nil, nextF, digit_toNat (show n % 10 < 10 by omega)]
      omega
theorem textL_of {n : Int} (h : 0 ≤ n) : textL n = Lib.decDigits n.toNat := by unfold textL; rw [if_neg (by omega)]
theorem textL_figs (n : Int) : ∀ c ∈ textL n, figU c = true := by
  unfold textL
  split
  · intro c hc; cases hc
  · exact decDigits_figs _
theorem foldF_text {n : Int} (h : 0 ≤ n) : foldF 0 (textL n) = min n 1114111 := by
  rw [textL_of h, foldF_dec]
  omega
theorem textL_inj {a b : Int} (ha : 0 ≤ a) (hb : 0 ≤ b) (la : a ≤ 1114111) (lb : b ≤ 1114111) (h : textL a = textL b) : a = b := by
  have h1 := foldF_text ha
  rw [h, foldF_text hb] at h1
  omega
theorem decDigits_mono (a : Nat) : ∀ b, a ≤ b → (Lib.decDigits a).length ≤ (Lib.decDigits b).length := by
  induction a using Nat.strongRecOn with
  | _ a ih =>
    intro b hab
    by_cases h : a < 10
    · rw [decDigits_small h]
      rw [Lib.decDigits_length]
      exact Lib.nDigits_pos b
    · rw [decDigits_big h, decDigits_big (show ¬ b < 10 by omega)]
      have := ih (a / 10) (by omega) (b / 10) (by omega)
      simp only [List.length_append, List.length_singleton]
      omega
theorem textL_len {a : Int} (h0 : 0 ≤ a) (h : a ≤ 9223372036854775807) : (textL a).length ≤ 20 ∧ 1 ≤ (textL a).length := by
  rw [textL_of h0, Lib.decDigits_length]
  exact ⟨by
    have : Lib.nDigits a.toNat ≤ 20 := by
      rcases Nat.lt_or_ge 20 (Lib.nDigits a.toNat) with h1 | h1
      · exfalso
        have h2 := Lib.decDigits_length a.toNat
        have h3 : (Lib.decDigits a.toNat).length ≤ (Lib.decDigits 9223372036854775807).length := decDigits_mono _ _ (by omega)
        rw [Lib.decDigits_length, Lib.decDigits_length] at h3
        have h4 : Lib.nDigits 9223372036854775807 = 18 + 1 := Lib.nDigits_unique 18 _ (by decide) (by decide)
        omega
      · exact h1
    exact this, Lib.nDigits_pos _⟩
end Go.Proofs.YtopcleljecdkkaaDoor
end
section
namespace Go.Proofs.YtopcleljecdkkaaDoor.G
set_option linter.unusedVariables false
set_option linter.unusedSimpArgs false
open Go.RowKit Kit Go.Proofs.YtopcleljecdkkaaDoorW.PrintWords
def oneS (s : St) (l : List Int) : St := oneL s.1 s.2.1 s.2.2.1 s.2.2.2.1 s.2.2.2.2.1 s.2.2.2.2.2.1 s.2.2.2.2.2.2.1 s.2.2.2.2.2.2.2.1 s.2.2.2.2.2.2.2.2.1 s.2.2.2.2.2.2.2.2.2 l
def foldS (s : St) (l : List (List Int)) : St := l.foldl oneS s
theorem rd_row (l : List (List Int)) (i : Nat) (h : i < l.length) : rd_L1 l (i : Int) = l[i] := by
  unfold rd_L1
  simp [List.getD, h]
end Go.Proofs.YtopcleljecdkkaaDoor.G
end
section
namespace Go.Proofs.YtopcleljecdkkaaDoor
set_option linter.unusedVariables false
set_option linter.unusedSimpArgs false
theorem lens_le (xs : List (List UInt8)) (m : Nat) (h : ∀ x ∈ xs, x.length ≤ m) : Lib.lens xs ≤ m * xs.length := by
  induction xs with
  | nil => simp [Lib.lens]
  | cons x r ih =>
    have h1 := ih (fun y hy => h y (by simp [hy]))
    have h2 := h x (by simp)
    simp only [Lib.lens, List.map_cons, List.sum_cons, List.length_cons] at h1 ⊢
    rw [Nat.mul_succ]
    omega
theorem join_le (xs : List (List UInt8)) (sep : List UInt8) (m : Nat) (h : ∀ x ∈ xs, x.length ≤ m) : (Lib.join xs sep).length ≤ (m + sep.length) * xs.length := by
  cases xs with
  | nil => simp [Lib.join_nil]
  | cons x r =>
    have h1 := lens_le (x :: r) m h
    rw [Lib.join_length]
    have h2 : sep.length * r.length ≤ sep.length * (x :: r).length := Nat.mul_le_mul_left _ (by simp)
    rw [Nat.add_mul]
    omega
def partT (r : List Int) : List UInt8 := Lib.join (r.map textL) [58]
def textP (l : List (List Int)) : List UInt8 := Lib.join (l.map partT) [59]
theorem textL_le {n : Int} (h : n ≤ 9223372036854775807) : (textL n).length ≤ 20 := by
  by_cases h0 : 0 ≤ n
  · exact (textL_len h0 h).1
  · unfold textL; rw [if_pos (by omega)]; simp
theorem partT_le (r : List Int) (h : ∀ z ∈ r, z ≤ 9223372036854775807) : (partT r).length ≤ 21 * r.length := by
  have := join_le (r.map textL) [58] 20 (fun x hx => by obtain ⟨z, hz, rfl⟩ := List.mem_map.1 hx; exact textL_le (h z hz))
  simpa [partT] using this
theorem take_snoc_map {α β : Type} (f : α → β) (l : List α) {i : Nat} (h : i < l.length) : (l.take (i + 1)).map f = (l.take i).map f ++ [f l[i]] := by
  rw [List.take_succ_eq_append_getElem h, List.map_append]
  rfl
end Go.Proofs.YtopcleljecdkkaaDoor
end
section
namespace Go.Proofs.YtopcleljecdkkaaDoor.G
set_option linter.unusedVariables false
set_option linter.unusedSimpArgs false
open Go.RowKit Kit Go.Proofs.YtopcleljecdkkaaDoorW.PrintWords
def Small (l : List (List Int)) : Prop := l.length ≤ 100 ∧ ∀ r ∈ l, r.length ≤ 100
theorem numText_is {n : Int} (h0 : -9223372036854775808 ≤ n) (h1 : n ≤ 9223372036854775807) : num_Text.f n = some ⟨(textL n).toArray⟩ := by unfold num_Text.f; rw [if_pos ⟨h0, h1⟩]
theorem join_is (xs : List (List UInt8)) (sep : List UInt8) (m : Nat) (h : ∀ x ∈ xs, x.length ≤ m) (hm : m ≤ 100000) (hs : sep.length = 1) (hx : xs.length ≤ 1000) : strings_Join.f (xs.map fun x => ⟨x.toArray⟩) ⟨sep.toArray⟩ = some ⟨(Lib.join xs sep).toArray⟩ := by
  unfold strings_Join.f
  have e : (xs.map fun x => (⟨x.toArray⟩ : ByteArray)).map (·.data.toList) = xs := by
    rw [List.map_map]
    conv => rhs; rw [← List.map_id xs]
    rfl
  have hb := join_le xs sep m h
  rw [e]
  rw [if_pos]
  refine ⟨by rw [List.length_map]; omega, ?_⟩
  show (Lib.join xs sep).length ≤ _
  have : (m + sep.length) * xs.length ≤ 100001 * 1000 := Nat.mul_le_mul (by omega) hx
  omega
theorem text_inner (l : List (List Int)) (x3 : List ByteArray) (x10 x11 : Int) (r : List Int) (hi : InI r) (hr : r.length ≤ 100) (hx3 : x3.length ≤ 1000) : ∀ d j k, j + d = r.length → d < k →
    style_Text.l1 k x3 (((r.take j).map textL).map fun x => ⟨x.toArray⟩) l x10 x11 r (r.length : Int) (j : Int) = style_Text.l0 (k - d - 1) (x3 ++ [⟨(partT r).toArray⟩]) l x10 (wrap64 (x11 + 1)) := by
  intro d
  induction d with
  | zero =>
    intro j k hj hk
    obtain ⟨k, rfl⟩ : ∃ m, k = m + 1 := ⟨k - 1, by omega⟩
    have e : r.take j = r := List.take_of_length_le (by omega)
    have hm : ∀ x ∈ r.map textL, x.length ≤ 20 := fun x hx => by
      obtain ⟨z, hz, rfl⟩ := List.mem_map.1 hx
      exact textL_le (hi z hz).2
    have hJ := join_is (r.map textL) [58] 20 hm (by omega) rfl (by simp; omega)
    rw [style_Text.l1, if_neg (by omega), e, show (⟨#[58]⟩ : ByteArray) = ⟨([58] : List UInt8).toArray⟩ from rfl, hJ, Option.bind_some, if_pos (by omega)]
    rfl
  | succ d ih =>
    intro j k hj hk
    obtain ⟨k, rfl⟩ : ∃ m, k = m + 1 := ⟨k - 1, by omega⟩
    have hjl : j < r.length := by omega
    have hw : wrap64 ((j : Int) + 1) = ((j + 1 : Nat) : Int) := by unfold wrap64; omega
    have hz := hi _ (List.getElem_mem hjl)
    have hrd : rd r (j : Int) = r[j] := by unfold rd; simp [List.getD, hjl]
    rw [style_Text.l1, if_pos (by omega), if_pos (by omega), if_pos (by omega), hrd, numText_is hz.1 hz.2, Option.bind_some, if_pos (by simp; omega), hw]
    have e : (((r.take j).map textL).map fun x => (⟨x.toArray⟩ : ByteArray)) ++ [⟨(textL r[j]).toArray⟩] = ((r.take (j + 1)).map textL).map fun x => (⟨x.toArray⟩ : ByteArray) := by
      rw [take_snoc_map textL r hjl]; simp
    rw [e, ih (j + 1) k (by omega) (by omega)]
    congr 1
    omega
theorem text_outer (l : List (List Int)) (hi : AllI l) (hl : Small l) : ∀ d i k, i + d = l.length → d * 110 + 10 ≤ k →
    style_Text.l0 k (((l.take i).map partT).map fun x => ⟨x.toArray⟩) l (l.length : Int) (i : Int) = some ⟨(textP l).toArray⟩ := by
  intro d
  induction d with
  | zero =>
    intro i k hid hk
    obtain ⟨k, rfl⟩ : ∃ m, k = m + 1 := ⟨k - 1, by omega⟩
    have e : l.take i = l := List.take_of_length_le (by omega)
    have hm : ∀ x ∈ l.map partT, x.length ≤ 2100 := fun x hx => by
      obtain ⟨r, hr, rfl⟩ := List.mem_map.1 hx
      have h1 := partT_le r (fun z hz => (hi r hr z hz).2)
      have h2 := hl.2 r hr
      omega
    have h100 := hl.1
    have hJ := join_is (l.map partT) [59] 2100 hm (by omega) rfl (by simp; omega)
    rw [style_Text.l0, if_neg (by omega), e, show (⟨#[59]⟩ : ByteArray) = ⟨([59] : List UInt8).toArray⟩ from rfl, hJ]
    rfl
  | succ d ih =>
    intro i k hid hk
    obtain ⟨k, rfl⟩ : ∃ m, k = m + 1 := ⟨k - 1, by omega⟩
    have hil : i < l.length := by omega
    have h100 := hl.1
    have hr := hl.2 _ (List.getElem_mem hil)
    have hw : wrap64 ((i : Int) + 1) = ((i + 1 : Nat) : Int) := by unfold wrap64; omega
    rw [style_Text.l0, if_pos (by omega), if_pos (by omega), if_pos (by omega), rd_row l i hil]
    have hin := text_inner l (((l.take i).map partT).map fun x => (⟨x.toArray⟩ : ByteArray)) (l.length : Int) (i : Int) l[i] (hi _ (List.getElem_mem hil)) hr (by simp; omega) l[i].length 0 k (by omega) (by omega)
    rw [show (([] : List ByteArray)) = (((l[i].take 0).map textL).map fun x => (⟨x.toArray⟩ : ByteArray)) by simp]
    rw [show (0 : Int) = ((0 : Nat) : Int) from rfl, hin, hw]
    have e : (((l.take i).map partT).map fun x => (⟨x.toArray⟩ : ByteArray)) ++ [⟨(partT l[i]).toArray⟩] = ((l.take (i + 1)).map partT).map fun x => (⟨x.toArray⟩ : ByteArray) := by
      rw [take_snoc_map partT l hil]; simp
    rw [e]
    exact ih (i + 1) _ (by omega) (by omega)
theorem Text_is (l : List (List Int)) (hi : AllI l) (hl : Small l) (k : Nat) (hk : 12000 ≤ k) : style_Text.f k l = some ⟨(textP l).toArray⟩ := by
  have h100 := hl.1
  have := text_outer l hi hl l.length 0 k (by omega) (by omega)
  simpa [style_Text.f] using this
def preT (l : List (List Int)) (i : Nat) : List UInt8 := Lib.join ((l.take i).map partT) [59]
theorem preT_le (l : List (List Int)) (hi : AllI l) (hl : Small l) (i : Nat) : (preT l i).length ≤ 220000 := by
  have h100 := hl.1
  have := join_le ((l.take i).map partT) [59] 2100 (fun x hx => by
    obtain ⟨r, hr, rfl⟩ := List.mem_map.1 hx
    have hr' := List.mem_of_mem_take hr
    have h1 := partT_le r (fun z hz => (hi r hr' z hz).2)
    have h2 := hl.2 r hr'
    omega)
  rw [List.length_map, List.length_take] at this
  have h3 : (2100 + 1) * min i l.length ≤ 2101 * 100 := Nat.mul_le_mul_left _ (by omega)
  unfold preT
  simp only [List.length_singleton] at this
  omega
theorem size_list (a : List UInt8) : (⟨a.toArray⟩ : ByteArray).size = a.length := by simp [ByteArray.size]
end Go.Proofs.YtopcleljecdkkaaDoor.G
end
section
namespace Go.Proofs.YtopcleljecdkkaaDoor.G
open Go.RowKit Go.Proofs.YtopcleljecdkkaaDoorW.PrintWords Go.Proofs.YtopcleljecdkkaaDoorW.PrintLast Go.Proofs.YtopcleljecdkkaaDoorW.PrintMore
attribute [local go_sem] max2_int min2_int max_two min_two max_three min_three max_four min_four
set_option linter.unusedVariables false
set_option linter.unusedSimpArgs false
def clavierref18_colour.f (a0 : Int) : Option (Bool) := if a0 ≥ (-1) then (some (decide (a0 < 16777472))) else (some false)
set_option maxHeartbeats 8000000 in
set_option maxRecDepth 100000 in
theorem clavierref18_colour.calls (a0 : Int) (r : Bool) (w : World) (h : clavierref18_colour.f a0 = some r) :
    Calls Tryd.prog 44 #[.int .i64 a0] w fun e w' => e = .returned (.bool r) ∧ Drawn0 w w' := by
  have H : (if a0 ≥ (-1) then (some (decide (a0 < 16777472))) else (some false)) = some r := h
  clear h
  by_cases c2 : a0 ≥ (-1)
  · rw [if_pos c2] at H
    have c2b0 : decide ((-1) ≤ a0) = true := decide_eq_true c2
    clear c2
    obtain rfl := Option.some.inj H
    go_enter Tryd.func44, Tryd.ntmps44
    go_wp2
    go_ret
    exact ⟨by first | rfl | (simp; done) | (simp [*]; done), by repeat (first | exact Drawn0.refl _ | apply Drawn0.step)⟩
  · rw [if_neg c2] at H
    have c2b0 : decide ((-1) ≤ a0) = false := decide_eq_false c2
    clear c2
    obtain rfl := Option.some.inj H
    go_enter Tryd.func44, Tryd.ntmps44
    go_wp2
    go_ret
    exact ⟨by first | rfl | (simp; done) | (simp [*]; done), by repeat (first | exact Drawn0.refl _ | apply Drawn0.step)⟩
def clavierref18_May.f (a0_0 : Bool) (a0_1 : Bool) (a0_2 : Bool) (a0_3 : Bool) (a0_4 : Bool) (a0_5 : Bool) (a0_6 : Bool) (a0_7 : Int) (a0_8 : Int) (a0_9 : Int) : Option (Bool) := if a0_7 ≥ 0 then (if a0_7 ≤ 5 then ((clavierref18_colour.f a0_8).bind fun t256 => (if t256 = true then ((clavierref18_colour.f a0_9).bind fun t257 => (some t257)) else (some false))) else (some false)) else (some false)
set_option maxHeartbeats 8000000 in
set_option maxRecDepth 100000 in
theorem clavierref18_May.calls (a0_0 : Bool) (a0_1 : Bool) (a0_2 : Bool) (a0_3 : Bool) (a0_4 : Bool) (a0_5 : Bool) (a0_6 : Bool) (a0_7 : Int) (a0_8 : Int) (a0_9 : Int) (r : Bool) (w : World) (h : clavierref18_May.f a0_0 a0_1 a0_2 a0_3 a0_4 a0_5 a0_6 a0_7 a0_8 a0_9 = some r) :
    Calls Tryd.prog 15 #[.agg #[.bool a0_0, .bool a0_1, .bool a0_2, .bool a0_3, .bool a0_4, .bool a0_5, .bool a0_6, .int .i64 a0_7, .int .i64 a0_8, .int .i64 a0_9]] w fun e w' => e = .returned (.bool r) ∧ Below w.heap.size w w' := by
  have hu23 := Tryd.underlying23
  have HB := Aside0.mk (Below.refl w.heap.size w)
  have H : (if a0_7 ≥ 0 then (if a0_7 ≤ 5 then ((clavierref18_colour.f a0_8).bind fun t256 => (if t256 = true then ((clavierref18_colour.f a0_9).bind fun t257 => (some t257)) else (some false))) else (some false)) else (some false)) = some r := h
  clear h
  by_cases c2 : a0_7 ≥ 0
  · rw [if_pos c2] at H
    have c2b0 : decide (0 ≤ a0_7) = true := decide_eq_true c2
    clear c2
    by_cases c3 : a0_7 ≤ 5
    · rw [if_pos c3] at H
      have c3b0 : decide (a0_7 ≤ 5) = true := decide_eq_true c3
      clear c3
      replace H := Option.bind_eq_some_iff.mp H
      obtain ⟨t256, A40, H⟩ := H
      replace H : (if t256 = true then ((clavierref18_colour.f a0_9).bind fun t257 => (some t257)) else (some false)) = some r := H
      have A4 := Aside0.mk A40
      clear A40
      by_cases c5 : t256 = true
      · subst c5
        have H1 : ((clavierref18_colour.f a0_9).bind fun t257 => (some t257)) = some r := by rw [if_pos rfl] at H; exact H
        clear H
        have H := H1
        clear H1
        replace H := Option.bind_eq_some_iff.mp H
        obtain ⟨t257, A60, H⟩ := H
        replace H : (some t257) = some r := H
        have A6 := Aside0.mk A60
        clear A60
        obtain rfl := Option.some.inj H
        go_enter Tryd.func15, Tryd.ntmps15
        go_wp2_with (first | ((with_reducible refine gate_dst (N := 1) rfl ?_); refine box_event ?hg (N := 1) ?hd (cs := #[.bool a0_0, .bool a0_1, .bool a0_2, .bool a0_3, .bool a0_4, .bool a0_5, .bool a0_6, .int .i64 a0_7, .int .i64 a0_8, .int .i64 a0_9]) (t := 23) ?hr ?_; (case hd => rfl); (case hg => rfl); (case hr => first | (go_simp; done) | (go_simp; rfl)); intro gb255 hg w7 hbox hb; have n0_ := Aside0.mk (below_step (by repeat (first | (with_reducible first | exact HB.out | apply below_alloc | apply pw_below_drewN | apply below_drew1) | exact HB.out)) hb); have n1_ := Aside0.mk (hbox); have n2_ := Aside0.mk ((by rw [hg]; exact (below_size (by repeat (first | (with_reducible first | exact HB.out | apply below_alloc | apply pw_below_drewN | apply below_drew1) | exact HB.out))) : w.heap.size ≤ gb255)); have n3_ := Aside0.mk ((by rw [hg]; exact (below_size (by repeat (first | (with_reducible first | exact HB.out | apply below_alloc | apply pw_below_drewN | apply below_drew1) | exact HB.out))) : w.heap.size ≤ gb255)); clear HB; have HB := n0_; have BK255 := n1_; have GW255 := n2_; have GE255 := n3_; clear n0_ n1_ n2_ n3_; clear hb hbox hg; have hcz8_0 : w7.cell? ⟨gb255, 0, none⟩ = some (.bool a0_0) := (blk_cell BK255.out 0).trans rfl; have hcz8_1 : w7.cell? ⟨gb255, 1, none⟩ = some (.bool a0_1) := (blk_cell BK255.out 1).trans rfl; have hcz8_2 : w7.cell? ⟨gb255, 2, none⟩ = some (.bool a0_2) := (blk_cell BK255.out 2).trans rfl; have hcz8_3 : w7.cell? ⟨gb255, 3, none⟩ = some (.bool a0_3) := (blk_cell BK255.out 3).trans rfl; have hcz8_4 : w7.cell? ⟨gb255, 4, none⟩ = some (.bool a0_4) := (blk_cell BK255.out 4).trans rfl; have hcz8_5 : w7.cell? ⟨gb255, 5, none⟩ = some (.bool a0_5) := (blk_cell BK255.out 5).trans rfl; have hcz8_6 : w7.cell? ⟨gb255, 6, none⟩ = some (.bool a0_6) := (blk_cell BK255.out 6).trans rfl; have hcz8_7 : w7.cell? ⟨gb255, 7, none⟩ = some (.int .i64 a0_7) := (blk_cell BK255.out 7).trans rfl; have hcz8_8 : w7.cell? ⟨gb255, 8, none⟩ = some (.int .i64 a0_8) := (blk_cell BK255.out 8).trans rfl; have hcz8_9 : w7.cell? ⟨gb255, 9, none⟩ = some (.int .i64 a0_9) := (blk_cell BK255.out 9).trans rfl; have hfz8_0 := blk_frozen BK255.out 0; have hfz8_1 := blk_frozen BK255.out 1; have hfz8_2 := blk_frozen BK255.out 2; have hfz8_3 := blk_frozen BK255.out 3; have hfz8_4 := blk_frozen BK255.out 4; have hfz8_5 := blk_frozen BK255.out 5; have hfz8_6 := blk_frozen BK255.out 6; have hfz8_7 := blk_frozen BK255.out 7; have hfz8_8 := blk_frozen BK255.out 8; have hfz8_9 := blk_frozen BK255.out 9) | (go_at_call 44; (with_reducible refine (clavierref18_colour.calls a0_8 true _ A4.out).mono ?_); rintro e w' ⟨rfl, ⟨nd, rfl⟩⟩) | (go_at_call 44; (with_reducible refine (clavierref18_colour.calls a0_9 t257 _ A6.out).mono ?_); rintro e w' ⟨rfl, ⟨nd, rfl⟩⟩))
        go_ret
        exact ⟨by first | rfl | (simp [errW_none, errW_some] <;> rfl) | (simp [*, errW_none, errW_some] <;> rfl), by repeat (first | (with_reducible first | exact HB.out | apply below_alloc | apply pw_below_drewN | apply below_drew1 | refine below_set ?_ GE255.out) | exact HB.out)⟩
      · replace c5 := Bool.eq_false_iff.mpr c5
        subst c5
        have H1 : (some false) = some r := by rw [if_neg (show ¬ (false = true) by decide)] at H; exact H
        clear H
        have H := H1
        clear H1
        obtain rfl := Option.some.inj H
        go_enter Tryd.func15, Tryd.ntmps15
        go_wp2_with (first | ((with_reducible refine gate_dst (N := 1) rfl ?_); refine box_event ?hg (N := 1) ?hd (cs := #[.bool a0_0, .bool a0_1, .bool a0_2, .bool a0_3, .bool a0_4, .bool a0_5, .bool a0_6, .int .i64 a0_7, .int .i64 a0_8, .int .i64 a0_9]) (t := 23) ?hr ?_; (case hd => rfl); (case hg => rfl); (case hr => first | (go_simp; done) | (go_simp; rfl)); intro gb255 hg w9 hbox hb; have n0_ := Aside0.mk (below_step (by repeat (first | (with_reducible first | exact HB.out | apply below_alloc | apply pw_below_drewN | apply below_drew1) | exact HB.out)) hb); have n1_ := Aside0.mk (hbox); have n2_ := Aside0.mk ((by rw [hg]; exact (below_size (by repeat (first | (with_reducible first | exact HB.out | apply below_alloc | apply pw_below_drewN | apply below_drew1) | exact HB.out))) : w.heap.size ≤ gb255)); have n3_ := Aside0.mk ((by rw [hg]; exact (below_size (by repeat (first | (with_reducible first | exact HB.out | apply below_alloc | apply pw_below_drewN | apply below_drew1) | exact HB.out))) : w.heap.size ≤ gb255)); clear HB; have HB := n0_; have BK255 := n1_; have GW255 := n2_; have GE255 := n3_; clear n0_ n1_ n2_ n3_; clear hb hbox hg; have hcz10_0 : w9.cell? ⟨gb255, 0, none⟩ = some (.bool a0_0) := (blk_cell BK255.out 0).trans rfl; have hcz10_1 : w9.cell? ⟨gb255, 1, none⟩ = some (.bool a0_1) := (blk_cell BK255.out 1).trans rfl; have hcz10_2 : w9.cell? ⟨gb255, 2, none⟩ = some (.bool a0_2) := (blk_cell BK255.out 2).trans rfl; have hcz10_3 : w9.cell? ⟨gb255, 3, none⟩ = some (.bool a0_3) := (blk_cell BK255.out 3).trans rfl; have hcz10_4 : w9.cell? ⟨gb255, 4, none⟩ = some (.bool a0_4) := (blk_cell BK255.out 4).trans rfl; have hcz10_5 : w9.cell? ⟨gb255, 5, none⟩ = some (.bool a0_5) := (blk_cell BK255.out 5).trans rfl; have hcz10_6 : w9.cell? ⟨gb255, 6, none⟩ = some (.bool a0_6) := (blk_cell BK255.out 6).trans rfl; have hcz10_7 : w9.cell? ⟨gb255, 7, none⟩ = some (.int .i64 a0_7) := (blk_cell BK255.out 7).trans rfl; have hcz10_8 : w9.cell? ⟨gb255, 8, none⟩ = some (.int .i64 a0_8) := (blk_cell BK255.out 8).trans rfl; have hcz10_9 : w9.cell? ⟨gb255, 9, none⟩ = some (.int .i64 a0_9) := (blk_cell BK255.out 9).trans rfl; have hfz10_0 := blk_frozen BK255.out 0; have hfz10_1 := blk_frozen BK255.out 1; have hfz10_2 := blk_frozen BK255.out 2; have hfz10_3 := blk_frozen BK255.out 3; have hfz10_4 := blk_frozen BK255.out 4; have hfz10_5 := blk_frozen BK255.out 5; have hfz10_6 := blk_frozen BK255.out 6; have hfz10_7 := blk_frozen BK255.out 7; have hfz10_8 := blk_frozen BK255.out 8; have hfz10_9 := blk_frozen BK255.out 9) | (go_at_call 44; (with_reducible refine (clavierref18_colour.calls a0_8 false _ A4.out).mono ?_); rintro e w' ⟨rfl, ⟨nd, rfl⟩⟩))
        go_ret
        exact ⟨by first | rfl | (simp [errW_none, errW_some] <;> rfl) | (simp [*, errW_none, errW_some] <;> rfl), by repeat (first | (with_reducible first | exact HB.out | apply below_alloc | apply pw_below_drewN | apply below_drew1 | refine below_set ?_ GE255.out) | exact HB.out)⟩
    · rw [if_neg c3] at H
      have c3b0 : decide (a0_7 ≤ 5) = false := decide_eq_false c3
      clear c3
      obtain rfl := Option.some.inj H
      go_enter Tryd.func15, Tryd.ntmps15
      go_wp2_with (first | ((with_reducible refine gate_dst (N := 1) rfl ?_); refine box_event ?hg (N := 1) ?hd (cs := #[.bool a0_0, .bool a0_1, .bool a0_2, .bool a0_3, .bool a0_4, .bool a0_5, .bool a0_6, .int .i64 a0_7, .int .i64 a0_8, .int .i64 a0_9]) (t := 23) ?hr ?_; (case hd => rfl); (case hg => rfl); (case hr => first | (go_simp; done) | (go_simp; rfl)); intro gb255 hg w11 hbox hb; have n0_ := Aside0.mk (below_step (by repeat (first | (with_reducible first | exact HB.out | apply below_alloc | apply pw_below_drewN | apply below_drew1) | exact HB.out)) hb); have n1_ := Aside0.mk (hbox); have n2_ := Aside0.mk ((by rw [hg]; exact (below_size (by repeat (first | (with_reducible first | exact HB.out | apply below_alloc | apply pw_below_drewN | apply below_drew1) | exact HB.out))) : w.heap.size ≤ gb255)); have n3_ := Aside0.mk ((by rw [hg]; exact (below_size (by repeat (first | (with_reducible first | exact HB.out | apply below_alloc | apply pw_below_drewN | apply below_drew1) | exact HB.out))) : w.heap.size ≤ gb255)); clear HB; have HB := n0_; have BK255 := n1_; have GW255 := n2_; have GE255 := n3_; clear n0_ n1_ n2_ n3_; clear hb hbox hg; have hcz12_0 : w11.cell? ⟨gb255, 0, none⟩ = some (.bool a0_0) := (blk_cell BK255.out 0).trans rfl; have hcz12_1 : w11.cell? ⟨gb255, 1, none⟩ = some (.bool a0_1) := (blk_cell BK255.out 1).trans rfl; have hcz12_2 : w11.cell? ⟨gb255, 2, none⟩ = some (.bool a0_2) := (blk_cell BK255.out 2).trans rfl; have hcz12_3 : w11.cell? ⟨gb255, 3, none⟩ = some (.bool a0_3) := (blk_cell BK255.out 3).trans rfl; have hcz12_4 : w11.cell? ⟨gb255, 4, none⟩ = some (.bool a0_4) := (blk_cell BK255.out 4).trans rfl; have hcz12_5 : w11.cell? ⟨gb255, 5, none⟩ = some (.bool a0_5) := (blk_cell BK255.out 5).trans rfl; have hcz12_6 : w11.cell? ⟨gb255, 6, none⟩ = some (.bool a0_6) := (blk_cell BK255.out 6).trans rfl; have hcz12_7 : w11.cell? ⟨gb255, 7, none⟩ = some (.int .i64 a0_7) := (blk_cell BK255.out 7).trans rfl; have hcz12_8 : w11.cell? ⟨gb255, 8, none⟩ = some (.int .i64 a0_8) := (blk_cell BK255.out 8).trans rfl; have hcz12_9 : w11.cell? ⟨gb255, 9, none⟩ = some (.int .i64 a0_9) := (blk_cell BK255.out 9).trans rfl; have hfz12_0 := blk_frozen BK255.out 0; have hfz12_1 := blk_frozen BK255.out 1; have hfz12_2 := blk_frozen BK255.out 2; have hfz12_3 := blk_frozen BK255.out 3; have hfz12_4 := blk_frozen BK255.out 4; have hfz12_5 := blk_frozen BK255.out 5; have hfz12_6 := blk_frozen BK255.out 6; have hfz12_7 := blk_frozen BK255.out 7; have hfz12_8 := blk_frozen BK255.out 8; have hfz12_9 := blk_frozen BK255.out 9))
      go_ret
      exact ⟨by first | rfl | (simp [errW_none, errW_some] <;> rfl) | (simp [*, errW_none, errW_some] <;> rfl), by repeat (first | (with_reducible first | exact HB.out | apply below_alloc | apply pw_below_drewN | apply below_drew1 | refine below_set ?_ GE255.out) | exact HB.out)⟩
  · rw [if_neg c2] at H
    have c2b0 : decide (0 ≤ a0_7) = false := decide_eq_false c2
    clear c2
    obtain rfl := Option.some.inj H
    go_enter Tryd.func15, Tryd.ntmps15
    go_wp2_with (first | ((with_reducible refine gate_dst (N := 1) rfl ?_); refine box_event ?hg (N := 1) ?hd (cs := #[.bool a0_0, .bool a0_1, .bool a0_2, .bool a0_3, .bool a0_4, .bool a0_5, .bool a0_6, .int .i64 a0_7, .int .i64 a0_8, .int .i64 a0_9]) (t := 23) ?hr ?_; (case hd => rfl); (case hg => rfl); (case hr => first | (go_simp; done) | (go_simp; rfl)); intro gb255 hg w13 hbox hb; have n0_ := Aside0.mk (below_step (by repeat (first | (with_reducible first | exact HB.out | apply below_alloc | apply pw_below_drewN | apply below_drew1) | exact HB.out)) hb); have n1_ := Aside0.mk (hbox); have n2_ := Aside0.mk ((by rw [hg]; exact (below_size (by repeat (first | (with_reducible first | exact HB.out | apply below_alloc | apply pw_below_drewN | apply below_drew1) | exact HB.out))) : w.heap.size ≤ gb255)); have n3_ := Aside0.mk ((by rw [hg]; exact (below_size (by repeat (first | (with_reducible first | exact HB.out | apply below_alloc | apply pw_below_drewN | apply below_drew1) | exact HB.out))) : w.heap.size ≤ gb255)); clear HB; have HB := n0_; have BK255 := n1_; have GW255 := n2_; have GE255 := n3_; clear n0_ n1_ n2_ n3_; clear hb hbox hg; have hcz14_0 : w13.cell? ⟨gb255, 0, none⟩ = some (.bool a0_0) := (blk_cell BK255.out 0).trans rfl; have hcz14_1 : w13.cell? ⟨gb255, 1, none⟩ = some (.bool a0_1) := (blk_cell BK255.out 1).trans rfl; have hcz14_2 : w13.cell? ⟨gb255, 2, none⟩ = some (.bool a0_2) := (blk_cell BK255.out 2).trans rfl; have hcz14_3 : w13.cell? ⟨gb255, 3, none⟩ = some (.bool a0_3) := (blk_cell BK255.out 3).trans rfl; have hcz14_4 : w13.cell? ⟨gb255, 4, none⟩ = some (.bool a0_4) := (blk_cell BK255.out 4).trans rfl; have hcz14_5 : w13.cell? ⟨gb255, 5, none⟩ = some (.bool a0_5) := (blk_cell BK255.out 5).trans rfl; have hcz14_6 : w13.cell? ⟨gb255, 6, none⟩ = some (.bool a0_6) := (blk_cell BK255.out 6).trans rfl; have hcz14_7 : w13.cell? ⟨gb255, 7, none⟩ = some (.int .i64 a0_7) := (blk_cell BK255.out 7).trans rfl; have hcz14_8 : w13.cell? ⟨gb255, 8, none⟩ = some (.int .i64 a0_8) := (blk_cell BK255.out 8).trans rfl; have hcz14_9 : w13.cell? ⟨gb255, 9, none⟩ = some (.int .i64 a0_9) := (blk_cell BK255.out 9).trans rfl; have hfz14_0 := blk_frozen BK255.out 0; have hfz14_1 := blk_frozen BK255.out 1; have hfz14_2 := blk_frozen BK255.out 2; have hfz14_3 := blk_frozen BK255.out 3; have hfz14_4 := blk_frozen BK255.out 4; have hfz14_5 := blk_frozen BK255.out 5; have hfz14_6 := blk_frozen BK255.out 6; have hfz14_7 := blk_frozen BK255.out 7; have hfz14_8 := blk_frozen BK255.out 8; have hfz14_9 := blk_frozen BK255.out 9))
    go_ret
    exact ⟨by first | rfl | (simp [errW_none, errW_some] <;> rfl) | (simp [*, errW_none, errW_some] <;> rfl), by repeat (first | (with_reducible first | exact HB.out | apply below_alloc | apply pw_below_drewN | apply below_drew1 | refine below_set ?_ GE255.out) | exact HB.out)⟩
end Go.Proofs.YtopcleljecdkkaaDoor.G
end
section
namespace Go.Proofs.YtopcleljecdkkaaDoor.G
set_option linter.unusedVariables false
set_option linter.unusedSimpArgs false
open Go.RowKit Kit Go.Proofs.YtopcleljecdkkaaDoorW.PrintWords
def paramsV (s : St) : List (List Int) :=
  if mayL s.2.2.2.2.2.2.2.1 s.2.2.2.2.2.2.2.2.1 s.2.2.2.2.2.2.2.2.2 then paramsL s.1 s.2.1 s.2.2.1 s.2.2.2.1 s.2.2.2.2.1 s.2.2.2.2.2.1 s.2.2.2.2.2.2.1 s.2.2.2.2.2.2.2.1 s.2.2.2.2.2.2.2.2.1 s.2.2.2.2.2.2.2.2.2 else []
theorem Params_is (b0 b1 b2 b3 b4 b5 b6 : Bool) (u f b : Int) (hf : -9223372036854775808 ≤ f) (hb : -9223372036854775808 ≤ b) : style_Params.f b0 b1 b2 b3 b4 b5 b6 u f b = some (paramsV (b0, b1, b2, b3, b4, b5, b6, u, f, b)) := by
  unfold style_Params.f paramsV
  rw [may_is]
  cases h : mayL u f b with
  | true => rw [if_pos rfl, if_pos ⟨hf, hb⟩, if_pos rfl]
  | false => rw [if_neg (by decide), if_pos rfl, if_neg (by simp [h])]
theorem refMay_is (b0 b1 b2 b3 b4 b5 b6 : Bool) (u f b : Int) : clavierref18_May.f b0 b1 b2 b3 b4 b5 b6 u f b = some (mayL u f b) := by
  unfold clavierref18_May.f clavierref18_colour.f mayL colL
  by_cases h0 : 0 ≤ u <;> by_cases h1 : u ≤ 5 <;> by_cases h2 : -1 ≤ f <;> by_cases h3 : f < 16777472 <;> by_cases h4 : -1 ≤ b <;> simp [h0, h1, h2, h3, h4, ge_iff_le]
theorem mark_len (c : Bool) (n : Int) : (markL c n).length ≤ 1 := by cases c <;> simp [markL]
theorem tint_len (n base : Int) : (tintL n base).length ≤ 6 := by
  unfold tintL
  repeat' split
  all_goals simp
theorem mem_mark {c : Bool} {n : Int} {r : List Int} (h : r ∈ markL c n) : r = [n] := by cases c <;> simp [markL] at h; exact h
theorem paramsV_rows (s : St) : ∀ r ∈ paramsV s, r.length ≤ 6 := by
  intro r hr
  unfold paramsV at hr
  split at hr
  · simp only [paramsL, List.mem_append] at hr
    rcases hr with (((((((((h | h) | h) | h) | h) | h) | h) | h) | h) | h) | h
    · simp at h; subst h; simp
    · rw [mem_mark h]; simp
    · rw [mem_mark h]; simp
    · rw [mem_mark h]; simp
    · unfold underL at h; repeat' split at h
      all_goals simp at h; try (subst h; simp)
    · rw [mem_mark h]; simp
    · rw [mem_mark h]; simp
    · rw [mem_mark h]; simp
    · rw [mem_mark h]; simp
    · unfold colourL at h; split at h <;> simp at h; subst h; exact tint_len _ _
    · unfold colourL at h; split at h <;> simp at h; subst h; exact tint_len _ _
  · cases hr
theorem paramsV_len (s : St) : (paramsV s).length ≤ 11 := by
  unfold paramsV
  split
  · have hu : (underL s.2.2.2.2.2.2.2.1).length ≤ 1 := by unfold underL; repeat' split
                                                          all_goals simp
    have hc : ∀ n b, (colourL n b).length ≤ 1 := fun n b => by unfold colourL; split <;> simp
    have h1 := hc s.2.2.2.2.2.2.2.2.1 30
    have h2 := hc s.2.2.2.2.2.2.2.2.2 40
    have m0 := mark_len s.1 1
    have m1 := mark_len s.2.1 2
    have m2 := mark_len s.2.2.1 3
    have m3 := mark_len s.2.2.2.1 5
    have m4 := mark_len s.2.2.2.2.1 7
    have m5 := mark_len s.2.2.2.2.2.1 8
    have m6 := mark_len s.2.2.2.2.2.2.1 9
    simp only [paramsL, List.length_append, List.length_singleton]
    omega
  · simp
theorem paramsV_small (s : St) : Small (paramsV s) := ⟨by have := paramsV_len s; omega, fun r hr => by have := paramsV_rows s r hr; omega⟩
theorem paramsV_in (s : St) : AllI (paramsV s) := by
  intro r hr z hz
  unfold paramsV at hr
  split at hr
  · rename_i hm
    simp only [mayL, colL, Bool.and_eq_true, decide_eq_true_eq] at hm
    have ht : ∀ n base : Int, -1 ≤ n → n < 16777472 → 0 ≤ base → base ≤ 100 → ∀ z ∈ tintL n base, -9223372036854775808 ≤ z ∧ z ≤ 9223372036854775807 := by
      intro n base h0 h1 h2 h3 z hz
      unfold tintL at hz
      repeat' split at hz
      all_goals simp at hz
      all_goals omega
    simp only [paramsL, List.mem_append] at hr
    rcases hr with (((((((((h | h) | h) | h) | h) | h) | h) | h) | h) | h) | h
    · simp at h; subst h; simp at hz; omega
    · rw [mem_mark h] at hz; simp at hz; omega
    · rw [mem_mark h] at hz; simp at hz; omega
    · rw [mem_mark h] at hz; simp at hz; omega
    · unfold underL at h
      repeat' split at h
      all_goals simp at h
      all_goals (subst h; simp at hz; omega)
    · rw [mem_mark h] at hz; simp at hz; omega
    · rw [mem_mark h] at hz; simp at hz; omega
    · rw [mem_mark h] at hz; simp at hz; omega
    · rw [mem_mark h] at hz; simp at hz; omega
    · unfold colourL at h; split at h <;> simp at h; subst h; exact ht _ _ (by omega) (by omega) (by decide) (by decide) z hz
    · unfold colourL at h; split at h <;> simp at h; subst h; exact ht _ _ (by omega) (by omega) (by decide) (by decide) z hz
  · cases hr
end Go.Proofs.YtopcleljecdkkaaDoor.G
end
section
namespace Go.Proofs.YtopcleljecdkkaaDoor.G
set_option linter.unusedVariables false
set_option linter.unusedSimpArgs false
open Go.RowKit Kit Go.Proofs.YtopcleljecdkkaaDoorW.PrintWords Go.Proofs.YtopcleljecdkkaaDoorW.PrintMore
theorem clamp_in (n : Int) : 0 ≤ clamp n ∧ clamp n ≤ 65535 := by unfold clamp mn mx; split <;> split <;> omega
def tx (n : Int) : ByteArray := ⟨(textL n).toArray⟩
theorem tx_size {n : Int} (h0 : 0 ≤ n) (h1 : n ≤ 65535) : (tx n).size ≤ 20 := by
  have := (textL_len h0 (by omega : n ≤ 9223372036854775807)).1
  rw [tx, size_list]; omega
def settV (x4 x5 x6 x7 x8 : Int) (s : St) (ask : ByteArray) : ByteArray :=
  if ask = ⟨#[109]⟩ then (if mayL s.2.2.2.2.2.2.2.1 s.2.2.2.2.2.2.2.2.1 s.2.2.2.2.2.2.2.2.2 = true then ⟨(textP (paramsV s)).toArray⟩ ++ ⟨#[109]⟩ else ⟨#[]⟩)
  else if ask = ⟨#[114]⟩ then tx (clamp x4) ++ ⟨#[59]⟩ ++ tx (clamp x5) ++ ⟨#[114]⟩
  else if ask = ⟨#[115]⟩ then tx (clamp x6) ++ ⟨#[59]⟩ ++ tx (clamp x7) ++ ⟨#[115]⟩
  else if ask = ⟨#[32, 113]⟩ then tx (clamp x8) ++ ⟨#[32, 113]⟩
  else if ask = ⟨#[34, 112]⟩ then ⟨#[54, 50, 59, 49]⟩ ++ ⟨#[34, 112]⟩
  else ⟨#[]⟩
def settN (d : ByteArray) : Int := if d = ⟨#[]⟩ then 0 else 1
theorem ne_nil {a c : ByteArray} (h : c.size ≠ 0) : ¬ (a ++ c = ⟨#[]⟩) := fun e => by
  have h2 := congrArg ByteArray.size e
  rw [ByteArray.size_append] at h2
  have h3 : (⟨#[]⟩ : ByteArray).size = 0 := rfl
  omega
theorem settN_app {a c : ByteArray} (h : c.size ≠ 0) : settN (a ++ c) = 1 := by unfold settN; rw [if_neg (ne_nil h)]
theorem one_is' (n : Int) : report_Setting_1.f n = some (tx (clamp n)) := by
  unfold report_Setting_1.f report_fact.f
  have h := clamp_in n
  rw [Option.bind_some]
  show (num_Text.f (clamp n)).bind _ = _
  rw [numText_is (by omega) (by omega), Option.bind_some]; rfl
theorem textP_len (s : St) : (textP (paramsV s)).length ≤ 220000 := by
  have h := preT_le (paramsV s) (paramsV_in s) (paramsV_small s) (paramsV s).length
  unfold preT at h
  rw [List.take_length] at h
  exact h
theorem setting_is (x0 x1 x2 x3 x4 x5 x6 x7 x8 : Int) (b0 b1 b2 b3 b4 b5 b6 : Bool) (u f b : Int) (ask : ByteArray) (hf : -9223372036854775808 ≤ f) (hb : -9223372036854775808 ≤ b) :
    report_Setting.f 12000 x0 x1 x2 x3 x4 x5 x6 x7 x8 b0 b1 b2 b3 b4 b5 b6 u f b ask = some (3, 0, [[settN (settV x4 x5 x6 x7 x8 (b0, b1, b2, b3, b4, b5, b6, u, f, b) ask)]], ⟨#[36]⟩, 114, settV x4 x5 x6 x7 x8 (b0, b1, b2, b3, b4, b5, b6, u, f, b) ask) := by
  unfold report_Setting.f settV
  by_cases c1 : ask = ⟨#[109]⟩
  · rw [if_pos c1, if_pos c1, may_is, Option.bind_some]
    cases h : mayL u f b with
    | false => rw [if_neg (by decide), if_neg (by simp [h])]; rfl
    | true =>
      rw [if_pos rfl, Params_is b0 b1 b2 b3 b4 b5 b6 u f b hf hb, Option.bind_some, Text_is _ (paramsV_in _) (paramsV_small _) 12000 (by omega), Option.bind_some]
      have hz : (⟨(textP (paramsV (b0, b1, b2, b3, b4, b5, b6, u, f, b))).toArray⟩ : ByteArray).size ≤ 1000000 := by rw [size_list]; have := textP_len (b0, b1, b2, b3, b4, b5, b6, u, f, b); omega
      rw [if_pos hz, if_pos (by simp [h]), settN_app (by decide)]
  rw [if_neg c1, if_neg c1]
  by_cases c2 : ask = ⟨#[114]⟩
  · have h1 := tx_size (clamp_in x4).1 (clamp_in x4).2
    have h2 := tx_size (clamp_in x5).1 (clamp_in x5).2
    rw [if_pos c2, if_pos c2, one_is', Option.bind_some, one_is', Option.bind_some, if_pos ⟨by omega, by omega⟩, settN_app (by decide)]
  rw [if_neg c2, if_neg c2]
  by_cases c3 : ask = ⟨#[115]⟩
  · have h1 := tx_size (clamp_in x6).1 (clamp_in x6).2
    have h2 := tx_size (clamp_in x7).1 (clamp_in x7).2
    rw [if_pos c3, if_pos c3, one_is', Option.bind_some, one_is', Option.bind_some, if_pos ⟨by omega, by omega⟩, settN_app (by decide)]
  rw [if_neg c3, if_neg c3]
  by_cases c4 : ask = ⟨#[32, 113]⟩
  · have h1 := tx_size (clamp_in x8).1 (clamp_in x8).2
    rw [if_pos c4, if_pos c4, one_is', Option.bind_some, if_pos (by omega), settN_app (by decide)]
  rw [if_neg c4, if_neg c4]
  by_cases c5 : ask = ⟨#[34, 112]⟩
  · rw [if_pos c5, if_pos c5, settN_app (by decide)]
  rw [if_neg c5, if_neg c5]
  rfl
end Go.Proofs.YtopcleljecdkkaaDoor.G
end
section
namespace Go.Proofs.YtopcleljecdkkaaDoor
set_option linter.unusedVariables false
set_option linter.unusedSimpArgs false
set_option maxRecDepth 100000
open Go.RowKit Kit Go.Proofs.YtopcleljecdkkaaDoorW.PrintWords G
attribute [local irreducible] wpList Calls
def settS (x4 x5 x6 x7 x8 : Int) (s : St) (ask : ByteArray) : Sq := ⟨3, 0, [[settN (settV x4 x5 x6 x7 x8 s ask)]], ⟨#[36]⟩, 114, settV x4 x5 x6 x7 x8 s ask⟩
section
variable (x0 x1 x2 x3 x4 x5 x6 x7 x8 : Int) (b0 b1 b2 b3 b4 b5 b6 : Bool) (u f b : Int) (ask : ByteArray) (p : Bool) {w : World}
theorem setting_tells (hT : Tab w) (hf : -9223372036854775808 ≤ f) (hb : -9223372036854775808 ≤ b) : Tells 13 #[scrV x0 x1 x2 x3 x4 x5 x6 x7 x8 b0 b1 b2 b3 b4 b5 b6 u f b, .string ask] (settS x4 x5 x6 x7 x8 (b0, b1, b2, b3, b4, b5, b6, u, f, b) ask) w := fun W hW =>
  (report_Setting.calls 12000 x0 x1 x2 x3 x4 x5 x6 x7 x8 b0 b1 b2 b3 b4 b5 b6 u f b ask _ _ _ _ _ _ W (Tab.below hT hW) (setting_is _ _ _ _ _ _ _ _ _ _ _ _ _ _ _ _ _ _ _ _ hf hb)).mono fun e w' ⟨v, h1, h2, h3⟩ => ⟨_, h1, ⟨v, rfl, h2⟩, h3⟩
end
theorem same_sett (x4 x5 x6 x7 x8 : Int) (s : St) (ask : ByteArray) (q : Sq) (w : World) (hq : q.rows.length ≤ 100) : SameIs (settS x4 x5 x6 x7 x8 s ask) q (decide (settS x4 x5 x6 x7 x8 s ask = q)) w := same_by _ _ w 1 (by decide) (by simp [wide, settS]) (by simp [settS]) (by omega)
end Go.Proofs.YtopcleljecdkkaaDoor
end
section
namespace Go.Proofs.YtopcleljecdkkaaDoor
set_option linter.unusedVariables false
set_option linter.unusedSimpArgs false
open Go.RowKit Kit Go.Proofs.YtopcleljecdkkaaDoorW.PrintWords
namespace Kit
theorem st_eql {P : Program} {ops : Array Oper} {A : Act} {w : World} {o : Oper} {fa : Fact} {x y : Operand} {t t' : TypeId} {b : Bool} {xs ys : Array Value} (ho : o.op = .binOp .eql t x y t') (hgd : Region.wanted o (yielded ops A.tmps) = true) (hx : A.eval x = .agg xs) (hy : A.eval y = .agg ys)
    (hG : P.eqGuardType P.depth t = false) (hE : ∀ w, (Op.equal t (.agg xs) (.agg ys)).run P w = .ok b w) (hf : fa (.bool b) w) : StepOk P ops o A w fun v w' => Below w.heap.size w w' ∧ fa v w' := by
  have e1 : (eqGuard .eql t x y (.agg xs) (.agg ys)).run P w = .ok () w := by
    simp [eqGuard, Sem.run_bind, go_sem, hG]
  have e2 : (binOp .eql t (.agg xs) (.agg ys)).run P w = .ok (.bool b) w := by
    have e3 : binOp .eql t (.agg xs) (.agg ys) = (do let r ← Op.equal t (.agg xs) (.agg ys); pure (Value.bool r)) := rfl
    rw [e3, Sem.run_bind, hE]
    rfl
  refine st_val hgd ?_ hf
  unfold execOp
  simp only [ho, hx, hy, Sem.run_bind, e1, Result.andThen_ok, e2]
  rfl
theorem st_index {P : Program} {ops : Array Oper} {A : Act} {w : World} {o : Oper} {fa : Fact} {x y : Operand} {t : TypeId} {vx vi v : Value} (ho : o.op = .index t x y) (hgd : Region.wanted o (yielded ops A.tmps) = true) (hx : A.eval x = vx) (hy : A.eval y = vi)
    (hr : (Instr.index t vx vi).run P w = .ok v w) (hf : fa v w) : StepOk P ops o A w fun v w' => Below w.heap.size w w' ∧ fa v w' := by
  refine st_val hgd ?_ hf
  unfold execOp
  simp only [ho, hx, hy, Sem.run_bind, hr, Result.andThen_ok]
  rfl
end Kit
theorem index_str (s : ByteArray) (i : Nat) (b : UInt8) (hi : s[i]? = some b) (w : World) : (Instr.index 9 (.string s) (.int .i64 (i : Int))).run Tryd.prog w = .ok (.int .u8 b.toNat) w := by
  simp [Instr.index, asIntOf, Sem.run_bind, run_underlying Tryd.underlying9, hi]
attribute [local irreducible] wpList Calls
set_option maxRecDepth 100000 in
set_option maxHeartbeats 4000000 in
theorem style_no1 (x0 x1 x2 x3 x4 x5 x6 x7 x8 : Int) (x9 x10 x11 x12 x13 x14 x15 : Bool) (x16 x17 x18 : Int) (y0 y1 y2 y3 y4 y5 y6 y7 y8 : Int) (y9 y10 y11 y12 y13 y14 y15 : Bool) (y16 y17 y18 : Int) (w : World) (ha : Gives 9 #[] (.bool true) w) (m1 : Gives 15 #[.agg #[.bool x9, .bool x10, .bool x11, .bool x12, .bool x13, .bool x14, .bool x15, .int .i64 x16, .int .i64 x17, .int .i64 x18]] (.bool false) w) :
    Calls Tryd.prog 5 #[.agg #[.int .i64 x0, .int .i64 x1, .int .i64 x2, .int .i64 x3, .int .i64 x4, .int .i64 x5, .int .i64 x6, .int .i64 x7, .int .i64 x8, .bool x9, .bool x10, .bool x11, .bool x12, .bool x13, .bool x14, .bool x15, .int .i64 x16, .int .i64 x17, .int .i64 x18], .agg #[.int .i64 y0, .int .i64 y1, .int .i64 y2, .int .i64 y3, .int .i64 y4, .int .i64 y5, .int .i64 y6, .int .i64 y7, .int .i64 y8, .bool y9, .bool y10, .bool y11, .bool y12, .bool y13, .bool y14, .bool y15, .int .i64 y16, .int .i64 y17, .int .i64 y18]] w fun e w' => e = .returned (.bool true) ∧ Below w.heap.size w w' := by
  have HO := Mine.start w
  have HX : (fun _ : World => True) w := trivial
  have HXB : XB (fun _ : World => True) := fun _ _ _ _ => trivial
  have HXS : XS 30 (fun _ : World => True) := fun _ _ _ _ _ _ => trivial
  have HA := Lib.hid ha
  have M1 := Lib.hid m1
  clear ha m1
  go_enter Tryd.func5, Tryd.ntmps5
  go_wp2_with (first
      | (go_at_call 9; refine (HA.out _ HO.below).mono ?_; rintro eN wN ⟨rfl, hbN⟩; have HON := HO.call hbN; have HXN := HXB _ _ HX hbN; clear HO HX hbN; have HO := HON; have HX := HXN; clear HON HXN)
      | (go_at_call 15; (first | (refine (M1.out _ HO.below).mono ?_; clear M1)); rintro eN wN ⟨rfl, hbN⟩; have HON := HO.call hbN; have HXN := HXB _ _ HX hbN; clear HO HX hbN; have HO := HON; have HX := HXN; clear HON HXN)
      | ((with_reducible refine gate ?_); (first
      | ((refine own_boxX HO HX HXB rfl rfl rfl ?_); clear HO HX; intro gN wN hgN HO HX; (simp only [List.nil_append, List.cons_append] at HO); (try simp only [Act.put, List.setIfInBounds_toArray, List.set_cons_zero, List.set_cons_succ]))
      | ((refine own_allocX (T := 30) HO HX HXB rfl rfl Tryd.zeroValue30 rfl ?_); clear HO HX; intro gN wN hgN HO HX; (simp only [List.nil_append, List.cons_append] at HO); (try simp only [Act.put, List.setIfInBounds_toArray, List.set_cons_zero, List.set_cons_succ]))
      | ((refine own_load (T := 25) HO rfl rfl rfl (by first | exact .head _ | exact .tail _ (.head _) | exact .tail _ (.tail _ (.head _)) | exact .tail _ (.tail _ (.tail _ (.head _))) | exact .tail _ (.tail _ (.tail _ (.tail _ (.head _)))) | exact .tail _ (.tail _ (.tail _ (.tail _ (.tail _ (.head _)))))) Tryd.isAgg25 Tryd.sizeOf25 (by repeat constructor) ?_); (try simp only [Act.put, List.setIfInBounds_toArray, List.set_cons_zero, List.set_cons_succ]))
      | ((refine own_load (T := 30) HO rfl rfl rfl (by first | exact .head _ | exact .tail _ (.head _) | exact .tail _ (.tail _ (.head _)) | exact .tail _ (.tail _ (.tail _ (.head _))) | exact .tail _ (.tail _ (.tail _ (.tail _ (.head _)))) | exact .tail _ (.tail _ (.tail _ (.tail _ (.tail _ (.head _)))))) Tryd.isAgg30 Tryd.sizeOf30 (by repeat constructor) ?_); (try simp only [Act.put, List.setIfInBounds_toArray, List.set_cons_zero, List.set_cons_succ]))
      | ((refine own_load (T := 23) HO rfl rfl rfl (by first | exact .head _ | exact .tail _ (.head _) | exact .tail _ (.tail _ (.head _)) | exact .tail _ (.tail _ (.tail _ (.head _))) | exact .tail _ (.tail _ (.tail _ (.tail _ (.head _)))) | exact .tail _ (.tail _ (.tail _ (.tail _ (.tail _ (.head _)))))) Tryd.isAgg23 Tryd.sizeOf23 (by repeat constructor) ?_); (try simp only [Act.put, List.setIfInBounds_toArray, List.set_cons_zero, List.set_cons_succ]))
      | ((refine own_storeX (T := 25) HO HX rfl rfl rfl rfl (by first | exact .here | exact .there (.here) | exact .there (.there (.here)) | exact .there (.there (.there (.here))) | exact .there (.there (.there (.there (.here)))) | exact .there (.there (.there (.there (.there (.here)))))) HXS Tryd.sizeOf25 (by repeat constructor) rfl ?_); clear HO HX; intro wN HO HX; (try simp only [Act.put, List.setIfInBounds_toArray, List.set_cons_zero, List.set_cons_succ]))
      | ((refine own_storeX (T := 30) HO HX rfl rfl rfl rfl (by first | exact .here | exact .there (.here) | exact .there (.there (.here)) | exact .there (.there (.there (.here))) | exact .there (.there (.there (.there (.here)))) | exact .there (.there (.there (.there (.there (.here)))))) HXS Tryd.sizeOf30 (by repeat constructor) rfl ?_); clear HO HX; intro wN HO HX; (try simp only [Act.put, List.setIfInBounds_toArray, List.set_cons_zero, List.set_cons_succ]))
      | ((refine own_storeX (T := 23) HO HX rfl rfl rfl rfl (by first | exact .here | exact .there (.here) | exact .there (.there (.here)) | exact .there (.there (.there (.here))) | exact .there (.there (.there (.there (.here)))) | exact .there (.there (.there (.there (.there (.here)))))) HXS Tryd.sizeOf23 (by repeat constructor) rfl ?_); clear HO HX; intro wN HO HX; (try simp only [Act.put, List.setIfInBounds_toArray, List.set_cons_zero, List.set_cons_succ])))))
  go_ret
  exact ⟨rfl, HO.below⟩
set_option maxRecDepth 100000 in
set_option maxHeartbeats 4000000 in
theorem style_no2 (x0 x1 x2 x3 x4 x5 x6 x7 x8 : Int) (x9 x10 x11 x12 x13 x14 x15 : Bool) (x16 x17 x18 : Int) (y0 y1 y2 y3 y4 y5 y6 y7 y8 : Int) (y9 y10 y11 y12 y13 y14 y15 : Bool) (y16 y17 y18 : Int) (w : World) (ha : Gives 9 #[] (.bool true) w) (m1 : Gives 15 #[.agg #[.bool x9, .bool x10, .bool x11, .bool x12, .bool x13, .bool x14, .bool x15, .int .i64 x16, .int .i64 x17, .int .i64 x18]] (.bool true) w) (m2 : Gives 15 #[.agg #[.bool y9, .bool y10, .bool y11, .bool y12, .bool y13, .bool y14, .bool y15, .int .i64 y16, .int .i64 y17, .int .i64 y18]] (.bool false) w) :
    Calls Tryd.prog 5 #[.agg #[.int .i64 x0, .int .i64 x1, .int .i64 x2, .int .i64 x3, .int .i64 x4, .int .i64 x5, .int .i64 x6, .int .i64 x7, .int .i64 x8, .bool x9, .bool x10, .bool x11, .bool x12, .bool x13, .bool x14, .bool x15, .int .i64 x16, .int .i64 x17, .int .i64 x18], .agg #[.int .i64 y0, .int .i64 y1, .int .i64 y2, .int .i64 y3, .int .i64 y4, .int .i64 y5, .int .i64 y6, .int .i64 y7, .int .i64 y8, .bool y9, .bool y10, .bool y11, .bool y12, .bool y13, .bool y14, .bool y15, .int .i64 y16, .int .i64 y17, .int .i64 y18]] w fun e w' => e = .returned (.bool true) ∧ Below w.heap.size w w' := by
  have HO := Mine.start w
  have HX : (fun _ : World => True) w := trivial
  have HXB : XB (fun _ : World => True) := fun _ _ _ _ => trivial
  have HXS : XS 30 (fun _ : World => True) := fun _ _ _ _ _ _ => trivial
  have HA := Lib.hid ha
  have M1 := Lib.hid m1
  have M2 := Lib.hid m2
  clear ha m1 m2
  go_enter Tryd.func5, Tryd.ntmps5
  go_wp2_with (first
      | (go_at_call 9; refine (HA.out _ HO.below).mono ?_; rintro eN wN ⟨rfl, hbN⟩; have HON := HO.call hbN; have HXN := HXB _ _ HX hbN; clear HO HX hbN; have HO := HON; have HX := HXN; clear HON HXN)
      | (go_at_call 15; (first | (refine (M1.out _ HO.below).mono ?_; clear M1) | (refine (M2.out _ HO.below).mono ?_; clear M2)); rintro eN wN ⟨rfl, hbN⟩; have HON := HO.call hbN; have HXN := HXB _ _ HX hbN; clear HO HX hbN; have HO := HON; have HX := HXN; clear HON HXN)
      | ((with_reducible refine gate ?_); (first
      | ((refine own_boxX HO HX HXB rfl rfl rfl ?_); clear HO HX; intro gN wN hgN HO HX; (simp only [List.nil_append, List.cons_append] at HO); (try simp only [Act.put, List.setIfInBounds_toArray, List.set_cons_zero, List.set_cons_succ]))
      | ((refine own_allocX (T := 30) HO HX HXB rfl rfl Tryd.zeroValue30 rfl ?_); clear HO HX; intro gN wN hgN HO HX; (simp only [List.nil_append, List.cons_append] at HO); (try simp only [Act.put, List.setIfInBounds_toArray, List.set_cons_zero, List.set_cons_succ]))
      | ((refine own_load (T := 25) HO rfl rfl rfl (by first | exact .head _ | exact .tail _ (.head _) | exact .tail _ (.tail _ (.head _)) | exact .tail _ (.tail _ (.tail _ (.head _))) | exact .tail _ (.tail _ (.tail _ (.tail _ (.head _)))) | exact .tail _ (.tail _ (.tail _ (.tail _ (.tail _ (.head _)))))) Tryd.isAgg25 Tryd.sizeOf25 (by repeat constructor) ?_); (try simp only [Act.put, List.setIfInBounds_toArray, List.set_cons_zero, List.set_cons_succ]))
      | ((refine own_load (T := 30) HO rfl rfl rfl (by first | exact .head _ | exact .tail _ (.head _) | exact .tail _ (.tail _ (.head _)) | exact .tail _ (.tail _ (.tail _ (.head _))) | exact .tail _ (.tail _ (.tail _ (.tail _ (.head _)))) | exact .tail _ (.tail _ (.tail _ (.tail _ (.tail _ (.head _)))))) Tryd.isAgg30 Tryd.sizeOf30 (by repeat constructor) ?_); (try simp only [Act.put, List.setIfInBounds_toArray, List.set_cons_zero, List.set_cons_succ]))
      | ((refine own_load (T := 23) HO rfl rfl rfl (by first | exact .head _ | exact .tail _ (.head _) | exact .tail _ (.tail _ (.head _)) | exact .tail _ (.tail _ (.tail _ (.head _))) | exact .tail _ (.tail _ (.tail _ (.tail _ (.head _)))) | exact .tail _ (.tail _ (.tail _ (.tail _ (.tail _ (.head _)))))) Tryd.isAgg23 Tryd.sizeOf23 (by repeat constructor) ?_); (try simp only [Act.put, List.setIfInBounds_toArray, List.set_cons_zero, List.set_cons_succ]))
      | ((refine own_storeX (T := 25) HO HX rfl rfl rfl rfl (by first | exact .here | exact .there (.here) | exact .there (.there (.here)) | exact .there (.there (.there (.here))) | exact .there (.there (.there (.there (.here)))) | exact .there (.there (.there (.there (.there (.here)))))) HXS Tryd.sizeOf25 (by repeat constructor) rfl ?_); clear HO HX; intro wN HO HX; (try simp only [Act.put, List.setIfInBounds_toArray, List.set_cons_zero, List.set_cons_succ]))
      | ((refine own_storeX (T := 30) HO HX rfl rfl rfl rfl (by first | exact .here | exact .there (.here) | exact .there (.there (.here)) | exact .there (.there (.there (.here))) | exact .there (.there (.there (.there (.here)))) | exact .there (.there (.there (.there (.there (.here)))))) HXS Tryd.sizeOf30 (by repeat constructor) rfl ?_); clear HO HX; intro wN HO HX; (try simp only [Act.put, List.setIfInBounds_toArray, List.set_cons_zero, List.set_cons_succ]))
      | ((refine own_storeX (T := 23) HO HX rfl rfl rfl rfl (by first | exact .here | exact .there (.here) | exact .there (.there (.here)) | exact .there (.there (.there (.here))) | exact .there (.there (.there (.there (.here)))) | exact .there (.there (.there (.there (.there (.here)))))) HXS Tryd.sizeOf23 (by repeat constructor) rfl ?_); clear HO HX; intro wN HO HX; (try simp only [Act.put, List.setIfInBounds_toArray, List.set_cons_zero, List.set_cons_succ])))))
  go_ret
  exact ⟨rfl, HO.below⟩
set_option maxRecDepth 100000 in
set_option maxHeartbeats 4000000 in
theorem style_yes_true (x0 x1 x2 x3 x4 x5 x6 x7 x8 : Int) (x9 x10 x11 x12 x13 x14 x15 : Bool) (x16 x17 x18 : Int) (y0 y1 y2 y3 y4 y5 y6 y7 y8 : Int) (y9 y10 y11 y12 y13 y14 y15 : Bool) (y16 y17 y18 : Int) (w : World) (ha : Gives 9 #[] (.bool true) w) (m1 : Gives 15 #[.agg #[.bool x9, .bool x10, .bool x11, .bool x12, .bool x13, .bool x14, .bool x15, .int .i64 x16, .int .i64 x17, .int .i64 x18]] (.bool true) w) (m2 : Gives 15 #[.agg #[.bool y9, .bool y10, .bool y11, .bool y12, .bool y13, .bool y14, .bool y15, .int .i64 y16, .int .i64 y17, .int .i64 y18]] (.bool true) w) (q1 q2 : Sq)
    (t1 : Tells 13 #[.agg #[.int .i64 x0, .int .i64 x1, .int .i64 x2, .int .i64 x3, .int .i64 x4, .int .i64 x5, .int .i64 x6, .int .i64 x7, .int .i64 x8, .bool x9, .bool x10, .bool x11, .bool x12, .bool x13, .bool x14, .bool x15, .int .i64 x16, .int .i64 x17, .int .i64 x18], .string ⟨#[109]⟩] q1 w) (t2 : Tells 13 #[.agg #[.int .i64 y0, .int .i64 y1, .int .i64 y2, .int .i64 y3, .int .i64 y4, .int .i64 y5, .int .i64 y6, .int .i64 y7, .int .i64 y8, .bool y9, .bool y10, .bool y11, .bool y12, .bool y13, .bool y14, .bool y15, .int .i64 y16, .int .i64 y17, .int .i64 y18], .string ⟨#[109]⟩] q2 w) (h1 : SameIs q1 q2 true w) (e1 : Nat) (hn : 0 < e1) (hn2 : e1 ≤ 1000000) (hz : q1.data.size = e1 + 1) (hi : q1.data[e1]? = some 109)
    (hE : ∀ w, (Op.equal 23 (.agg #[.bool x9, .bool x10, .bool x11, .bool x12, .bool x13, .bool x14, .bool x15, .int .i64 x16, .int .i64 x17, .int .i64 x18]) (.agg #[.bool y9, .bool y10, .bool y11, .bool y12, .bool y13, .bool y14, .bool y15, .int .i64 y16, .int .i64 y17, .int .i64 y18])).run Tryd.prog w = .ok true w) :
    Calls Tryd.prog 5 #[.agg #[.int .i64 x0, .int .i64 x1, .int .i64 x2, .int .i64 x3, .int .i64 x4, .int .i64 x5, .int .i64 x6, .int .i64 x7, .int .i64 x8, .bool x9, .bool x10, .bool x11, .bool x12, .bool x13, .bool x14, .bool x15, .int .i64 x16, .int .i64 x17, .int .i64 x18], .agg #[.int .i64 y0, .int .i64 y1, .int .i64 y2, .int .i64 y3, .int .i64 y4, .int .i64 y5, .int .i64 y6, .int .i64 y7, .int .i64 y8, .bool y9, .bool y10, .bool y11, .bool y12, .bool y13, .bool y14, .bool y15, .int .i64 y16, .int .i64 y17, .int .i64 y18]] w fun e w' => e = .returned (.bool true) ∧ Below w.heap.size w w' := by
  have HO := Mine.start w
  have HX : (fun _ : World => True) w := trivial
  have HXB : XB (fun _ : World => True) := fun _ _ _ _ => trivial
  have HXS : XS 30 (fun _ : World => True) := fun _ _ _ _ _ _ => trivial
  have HA := Lib.hid ha
  have M1 := Lib.hid m1
  have M2 := Lib.hid m2
  have T1 := Lib.hid t1
  have T2 := Lib.hid t2
  have H1 := Lib.hid h1
  have EQ := Lib.hid hE
  have hgt : decide ((q1.data.size : Int) > 1) = true := decide_eq_true (by omega)
  have hgt2 : decide (1 < (q1.data.size : Int)) = true := hgt
  have HW := Lib.hid (show IntKind.i64.wrap ((q1.data.size : Int) - 1) = (e1 : Int) by rw [hz]; simp [IntKind.wrap, IntKind.signed, IntKind.bits]; omega)
  have HI := Lib.hid (index_str q1.data e1 109 hi)
  clear ha m1 m2 t1 t2 h1 hE hz hn hn2 hi
  go_enter Tryd.func5, Tryd.ntmps5
  go_wp2_with (first
      | (go_at_call 13; first | (refine (T1.out _ HO.below).mono ?_; clear T1; rintro eN wN ⟨vR, rfl, ⟨uR, rfl, hS⟩, hbN⟩; obtain ⟨vA, cA, rfl⟩ := Kd.S_slice hS; have hS2 := Kd.S_lower hS HO.below.size; have HON := HO.call hbN; clear HO HX HXB HXS hbN hS; have HO := HON; clear HON; (have HX : (fun W => Kd.S (Kd.slice 3 (Kd.int .i64)) 52 W w.heap.size (fun _ => True) (.slice vA q1.rows.length cA) q1.rows) wN := hS2); have HXB := XB.rows (Kd.slice 3 (Kd.int .i64)) 52 w.heap.size (fun _ => True) (.slice vA q1.rows.length cA) q1.rows; have HXS := XS.rows (Kd.slice 3 (Kd.int .i64)) 52 w.heap.size (fun _ => True) (.slice vA q1.rows.length cA) q1.rows (T := 30) (by decide); clear hS2; unfold seqV) | (refine (T2.out _ HO.below).mono ?_; clear T2; rintro eN wN ⟨vR, rfl, ⟨uR, rfl, hS⟩, hbN⟩; obtain ⟨vB, cB, rfl⟩ := Kd.S_slice hS; have hS2 := Kd.S_lower hS HO.below.size; have HON := HO.call hbN; have HXN := HXB _ _ HX hbN; clear HO HX HXB HXS hbN hS; have HO := HON; clear HON; (have HX : (fun W => Kd.S (Kd.slice 3 (Kd.int .i64)) 52 W w.heap.size (fun _ => True) (.slice vA q1.rows.length cA) q1.rows ∧ Kd.S (Kd.slice 3 (Kd.int .i64)) 52 W w.heap.size (fun _ => True) (.slice vB q2.rows.length cB) q2.rows) wN := ⟨HXN, hS2⟩); have HXB := (XB.rows (Kd.slice 3 (Kd.int .i64)) 52 w.heap.size (fun _ => True) (.slice vA q1.rows.length cA) q1.rows).and (XB.rows (Kd.slice 3 (Kd.int .i64)) 52 w.heap.size (fun _ => True) (.slice vB q2.rows.length cB) q2.rows); have HXS := (XS.rows (Kd.slice 3 (Kd.int .i64)) 52 w.heap.size (fun _ => True) (.slice vA q1.rows.length cA) q1.rows (T := 30) (by decide)).and (XS.rows (Kd.slice 3 (Kd.int .i64)) 52 w.heap.size (fun _ => True) (.slice vB q2.rows.length cB) q2.rows (T := 30) (by decide)); clear hS2 HXN; unfold seqV))
      | (go_at_call 9; refine (HA.out _ HO.below).mono ?_; rintro eN wN ⟨rfl, hbN⟩; have HON := HO.call hbN; have HXN := HXB _ _ HX hbN; clear HO HX hbN; have HO := HON; have HX := HXN; clear HON HXN)
      | (go_at_call 15; (first | (refine (M1.out _ HO.below).mono ?_; clear M1) | (refine (M2.out _ HO.below).mono ?_; clear M2)); rintro eN wN ⟨rfl, hbN⟩; have HON := HO.call hbN; have HXN := HXB _ _ HX hbN; clear HO HX hbN; have HO := HON; have HX := HXN; clear HON HXN)
      | ((with_reducible refine gate ?_); (first
      | ((refine own_boxX HO HX HXB rfl rfl rfl ?_); clear HO HX; (first | (have gx := gS; clear gx; intro gT wN hgN HO HX) | intro gS wN hgN HO HX); (simp only [List.nil_append, List.cons_append] at HO); (try simp only [Act.put, List.setIfInBounds_toArray, List.set_cons_zero, List.set_cons_succ]))
      | ((refine own_allocX (T := 30) HO HX HXB rfl rfl Tryd.zeroValue30 rfl ?_); clear HO HX; (first | (have gx := gA; clear gx; intro gB wN hgN HO HX) | intro gA wN hgN HO HX); (simp only [List.nil_append, List.cons_append] at HO); (try simp only [Act.put, List.setIfInBounds_toArray, List.set_cons_zero, List.set_cons_succ]))
      | ((refine own_load (T := 25) HO rfl rfl rfl (by first | exact .head _ | exact .tail _ (.head _) | exact .tail _ (.tail _ (.head _)) | exact .tail _ (.tail _ (.tail _ (.head _))) | exact .tail _ (.tail _ (.tail _ (.tail _ (.head _)))) | exact .tail _ (.tail _ (.tail _ (.tail _ (.tail _ (.head _)))))) Tryd.isAgg25 Tryd.sizeOf25 (by repeat constructor) ?_); (try simp only [Act.put, List.setIfInBounds_toArray, List.set_cons_zero, List.set_cons_succ]))
      | ((refine own_load (T := 30) HO rfl rfl rfl (by first | exact .head _ | exact .tail _ (.head _) | exact .tail _ (.tail _ (.head _)) | exact .tail _ (.tail _ (.tail _ (.head _))) | exact .tail _ (.tail _ (.tail _ (.tail _ (.head _)))) | exact .tail _ (.tail _ (.tail _ (.tail _ (.tail _ (.head _)))))) Tryd.isAgg30 Tryd.sizeOf30 (by repeat constructor) ?_); (try simp only [Act.put, List.setIfInBounds_toArray, List.set_cons_zero, List.set_cons_succ]))
      | ((refine own_load (T := 23) HO rfl rfl rfl (by first | exact .head _ | exact .tail _ (.head _) | exact .tail _ (.tail _ (.head _)) | exact .tail _ (.tail _ (.tail _ (.head _))) | exact .tail _ (.tail _ (.tail _ (.tail _ (.head _)))) | exact .tail _ (.tail _ (.tail _ (.tail _ (.tail _ (.head _)))))) Tryd.isAgg23 Tryd.sizeOf23 (by repeat constructor) ?_); (try simp only [Act.put, List.setIfInBounds_toArray, List.set_cons_zero, List.set_cons_succ]))
      | ((refine own_storeX (T := 25) HO HX rfl rfl rfl rfl (by first | exact .here | exact .there (.here) | exact .there (.there (.here)) | exact .there (.there (.there (.here))) | exact .there (.there (.there (.there (.here)))) | exact .there (.there (.there (.there (.there (.here)))))) HXS Tryd.sizeOf25 (by repeat constructor) rfl ?_); clear HO HX; intro wN HO HX; (try simp only [Act.put, List.setIfInBounds_toArray, List.set_cons_zero, List.set_cons_succ]))
      | ((refine own_storeX (T := 30) HO HX rfl rfl rfl rfl (by first | exact .here | exact .there (.here) | exact .there (.there (.here)) | exact .there (.there (.there (.here))) | exact .there (.there (.there (.there (.here)))) | exact .there (.there (.there (.there (.there (.here)))))) HXS Tryd.sizeOf30 (by repeat constructor) rfl ?_); clear HO HX; intro wN HO HX; (try simp only [Act.put, List.setIfInBounds_toArray, List.set_cons_zero, List.set_cons_succ]))
      | ((refine own_storeX (T := 23) HO HX rfl rfl rfl rfl (by first | exact .here | exact .there (.here) | exact .there (.there (.here)) | exact .there (.there (.there (.here))) | exact .there (.there (.there (.there (.here)))) | exact .there (.there (.there (.there (.there (.here)))))) HXS Tryd.sizeOf23 (by repeat constructor) rfl ?_); clear HO HX; intro wN HO HX; (try simp only [Act.put, List.setIfInBounds_toArray, List.set_cons_zero, List.set_cons_succ])))))
  refine region_law 28 [fIs (.bool true), fIs (.bool true), fIs (.pointer (some ⟨gA, 5, none⟩)), fIs (.string q1.data), fIs (.int .i64 (q1.data.size : Int)), fIs (.bool true), fIs (.bool true), fIs (.bool true), fIs (.pointer (some ⟨gA, 5, none⟩)), fIs (.string q1.data), fIs (.pointer (some ⟨gA, 5, none⟩)), fIs (.string q1.data), fIs (.int .i64 (q1.data.size : Int)), fIs (.int .i64 (e1 : Int)), fIs (.int .u8 109), fIs (.bool true), fIs (.bool true), fIs (.bool true), fSq w.heap.size q1, fSq w.heap.size q2, fIs (.bool true), fIs (.pointer (some ⟨gS, 9, none⟩)), fIs (.agg #[.bool x9, .bool x10, .bool x11, .bool x12, .bool x13, .bool x14, .bool x15, .int .i64 x16, .int .i64 x17, .int .i64 x18]), fIs (.pointer (some ⟨gT, 9, none⟩)), fIs (.agg #[.bool y9, .bool y10, .bool y11, .bool y12, .bool y13, .bool y14, .bool y15, .int .i64 y16, .int .i64 y17, .int .i64 y18]), fIs (.bool true), fIs (.bool true), fIs (.bool true)] HO (by kernel_rfl) (by kernel_rfl) (by decide) (by kernel_rfl)
    (stays_cons (Stays.fIs _) (stays_cons (Stays.fIs _) (stays_cons (Stays.fIs _) (stays_cons (Stays.fIs _) (stays_cons (Stays.fIs _) (stays_cons (Stays.fIs _) (stays_cons (Stays.fIs _) (stays_cons (Stays.fIs _) (stays_cons (Stays.fIs _) (stays_cons (Stays.fIs _) (stays_cons (Stays.fIs _) (stays_cons (Stays.fIs _) (stays_cons (Stays.fIs _) (stays_cons (Stays.fIs _) (stays_cons (Stays.fIs _) (stays_cons (Stays.fIs _) (stays_cons (Stays.fIs _) (stays_cons (Stays.fIs _) (stays_cons (Stays.fSq _ _) (stays_cons (Stays.fSq _ _) (stays_cons (Stays.fIs _) (stays_cons (Stays.fIs _) (stays_cons (Stays.fIs _) (stays_cons (Stays.fIs _) (stays_cons (Stays.fIs _) (stays_cons (Stays.fIs _) (stays_cons (Stays.fIs _) (stays_cons (Stays.fIs _) stays_nil)))))))))))))))))))))))))))) ?_
  intro vals A hA
  simp [fillL, dstOf, List.range, List.range.loop, Act.put] at hA
  subst hA
  refine ⟨⟨?_, ?_, ?_, ?_, ?_, ?_, ?_, ?_, ?_, ?_, ?_, ?_, ?_, ?_, ?_, ?_, ?_, ?_, ?_, ?_, ?_, ?_, ?_, ?_, ?_, ?_, ?_, ?_, trivial⟩, ?_⟩
  all_goals intro W hd hM hb0
  case refine_1 =>
    skip
    exact st_val rfl (by simp only [execOp]; first | (go_simp; done) | (go_simp; rfl)) rfl
  case refine_2 =>
    have v0 : vals 0 = .bool true := hd 0 (by kernel_rfl)
    rw [v0]
    exact st_val rfl (by simp only [execOp]; first | (go_simp; done) | (go_simp; rfl)) rfl
  case refine_3 =>
    have v1 : vals 1 = .bool true := hd 1 (by kernel_rfl)
    rw [v1]
    exact st_val rfl (by simp only [execOp]; first | (go_simp; done) | (go_simp; rfl)) rfl
  case refine_4 =>
    have v1 : vals 1 = .bool true := hd 1 (by kernel_rfl)
    rw [v1]
    have e2 : vals 2 = .pointer (some ⟨gA, 5, none⟩) := hd 2 (by kernel_rfl)
    exact st_load1 hM rfl rfl (by rw [← e2]; rfl) (.tail _ (.tail _ (.head _))) Tryd.isAgg9 rfl rfl
  case refine_5 =>
    have v1 : vals 1 = .bool true := hd 1 (by kernel_rfl)
    have v3 : vals 3 = .string q1.data := hd 3 (by kernel_rfl)
    rw [v1, v3]
    exact st_val rfl (by simp only [execOp]; first | (go_simp; done) | (go_simp; rfl)) rfl
  case refine_6 =>
    have v1 : vals 1 = .bool true := hd 1 (by kernel_rfl)
    have v4 : vals 4 = .int .i64 (q1.data.size : Int) := hd 4 (by kernel_rfl)
    rw [v1, v4]
    exact st_val rfl (by simp only [execOp]; first | (go_simp; done) | (go_simp; rfl)) rfl
  case refine_7 =>
    have v1 : vals 1 = .bool true := hd 1 (by kernel_rfl)
    have v5 : vals 5 = .bool true := hd 5 (by kernel_rfl)
    rw [v1, v5]
    exact st_val rfl (by simp only [execOp]; first | (go_simp; done) | (go_simp; rfl)) rfl
  case refine_8 =>
    have v6 : vals 6 = .bool true := hd 6 (by kernel_rfl)
    rw [v6]
    exact st_val rfl (by simp only [execOp]; first | (go_simp; done) | (go_simp; rfl)) rfl
  case refine_9 =>
    have v7 : vals 7 = .bool true := hd 7 (by kernel_rfl)
    rw [v7]
    exact st_val rfl (by simp only [execOp]; first | (go_simp; done) | (go_simp; rfl)) rfl
  case refine_10 =>
    have v7 : vals 7 = .bool true := hd 7 (by kernel_rfl)
    rw [v7]
    have e8 : vals 8 = .pointer (some ⟨gA, 5, none⟩) := hd 8 (by kernel_rfl)
    exact st_load1 hM rfl rfl (by rw [← e8]; rfl) (.tail _ (.tail _ (.head _))) Tryd.isAgg9 rfl rfl
  case refine_11 =>
    have v7 : vals 7 = .bool true := hd 7 (by kernel_rfl)
    rw [v7]
    exact st_val rfl (by simp only [execOp]; first | (go_simp; done) | (go_simp; rfl)) rfl
  case refine_12 =>
    have v7 : vals 7 = .bool true := hd 7 (by kernel_rfl)
    rw [v7]
    have e10 : vals 10 = .pointer (some ⟨gA, 5, none⟩) := hd 10 (by kernel_rfl)
    exact st_load1 hM rfl rfl (by rw [← e10]; rfl) (.tail _ (.tail _ (.head _))) Tryd.isAgg9 rfl rfl
  case refine_13 =>
    have v7 : vals 7 = .bool true := hd 7 (by kernel_rfl)
    have v11 : vals 11 = .string q1.data := hd 11 (by kernel_rfl)
    rw [v7, v11]
    exact st_val rfl (by simp only [execOp]; first | (go_simp; done) | (go_simp; rfl)) rfl
  case refine_14 =>
    have v7 : vals 7 = .bool true := hd 7 (by kernel_rfl)
    have v12 : vals 12 = .int .i64 (q1.data.size : Int) := hd 12 (by kernel_rfl)
    rw [v7, v12]
    exact st_val rfl (by simp only [execOp]; first | (go_simp; done) | (go_simp; rfl)) (congrArg (Value.int .i64) HW.out)
  case refine_15 =>
    have v7 : vals 7 = .bool true := hd 7 (by kernel_rfl)
    have v9 : vals 9 = .string q1.data := hd 9 (by kernel_rfl)
    have v13 : vals 13 = .int .i64 (e1 : Int) := hd 13 (by kernel_rfl)
    rw [v7, v9, v13]
    exact st_index rfl rfl rfl rfl (HI.out W) rfl
  case refine_16 =>
    have v7 : vals 7 = .bool true := hd 7 (by kernel_rfl)
    have v14 : vals 14 = .int .u8 109 := hd 14 (by kernel_rfl)
    rw [v7, v14]
    exact st_val rfl (by simp only [execOp]; first | (go_simp; done) | (go_simp; rfl)) rfl
  case refine_17 =>
    have v7 : vals 7 = .bool true := hd 7 (by kernel_rfl)
    have v15 : vals 15 = .bool true := hd 15 (by kernel_rfl)
    rw [v7, v15]
    exact st_val rfl (by simp only [execOp]; first | (go_simp; done) | (go_simp; rfl)) rfl
  case refine_18 =>
    have v16 : vals 16 = .bool true := hd 16 (by kernel_rfl)
    rw [v16]
    exact st_val rfl (by simp only [execOp]; first | (go_simp; done) | (go_simp; rfl)) rfl
  case refine_19 =>
    have v17 : vals 17 = .bool true := hd 17 (by kernel_rfl)
    rw [v17]
    exact st_load hM rfl rfl rfl (.tail _ (.tail _ (.head _))) Tryd.isAgg30 Tryd.sizeOf30 (by repeat constructor) ⟨_, rfl, Kd.S_below HX.1 hb0⟩
  case refine_20 =>
    have v17 : vals 17 = .bool true := hd 17 (by kernel_rfl)
    rw [v17]
    exact st_load hM rfl rfl rfl (.tail _ (.tail _ (.tail _ (.head _)))) Tryd.isAgg30 Tryd.sizeOf30 (by repeat constructor) ⟨_, rfl, Kd.S_below HX.2 hb0⟩
  case refine_21 =>
    have v17 : vals 17 = .bool true := hd 17 (by kernel_rfl)
    rw [v17]
    exact st_call rfl (by simp only [execOp]; first | (go_simp; done) | (go_simp; rfl)) (H1.out W _ _ _ _ hM.below (hd 18 (by kernel_rfl)) (hd 19 (by kernel_rfl))) (by rintro e w' ⟨rfl, hb⟩; exact ⟨_, rfl, hb, rfl⟩)
  case refine_22 =>
    have v17 : vals 17 = .bool true := hd 17 (by kernel_rfl)
    rw [v17]
    exact st_val rfl (by simp only [execOp]; first | (go_simp; done) | (go_simp; rfl)) rfl
  case refine_23 =>
    have v17 : vals 17 = .bool true := hd 17 (by kernel_rfl)
    rw [v17]
    have e21 : vals 21 = .pointer (some ⟨gS, 9, none⟩) := hd 21 (by kernel_rfl)
    exact st_load hM rfl rfl (by rw [← e21]; rfl) (.head _) Tryd.isAgg23 Tryd.sizeOf23 (by repeat constructor) rfl
  case refine_24 =>
    have v17 : vals 17 = .bool true := hd 17 (by kernel_rfl)
    rw [v17]
    exact st_val rfl (by simp only [execOp]; first | (go_simp; done) | (go_simp; rfl)) rfl
  case refine_25 =>
    have v17 : vals 17 = .bool true := hd 17 (by kernel_rfl)
    rw [v17]
    have e23 : vals 23 = .pointer (some ⟨gT, 9, none⟩) := hd 23 (by kernel_rfl)
    exact st_load hM rfl rfl (by rw [← e23]; rfl) (.tail _ (.head _)) Tryd.isAgg23 Tryd.sizeOf23 (by repeat constructor) rfl
  case refine_26 =>
    have v17 : vals 17 = .bool true := hd 17 (by kernel_rfl)
    have v22 : vals 22 = .agg #[.bool x9, .bool x10, .bool x11, .bool x12, .bool x13, .bool x14, .bool x15, .int .i64 x16, .int .i64 x17, .int .i64 x18] := hd 22 (by kernel_rfl)
    have v24 : vals 24 = .agg #[.bool y9, .bool y10, .bool y11, .bool y12, .bool y13, .bool y14, .bool y15, .int .i64 y16, .int .i64 y17, .int .i64 y18] := hd 24 (by kernel_rfl)
    rw [v17, v22, v24]
    exact st_eql rfl rfl rfl rfl (by kernel_rfl) EQ.out rfl
  case refine_27 =>
    have v17 : vals 17 = .bool true := hd 17 (by kernel_rfl)
    have v20 : vals 20 = .bool true := hd 20 (by kernel_rfl)
    have v25 : vals 25 = .bool true := hd 25 (by kernel_rfl)
    rw [v17, v20, v25]
    exact st_val rfl (by simp only [execOp]; first | (go_simp; done) | (go_simp; rfl)) rfl
  case refine_28 =>
    have v17 : vals 17 = .bool true := hd 17 (by kernel_rfl)
    have v26 : vals 26 = .bool true := hd 26 (by kernel_rfl)
    rw [v17, v26]
    exact st_val rfl (by simp only [execOp]; first | (go_simp; done) | (go_simp; rfl)) rfl
  case refine_29 =>
    have v27 : vals 27 = .bool true := hd 27 (by omega)
    rw [v27]
    simp only [List.drop_succ_cons, List.drop_zero]
    go_wp2
    go_ret
    exact ⟨rfl, hM.below⟩
set_option maxRecDepth 100000 in
set_option maxHeartbeats 4000000 in
theorem style_yes_false (x0 x1 x2 x3 x4 x5 x6 x7 x8 : Int) (x9 x10 x11 x12 x13 x14 x15 : Bool) (x16 x17 x18 : Int) (y0 y1 y2 y3 y4 y5 y6 y7 y8 : Int) (y9 y10 y11 y12 y13 y14 y15 : Bool) (y16 y17 y18 : Int) (w : World) (ha : Gives 9 #[] (.bool true) w) (m1 : Gives 15 #[.agg #[.bool x9, .bool x10, .bool x11, .bool x12, .bool x13, .bool x14, .bool x15, .int .i64 x16, .int .i64 x17, .int .i64 x18]] (.bool true) w) (m2 : Gives 15 #[.agg #[.bool y9, .bool y10, .bool y11, .bool y12, .bool y13, .bool y14, .bool y15, .int .i64 y16, .int .i64 y17, .int .i64 y18]] (.bool true) w) (q1 q2 : Sq)
    (t1 : Tells 13 #[.agg #[.int .i64 x0, .int .i64 x1, .int .i64 x2, .int .i64 x3, .int .i64 x4, .int .i64 x5, .int .i64 x6, .int .i64 x7, .int .i64 x8, .bool x9, .bool x10, .bool x11, .bool x12, .bool x13, .bool x14, .bool x15, .int .i64 x16, .int .i64 x17, .int .i64 x18], .string ⟨#[109]⟩] q1 w) (t2 : Tells 13 #[.agg #[.int .i64 y0, .int .i64 y1, .int .i64 y2, .int .i64 y3, .int .i64 y4, .int .i64 y5, .int .i64 y6, .int .i64 y7, .int .i64 y8, .bool y9, .bool y10, .bool y11, .bool y12, .bool y13, .bool y14, .bool y15, .int .i64 y16, .int .i64 y17, .int .i64 y18], .string ⟨#[109]⟩] q2 w) (h1 : SameIs q1 q2 false w) (e1 : Nat) (hn : 0 < e1) (hn2 : e1 ≤ 1000000) (hz : q1.data.size = e1 + 1) (hi : q1.data[e1]? = some 109)
    (hE : ∀ w, (Op.equal 23 (.agg #[.bool x9, .bool x10, .bool x11, .bool x12, .bool x13, .bool x14, .bool x15, .int .i64 x16, .int .i64 x17, .int .i64 x18]) (.agg #[.bool y9, .bool y10, .bool y11, .bool y12, .bool y13, .bool y14, .bool y15, .int .i64 y16, .int .i64 y17, .int .i64 y18])).run Tryd.prog w = .ok false w) :
    Calls Tryd.prog 5 #[.agg #[.int .i64 x0, .int .i64 x1, .int .i64 x2, .int .i64 x3, .int .i64 x4, .int .i64 x5, .int .i64 x6, .int .i64 x7, .int .i64 x8, .bool x9, .bool x10, .bool x11, .bool x12, .bool x13, .bool x14, .bool x15, .int .i64 x16, .int .i64 x17, .int .i64 x18], .agg #[.int .i64 y0, .int .i64 y1, .int .i64 y2, .int .i64 y3, .int .i64 y4, .int .i64 y5, .int .i64 y6, .int .i64 y7, .int .i64 y8, .bool y9, .bool y10, .bool y11, .bool y12, .bool y13, .bool y14, .bool y15, .int .i64 y16, .int .i64 y17, .int .i64 y18]] w fun e w' => e = .returned (.bool true) ∧ Below w.heap.size w w' := by
  have HO := Mine.start w
  have HX : (fun _ : World => True) w := trivial
  have HXB : XB (fun _ : World => True) := fun _ _ _ _ => trivial
  have HXS : XS 30 (fun _ : World => True) := fun _ _ _ _ _ _ => trivial
  have HA := Lib.hid ha
  have M1 := Lib.hid m1
  have M2 := Lib.hid m2
  have T1 := Lib.hid t1
  have T2 := Lib.hid t2
  have H1 := Lib.hid h1
  have EQ := Lib.hid hE
  have hgt : decide ((q1.data.size : Int) > 1) = true := decide_eq_true (by omega)
  have hgt2 : decide (1 < (q1.data.size : Int)) = true := hgt
  have HW := Lib.hid (show IntKind.i64.wrap ((q1.data.size : Int) - 1) = (e1 : Int) by rw [hz]; simp [IntKind.wrap, IntKind.signed, IntKind.bits]; omega)
  have HI := Lib.hid (index_str q1.data e1 109 hi)
  clear ha m1 m2 t1 t2 h1 hE hz hn hn2 hi
  go_enter Tryd.func5, Tryd.ntmps5
  go_wp2_with (first
      | (go_at_call 13; first | (refine (T1.out _ HO.below).mono ?_; clear T1; rintro eN wN ⟨vR, rfl, ⟨uR, rfl, hS⟩, hbN⟩; obtain ⟨vA, cA, rfl⟩ := Kd.S_slice hS; have hS2 := Kd.S_lower hS HO.below.size; have HON := HO.call hbN; clear HO HX HXB HXS hbN hS; have HO := HON; clear HON; (have HX : (fun W => Kd.S (Kd.slice 3 (Kd.int .i64)) 52 W w.heap.size (fun _ => True) (.slice vA q1.rows.length cA) q1.rows) wN := hS2); have HXB := XB.rows (Kd.slice 3 (Kd.int .i64)) 52 w.heap.size (fun _ => True) (.slice vA q1.rows.length cA) q1.rows; have HXS := XS.rows (Kd.slice 3 (Kd.int .i64)) 52 w.heap.size (fun _ => True) (.slice vA q1.rows.length cA) q1.rows (T := 30) (by decide); clear hS2; unfold seqV) | (refine (T2.out _ HO.below).mono ?_; clear T2; rintro eN wN ⟨vR, rfl, ⟨uR, rfl, hS⟩, hbN⟩; obtain ⟨vB, cB, rfl⟩ := Kd.S_slice hS; have hS2 := Kd.S_lower hS HO.below.size; have HON := HO.call hbN; have HXN := HXB _ _ HX hbN; clear HO HX HXB HXS hbN hS; have HO := HON; clear HON; (have HX : (fun W => Kd.S (Kd.slice 3 (Kd.int .i64)) 52 W w.heap.size (fun _ => True) (.slice vA q1.rows.length cA) q1.rows ∧ Kd.S (Kd.slice 3 (Kd.int .i64)) 52 W w.heap.size (fun _ => True) (.slice vB q2.rows.length cB) q2.rows) wN := ⟨HXN, hS2⟩); have HXB := (XB.rows (Kd.slice 3 (Kd.int .i64)) 52 w.heap.size (fun _ => True) (.slice vA q1.rows.length cA) q1.rows).and (XB.rows (Kd.slice 3 (Kd.int .i64)) 52 w.heap.size (fun _ => True) (.slice vB q2.rows.length cB) q2.rows); have HXS := (XS.rows (Kd.slice 3 (Kd.int .i64)) 52 w.heap.size (fun _ => True) (.slice vA q1.rows.length cA) q1.rows (T := 30) (by decide)).and (XS.rows (Kd.slice 3 (Kd.int .i64)) 52 w.heap.size (fun _ => True) (.slice vB q2.rows.length cB) q2.rows (T := 30) (by decide)); clear hS2 HXN; unfold seqV))
      | (go_at_call 9; refine (HA.out _ HO.below).mono ?_; rintro eN wN ⟨rfl, hbN⟩; have HON := HO.call hbN; have HXN := HXB _ _ HX hbN; clear HO HX hbN; have HO := HON; have HX := HXN; clear HON HXN)
      | (go_at_call 15; (first | (refine (M1.out _ HO.below).mono ?_; clear M1) | (refine (M2.out _ HO.below).mono ?_; clear M2)); rintro eN wN ⟨rfl, hbN⟩; have HON := HO.call hbN; have HXN := HXB _ _ HX hbN; clear HO HX hbN; have HO := HON; have HX := HXN; clear HON HXN)
      | ((with_reducible refine gate ?_); (first
      | ((refine own_boxX HO HX HXB rfl rfl rfl ?_); clear HO HX; (first | (have gx := gS; clear gx; intro gT wN hgN HO HX) | intro gS wN hgN HO HX); (simp only [List.nil_append, List.cons_append] at HO); (try simp only [Act.put, List.setIfInBounds_toArray, List.set_cons_zero, List.set_cons_succ]))
      | ((refine own_allocX (T := 30) HO HX HXB rfl rfl Tryd.zeroValue30 rfl ?_); clear HO HX; (first | (have gx := gA; clear gx; intro gB wN hgN HO HX) | intro gA wN hgN HO HX); (simp only [List.nil_append, List.cons_append] at HO); (try simp only [Act.put, List.setIfInBounds_toArray, List.set_cons_zero, List.set_cons_succ]))
      | ((refine own_load (T := 25) HO rfl rfl rfl (by first | exact .head _ | exact .tail _ (.head _) | exact .tail _ (.tail _ (.head _)) | exact .tail _ (.tail _ (.tail _ (.head _))) | exact .tail _ (.tail _ (.tail _ (.tail _ (.head _)))) | exact .tail _ (.tail _ (.tail _ (.tail _ (.tail _ (.head _)))))) Tryd.isAgg25 Tryd.sizeOf25 (by repeat constructor) ?_); (try simp only [Act.put, List.setIfInBounds_toArray, List.set_cons_zero, List.set_cons_succ]))
      | ((refine own_load (T := 30) HO rfl rfl rfl (by first | exact .head _ | exact .tail _ (.head _) | exact .tail _ (.tail _ (.head _)) | exact .tail _ (.tail _ (.tail _ (.head _))) | exact .tail _ (.tail _ (.tail _ (.tail _ (.head _)))) | exact .tail _ (.tail _ (.tail _ (.tail _ (.tail _ (.head _)))))) Tryd.isAgg30 Tryd.sizeOf30 (by repeat constructor) ?_); (try simp only [Act.put, List.setIfInBounds_toArray, List.set_cons_zero, List.set_cons_succ]))
      | ((refine own_load (T := 23) HO rfl rfl rfl (by first | exact .head _ | exact .tail _ (.head _) | exact .tail _ (.tail _ (.head _)) | exact .tail _ (.tail _ (.tail _ (.head _))) | exact .tail _ (.tail _ (.tail _ (.tail _ (.head _)))) | exact .tail _ (.tail _ (.tail _ (.tail _ (.tail _ (.head _)))))) Tryd.isAgg23 Tryd.sizeOf23 (by repeat constructor) ?_); (try simp only [Act.put, List.setIfInBounds_toArray, List.set_cons_zero, List.set_cons_succ]))
      | ((refine own_storeX (T := 25) HO HX rfl rfl rfl rfl (by first | exact .here | exact .there (.here) | exact .there (.there (.here)) | exact .there (.there (.there (.here))) | exact .there (.there (.there (.there (.here)))) | exact .there (.there (.there (.there (.there (.here)))))) HXS Tryd.sizeOf25 (by repeat constructor) rfl ?_); clear HO HX; intro wN HO HX; (try simp only [Act.put, List.setIfInBounds_toArray, List.set_cons_zero, List.set_cons_succ]))
      | ((refine own_storeX (T := 30) HO HX rfl rfl rfl rfl (by first | exact .here | exact .there (.here) | exact .there (.there (.here)) | exact .there (.there (.there (.here))) | exact .there (.there (.there (.there (.here)))) | exact .there (.there (.there (.there (.there (.here)))))) HXS Tryd.sizeOf30 (by repeat constructor) rfl ?_); clear HO HX; intro wN HO HX; (try simp only [Act.put, List.setIfInBounds_toArray, List.set_cons_zero, List.set_cons_succ]))
      | ((refine own_storeX (T := 23) HO HX rfl rfl rfl rfl (by first | exact .here | exact .there (.here) | exact .there (.there (.here)) | exact .there (.there (.there (.here))) | exact .there (.there (.there (.there (.here)))) | exact .there (.there (.there (.there (.there (.here)))))) HXS Tryd.sizeOf23 (by repeat constructor) rfl ?_); clear HO HX; intro wN HO HX; (try simp only [Act.put, List.setIfInBounds_toArray, List.set_cons_zero, List.set_cons_succ])))))
  refine region_law 28 [fIs (.bool true), fIs (.bool true), fIs (.pointer (some ⟨gA, 5, none⟩)), fIs (.string q1.data), fIs (.int .i64 (q1.data.size : Int)), fIs (.bool true), fIs (.bool true), fIs (.bool true), fIs (.pointer (some ⟨gA, 5, none⟩)), fIs (.string q1.data), fIs (.pointer (some ⟨gA, 5, none⟩)), fIs (.string q1.data), fIs (.int .i64 (q1.data.size : Int)), fIs (.int .i64 (e1 : Int)), fIs (.int .u8 109), fIs (.bool true), fIs (.bool true), fIs (.bool true), fSq w.heap.size q1, fSq w.heap.size q2, fIs (.bool false), fIs (.pointer (some ⟨gS, 9, none⟩)), fIs (.agg #[.bool x9, .bool x10, .bool x11, .bool x12, .bool x13, .bool x14, .bool x15, .int .i64 x16, .int .i64 x17, .int .i64 x18]), fIs (.pointer (some ⟨gT, 9, none⟩)), fIs (.agg #[.bool y9, .bool y10, .bool y11, .bool y12, .bool y13, .bool y14, .bool y15, .int .i64 y16, .int .i64 y17, .int .i64 y18]), fIs (.bool false), fIs (.bool true), fIs (.bool true)] HO (by kernel_rfl) (by kernel_rfl) (by decide) (by kernel_rfl)
    (stays_cons (Stays.fIs _) (stays_cons (Stays.fIs _) (stays_cons (Stays.fIs _) (stays_cons (Stays.fIs _) (stays_cons (Stays.fIs _) (stays_cons (Stays.fIs _) (stays_cons (Stays.fIs _) (stays_cons (Stays.fIs _) (stays_cons (Stays.fIs _) (stays_cons (Stays.fIs _) (stays_cons (Stays.fIs _) (stays_cons (Stays.fIs _) (stays_cons (Stays.fIs _) (stays_cons (Stays.fIs _) (stays_cons (Stays.fIs _) (stays_cons (Stays.fIs _) (stays_cons (Stays.fIs _) (stays_cons (Stays.fIs _) (stays_cons (Stays.fSq _ _) (stays_cons (Stays.fSq _ _) (stays_cons (Stays.fIs _) (stays_cons (Stays.fIs _) (stays_cons (Stays.fIs _) (stays_cons (Stays.fIs _) (stays_cons (Stays.fIs _) (stays_cons (Stays.fIs _) (stays_cons (Stays.fIs _) (stays_cons (Stays.fIs _) stays_nil)))))))))))))))))))))))))))) ?_
  intro vals A hA
  simp [fillL, dstOf, List.range, List.range.loop, Act.put] at hA
  subst hA
  refine ⟨⟨?_, ?_, ?_, ?_, ?_, ?_, ?_, ?_, ?_, ?_, ?_, ?_, ?_, ?_, ?_, ?_, ?_, ?_, ?_, ?_, ?_, ?_, ?_, ?_, ?_, ?_, ?_, ?_, trivial⟩, ?_⟩
  all_goals intro W hd hM hb0
  case refine_1 =>
    skip
    exact st_val rfl (by simp only [execOp]; first | (go_simp; done) | (go_simp; rfl)) rfl
  case refine_2 =>
    have v0 : vals 0 = .bool true := hd 0 (by kernel_rfl)
    rw [v0]
    exact st_val rfl (by simp only [execOp]; first | (go_simp; done) | (go_simp; rfl)) rfl
  case refine_3 =>
    have v1 : vals 1 = .bool true := hd 1 (by kernel_rfl)
    rw [v1]
    exact st_val rfl (by simp only [execOp]; first | (go_simp; done) | (go_simp; rfl)) rfl
  case refine_4 =>
    have v1 : vals 1 = .bool true := hd 1 (by kernel_rfl)
    rw [v1]
    have e2 : vals 2 = .pointer (some ⟨gA, 5, none⟩) := hd 2 (by kernel_rfl)
    exact st_load1 hM rfl rfl (by rw [← e2]; rfl) (.tail _ (.tail _ (.head _))) Tryd.isAgg9 rfl rfl
  case refine_5 =>
    have v1 : vals 1 = .bool true := hd 1 (by kernel_rfl)
    have v3 : vals 3 = .string q1.data := hd 3 (by kernel_rfl)
    rw [v1, v3]
    exact st_val rfl (by simp only [execOp]; first | (go_simp; done) | (go_simp; rfl)) rfl
  case refine_6 =>
    have v1 : vals 1 = .bool true := hd 1 (by kernel_rfl)
    have v4 : vals 4 = .int .i64 (q1.data.size : Int) := hd 4 (by kernel_rfl)
    rw [v1, v4]
    exact st_val rfl (by simp only [execOp]; first | (go_simp; done) | (go_simp; rfl)) rfl
  case refine_7 =>
    have v1 : vals 1 = .bool true := hd 1 (by kernel_rfl)
    have v5 : vals 5 = .bool true := hd 5 (by kernel_rfl)
    rw [v1, v5]
    exact st_val rfl (by simp only [execOp]; first | (go_simp; done) | (go_simp; rfl)) rfl
  case refine_8 =>
    have v6 : vals 6 = .bool true := hd 6 (by kernel_rfl)
    rw [v6]
    exact st_val rfl (by simp only [execOp]; first | (go_simp; done) | (go_simp; rfl)) rfl
  case refine_9 =>
    have v7 : vals 7 = .bool true := hd 7 (by kernel_rfl)
    rw [v7]
    exact st_val rfl (by simp only [execOp]; first | (go_simp; done) | (go_simp; rfl)) rfl
  case refine_10 =>
    have v7 : vals 7 = .bool true := hd 7 (by kernel_rfl)
    rw [v7]
    have e8 : vals 8 = .pointer (some ⟨gA, 5, none⟩) := hd 8 (by kernel_rfl)
    exact st_load1 hM rfl rfl (by rw [← e8]; rfl) (.tail _ (.tail _ (.head _))) Tryd.isAgg9 rfl rfl
  case refine_11 =>
    have v7 : vals 7 = .bool true := hd 7 (by kernel_rfl)
    rw [v7]
    exact st_val rfl (by simp only [execOp]; first | (go_simp; done) | (go_simp; rfl)) rfl
  case refine_12 =>
    have v7 : vals 7 = .bool true := hd 7 (by kernel_rfl)
    rw [v7]
    have e10 : vals 10 = .pointer (some ⟨gA, 5, none⟩) := hd 10 (by kernel_rfl)
    exact st_load1 hM rfl rfl (by rw [← e10]; rfl) (.tail _ (.tail _ (.head _))) Tryd.isAgg9 rfl rfl
  case refine_13 =>
    have v7 : vals 7 = .bool true := hd 7 (by kernel_rfl)
    have v11 : vals 11 = .string q1.data := hd 11 (by kernel_rfl)
    rw [v7, v11]
    exact st_val rfl (by simp only [execOp]; first | (go_simp; done) | (go_simp; rfl)) rfl
  case refine_14 =>
    have v7 : vals 7 = .bool true := hd 7 (by kernel_rfl)
    have v12 : vals 12 = .int .i64 (q1.data.size : Int) := hd 12 (by kernel_rfl)
    rw [v7, v12]
    exact st_val rfl (by simp only [execOp]; first | (go_simp; done) | (go_simp; rfl)) (congrArg (Value.int .i64) HW.out)
  case refine_15 =>
    have v7 : vals 7 = .bool true := hd 7 (by kernel_rfl)
    have v9 : vals 9 = .string q1.data := hd 9 (by kernel_rfl)
    have v13 : vals 13 = .int .i64 (e1 : Int) := hd 13 (by kernel_rfl)
    rw [v7, v9, v13]
    exact st_index rfl rfl rfl rfl (HI.out W) rfl
  case refine_16 =>
    have v7 : vals 7 = .bool true := hd 7 (by kernel_rfl)
    have v14 : vals 14 = .int .u8 109 := hd 14 (by kernel_rfl)
    rw [v7, v14]
    exact st_val rfl (by simp only [execOp]; first | (go_simp; done) | (go_simp; rfl)) rfl
  case refine_17 =>
    have v7 : vals 7 = .bool true := hd 7 (by kernel_rfl)
    have v15 : vals 15 = .bool true := hd 15 (by kernel_rfl)
    rw [v7, v15]
    exact st_val rfl (by simp only [execOp]; first | (go_simp; done) | (go_simp; rfl)) rfl
  case refine_18 =>
    have v16 : vals 16 = .bool true := hd 16 (by kernel_rfl)
    rw [v16]
    exact st_val rfl (by simp only [execOp]; first | (go_simp; done) | (go_simp; rfl)) rfl
  case refine_19 =>
    have v17 : vals 17 = .bool true := hd 17 (by kernel_rfl)
    rw [v17]
    exact st_load hM rfl rfl rfl (.tail _ (.tail _ (.head _))) Tryd.isAgg30 Tryd.sizeOf30 (by repeat constructor) ⟨_, rfl, Kd.S_below HX.1 hb0⟩
  case refine_20 =>
    have v17 : vals 17 = .bool true := hd 17 (by kernel_rfl)
    rw [v17]
    exact st_load hM rfl rfl rfl (.tail _ (.tail _ (.tail _ (.head _)))) Tryd.isAgg30 Tryd.sizeOf30 (by repeat constructor) ⟨_, rfl, Kd.S_below HX.2 hb0⟩
  case refine_21 =>
    have v17 : vals 17 = .bool true := hd 17 (by kernel_rfl)
    rw [v17]
    exact st_call rfl (by simp only [execOp]; first | (go_simp; done) | (go_simp; rfl)) (H1.out W _ _ _ _ hM.below (hd 18 (by kernel_rfl)) (hd 19 (by kernel_rfl))) (by rintro e w' ⟨rfl, hb⟩; exact ⟨_, rfl, hb, rfl⟩)
  case refine_22 =>
    have v17 : vals 17 = .bool true := hd 17 (by kernel_rfl)
    rw [v17]
    exact st_val rfl (by simp only [execOp]; first | (go_simp; done) | (go_simp; rfl)) rfl
  case refine_23 =>
    have v17 : vals 17 = .bool true := hd 17 (by kernel_rfl)
    rw [v17]
    have e21 : vals 21 = .pointer (some ⟨gS, 9, none⟩) := hd 21 (by kernel_rfl)
    exact st_load hM rfl rfl (by rw [← e21]; rfl) (.head _) Tryd.isAgg23 Tryd.sizeOf23 (by repeat constructor) rfl
  case refine_24 =>
    have v17 : vals 17 = .bool true := hd 17 (by kernel_rfl)
    rw [v17]
    exact st_val rfl (by simp only [execOp]; first | (go_simp; done) | (go_simp; rfl)) rfl
  case refine_25 =>
    have v17 : vals 17 = .bool true := hd 17 (by kernel_rfl)
    rw [v17]
    have e23 : vals 23 = .pointer (some ⟨gT, 9, none⟩) := hd 23 (by kernel_rfl)
    exact st_load hM rfl rfl (by rw [← e23]; rfl) (.tail _ (.head _)) Tryd.isAgg23 Tryd.sizeOf23 (by repeat constructor) rfl
  case refine_26 =>
    have v17 : vals 17 = .bool true := hd 17 (by kernel_rfl)
    have v22 : vals 22 = .agg #[.bool x9, .bool x10, .bool x11, .bool x12, .bool x13, .bool x14, .bool x15, .int .i64 x16, .int .i64 x17, .int .i64 x18] := hd 22 (by kernel_rfl)
    have v24 : vals 24 = .agg #[.bool y9, .bool y10, .bool y11, .bool y12, .bool y13, .bool y14, .bool y15, .int .i64 y16, .int .i64 y17, .int .i64 y18] := hd 24 (by kernel_rfl)
    rw [v17, v22, v24]
    exact st_eql rfl rfl rfl rfl (by kernel_rfl) EQ.out rfl
  case refine_27 =>
    have v17 : vals 17 = .bool true := hd 17 (by kernel_rfl)
    have v20 : vals 20 = .bool false := hd 20 (by kernel_rfl)
    have v25 : vals 25 = .bool false := hd 25 (by kernel_rfl)
    rw [v17, v20, v25]
    exact st_val rfl (by simp only [execOp]; first | (go_simp; done) | (go_simp; rfl)) rfl
  case refine_28 =>
    have v17 : vals 17 = .bool true := hd 17 (by kernel_rfl)
    have v26 : vals 26 = .bool true := hd 26 (by kernel_rfl)
    rw [v17, v26]
    exact st_val rfl (by simp only [execOp]; first | (go_simp; done) | (go_simp; rfl)) rfl
  case refine_29 =>
    have v27 : vals 27 = .bool true := hd 27 (by omega)
    rw [v27]
    simp only [List.drop_succ_cons, List.drop_zero]
    go_wp2
    go_ret
    exact ⟨rfl, hM.below⟩
end Go.Proofs.YtopcleljecdkkaaDoor
end
section
namespace Go.Proofs.YtopcleljecdkkaaDoor.G
set_option linter.unusedVariables false
set_option linter.unusedSimpArgs false
open Go.RowKit Kit Go.Proofs.YtopcleljecdkkaaDoorW.PrintWords
theorem one_nought (s : St) : oneS s [0] = (false, false, false, false, false, false, false, 0, -1, -1) := by unfold oneS oneL; rw [if_pos (Or.inr (by simp [at_]))]
theorem fold_mark {s : St} {b : Bool} {n : Int} : foldS s (markL b n) = if b then oneS s [n] else s := by cases b <;> rfl
theorem m1 (b0 b1 b2 b3 b4 b5 b6 : Bool) (u f b : Int) : foldS (false, b1, b2, b3, b4, b5, b6, u, f, b) (markL b0 1) = (b0, b1, b2, b3, b4, b5, b6, u, f, b) := by
  rw [fold_mark]; cases b0 <;> simp [oneS, oneL, at_, saidI]
theorem m2 (b0 b1 b2 b3 b4 b5 b6 : Bool) (u f b : Int) : foldS (b0, false, b2, b3, b4, b5, b6, u, f, b) (markL b1 2) = (b0, b1, b2, b3, b4, b5, b6, u, f, b) := by
  rw [fold_mark]; cases b1 <;> simp [oneS, oneL, at_, saidI]
theorem m3 (b0 b1 b2 b3 b4 b5 b6 : Bool) (u f b : Int) : foldS (b0, b1, false, b3, b4, b5, b6, u, f, b) (markL b2 3) = (b0, b1, b2, b3, b4, b5, b6, u, f, b) := by
  rw [fold_mark]; cases b2 <;> simp [oneS, oneL, at_, saidI]
theorem m5 (b0 b1 b2 b3 b4 b5 b6 : Bool) (u f b : Int) : foldS (b0, b1, b2, false, b4, b5, b6, u, f, b) (markL b3 5) = (b0, b1, b2, b3, b4, b5, b6, u, f, b) := by
  rw [fold_mark]; cases b3 <;> simp [oneS, oneL, at_, saidI]
theorem m7 (b0 b1 b2 b3 b4 b5 b6 : Bool) (u f b : Int) : foldS (b0, b1, b2, b3, false, b5, b6, u, f, b) (markL b4 7) = (b0, b1, b2, b3, b4, b5, b6, u, f, b) := by
  rw [fold_mark]; cases b4 <;> simp [oneS, oneL, at_, saidI]
theorem m8 (b0 b1 b2 b3 b4 b5 b6 : Bool) (u f b : Int) : foldS (b0, b1, b2, b3, b4, false, b6, u, f, b) (markL b5 8) = (b0, b1, b2, b3, b4, b5, b6, u, f, b) := by
  rw [fold_mark]; cases b5 <;> simp [oneS, oneL, at_, saidI]
theorem m9 (b0 b1 b2 b3 b4 b5 b6 : Bool) (u f b : Int) : foldS (b0, b1, b2, b3, b4, b5, false, u, f, b) (markL b6 9) = (b0, b1, b2, b3, b4, b5, b6, u, f, b) := by
  rw [fold_mark]; cases b6 <;> simp [oneS, oneL, at_, saidI]
theorem mU (b0 b1 b2 b3 b4 b5 b6 : Bool) (u f b : Int) (h0 : 0 ≤ u) (h1 : u ≤ 5) : foldS (b0, b1, b2, b3, b4, b5, b6, 0, f, b) (underL u) = (b0, b1, b2, b3, b4, b5, b6, u, f, b) := by
  unfold underL
  by_cases e1 : u = 1
  · subst e1; rw [if_pos rfl]; simp [foldS, oneS, oneL, at_]
  · rw [if_neg e1]
    by_cases e2 : 1 < u
    · rw [if_pos e2]; simp [foldS, oneS, oneL, at_, h0, h1]
    · rw [if_neg e2]
      have : u = 0 := by omega
      subst this; rfl
theorem one_other (b0 b1 b2 b3 b4 b5 b6 : Bool) (u f b : Int) (l : List Int) (hl : 0 < l.length) (hn : 10 ≤ at_ l 0) : oneS (b0, b1, b2, b3, b4, b5, b6, u, f, b) l = (b0, b1, b2, b3, b4, b5, b6, u, (if saidI l 30 = -2 then f else saidI l 30), (if saidI l 40 = -2 then b else saidI l 40)) := by
  unfold oneS oneL
  rw [if_neg (by omega), if_neg (by omega)]
  have e1 : (at_ l 0 == 1) = false := beq_eq_false_iff_ne.2 (by omega)
  have e2 : (at_ l 0 == 2) = false := beq_eq_false_iff_ne.2 (by omega)
  have e3 : (at_ l 0 == 3) = false := beq_eq_false_iff_ne.2 (by omega)
  have e5 : (at_ l 0 == 5) = false := beq_eq_false_iff_ne.2 (by omega)
  have e7 : (at_ l 0 == 7) = false := beq_eq_false_iff_ne.2 (by omega)
  have e8 : (at_ l 0 == 8) = false := beq_eq_false_iff_ne.2 (by omega)
  have e9 : (at_ l 0 == 9) = false := beq_eq_false_iff_ne.2 (by omega)
  simp only [e1, e2, e3, e5, e7, e8, e9, Bool.or_false]
theorem said_tint (n base other : Int) (h0 : 0 ≤ n) (h1 : n < 16777472) (hb : base = 30 ∧ other = 40 ∨ base = 40 ∧ other = 30) : 0 < (tintL n base).length ∧ 10 ≤ at_ (tintL n base) 0 ∧ saidI (tintL n base) base = n ∧ saidI (tintL n base) other = -2 := by
  by_cases g1 : n < 8
  · have e : tintL n base = [base + n] := by unfold tintL; rw [if_pos g1]
    have ha : at_ [base + n] 0 = base + n := rfl
    rw [e]; unfold saidI; simp only [ha]
    refine ⟨by simp, by omega, ?_, ?_⟩
    · rw [if_pos (by omega)]; omega
    · rw [if_neg (by omega), if_neg (by omega), if_neg (by omega), if_neg (by omega)]
  · by_cases g2 : n < 16
    · have e : tintL n base = [base + 52 + n] := by unfold tintL; rw [if_neg g1, if_pos g2]
      have ha : at_ [base + 52 + n] 0 = base + 52 + n := rfl
      rw [e]; unfold saidI; simp only [ha]
      refine ⟨by simp, by omega, ?_, ?_⟩
      · rw [if_neg (by omega), if_neg (by omega), if_neg (by omega), if_pos (by omega)]; omega
      · rw [if_neg (by omega), if_neg (by omega), if_neg (by omega), if_neg (by omega)]
    · by_cases g3 : n < 256
      · have e : tintL n base = [base + 8, 5, n] := by unfold tintL; rw [if_neg g1, if_neg g2, if_pos g3]
        have ha : at_ [base + 8, 5, n] 0 = base + 8 := rfl
        have hs : splitI [base + 8, 5, n] = n := by unfold splitI; rw [if_pos ⟨rfl, rfl, by simp [byteB, at_]; omega⟩]; rfl
        rw [e]; unfold saidI; simp only [ha]
        refine ⟨by simp, by omega, ?_, ?_⟩
        · rw [if_neg (by omega), if_pos (by omega), hs]
        · rw [if_neg (by omega), if_neg (by omega), if_neg (by omega), if_neg (by omega)]
      · have e : tintL n base = [base + 8, 2, -1, (n - 256) / 65536, (n - 256) / 256 % 256, (n - 256) % 256] := by unfold tintL; rw [if_neg g1, if_neg g2, if_neg g3]
        have ha : at_ [base + 8, 2, -1, (n - 256) / 65536, (n - 256) / 256 % 256, (n - 256) % 256] 0 = base + 8 := rfl
        have hs : splitI [base + 8, 2, -1, (n - 256) / 65536, (n - 256) / 256 % 256, (n - 256) % 256] = n := by
          unfold splitI
          rw [if_neg (by simp), if_pos ⟨rfl, rfl, by simp [byteB, at_]; omega, by simp [byteB, at_]; omega, by simp [byteB, at_]; omega⟩]
          simp only [at_, List.getElem?_cons_succ, List.getElem?_cons_zero, Option.getD_some]
          omega
        rw [e]; unfold saidI; simp only [ha]
        refine ⟨by simp, by omega, ?_, ?_⟩
        · rw [if_neg (by omega), if_pos (by omega), hs]
        · rw [if_neg (by omega), if_neg (by omega), if_neg (by omega), if_neg (by omega)]
theorem mF (b0 b1 b2 b3 b4 b5 b6 : Bool) (u f b : Int) (h0 : -1 ≤ f) (h1 : f < 16777472) : foldS (b0, b1, b2, b3, b4, b5, b6, u, -1, b) (colourL f 30) = (b0, b1, b2, b3, b4, b5, b6, u, f, b) := by
  unfold colourL
  by_cases e : f = -1
  · subst e; rw [if_pos rfl]; rfl
  · obtain ⟨g0, g1, g2, g3⟩ := said_tint f 30 40 (by omega) h1 (.inl ⟨rfl, rfl⟩)
    rw [if_neg e]
    show oneS _ _ = _
    rw [one_other _ _ _ _ _ _ _ _ _ _ _ g0 g1, g2, g3, if_neg (by omega), if_pos rfl]
theorem mB (b0 b1 b2 b3 b4 b5 b6 : Bool) (u f b : Int) (h0 : -1 ≤ b) (h1 : b < 16777472) : foldS (b0, b1, b2, b3, b4, b5, b6, u, f, -1) (colourL b 40) = (b0, b1, b2, b3, b4, b5, b6, u, f, b) := by
  unfold colourL
  by_cases e : b = -1
  · subst e; rw [if_pos rfl]; rfl
  · obtain ⟨g0, g1, g2, g3⟩ := said_tint b 40 30 (by omega) h1 (.inr ⟨rfl, rfl⟩)
    rw [if_neg e]
    show oneS _ _ = _
    rw [one_other _ _ _ _ _ _ _ _ _ _ _ g0 g1, g2, g3, if_pos rfl, if_neg (by omega)]
theorem fold_app (s : St) (a b : List (List Int)) : foldS s (a ++ b) = foldS (foldS s a) b := List.foldl_append ..
theorem back_is (s : St) (b0 b1 b2 b3 b4 b5 b6 : Bool) (u f b : Int) (h : mayL u f b = true) : foldS s (paramsV (b0, b1, b2, b3, b4, b5, b6, u, f, b)) = (b0, b1, b2, b3, b4, b5, b6, u, f, b) := by
  have hm := h
  simp only [mayL, colL, Bool.and_eq_true, decide_eq_true_eq] at hm
  obtain ⟨h0, h1, ⟨h2, h3⟩, h4, h5⟩ := hm
  have hz : foldS s [[0]] = (false, false, false, false, false, false, false, 0, -1, -1) := one_nought s
  unfold paramsV
  rw [if_pos h]
  show foldS s (paramsL b0 b1 b2 b3 b4 b5 b6 u f b) = _
  unfold paramsL
  rw [fold_app, fold_app, fold_app, fold_app, fold_app, fold_app, fold_app, fold_app, fold_app, fold_app, hz, m1, m2, m3, mU _ _ _ _ _ _ _ _ _ _ h0 h1, m5, m7, m8, m9, mF _ _ _ _ _ _ _ _ _ _ h2 h3, mB _ _ _ _ _ _ _ _ _ _ h4 h5]
theorem cut_eq (c : UInt8) : ∀ (a b r s : List UInt8), c ∉ a → c ∉ b → a ++ c :: r = b ++ c :: s → a = b ∧ r = s := by
  intro a
  induction a with
  | nil =>
    intro b r s ha hb h
    cases b with
    | nil => simp at h; exact ⟨rfl, h⟩
    | cons x b => simp at h; exact absurd h.1 (fun e => hb (by rw [e]; exact List.mem_cons_self))
  | cons y a ih =>
    intro b r s ha hb h
    cases b with
    | nil => simp at h; exact absurd h.1 (fun e => ha (by rw [← e]; exact List.mem_cons_self))
    | cons x b =>
      simp only [List.cons_append, List.cons.injEq] at h
      obtain ⟨rfl, h⟩ := h
      obtain ⟨h1, h2⟩ := ih b r s (fun m => ha (List.mem_cons_of_mem _ m)) (fun m => hb (List.mem_cons_of_mem _ m)) h
      exact ⟨by rw [h1], h2⟩
theorem join_two (x y : List UInt8) (r : List (List UInt8)) (c : UInt8) : Lib.join (x :: y :: r) [c] = x ++ c :: Lib.join (y :: r) [c] := by
  simp [Lib.join, List.intercalate, List.intersperse]
theorem join_inj (c : UInt8) : ∀ (xs ys : List (List UInt8)), xs ≠ [] → ys ≠ [] → (∀ x ∈ xs, c ∉ x) → (∀ y ∈ ys, c ∉ y) → Lib.join xs [c] = Lib.join ys [c] → xs = ys := by
  intro xs
  induction xs with
  | nil => intro ys h; exact absurd rfl h
  | cons x xs ih =>
    intro ys _ hy hx hys h
    cases ys with
    | nil => exact absurd rfl hy
    | cons y ys =>
      have hx0 := hx x List.mem_cons_self
      have hy0 := hys y List.mem_cons_self
      cases xs with
      | nil =>
        cases ys with
        | nil => rw [Lib.join_one, Lib.join_one] at h; rw [h]
        | cons y2 ys => rw [Lib.join_one, join_two] at h; exact absurd (by rw [h]; simp) hx0
      | cons x2 xs =>
        cases ys with
        | nil => rw [Lib.join_one, join_two] at h; exact absurd (by rw [← h]; simp) hy0
        | cons y2 ys =>
          rw [join_two, join_two] at h
          obtain ⟨h1, h2⟩ := cut_eq c _ _ _ _ hx0 hy0 h
          rw [h1, ih (y2 :: ys) (by simp) (by simp) (fun z hz => hx z (List.mem_cons_of_mem _ hz)) (fun z hz => hys z (List.mem_cons_of_mem _ hz)) h2]
def Fair (r : List Int) : Prop := r ≠ [] ∧ ∀ z ∈ r, -1 ≤ z ∧ z ≤ 1114111
theorem text_inj1 {a b : Int} (ha : -1 ≤ a ∧ a ≤ 1114111) (hb : -1 ≤ b ∧ b ≤ 1114111) (h : textL a = textL b) : a = b := by
  have hm : textL (-1) = [] := by decide
  by_cases e1 : a = -1
  · by_cases e2 : b = -1
    · rw [e1, e2]
    · have := (textL_len (a := b) (by omega) (by omega)).2
      rw [← h, e1, hm] at this
      simp at this
  · by_cases e2 : b = -1
    · have := (textL_len (a := a) (by omega) (by omega)).2
      rw [h, e2, hm] at this
      simp at this
    · exact textL_inj (by omega) (by omega) ha.2 hb.2 h
theorem text_no {n : Int} {c : UInt8} (hc : figU c = false) : c ∉ textL n := fun h => by have := textL_figs n c h; rw [hc] at this; cases this
theorem map_inj_on {α β : Type} (f : α → β) (P : α → Prop) (hf : ∀ a b, P a → P b → f a = f b → a = b) : ∀ (l m : List α), (∀ x ∈ l, P x) → (∀ x ∈ m, P x) → l.map f = m.map f → l = m := by
  intro l
  induction l with
  | nil => intro m _ _ h; cases m with
    | nil => rfl
    | cons y m => simp at h
  | cons x l ih =>
    intro m hl hm h
    cases m with
    | nil => simp at h
    | cons y m =>
      simp only [List.map_cons, List.cons.injEq] at h
      rw [hf x y (hl x List.mem_cons_self) (hm y List.mem_cons_self) h.1, ih m (fun z hz => hl z (List.mem_cons_of_mem _ hz)) (fun z hz => hm z (List.mem_cons_of_mem _ hz)) h.2]
theorem part_inj {r s : List Int} (hr : Fair r) (hs : Fair s) (h : partT r = partT s) : r = s := by
  have h58 : figU 58 = false := by decide
  have := join_inj 58 (r.map textL) (s.map textL) (by simpa using hr.1) (by simpa using hs.1)
    (fun x hx => by obtain ⟨z, _, rfl⟩ := List.mem_map.1 hx; exact text_no h58) (fun x hx => by obtain ⟨z, _, rfl⟩ := List.mem_map.1 hx; exact text_no h58) h
  exact map_inj_on textL (fun z => -1 ≤ z ∧ z ≤ 1114111) (fun a b => text_inj1) r s hr.2 hs.2 this
theorem mem_tail {c : UInt8} {sep : List UInt8} (hs : c ∉ sep) : ∀ (xs : List (List UInt8)), (∀ x ∈ xs, c ∉ x) → c ∉ Lib.join xs sep := by
  intro xs h hc
  unfold Lib.join List.intercalate at hc
  obtain ⟨l, hl, hcl⟩ := List.mem_flatten.1 hc
  have : ∀ (xs : List (List UInt8)) (l : List UInt8), l ∈ List.intersperse sep xs → l = sep ∨ l ∈ xs := by
    intro xs
    induction xs with
    | nil => intro l hl; simp at hl
    | cons x xs ih =>
      intro l hl
      cases xs with
      | nil => simp at hl; exact .inr (by simp [hl])
      | cons y xs =>
        simp only [List.intersperse_cons_cons, List.mem_cons] at hl
        rcases hl with rfl | rfl | hl
        · exact .inr List.mem_cons_self
        · exact .inl rfl
        · rcases ih l hl with h | h
          · exact .inl h
          · exact .inr (List.mem_cons_of_mem _ h)
  rcases this xs l hl with rfl | h2
  · exact hs hcl
  · exact h l h2 hcl
theorem textP_inj {l m : List (List Int)} (hl : l ≠ []) (hm : m ≠ []) (fl : ∀ r ∈ l, Fair r) (fm : ∀ r ∈ m, Fair r) (h : textP l = textP m) : l = m := by
  have h59 : figU 59 = false := by decide
  have hp : ∀ r : List Int, (59 : UInt8) ∉ partT r := fun r => mem_tail (by decide) _ (fun x hx => by obtain ⟨z, _, rfl⟩ := List.mem_map.1 hx; exact text_no h59)
  have := join_inj 59 (l.map partT) (m.map partT) (by simpa using hl) (by simpa using hm)
    (fun x hx => by obtain ⟨z, _, rfl⟩ := List.mem_map.1 hx; exact hp _) (fun x hx => by obtain ⟨z, _, rfl⟩ := List.mem_map.1 hx; exact hp _) h
  exact map_inj_on partT Fair (fun a b => part_inj) l m fl fm this
theorem fair_one {n : Int} (h0 : -1 ≤ n) (h1 : n ≤ 1114111) : Fair [n] := ⟨by simp, fun z hz => by simp at hz; subst hz; exact ⟨h0, h1⟩⟩
theorem fair_tint (n base : Int) (h0 : 0 ≤ n) (h1 : n < 16777472) (hb : base = 30 ∨ base = 40) : Fair (tintL n base) := by
  unfold tintL
  repeat' split
  · exact fair_one (by omega) (by omega)
  · exact fair_one (by omega) (by omega)
  · refine ⟨by simp, fun z hz => ?_⟩
    simp at hz
    omega
  · refine ⟨by simp, fun z hz => ?_⟩
    simp at hz
    omega
theorem paramsV_fair (b0 b1 b2 b3 b4 b5 b6 : Bool) (u f b : Int) (h : mayL u f b = true) : paramsV (b0, b1, b2, b3, b4, b5, b6, u, f, b) ≠ [] ∧ ∀ r ∈ paramsV (b0, b1, b2, b3, b4, b5, b6, u, f, b), Fair r := by
  have hm := h
  simp only [mayL, colL, Bool.and_eq_true, decide_eq_true_eq] at hm
  obtain ⟨h0, h1, ⟨h2, h3⟩, h4, h5⟩ := hm
  have hc : ∀ n base r, r ∈ colourL n base → -1 ≤ n → n < 16777472 → base = 30 ∨ base = 40 → Fair r := by
    intro n base r hr k0 k1 hb
    unfold colourL at hr
    split at hr
    · cases hr
    · rename_i hne
      rw [List.mem_singleton.1 hr]
      exact fair_tint n base (by omega) k1 hb
  have e : paramsV (b0, b1, b2, b3, b4, b5, b6, u, f, b) = paramsL b0 b1 b2 b3 b4 b5 b6 u f b := by unfold paramsV; rw [if_pos h]
  rw [e]
  refine ⟨by simp [paramsL], fun r hr => ?_⟩
  simp only [paramsL, List.mem_append] at hr
  rcases hr with (((((((((h | h) | h) | h) | h) | h) | h) | h) | h) | h) | h
  · rw [List.mem_singleton.1 h]; exact fair_one (by decide) (by decide)
  · rw [mem_mark h]; exact fair_one (by decide) (by decide)
  · rw [mem_mark h]; exact fair_one (by decide) (by decide)
  · rw [mem_mark h]; exact fair_one (by decide) (by decide)
  · unfold underL at h
    repeat' split at h
    · rw [List.mem_singleton.1 h]; exact fair_one (by decide) (by decide)
    · rw [List.mem_singleton.1 h]
      refine ⟨by simp, fun z hz => ?_⟩
      simp at hz
      omega
    · cases h
  · rw [mem_mark h]; exact fair_one (by decide) (by decide)
  · rw [mem_mark h]; exact fair_one (by decide) (by decide)
  · rw [mem_mark h]; exact fair_one (by decide) (by decide)
  · rw [mem_mark h]; exact fair_one (by decide) (by decide)
  · exact hc f 30 r h h2 h3 (.inl rfl)
  · exact hc b 40 r h h4 h5 (.inr rfl)
end Go.Proofs.YtopcleljecdkkaaDoor.G
end
section
namespace Go.Proofs.YtopcleljecdkkaaDoor.G
open Go.RowKit Go.Proofs.YtopcleljecdkkaaDoorW.PrintWords Go.Proofs.YtopcleljecdkkaaDoorW.PrintLast Go.Proofs.YtopcleljecdkkaaDoorW.PrintMore
attribute [local go_sem] max2_int min2_int max_two min_two max_three min_three max_four min_four
set_option linter.unusedVariables false
set_option linter.unusedSimpArgs false
theorem eqA23 (d : Nat) (w : World) (x0 y0 : Bool) (x1 y1 : Bool) (x2 y2 : Bool) (x3 y3 : Bool) (x4 y4 : Bool) (x5 y5 : Bool) (x6 y6 : Bool) (x7 y7 : Int) (x8 y8 : Int) (x9 y9 : Int) :
    (Op.equalIn (d + 2) 23 (.agg #[.bool x0, .bool x1, .bool x2, .bool x3, .bool x4, .bool x5, .bool x6, .int .i64 x7, .int .i64 x8, .int .i64 x9]) (.agg #[.bool y0, .bool y1, .bool y2, .bool y3, .bool y4, .bool y5, .bool y6, .int .i64 y7, .int .i64 y8, .int .i64 y9])).run Tryd.prog w = .ok (x0 == y0 && (x1 == y1 && (x2 == y2 && (x3 == y3 && (x4 == y4 && (x5 == y5 && (x6 == y6 && (x7 == y7 && (x8 == y8 && (x9 == y9)))))))))) w := by
  refine eqA_of Tryd.underlying23 (by kernel_rfl) ?_
  refine eqf_cons (by rfl) (by go_simp; rfl) (by go_simp; rfl) (by go_simp) ?_
  refine eqf_cons (by rfl) (by go_simp; rfl) (by go_simp; rfl) (by go_simp) ?_
  refine eqf_cons (by rfl) (by go_simp; rfl) (by go_simp; rfl) (by go_simp) ?_
  refine eqf_cons (by rfl) (by go_simp; rfl) (by go_simp; rfl) (by go_simp) ?_
  refine eqf_cons (by rfl) (by go_simp; rfl) (by go_simp; rfl) (by go_simp) ?_
  refine eqf_cons (by rfl) (by go_simp; rfl) (by go_simp; rfl) (by go_simp) ?_
  refine eqf_cons (by rfl) (by go_simp; rfl) (by go_simp; rfl) (by go_simp) ?_
  refine eqf_cons (by rfl) (by go_simp; rfl) (by go_simp; rfl) (by go_simp) ?_
  refine eqf_cons (by rfl) (by go_simp; rfl) (by go_simp; rfl) (by go_simp) ?_
  exact eqf_last (by rfl) (by go_simp; rfl) (by go_simp; rfl) (by go_simp)
end Go.Proofs.YtopcleljecdkkaaDoor.G
end
