/- S: texts run together by shake.py: KitF Tab NuT Ggclavierref01Text Gclavierref18b PTj PuSc. -/
import Derived.ArgAppend
import Derived.Below
import Derived.BigQuiet
import Derived.ChangeOld
import Derived.ChangeSlices
import Derived.Deep.AppendLies
import Derived.Deep.CutBlock
import Derived.Deep.DeepCutAuto
import Derived.Deep.Draws
import Derived.Deep.LoopGhost
import Derived.Deep.Matrix
import Derived.Deep.OwnRows
import Derived.Deep.Quiet
import Derived.Deep.QuietTactic
import Derived.Deep.RegionHeld3
import Derived.KernelRfl
import Derived.Laws.AppendOwn
import Derived.Laws.AppendOwnNone
import Derived.Laws.BitsLemmas
import Derived.Laws.BytesArg
import Derived.Laws.Concat
import Derived.Laws.CopyRow
import Derived.Laws.IdiomCopy
import Derived.Laws.IdiomStrings
import Derived.Laws.MakeOwn
import Derived.Laws.OwnMore
import Derived.Laws.Rows
import Derived.Laws.Slices
import Derived.Laws.StructEq
import Derived.Lib.AppendIntMem
import Derived.Lib.AppendStr
import Derived.Lib.ConvBytes
import Derived.Lib.Hide
import Derived.Lib.ItoaLen
import Derived.Lib.ItoaNum
import Derived.Lib.Join
import Derived.Lib.LaidTab
import Derived.Lib.Strings
import Derived.MapKept
import Derived.Maps.AppendAt
import Derived.OpenShut
import Derived.Orders
import Derived.OrdersHeld
import Derived.Outline
import Derived.OwnWalk
import Derived.ProofKit
import Derived.RowKit
import Derived.RowKit3
import Derived.Shelf.LaysM
import Derived.Shelf.Strconv.Itoa0
import Derived.Shelf.Strconv.Itoa1
import Derived.Shelf.Strconv.Itoa2
import Derived.Shelf.Strconv.Itoa3
import Derived.Shelf.Strings.Builder1
import Derived.Shelf.Strings.Builder2
import Derived.Shelf.Strings.Builder2Cap
import Derived.Shelf.Strings.BuilderCap
import Derived.Shelf.Strings.BuilderF
import Derived.Shelf.Strings.BuilderK
import Derived.Shelf.Strings.OnBuilder
import Derived.ShutString
import Derived.SizedLaws
import Derived.Still
import Derived.Tactics
import Derived.Test.YtbaigfoioiklkaaDoorProg
import Derived.WalkKit
import Derived.WalkLawsBesides
import Derived.WalkSpells
import Derived.WideLaws
import Derived.Test.YtbaigfoioiklkaaDoorZS1
import Derived.Test.YtbaigfoioiklkaaDoorZS2
import Derived.Test.YtbaigfoioiklkaaDoorZS3
import Derived.Test.YtbaigfoioiklkaaDoorZS4
import Derived.Test.YtbaigfoioiklkaaDoorZS7
section
namespace Go.Proofs.YtbaigfoioiklkaaDoor.Kit
set_option linter.unusedVariables false
set_option linter.unusedSimpArgs false
open Go Go.RowKit
theorem sizeAlloc (w : World) (o : Obj) : (w.alloc o).drew.heap.size = w.heap.size + 1 := by
  show (w.heap.push o).size = _
  simp
def byV (c : UInt8) : Value := .int .u8 (c.toNat : Int)
variable {P : Program} {ops : Array Oper} {Q : Exit → Act → World → Prop} {a : Act} {w : World} {rest : List Oper} {o : Oper}
theorem run_str_of {src dst e : TypeId} {p : Option Addr} {n c : Nat} {l : List UInt8} (hs : P.underlying src = some (.slice e)) (he : P.underlying e = some (.int .u8)) (hd : P.underlying dst = some .string)
    (hr : Reads w p (l.map byV)) (hn : l.length = n) : (convert src dst (.slice p n c)).run P w = .ok (.string ⟨l.toArray⟩) w := by
  subst hn
  cases p with
  | none =>
    have : l = [] := by
      cases l with
      | nil => rfl
      | cons x l => obtain ⟨b, o, h, _⟩ := hr 0 _ rfl; cases h
    subst this
    rw [run_convert_bytes_nil w src e hs he _ _ dst hd]
    rfl
  | some ad =>
    refine run_convert_bytes_back w src dst e ad c l hs he hd fun j hj => ?_
    obtain ⟨b, o, h1, h2⟩ := hr j (byV l[j]) (by simp [hj])
    cases h1
    have hadd : (⟨b, o, none⟩ : Addr).add j = ⟨b, o + j, none⟩ := by unfold Addr.add; split <;> simp_all
    rw [hadd]
    exact h2
end Go.Proofs.YtbaigfoioiklkaaDoor.Kit
end
section
namespace Go.Proofs.YtbaigfoioiklkaaDoor
set_option linter.unusedVariables false
set_option linter.unusedSimpArgs false
open Go.RowKit Kit
attribute [local irreducible] wpList Calls wpQuiet
theorem textL_nat (i : Nat) : textL i = Lib.decDigits i := by
  have h : ¬ ((i : Int) < 0) := by omega
  simp [textL, h]
end Go.Proofs.YtbaigfoioiklkaaDoor
end
section
namespace Go.Proofs.YtbaigfoioiklkaaDoor
set_option linter.unusedVariables false
set_option linter.unusedSimpArgs false
open Go.RowKit Kit
attribute [local irreducible] wpList Calls wpQuiet
theorem conv_one (d : Nat) (z : Int) (hz : z = (d : Int)) (hd : d < 256) (W : World) :
    ((convert 59 9 (.slice (some ⟨W.heap.size, 0, none⟩) 1 1)).run Tryd.prog (W.alloc (.cells #[.int .u8 z] 5)) = .ok (.string ⟨[UInt8.ofNat d].toArray⟩) (W.alloc (.cells #[.int .u8 z] 5))) ∧
    ((convert 59 9 (.slice (some ⟨W.heap.size, 0, none⟩) 1 1)).run Tryd.prog (W.alloc (.cells #[.int .u8 z] 5)).drew = .ok (.string ⟨[UInt8.ofNat d].toArray⟩) (W.alloc (.cells #[.int .u8 z] 5)).drew) := by
  subst hz
  have e : Value.int .u8 (d : Int) = byV (UInt8.ofNat d) := by
    unfold byV
    rw [UInt8.toNat_ofNat', Nat.mod_eq_of_lt hd]
  rw [e]
  exact ⟨run_str_of Tryd.underlying59 Tryd.underlying5 Tryd.underlying9 (Reads.row (heap_alloc_new W _) (n := 1) rfl) rfl, run_str_of Tryd.underlying59 Tryd.underlying5 Tryd.underlying9 (Reads.row (w := (W.alloc _).drew) (heap_alloc_new W _) (n := 1) rfl) rfl⟩
theorem below_one {w w' : World} {o : Obj} (hb : Below w.drew.heap.size w.drew w') : Below w.heap.size w (w'.alloc o) :=
  (Below.trans ((Below.refl _ w).drew) hb).alloc hb.size o
theorem below_two {w w' : World} {o : Obj} (hb : Below (w.alloc o).drew.heap.size (w.alloc o).drew w') : Below w.heap.size w w' :=
  (((Below.refl _ w).alloc (Nat.le_refl _) o).drew).trans (hb.mono (by rw [sizeAlloc]; omega))
theorem conv_below (d : Nat) (z : Int) (hz : z = (d : Int)) (hd : d < 256) (W w' : World) (hb : Below (W.alloc (.cells #[.int .u8 z] 5)).drew.heap.size (W.alloc (.cells #[.int .u8 z] 5)).drew w') :
    (convert 59 9 (.slice (some ⟨W.heap.size, 0, none⟩) 1 1)).run Tryd.prog w' = .ok (.string ⟨[UInt8.ofNat d].toArray⟩) w' := by
  subst hz
  have e : Value.int .u8 (d : Int) = byV (UInt8.ofNat d) := by
    unfold byV
    rw [UInt8.toNat_ofNat', Nat.mod_eq_of_lt hd]
  rw [e] at hb
  exact run_str_of Tryd.underlying59 Tryd.underlying5 Tryd.underlying9 ((Reads.row (w := (W.alloc _).drew) (heap_alloc_new W _) (n := 1) rfl : Reads (W.alloc (.cells #[byV (UInt8.ofNat d)] 5)).drew (some ⟨W.heap.size, 0, none⟩) ([UInt8.ofNat d].map byV)).below hb) rfl
set_option maxRecDepth 100000 in
set_option maxHeartbeats 3200000 in
theorem refText_nat (n : Nat) : ∀ (w : World), n ≤ 9223372036854775807 → Calls Tryd.prog 31 #[.int .i64 (n : Int)] w fun e w' => e = .returned (.string ⟨(Lib.decDigits n).toArray⟩) ∧ Below w.heap.size w w' := by
  induction n using Nat.strongRecOn with
  | _ n ih =>
    intro w hn
    have b1 : decide ((n : Int) < 0) = false := decide_eq_false (by omega)
    by_cases hs : n < 10
    · have b2 : decide ((n : Int) < 10) = true := decide_eq_true (by omega)
      have e1 : IntKind.u8.wrap (48 + (n : Int)) = 48 + n := IntWalk.u8_in _ (by omega)
      have H : Hid (Lib.decDigits n = [UInt8.ofNat (48 + n)]) := Lib.hid (by rw [Lib.decDigits, dif_pos hs])
      clear ih
      obtain ⟨st, hst⟩ : ∃ st : ByteArray, st = ⟨(Lib.decDigits n).toArray⟩ := ⟨_, rfl⟩
      have hcv := fun W => (conv_one (48 + n) (48 + (n : Int)) (by omega) (by omega) W).1
      rw [← H.out, ← hst] at hcv
      have HST := Lib.hid hst
      clear hst
      go_enter Tryd.func31, Tryd.ntmps31
      go_wp2
      go_ret
      exact ⟨by rw [← HST.out]; rfl, (Below.refl _ _).alloc (Nat.le_refl _) _⟩
    · have b2 : decide ((n : Int) < 10) = false := decide_eq_false (by omega)
      have H : Hid (Lib.decDigits n = Lib.decDigits (n / 10) ++ [UInt8.ofNat (48 + n % 10)]) := Lib.hid (by rw [Lib.decDigits, dif_neg hs])
      obtain ⟨q, hq⟩ : ∃ q, q = n / 10 := ⟨_, rfl⟩
      obtain ⟨r, hr⟩ : ∃ r, r = n % 10 := ⟨_, rfl⟩
      have e2 : (n : Int) / 10 = (q : Int) := by omega
      have e3 : (n : Int).tdiv 10 = (q : Int) := by rw [Int.tdiv_eq_ediv_of_nonneg (by omega)]; exact e2
      have e4 : (n : Int) % 10 = (r : Int) := by omega
      have e5 : (n : Int).tmod 10 = (r : Int) := by rw [Int.tmod_eq_emod_of_nonneg (by omega)]; exact e4
      have hr10 : r < 10 := by omega
      have e6 : IntKind.u8.wrap (48 + (r : Int)) = 48 + r := IntWalk.u8_in _ (by omega)
      have e7 : IntKind.i64.wrap (48 + (r : Int)) = 48 + r := IntWalk.i64_in _ (by omega)
      have e8 : IntKind.i64.wrap (q : Int) = q := IntWalk.i64_in _ (by omega)
      rw [← hq, ← hr] at H
      have IH := Lib.hid (fun W => ih q (by omega) W (by omega))
      clear ih hq hr
      obtain ⟨st, hst⟩ : ∃ st : ByteArray, st = ⟨(Lib.decDigits n).toArray⟩ := ⟨_, rfl⟩
      obtain ⟨sq, hsq⟩ : ∃ sq : ByteArray, sq = ⟨(Lib.decDigits q).toArray⟩ := ⟨_, rfl⟩
      obtain ⟨sr, hsr⟩ : ∃ sr : ByteArray, sr = ⟨[UInt8.ofNat (48 + r)].toArray⟩ := ⟨_, rfl⟩
      have hcv := fun W => (conv_one (48 + r) (48 + (r : Int)) (by omega) (by omega) W).1
      have hcv2 := fun W => (conv_one (48 + r) (48 + (r : Int)) (by omega) (by omega) W).2
      have hcv3 := fun W w' => conv_below (48 + r) (48 + (r : Int)) (by omega) (by omega) W w'
      rw [← hsr] at hcv hcv2 hcv3
      have HCV := Lib.hid hcv3
      clear hcv3
      have hadd : ∀ W, (Op.stringOp .add sq sr).run Tryd.prog W = .ok (.string st) W := fun W => by
        have hl := Lib.decDigits_length q
        have h20 := Lib.nDigits_le20 q (by have : (q : Int) ≤ n := by omega
                                           omega)
        rw [run_string_add_sum _ _ _ (by rw [hsq, hsr]; simp [ByteArray.size]; omega), hst, H.out, hsq, hsr, ByteArray.mk_append_mk]
      rw [← hsq] at IH
      have HST := Lib.hid hst
      clear hst hsq hsr
      go_enter Tryd.func31, Tryd.ntmps31
      go_wp2
      go_region_with (first | (go_at_call 31; refine (IH.out _).mono ?_; rintro e w' ⟨rfl, hbN⟩; (try have hcv4 := HCV.out _ _ hbN)) | fail)
      all_goals
        go_wp2
        go_ret
        first
          | exact ⟨by rw [← HST.out]; rfl, below_one hbN⟩
          | exact ⟨by rw [← HST.out]; rfl, below_two hbN⟩
theorem refText_calls (n : Int) (h1 : n ≤ 9223372036854775807) (w : World) :
    Calls Tryd.prog 31 #[.int .i64 n] w fun e w' => e = .returned (.string ⟨(textL n).toArray⟩) ∧ Below w.heap.size w w' := by
  by_cases hn : n < 0
  · have b1 : decide (n < 0) = true := decide_eq_true hn
    have H : Hid (textL n = []) := Lib.hid (by simp [textL, hn])
    go_enter Tryd.func31, Tryd.ntmps31
    go_wp2
    go_ret
    exact ⟨by rw [H.out]; rfl, Below.refl _ _⟩
  · obtain ⟨k, rfl⟩ : ∃ k : Nat, n = (k : Int) := ⟨n.toNat, by omega⟩
    rw [textL_nat]
    exact refText_nat k w (by omega)
end Go.Proofs.YtbaigfoioiklkaaDoor
end
section
namespace Go.Proofs.YtbaigfoioiklkaaDoor.G
open Go.RowKit Go.Proofs.YtbaigfoioiklkaaDoorW.PrintWords Go.Proofs.YtbaigfoioiklkaaDoorW.PrintLast Go.Proofs.YtbaigfoioiklkaaDoorW.PrintMore
attribute [local go_sem] max2_int min2_int max_two min_two max_three min_three max_four min_four
set_option linter.unusedVariables false
set_option linter.unusedSimpArgs false
def clavierref01_Text.f (a0 : Int) : Option (ByteArray) := if -9223372036854775808 ≤ a0 ∧ a0 ≤ 9223372036854775807 then some ⟨(textL a0).toArray⟩ else none
theorem clavierref01_Text.calls (a0 : Int) (r : ByteArray) (w : World) (h : clavierref01_Text.f a0 = some r) :
    Calls Tryd.prog 31 #[.int .i64 a0] w fun e w' => e = .returned (.string r) ∧ Below w.heap.size w w' := by
  unfold clavierref01_Text.f at h
  by_cases hb : -9223372036854775808 ≤ a0 ∧ a0 ≤ 9223372036854775807
  · rw [if_pos hb] at h
    obtain rfl := Option.some.inj h
    exact refText_calls a0 hb.2 w
  · rw [if_neg hb] at h; cases h
end Go.Proofs.YtbaigfoioiklkaaDoor.G
end
section
namespace Go.Proofs.YtbaigfoioiklkaaDoor.G
open Go.RowKit Go.Proofs.YtbaigfoioiklkaaDoorW.PrintWords Go.Proofs.YtbaigfoioiklkaaDoorW.PrintLast Go.Proofs.YtbaigfoioiklkaaDoorW.PrintMore
attribute [local go_sem] max2_int min2_int max_two min_two max_three min_three max_four min_four
set_option linter.unusedVariables false
set_option linter.unusedSimpArgs false
mutual
def clavierref18_Text.l0 : Nat → List (List Int) → ByteArray → Int → Option (ByteArray)
  | 0, _, _, _ => none
  | k + 1, x0, x3, x4 => if x4 < (x0.length : Int) then (if x4 > 0 then (if x3.size + 1 ≤ 9223372036854775807 then (clavierref18_Text.j1 k x0 (x3 ++ (⟨#[59]⟩ : ByteArray)) x4) else (none)) else (clavierref18_Text.j1 k x0 x3 x4)) else (some x3)
def clavierref18_Text.j1 : Nat → List (List Int) → ByteArray → Int → Option (ByteArray)
  | 0, _, _, _ => none
  | k + 1, x0, x3, x4 => clavierref18_Text.l1 k x0 x3 x4 0
def clavierref18_Text.l1 : Nat → List (List Int) → ByteArray → Int → Int → Option (ByteArray)
  | 0, _, _, _, _ => none
  | k + 1, x0, x3, x4, x5 => if 0 ≤ x4 then (if x4 < (x0.length : Int) then (if x5 < ((rd_L1 x0 x4).length : Int) then (if x5 > 0 then (if x3.size + 1 ≤ 9223372036854775807 then (if 0 ≤ x5 then ((clavierref01_Text.f (rd (rd_L1 x0 x4) x5)).bind fun t285 => (if (x3 ++ (⟨#[58]⟩ : ByteArray)).size + t285.size ≤ 9223372036854775807 then (clavierref18_Text.l1 k x0 ((x3 ++ (⟨#[58]⟩ : ByteArray)) ++ t285) x4 (wrap64 (x5 + 1))) else (none))) else (none)) else (none)) else (if 0 ≤ x5 then ((clavierref01_Text.f (rd (rd_L1 x0 x4) x5)).bind fun t288 => (if x3.size + t288.size ≤ 9223372036854775807 then (clavierref18_Text.l1 k x0 (x3 ++ t288) x4 (wrap64 (x5 + 1))) else (none))) else (none))) else (clavierref18_Text.l0 k x0 x3 (wrap64 (x4 + 1)))) else (none)) else (none)
end
def clavierref18_Text.f (k : Nat) (l0 : List (List Int)) : Option (ByteArray) := clavierref18_Text.l0 k l0 (⟨#[]⟩ : ByteArray) 0
theorem clavierref18_Text.mono_l : ∀ k, (∀ y0 y1 y2, LeO (clavierref18_Text.l0 k y0 y1 y2) (clavierref18_Text.l0 (k + 1) y0 y1 y2)) ∧ (∀ y0 y1 y2, LeO (clavierref18_Text.j1 k y0 y1 y2) (clavierref18_Text.j1 (k + 1) y0 y1 y2)) ∧ (∀ y0 y1 y2 y3, LeO (clavierref18_Text.l1 k y0 y1 y2 y3) (clavierref18_Text.l1 (k + 1) y0 y1 y2 y3))
  | 0 => ⟨fun _ _ _ r h => by simp [clavierref18_Text.l0] at h, fun _ _ _ r h => by simp [clavierref18_Text.j1] at h, fun _ _ _ _ r h => by simp [clavierref18_Text.l1] at h⟩
  | k + 1 => by
    obtain ⟨ih0, ih1, ih2⟩ := clavierref18_Text.mono_l k
    refine ⟨?_, ?_, ?_⟩
    · intro y0 y1 y2
      unfold clavierref18_Text.l0
      repeat' first
      | (with_reducible exact ih0 _ _ _)
      | (with_reducible exact ih1 _ _ _)
      | (with_reducible exact ih2 _ _ _ _)
      | (with_reducible exact LeO.refl _)
      | (with_reducible exact LeO.none _)
      | (with_reducible refine LeO.ite ?_ ?_)
      | (with_reducible refine LeO.bind ?_ (fun _ => ?_))
      | exact ih0 _ _ _
      | exact ih1 _ _ _
      | exact ih2 _ _ _ _
      | exact LeO.none _
      | refine LeO.ite ?_ ?_
      | refine LeO.bind ?_ (fun _ => ?_)
    · intro y0 y1 y2
      unfold clavierref18_Text.j1
      repeat' first
      | (with_reducible exact ih0 _ _ _)
      | (with_reducible exact ih1 _ _ _)
      | (with_reducible exact ih2 _ _ _ _)
      | (with_reducible exact LeO.refl _)
      | (with_reducible exact LeO.none _)
      | (with_reducible refine LeO.ite ?_ ?_)
      | (with_reducible refine LeO.bind ?_ (fun _ => ?_))
      | exact ih0 _ _ _
      | exact ih1 _ _ _
      | exact ih2 _ _ _ _
      | exact LeO.none _
      | refine LeO.ite ?_ ?_
      | refine LeO.bind ?_ (fun _ => ?_)
    · intro y0 y1 y2 y3
      unfold clavierref18_Text.l1
      repeat' first
      | (with_reducible exact ih0 _ _ _)
      | (with_reducible exact ih1 _ _ _)
      | (with_reducible exact ih2 _ _ _ _)
      | (with_reducible exact LeO.refl _)
      | (with_reducible exact LeO.none _)
      | (with_reducible refine LeO.ite ?_ ?_)
      | (with_reducible refine LeO.bind ?_ (fun _ => ?_))
      | exact ih0 _ _ _
      | exact ih1 _ _ _
      | exact ih2 _ _ _ _
      | exact LeO.none _
      | refine LeO.ite ?_ ?_
      | refine LeO.bind ?_ (fun _ => ?_)
theorem clavierref18_Text.mono : ∀ a0 k, LeO (clavierref18_Text.f k a0) (clavierref18_Text.f (k + 1) a0) := by
  intro a0 k
  obtain ⟨ih0, ih1, ih2⟩ := clavierref18_Text.mono_l k
  unfold clavierref18_Text.f
  repeat' first
      | (with_reducible exact ih0 _ _ _)
      | (with_reducible exact ih1 _ _ _)
      | (with_reducible exact ih2 _ _ _ _)
      | (with_reducible exact LeO.refl _)
      | (with_reducible exact LeO.none _)
      | (with_reducible refine LeO.ite ?_ ?_)
      | (with_reducible refine LeO.bind ?_ (fun _ => ?_))
      | exact ih0 _ _ _
      | exact ih1 _ _ _
      | exact ih2 _ _ _ _
      | exact LeO.none _
      | refine LeO.ite ?_ ?_
      | refine LeO.bind ?_ (fun _ => ?_)
set_option maxHeartbeats 8000000 in
set_option maxRecDepth 100000 in
theorem clavierref18_Text.calls (k : Nat) (A0 : Option Addr) (c0 : Nat) (l0 : List (List Int)) (r : ByteArray) (w : World) (hr0 : Kd.C (Kd.slice 3 (Kd.int .i64)) w A0 l0.length l0) (hc0 : l0.length ≤ c0) (h : clavierref18_Text.f k l0 = some r) :
    Calls Tryd.prog 16 #[.slice A0 l0.length c0] w fun e w' => e = .returned (.string r) ∧ Below w.heap.size w w' := by
  have HR0 := Aside0.mk hr0
  have HC0 := Aside0.mk hc0
  clear hr0 hc0
  have HB := Aside0.mk (Below.refl w.heap.size w)
  have H : (clavierref18_Text.l0 k l0 (⟨#[]⟩ : ByteArray) 0) = some r := h
  clear h
  have H' := Aside0.mk H
  clear H
  go_enter Tryd.func16, Tryd.ntmps16
  go_wp2
  go_loopg [3, 4] k (fun kq v3 v4 w' => ∃ (x3_1 : ByteArray) (x4_1 : Int), v3 = .string x3_1 ∧ v4 = .int .i64 x4_1 ∧ Aside0 (clavierref18_Text.l0 kq l0 x3_1 x4_1 = some r) ∧ Aside0 (kq ≤ k) ∧ Aside0 (Below w.heap.size w w'))
  case atStart => exact ⟨((⟨#[]⟩ : ByteArray)), (0), (by first | rfl | (simp; done) | (simp [*]; done)), (by first | rfl | (simp; done) | (simp [*]; done)), H', ⟨Nat.le_refl _⟩, ⟨by repeat (first | (with_reducible first | exact HB.out | apply below_alloc | apply pw_below_drewN | apply below_drew1) | exact HB.out)⟩⟩
  case round =>
    clear H'
    try clear c1
    obtain ⟨x3_1, x4_1, rfl, rfl, HA, HK1, HB⟩ := hrel
    cases gk with
    | zero => exact absurd HA.out (by simp [clavierref18_Text.l0])
    | succ k1 =>
      have H := HA.out
      clear HA
      simp only [clavierref18_Text.l0] at H
      by_cases c2 : x4_1 < (l0.length : Int)
      · rw [if_pos c2] at H
        have c2b0 : decide (x4_1 < (l0.length : Int)) = true := decide_eq_true c2
        clear c2
        have HC3 := Aside0.mk H
        clear H
        go_upto_if 13 with (fail)
        go_cut [3] (fun v3 wc => ∃ (kq : Nat) (x3_2 : ByteArray), v3 = .string x3_2 ∧ Aside0 (clavierref18_Text.j1 kq l0 x3_2 x4_1 = some r) ∧ Aside0 (kq ≤ k1) ∧ Aside0 (Below w.heap.size w wc))
        case first =>
          have H := HC3.out
          clear HC3
          by_cases c4 : x4_1 > 0
          · rw [if_pos c4] at H
            have c4b0 : decide (0 < x4_1) = true := decide_eq_true c4
            clear c4
            (first | rw [c4b0] | (simp only [i64_w, i32_w]; rw [c4b0]) | skip)
            by_cases c5 : x3_1.size + 1 ≤ 9223372036854775807
            · rw [if_pos c5] at H
              have c5b0 := eq_true c5
              have c5b1 : decide (x3_1.size + 1 ≤ 9223372036854775807) = true := decide_eq_true c5
              try have c5b2 : (9223372036854775807 < x3_1.size + 1) = False := eq_false (Nat.not_lt.2 c5)
              have H' := Aside0.mk H
              clear H
              go_wp2
              go_meet
              case rel => exact ⟨_, (x3_1 ++ (⟨#[59]⟩ : ByteArray)), (by first | rfl | (simp; done) | (simp [*]; done)), H', ⟨by have := HK1.out; first | omega | exact Nat.le_refl _⟩, ⟨by repeat (first | (with_reducible first | exact HB.out | apply below_alloc | apply pw_below_drewN | apply below_drew1) | exact HB.out)⟩⟩
            · rw [if_neg c5] at H
              exact absurd H (by simp)
          · rw [if_neg c4] at H
            have c4b0 : decide (0 < x4_1) = false := decide_eq_false c4
            clear c4
            (first | rw [c4b0] | (simp only [i64_w, i32_w]; rw [c4b0]) | skip)
            have H' := Aside0.mk H
            clear H
            go_wp2
            go_meet
            case rel => exact ⟨_, (x3_1), (by first | rfl | (simp; done) | (simp [*]; done)), H', ⟨by have := HK1.out; first | omega | exact Nat.le_refl _⟩, ⟨by repeat (first | (with_reducible first | exact HB.out | apply below_alloc | apply pw_below_drewN | apply below_drew1) | exact HB.out)⟩⟩
        case rest =>
          clear HC3
          try clear c1
          try clear c2
          try clear c2b0
          try clear p2
          try clear c4
          try clear c4b0
          try clear c5
          try clear c5b0
          try clear c5b1
          try clear c5b2
          obtain ⟨kq, x3_2, rfl, HA, HJ2, HB⟩ := hcut
          cases kq with
          | zero => exact absurd HA.out (by simp [clavierref18_Text.j1])
          | succ kj2 =>
            have H := HA.out
            clear HA
            simp only [clavierref18_Text.j1] at H
            have H' := Aside0.mk H
            clear H
            go_wp2
            go_loopg [3, 5] kj2 (fun kq v3 v5 w' => ∃ (x3_3 : ByteArray) (x5_3 : Int), v3 = .string x3_3 ∧ v5 = .int .i64 x5_3 ∧ Aside0 (clavierref18_Text.l1 kq l0 x3_3 x4_1 x5_3 = some r) ∧ Aside0 (kq ≤ kj2) ∧ Aside0 (Below w.heap.size w w'))
            case atStart => exact ⟨(x3_2), (0), (by first | rfl | (simp; done) | (simp [*]; done)), (by first | rfl | (simp; done) | (simp [*]; done)), H', ⟨Nat.le_refl _⟩, ⟨by repeat (first | (with_reducible first | exact HB.out | apply below_alloc | apply pw_below_drewN | apply below_drew1) | exact HB.out)⟩⟩
            case round =>
              clear H'
              try clear c1
              try clear c2
              try clear c2b0
              try clear p2
              try clear c4
              try clear c4b0
              try clear c5
              try clear c5b0
              try clear c5b1
              try clear c5b2
              try clear p2
              obtain ⟨x3_3, x5_3, rfl, rfl, HA, HK3, HB⟩ := hrel
              cases gk with
              | zero => exact absurd HA.out (by simp [clavierref18_Text.l1])
              | succ k3 =>
                have H := HA.out
                clear HA
                simp only [clavierref18_Text.l1] at H
                by_cases c6 : 0 ≤ x4_1
                · rw [if_pos c6] at H
                  have c6b0 : decide (0 ≤ x4_1) = true := decide_eq_true c6
                  clear c6
                  by_cases c7 : x4_1 < (l0.length : Int)
                  · rw [if_pos c7] at H
                    have c7b0 : decide (x4_1 < (l0.length : Int)) = true := decide_eq_true c7
                    clear c7
                    by_cases c8 : x5_3 < ((rd_L1 l0 x4_1).length : Int)
                    · rw [if_pos c8] at H
                      have c8b0 : decide (x5_3 < ((rd_L1 l0 x4_1).length : Int)) = true := decide_eq_true c8
                      clear c8
                      by_cases c9 : x5_3 > 0
                      · rw [if_pos c9] at H
                        have c9b0 : decide (0 < x5_3) = true := decide_eq_true c9
                        clear c9
                        by_cases c10 : x3_3.size + 1 ≤ 9223372036854775807
                        · rw [if_pos c10] at H
                          have c10b0 := eq_true c10
                          have c10b1 : decide (x3_3.size + 1 ≤ 9223372036854775807) = true := decide_eq_true c10
                          try have c10b2 : (9223372036854775807 < x3_3.size + 1) = False := eq_false (Nat.not_lt.2 c10)
                          by_cases c11 : 0 ≤ x5_3
                          · rw [if_pos c11] at H
                            have c11b0 : decide (0 ≤ x5_3) = true := decide_eq_true c11
                            clear c11
                            replace H := Option.bind_eq_some_iff.mp H
                            obtain ⟨t285, A120, H⟩ := H
                            replace H : (if (x3_3 ++ (⟨#[58]⟩ : ByteArray)).size + t285.size ≤ 9223372036854775807 then (clavierref18_Text.l1 k3 l0 ((x3_3 ++ (⟨#[58]⟩ : ByteArray)) ++ t285) x4_1 (wrap64 (x5_3 + 1))) else (none)) = some r := H
                            have A12 := Aside0.mk A120
                            clear A120
                            by_cases c13 : (x3_3 ++ (⟨#[58]⟩ : ByteArray)).size + t285.size ≤ 9223372036854775807
                            · rw [if_pos c13] at H
                              have c13b0 := eq_true c13
                              have c13b1 : decide ((x3_3 ++ (⟨#[58]⟩ : ByteArray)).size + t285.size ≤ 9223372036854775807) = true := decide_eq_true c13
                              try (have c13s := c13; simp only [ByteArray.size_append, show (⟨#[58]⟩ : ByteArray).size = 1 from rfl] at c13s; have c13b3 := eq_true c13s)
                              try (have c13t := c13; simp only [ByteArray.size_append, Nat.add_assoc] at c13t; have c13b4 := eq_true c13t)
                              try have c13b2 : (9223372036854775807 < (x3_3 ++ (⟨#[58]⟩ : ByteArray)).size + t285.size) = False := eq_false (Nat.not_lt.2 c13)
                              have H' := Aside0.mk H
                              clear H
                              have p282 : 0 ≤ (x4_1 : Int) := of_decide_eq_true (by first | (with_reducible assumption) | assumption)
                              have q282 : x4_1 < (l0.length : Int) := of_decide_eq_true (by first | (with_reducible assumption) | assumption)
                              obtain ⟨ad282, A282_0, c282_0, e282, hx282_0, hl282_0, hi282_0⟩ := at_L1 HR0.out x4_1 p282 q282
                              cases e282
                              replace hx282_0 := (HB.out.cell (World.block_lt_of_cell? w _ hx282_0)).trans hx282_0
                              have HR282_0 := Aside0.mk hi282_0
                              have HC282_0 := Aside0.mk hl282_0
                              clear hi282_0 hl282_0
                              replace p282 := eq_true p282
                              replace q282 := eq_true q282
                              have p283 : 0 ≤ (x4_1 : Int) := of_decide_eq_true (by first | (with_reducible assumption) | assumption)
                              have q283 : x4_1 < (l0.length : Int) := of_decide_eq_true (by first | (with_reducible assumption) | assumption)
                              obtain ⟨ad283, A283_0, c283_0, e283, hx283_0, hl283_0, hi283_0⟩ := at_L1 HR0.out x4_1 p283 q283
                              obtain rfl : ad282 = ad283 := (by injection e283)
                              replace hx283_0 := (HB.out.cell (World.block_lt_of_cell? w _ hx283_0)).trans hx283_0
                              have HR283_0 := Aside0.mk hi283_0
                              have HC283_0 := Aside0.mk hl283_0
                              clear hi283_0 hl283_0
                              replace p283 := eq_true p283
                              replace q283 := eq_true q283
                              have ea_ := Option.some.inj (hx282_0.symm.trans hx283_0)
                              injection ea_ with ea_ en_ ec_
                              subst ea_
                              subst ec_
                              clear en_
                              have p284 : 0 ≤ (x5_3 : Int) := of_decide_eq_true (by first | (with_reducible assumption) | assumption)
                              have q284 : x5_3 < ((rd_L1 l0 x4_1).length : Int) := of_decide_eq_true (by first | (with_reducible assumption) | assumption)
                              obtain ⟨ad284, e284, hx284_0⟩ := Kd.at_int HR283_0.out x5_3 p284 q284
                              cases e284
                              replace hx284_0 := (HB.out.cell (World.block_lt_of_cell? w _ hx284_0)).trans hx284_0
                              replace p284 := eq_true p284
                              replace q284 := eq_true q284
                              go_wp2_with (first | ((with_reducible refine gate_callee (f := 31) rfl ?_); refine goesL_ (some 37) rfl rfl Tryd.func31 (by kernel_rfl) rfl #[.int .i64 (rd (rd_L1 l0 x4_1) x5_3)] rfl (by (try simp only [List.map_toArray, List.map_cons, List.map_nil]); first | done | rfl | (simp only [List.length_drop, List.length_take]; rfl)) ?_; (with_reducible refine (clavierref01_Text.calls (rd (rd_L1 l0 x4_1) x5_3) t285 _ A12.out).mono ?_); rintro e w14 ⟨rfl, hb⟩; refine ⟨_, rfl, ?_⟩; have n0_ := Aside0.mk (below_step (by repeat (first | (with_reducible first | exact HB.out | apply below_alloc | apply pw_below_drewN | apply below_drew1) | exact HB.out)) hb); clear HB; have HB := n0_; clear n0_; (try clear hb); (try clear hb2); (try clear hk); (try clear hi)))
                              go_roundg k3
                              case measure => have := HK1.out; have := HJ2.out; have := HK3.out; omega
                              case rel => exact ⟨((x3_3 ++ (⟨#[58]⟩ : ByteArray)) ++ t285), (wrap64 (x5_3 + 1)), (by first | rfl | (simp; done) | (simp [*]; done)), (by first | rfl | (simp; done) | (simp [*]; done)), H', ⟨by have := HK1.out; have := HJ2.out; have := HK3.out; omega⟩, ⟨by repeat (first | (with_reducible first | exact HB.out | apply below_alloc | apply pw_below_drewN | apply below_drew1) | exact HB.out)⟩⟩
                            · rw [if_neg c13] at H
                              exact absurd H (by simp)
                          · rw [if_neg c11] at H
                            exact absurd H (by simp)
                        · rw [if_neg c10] at H
                          exact absurd H (by simp)
                      · rw [if_neg c9] at H
                        have c9b0 : decide (0 < x5_3) = false := decide_eq_false c9
                        clear c9
                        by_cases c15 : 0 ≤ x5_3
                        · rw [if_pos c15] at H
                          have c15b0 : decide (0 ≤ x5_3) = true := decide_eq_true c15
                          clear c15
                          replace H := Option.bind_eq_some_iff.mp H
                          obtain ⟨t288, A160, H⟩ := H
                          replace H : (if x3_3.size + t288.size ≤ 9223372036854775807 then (clavierref18_Text.l1 k3 l0 (x3_3 ++ t288) x4_1 (wrap64 (x5_3 + 1))) else (none)) = some r := H
                          have A16 := Aside0.mk A160
                          clear A160
                          by_cases c17 : x3_3.size + t288.size ≤ 9223372036854775807
                          · rw [if_pos c17] at H
                            have c17b0 := eq_true c17
                            have c17b1 : decide (x3_3.size + t288.size ≤ 9223372036854775807) = true := decide_eq_true c17
                            try have c17b2 : (9223372036854775807 < x3_3.size + t288.size) = False := eq_false (Nat.not_lt.2 c17)
                            have H' := Aside0.mk H
                            clear H
                            have p282 : 0 ≤ (x4_1 : Int) := of_decide_eq_true (by first | (with_reducible assumption) | assumption)
                            have q282 : x4_1 < (l0.length : Int) := of_decide_eq_true (by first | (with_reducible assumption) | assumption)
                            obtain ⟨ad282, A282_0, c282_0, e282, hx282_0, hl282_0, hi282_0⟩ := at_L1 HR0.out x4_1 p282 q282
                            cases e282
                            replace hx282_0 := (HB.out.cell (World.block_lt_of_cell? w _ hx282_0)).trans hx282_0
                            have HR282_0 := Aside0.mk hi282_0
                            have HC282_0 := Aside0.mk hl282_0
                            clear hi282_0 hl282_0
                            replace p282 := eq_true p282
                            replace q282 := eq_true q282
                            have p286 : 0 ≤ (x4_1 : Int) := of_decide_eq_true (by first | (with_reducible assumption) | assumption)
                            have q286 : x4_1 < (l0.length : Int) := of_decide_eq_true (by first | (with_reducible assumption) | assumption)
                            obtain ⟨ad286, A286_0, c286_0, e286, hx286_0, hl286_0, hi286_0⟩ := at_L1 HR0.out x4_1 p286 q286
                            obtain rfl : ad282 = ad286 := (by injection e286)
                            replace hx286_0 := (HB.out.cell (World.block_lt_of_cell? w _ hx286_0)).trans hx286_0
                            have HR286_0 := Aside0.mk hi286_0
                            have HC286_0 := Aside0.mk hl286_0
                            clear hi286_0 hl286_0
                            replace p286 := eq_true p286
                            replace q286 := eq_true q286
                            have ea_ := Option.some.inj (hx282_0.symm.trans hx286_0)
                            injection ea_ with ea_ en_ ec_
                            subst ea_
                            subst ec_
                            clear en_
                            have p287 : 0 ≤ (x5_3 : Int) := of_decide_eq_true (by first | (with_reducible assumption) | assumption)
                            have q287 : x5_3 < ((rd_L1 l0 x4_1).length : Int) := of_decide_eq_true (by first | (with_reducible assumption) | assumption)
                            obtain ⟨ad287, e287, hx287_0⟩ := Kd.at_int HR286_0.out x5_3 p287 q287
                            cases e287
                            replace hx287_0 := (HB.out.cell (World.block_lt_of_cell? w _ hx287_0)).trans hx287_0
                            replace p287 := eq_true p287
                            replace q287 := eq_true q287
                            go_wp2_with (first | ((with_reducible refine gate_callee (f := 31) rfl ?_); refine goesL_ (some 37) rfl rfl Tryd.func31 (by kernel_rfl) rfl #[.int .i64 (rd (rd_L1 l0 x4_1) x5_3)] rfl (by (try simp only [List.map_toArray, List.map_cons, List.map_nil]); first | done | rfl | (simp only [List.length_drop, List.length_take]; rfl)) ?_; (with_reducible refine (clavierref01_Text.calls (rd (rd_L1 l0 x4_1) x5_3) t288 _ A16.out).mono ?_); rintro e w18 ⟨rfl, hb⟩; refine ⟨_, rfl, ?_⟩; have n0_ := Aside0.mk (below_step (by repeat (first | (with_reducible first | exact HB.out | apply below_alloc | apply pw_below_drewN | apply below_drew1) | exact HB.out)) hb); clear HB; have HB := n0_; clear n0_; (try clear hb); (try clear hb2); (try clear hk); (try clear hi)))
                            go_roundg k3
                            case measure => have := HK1.out; have := HJ2.out; have := HK3.out; omega
                            case rel => exact ⟨(x3_3 ++ t288), (wrap64 (x5_3 + 1)), (by first | rfl | (simp; done) | (simp [*]; done)), (by first | rfl | (simp; done) | (simp [*]; done)), H', ⟨by have := HK1.out; have := HJ2.out; have := HK3.out; omega⟩, ⟨by repeat (first | (with_reducible first | exact HB.out | apply below_alloc | apply pw_below_drewN | apply below_drew1) | exact HB.out)⟩⟩
                          · rw [if_neg c17] at H
                            exact absurd H (by simp)
                        · rw [if_neg c15] at H
                          exact absurd H (by simp)
                    · rw [if_neg c8] at H
                      have c8b0 : decide (x5_3 < ((rd_L1 l0 x4_1).length : Int)) = false := decide_eq_false c8
                      clear c8
                      have H' := Aside0.mk H
                      clear H
                      have p282 : 0 ≤ (x4_1 : Int) := of_decide_eq_true (by first | (with_reducible assumption) | assumption)
                      have q282 : x4_1 < (l0.length : Int) := of_decide_eq_true (by first | (with_reducible assumption) | assumption)
                      obtain ⟨ad282, A282_0, c282_0, e282, hx282_0, hl282_0, hi282_0⟩ := at_L1 HR0.out x4_1 p282 q282
                      cases e282
                      replace hx282_0 := (HB.out.cell (World.block_lt_of_cell? w _ hx282_0)).trans hx282_0
                      have HR282_0 := Aside0.mk hi282_0
                      have HC282_0 := Aside0.mk hl282_0
                      clear hi282_0 hl282_0
                      replace p282 := eq_true p282
                      replace q282 := eq_true q282
                      go_wp2
                      go_roundg k3
                      case measure => have := HK1.out; have := HJ2.out; have := HK3.out; omega
                      case rel => exact ⟨(x3_3), (wrap64 (x4_1 + 1)), (by first | rfl | (simp; done) | (simp [*]; done)), (by first | rfl | (simp; done) | (simp [*]; done)), H', ⟨by have := HK1.out; have := HJ2.out; have := HK3.out; omega⟩, ⟨by repeat (first | (with_reducible first | exact HB.out | apply below_alloc | apply pw_below_drewN | apply below_drew1) | exact HB.out)⟩⟩
                  · rw [if_neg c7] at H
                    exact absurd H (by simp)
                · rw [if_neg c6] at H
                  exact absurd H (by simp)
      · rw [if_neg c2] at H
        have c2b0 : decide (x4_1 < (l0.length : Int)) = false := decide_eq_false c2
        clear c2
        obtain rfl := Option.some.inj H
        go_wp2
        go_ret
        exact ⟨by first | rfl | (simp [errW_none, errW_some] <;> rfl) | (simp [*, errW_none, errW_some] <;> rfl), by repeat (first | (with_reducible first | exact HB.out | apply below_alloc | apply pw_below_drewN | apply below_drew1) | exact HB.out)⟩
end Go.Proofs.YtbaigfoioiklkaaDoor.G
end
section
namespace Go.Proofs.YtbaigfoioiklkaaDoor
set_option linter.unusedVariables false
set_option linter.unusedSimpArgs false
theorem join_snoc (xs : List (List UInt8)) (y sep : List UInt8) : Lib.join (xs ++ [y]) sep = (if xs = [] then y else Lib.join xs sep ++ sep ++ y) := by
  cases xs with
  | nil => simp [Lib.join_one]
  | cons x r =>
    rw [if_neg (by simp), List.cons_append, Lib.join_cons, Lib.join_cons]
    simp [Lib.joinTail, List.append_assoc]
end Go.Proofs.YtbaigfoioiklkaaDoor
end
section
namespace Go.Proofs.YtbaigfoioiklkaaDoor.G
set_option linter.unusedVariables false
set_option linter.unusedSimpArgs false
open Go.RowKit Kit Go.Proofs.YtbaigfoioiklkaaDoorW.PrintWords
theorem refText01_is {n : Int} (h0 : -9223372036854775808 ≤ n) (h1 : n ≤ 9223372036854775807) : clavierref01_Text.f n = some ⟨(textL n).toArray⟩ := by unfold clavierref01_Text.f; rw [if_pos ⟨h0, h1⟩]
def preT (l : List (List Int)) (i : Nat) : List UInt8 := Lib.join ((l.take i).map partT) [59]
theorem preT_le (l : List (List Int)) (hi : AllI l) (hl : Small l) (i : Nat) : (preT l i).length ≤ 220000 := by
  have h100 := hl.1
  have := join_le ((l.take i).map partT) [59] 2100 (fun x hx => by
    obtain ⟨r, hr, rfl⟩ := List.mem_map.1 hx
    have hr' := List.mem_of_mem_take hr
    have h1 := partT_le r (fun z hz => (hi r hr' z hz).2)
    have h2 := hl.2 r hr'
    omega)
  rw [List.length_map, List.length_take] at this
  have h3 : (2100 + 1) * min i l.length ≤ 2101 * 100 := Nat.mul_le_mul_left _ (by omega)
  unfold preT
  simp only [List.length_singleton] at this
  omega
theorem size_list (a : List UInt8) : (⟨a.toArray⟩ : ByteArray).size = a.length := by simp [ByteArray.size]
theorem ref_inner (l : List (List Int)) (hl : l.length ≤ 100) (i : Nat) (hil : i < l.length) (base : List UInt8) (hb : base.length ≤ 300000) (hi : InI l[i]) (hr : l[i].length ≤ 100) : ∀ d j k, j + d = l[i].length → d < k →
    clavierref18_Text.l1 k l ⟨(base ++ Lib.join ((l[i].take j).map textL) [58]).toArray⟩ (i : Int) (j : Int) = clavierref18_Text.l0 (k - d - 1) l ⟨(base ++ partT l[i]).toArray⟩ ((i + 1 : Nat) : Int) := by
  intro d
  induction d with
  | zero =>
    intro j k hj hk
    obtain ⟨k, rfl⟩ : ∃ m, k = m + 1 := ⟨k - 1, by omega⟩
    have e : l[i].take j = l[i] := List.take_of_length_le (by omega)
    have hw : wrap64 ((i : Int) + 1) = ((i + 1 : Nat) : Int) := by unfold wrap64; omega
    rw [clavierref18_Text.l1, if_pos (by omega), if_pos (by omega), rd_row l i hil, if_neg (by omega), e, hw]
    rfl
  | succ d ih =>
    intro j k hj hk
    obtain ⟨k, rfl⟩ : ∃ m, k = m + 1 := ⟨k - 1, by omega⟩
    have hjl : j < l[i].length := by omega
    have hw : wrap64 ((j : Int) + 1) = ((j + 1 : Nat) : Int) := by unfold wrap64; omega
    have hz := hi _ (List.getElem_mem hjl)
    have hrd : rd l[i] (j : Int) = l[i][j] := by unfold rd; simp [List.getD, hjl]
    have htl := textL_le hz.2
    have hjb : (Lib.join ((l[i].take j).map textL) [58]).length ≤ 2100 := by
      have := join_le ((l[i].take j).map textL) [58] 20 (fun x hx => by
        obtain ⟨z, hz, rfl⟩ := List.mem_map.1 hx
        exact textL_le (hi z (List.mem_of_mem_take hz)).2)
      rw [List.length_map, List.length_take] at this
      have h3 : (20 + 1) * min j l[i].length ≤ 21 * 100 := Nat.mul_le_mul_left _ (by omega)
      simp only [List.length_singleton] at this
      omega
    have hsn := join_snoc ((l[i].take j).map textL) (textL l[i][j]) [58]
    rw [← take_snoc_map textL l[i] hjl] at hsn
    rw [clavierref18_Text.l1, if_pos (by omega), if_pos (by omega), rd_row l i hil, if_pos (by omega)]
    by_cases hj0 : j = 0
    · subst hj0
      rw [if_neg (by decide), if_pos (by decide), hrd, refText01_is hz.1 hz.2, Option.bind_some, if_pos (by rw [size_list, size_list, List.length_append]; omega), hw]
      have e : ((⟨(base ++ Lib.join ((l[i].take 0).map textL) [58]).toArray⟩ : ByteArray) ++ ⟨(textL l[i][0]).toArray⟩) = ⟨(base ++ Lib.join ((l[i].take (0 + 1)).map textL) [58]).toArray⟩ := by
        rw [ByteArray.mk_append_mk, hsn]
        simp [Lib.join_nil]
      rw [e, ih (0 + 1) k (by omega) (by omega)]
      congr 1
      omega
    · rw [if_pos (by omega), if_pos (by rw [size_list, List.length_append]; omega), if_pos (by omega), hrd, refText01_is hz.1 hz.2, Option.bind_some]
      have e1 : ((⟨(base ++ Lib.join ((l[i].take j).map textL) [58]).toArray⟩ : ByteArray) ++ ⟨#[58]⟩) = ⟨(base ++ Lib.join ((l[i].take j).map textL) [58] ++ [58]).toArray⟩ := ByteArray.mk_append_mk _ _
      have e2 : ((⟨(base ++ Lib.join ((l[i].take j).map textL) [58] ++ [58]).toArray⟩ : ByteArray) ++ ⟨(textL l[i][j]).toArray⟩) = ⟨(base ++ Lib.join ((l[i].take (j + 1)).map textL) [58]).toArray⟩ := by
        rw [ByteArray.mk_append_mk, hsn, if_neg (by intro h; have h2 := congrArg List.length h; rw [List.length_map, List.length_take, List.length_nil] at h2; omega)]
        simp [List.append_assoc]
      rw [e1, if_pos (by rw [size_list, size_list, List.length_append, List.length_append]; simp only [List.length_singleton]; omega), e2, hw, ih (j + 1) k (by omega) (by omega)]
      congr 1
      omega
theorem ref_outer (l : List (List Int)) (hi : AllI l) (hl : Small l) : ∀ d i k, i + d = l.length → d * 110 + 10 ≤ k → clavierref18_Text.l0 k l ⟨(preT l i).toArray⟩ (i : Int) = some ⟨(textP l).toArray⟩ := by
  intro d
  induction d with
  | zero =>
    intro i k hid hk
    obtain ⟨k, rfl⟩ : ∃ m, k = m + 1 := ⟨k - 1, by omega⟩
    have e : l.take i = l := List.take_of_length_le (by omega)
    rw [clavierref18_Text.l0, if_neg (by omega)]
    unfold preT textP
    rw [e]
  | succ d ih =>
    intro i k hid hk
    obtain ⟨k, rfl⟩ : ∃ m, k = m + 2 := ⟨k - 2, by omega⟩
    have hil : i < l.length := by omega
    have h100 := hl.1
    have hr := hl.2 _ (List.getElem_mem hil)
    have hp := preT_le l hi hl i
    have hsn := join_snoc ((l.take i).map partT) (partT l[i]) [59]
    rw [← take_snoc_map partT l hil] at hsn
    rw [clavierref18_Text.l0, if_pos (by omega)]
    by_cases hi0 : i = 0
    · subst hi0
      have hin := ref_inner l h100 0 hil (preT l 0) (by omega) (hi _ (List.getElem_mem hil)) hr l[0].length 0 k (by omega) (by omega)
      have hz : preT l 0 ++ Lib.join ((l[0].take 0).map textL) [58] = preT l 0 := by simp [Lib.join_nil]
      rw [hz] at hin
      rw [if_neg (by decide), clavierref18_Text.j1]
      rw [show (((0 : Nat) : Int)) = 0 from rfl] at hin ⊢
      rw [hin]
      have e : preT l 0 ++ partT l[0] = preT l (0 + 1) := by unfold preT; rw [hsn]; simp [Lib.join_nil]
      rw [e]
      exact ih (0 + 1) _ (by omega) (by omega)
    · have hin := ref_inner l h100 i hil (preT l i ++ [59]) (by rw [List.length_append, List.length_singleton]; omega) (hi _ (List.getElem_mem hil)) hr l[i].length 0 k (by omega) (by omega)
      have hz : preT l i ++ [59] ++ Lib.join ((l[i].take 0).map textL) [58] = preT l i ++ [59] := by simp [Lib.join_nil]
      rw [hz] at hin
      have e1 : ((⟨(preT l i).toArray⟩ : ByteArray) ++ ⟨#[59]⟩) = ⟨(preT l i ++ [59]).toArray⟩ := ByteArray.mk_append_mk _ _
      rw [if_pos (by omega), if_pos (by rw [size_list]; omega), e1, clavierref18_Text.j1]
      rw [show (((0 : Nat) : Int)) = 0 from rfl] at hin
      rw [hin]
      have e : preT l i ++ [59] ++ partT l[i] = preT l (i + 1) := by
        unfold preT
        rw [hsn, if_neg (by intro h; have h2 := congrArg List.length h; rw [List.length_map, List.length_take, List.length_nil] at h2; omega)]
      rw [e]
      exact ih (i + 1) _ (by omega) (by omega)
theorem refText_is (l : List (List Int)) (hi : AllI l) (hl : Small l) (k : Nat) (hk : 12000 ≤ k) : clavierref18_Text.f k l = some ⟨(textP l).toArray⟩ := by
  have h100 := hl.1
  have := ref_outer l hi hl l.length 0 k (by omega) (by omega)
  simpa [clavierref18_Text.f, preT, Lib.join_nil] using this
end Go.Proofs.YtbaigfoioiklkaaDoor.G
end
