/- C: texts run together by shake.py: PuM CaR. -/
import Derived.ArgAppend
import Derived.Below
import Derived.BigQuiet
import Derived.Deep.AppendLies
import Derived.Deep.CutBlock
import Derived.Deep.DeepCutAuto
import Derived.Deep.DrawnRows
import Derived.Deep.Draws
import Derived.Deep.LoopGhost
import Derived.Deep.OwnRows
import Derived.Deep.Quiet
import Derived.Deep.QuietTactic
import Derived.Deep.RegionHeld3
import Derived.Ground.GgzProg
import Derived.KernelRfl
import Derived.Laws.AppendOwn
import Derived.Laws.AppendOwnNone
import Derived.Laws.BitsAllLaws
import Derived.Laws.BitsLemmas
import Derived.Laws.BytesArg
import Derived.Laws.CopyRow
import Derived.Laws.IdiomCopy
import Derived.Laws.IdiomStrings
import Derived.Laws.MakeOwn
import Derived.Laws.OwnMore
import Derived.Laws.RangeAny
import Derived.Laws.Rows
import Derived.Laws.Slices
import Derived.Laws.StructEq
import Derived.Laws.Tables
import Derived.Lib.AppendStr
import Derived.Lib.ConvBytes
import Derived.Lib.Hide
import Derived.Lib.ItoaNum
import Derived.Lib.OthersKept
import Derived.Lib.SlKeysI
import Derived.Lib.TrimU
import Derived.MapKept
import Derived.Maps.AppendAt
import Derived.Maps.Own
import Derived.Orders
import Derived.OrdersHeld
import Derived.OrdersIn
import Derived.Outline
import Derived.OwnWalk
import Derived.RangeFuncCalls
import Derived.RangeFuncNested
import Derived.RangeFuncWrites
import Derived.RowKit
import Derived.RowKit3
import Derived.Shelf.LaysM
import Derived.Shelf.SlIter.Nil
import Derived.Shelf.Slices.Empties2
import Derived.Shelf.Slices.Equal
import Derived.Shelf.Slices.In.SortNone
import Derived.Shelf.Small.Bits
import Derived.Shelf.Small.Strs
import Derived.Shelf.Small.Utf8
import Derived.Shelf.Sort.Plain
import Derived.Shelf.SortM.Plain
import Derived.Shelf.SortM.SortNone
import Derived.Shelf.Strconv.Itoa0
import Derived.Shelf.Strings.Builder1
import Derived.Shelf.Strings.Builder2
import Derived.Shelf.Strings.Builder2Cap
import Derived.Shelf.Strings.BuilderCap
import Derived.Shelf.Strings.BuilderF
import Derived.Shelf.Strings.BuilderK
import Derived.Shelf.Strings.Cut
import Derived.Shelf.Strings.OnBuilder
import Derived.Shelf.Strings.Runes
import Derived.Shelf.Strings.Search1
import Derived.Shelf.Strings.Search2
import Derived.Shelf.Strings.Search3
import Derived.Shelf.Strings.Shaped
import Derived.Shelf.Unicode.Decode
import Derived.Shelf.Unicode.DecodeAny
import Derived.Shelf.Unicode.DecodeSlow
import Derived.Still
import Derived.Tactics
import Derived.TacticsIn
import Derived.Test.YtclnanhgcnopdaaDoorProg
import Derived.WalkKit
import Derived.WalkLawsBesides
import Derived.WalkSpells
import Derived.WideLaws
import Derived.Test.YtclnanhgcnopdaaDoorZC1
import Derived.Test.YtclnanhgcnopdaaDoorZC2
import Derived.Test.YtclnanhgcnopdaaDoorZC3
import Derived.Test.YtclnanhgcnopdaaDoorZC4
import Derived.Test.YtclnanhgcnopdaaDoorZC9
import Derived.Test.YtclnanhgcnopdaaDoorZC10
section
namespace Go.Proofs.YtclnanhgcnopdaaDoor.G
set_option linter.unusedVariables false
set_option linter.unusedSimpArgs false
open Go.RowKit Kit Go.Proofs.YtclnanhgcnopdaaDoorW.PrintWords Go.Proofs.YtclnanhgcnopdaaDoorW.PrintMore
def Wi (s : ByteArray) (lo hi : Int) : Prop := ∀ c ∈ s.toList, lo ≤ (c.toNat : Int) ∧ (c.toNat : Int) ≤ hi
theorem within_loop (s : ByteArray) (lo hi : Int) (h : Wi s lo hi) (hs : s.size ≤ 1000000) : ∀ d i k, i + d = s.size → d < k → clavierref03_within.l0 k s lo hi (i : Int) = some true := by
  intro d
  induction d with
  | zero =>
    intro i k hi hk
    obtain ⟨k, rfl⟩ : ∃ m, k = m + 1 := ⟨k - 1, by omega⟩
    rw [clavierref03_within.l0, if_neg (by omega)]
  | succ d ih =>
    intro i k hi hk
    obtain ⟨k, rfl⟩ : ∃ m, k = m + 1 := ⟨k - 1, by omega⟩
    have hlt : i < s.size := by omega
    have hb : bt s (i : Int) = ((s[i]'hlt).toNat : Int) := by
      rw [← bt_at s (i : Int) (by simpa using hlt)]
      simp
    have hm : s[i]'hlt ∈ s.toList := by
      rw [Lib.toList_data]
      exact Array.getElem_mem_toList (by simpa using hlt)
    obtain ⟨h1, h2⟩ := h _ hm
    have hw : wrap64 ((i : Int) + 1) = ((i + 1 : Nat) : Int) := by unfold wrap64; omega
    rw [clavierref03_within.l0, if_pos (by omega), if_pos (by omega), hb, if_neg (by omega), if_neg (by omega), hw]
    exact ih (i + 1) k (by omega) (by omega)
theorem within_ok (s : ByteArray) (lo hi : Int) (h : Wi s lo hi) (hs : s.size ≤ 4096) : clavierref03_within.f 5000 s lo hi = some true :=
  within_loop s lo hi h (by omega) s.size 0 5000 (by omega) (by omega)
theorem params_one (a : Int) (h0 : 0 ≤ a) (h1 : a ≤ 1114111) : clavierref03_params.f 5000 [[a]] = some true := by
  have n1 : ¬ a = -1 := by omega
  have n2 : ¬ a < -1 := by omega
  have n3 : ¬ a > 1114111 := by omega
  simp [clavierref03_params.f, clavierref03_params.j0, clavierref03_params.l0, clavierref03_params.j2, clavierref03_params.l1, rd, rd_L4, wrap64, n1, n2, n3]
theorem may_ok (kd pv fi : Int) (rows : List (List Int)) (inter data : ByteArray) (hk : (kd = 1 ∧ data = ⟨#[]⟩) ∨ kd = 3) (hp : pv = 0 ∨ (60 ≤ pv ∧ pv ≤ 63)) (hr : clavierref03_params.f 5000 rows = some true) (hi : inter.size ≤ 2) (hw : Wi inter 32 47) (hd : data.size ≤ 4096) (hv : Wi data 32 126) (f0 : 64 ≤ fi) (f1 : fi ≤ 126) :
    clavierref03_May.f 5000 kd pv rows inter fi data = some 0 := by
  have hlast : clavierref03_last.f 5000 kd pv rows inter fi data = some true := by
    rcases hk with ⟨rfl, _⟩ | rfl
    · simp [clavierref03_last.f, clavierref03_last.j0, show fi ≥ 64 from f0, f1]
    · simp [clavierref03_last.f, clavierref03_last.j0, show fi ≥ 64 from f0, f1]
  have hbare : clavierref03_bare.f 5000 kd pv rows inter fi data = some true := by
    rcases hk with ⟨rfl, rfl⟩ | rfl
    · have e : (⟨#[]⟩ : ByteArray).toList = [] := by simp [Lib.toList_data]
      simp [clavierref03_bare.f, clavierref03_bare.j0, clavierref03_bare.j1, e]
    · by_cases e : data.toList = [] <;> simp [clavierref03_bare.f, clavierref03_bare.j0, clavierref03_bare.j1, e]
  unfold clavierref03_May.f
  rw [if_neg (by omega)]
  rcases hp with rfl | ⟨h1, h2⟩
  · rw [if_pos rfl, hr, Option.bind_some, if_pos rfl, if_neg (by omega), within_ok _ _ _ hw (by omega), Option.bind_some, if_pos rfl, within_ok _ _ _ hv hd, Option.bind_some, if_pos rfl, hlast, Option.bind_some, if_pos rfl, hbare, Option.bind_some, if_pos rfl]
  · rw [if_neg (by omega), if_neg (by omega), if_neg (by omega), hr, Option.bind_some, if_pos rfl, if_neg (by omega), within_ok _ _ _ hw (by omega), Option.bind_some, if_pos rfl, within_ok _ _ _ hv hd, Option.bind_some, if_pos rfl, hlast, Option.bind_some, if_pos rfl, hbare, Option.bind_some, if_pos rfl]
end Go.Proofs.YtclnanhgcnopdaaDoor.G
end
section
namespace Go.Proofs.YtclnanhgcnopdaaDoor
set_option linter.unusedVariables false
set_option linter.unusedSimpArgs false
open Go.RowKit Kit G Go.Proofs.YtclnanhgcnopdaaDoorW.PrintWords
theorem okD_cases {c : UInt8} (h : okD c = true) : (48 ≤ c.toNat ∧ c.toNat ≤ 57) ∨ (65 ≤ c.toNat ∧ c.toNat ≤ 70) ∨ c.toNat = 61 ∨ c.toNat = 59 := by
  simp [okD, okC] at h
  omega
attribute [local irreducible] wpList Calls wpQuiet
set_option maxRecDepth 100000 in
set_option maxHeartbeats 4000000 in
theorem capsSafe_calls (data : ByteArray) (w : World) : Calls Tryd.prog 4 #[.string data] w fun e w' => e = .returned (.bool true) ∧ Below w.heap.size w w' := by
  have HO := Mine.start w
  by_cases h2 : 300 < data.size
  · have b3 : decide ((300 : Int) < (data.size : Int)) = true := decide_eq_true (by omega)
    have b4 : decide (300 < data.size) = true := decide_eq_true h2
    clear h2
    go_enter Tryd.func4, Tryd.ntmps4
    go_wp2_with (go_at_call 8; refine (awake20_calls _).mono ?_; rintro eN wN ⟨rfl, hbN⟩; have HON := HO.call hbN; clear HO hbN; have HO := HON; clear HON)
    go_ret
    exact ⟨rfl, HO.below⟩
  have b3 : decide ((300 : Int) < (data.size : Int)) = false := decide_eq_false (by omega)
  have b4 : decide (300 < data.size) = false := decide_eq_false h2
  obtain ⟨n, d, hq, hn0, hn1, hd, hok⟩ := capsS_form data
  have ha := fun W => one_known (answer_calls data (by omega) W) n (by rw [hq])
  rw [hq] at ha
  have HA := Lib.hid ha
  have HOK := Lib.hid hok
  have HM : Hid (∀ (A : Option Addr) (W : World), RowsC W A [[n]] → Calls Tryd.prog 14 #[.agg #[.int .i64 3, .int .u8 0, .slice A 1 1, .string ⟨#[43]⟩, .int .u8 114, .string d]] W fun e w' => e = .returned (.int .i64 0) ∧ Below W.heap.size W w') := Lib.hid fun A W hA =>
    clavierref03_May.calls 5000 3 0 A 1 [[n]] ⟨#[43]⟩ 114 d 0 W hA (Nat.le_refl _) (may_ok 3 0 114 [[n]] ⟨#[43]⟩ d (.inr rfl) (.inl rfl) (params_one n (by omega) (by omega)) (by decide) (by
      intro c hc
      rw [Lib.toList_data] at hc
      have : c = 43 := by simpa using hc
      subst this; decide) hd (fun c hc => by
      rw [Lib.toList_data] at hc
      have := okD_range (hok c hc)
      omega) (by decide) (by decide))
  clear h2 ha hq hok hn0 hn1
  go_enter Tryd.func4, Tryd.ntmps4
  go_wp2_with (first
      | (go_at_call 8; refine (awake20_calls _).mono ?_; rintro eN wN ⟨rfl, hbN⟩; have HON := HO.call hbN; clear HO hbN; have HO := HON; clear HON)
      | (go_at_call 12; refine (HA.out _).mono ?_; rintro eN wN ⟨g1, g2, rfl, HM⟩; have HON := (HO.join HM).perm List.perm_append_comm; clear HO HM; have HO := HON; clear HON; (simp only [List.nil_append, List.cons_append] at HO))
      | ((with_reducible refine gate ?_); (first
      | ((with_reducible refine gateAt (N := 4) rfl ?_); refine own_allocF (T := 28) HO rfl rfl Tryd.zeroValue28 rfl ?_; clear HO; intro gS wN hggS HO; (try simp only [Act.put, List.setIfInBounds_toArray, List.set_cons_zero, List.set_cons_succ]))
      | ((refine own_load (T := 28) HO rfl rfl rfl (by first | exact .head _ | exact .tail _ (.head _) | exact .tail _ (.tail _ (.head _)) | exact .tail _ (.tail _ (.tail _ (.head _)))) Tryd.isAgg28 Tryd.sizeOf28 (by repeat constructor) ?_); (try simp only [Act.put, List.setIfInBounds_toArray, List.set_cons_zero, List.set_cons_succ]))
      | ((refine own_load1 (T := 9) HO rfl rfl rfl (by first | exact .head _ | exact .tail _ (.head _) | exact .tail _ (.tail _ (.head _)) | exact .tail _ (.tail _ (.tail _ (.head _)))) Tryd.isAgg9 rfl ?_); (try simp only [Act.put, List.setIfInBounds_toArray, List.set_cons_zero, List.set_cons_succ]))
      | ((refine own_store1 (T := 9) HO rfl rfl rfl (by first | exact .const | exact .tmp rfl | exact .func) (by rfl) (by first | exact .here | exact .there (.here) | exact .there (.there (.here)) | exact .there (.there (.there (.here)))) Tryd.sizeOf9 (by repeat constructor) (by rfl) ?_); clear HO; intro wN HO; (try simp only [Act.put, List.setIfInBounds_toArray, List.set_cons_zero, List.set_cons_succ]))
      | ((refine own_store (T := 28) HO rfl rfl rfl rfl (by first | exact .here | exact .there (.here) | exact .there (.there (.here)) | exact .there (.there (.there (.here)))) Tryd.sizeOf28 (by repeat constructor) rfl ?_); clear HO; intro wN HO; (try simp only [Act.put, List.setIfInBounds_toArray, List.set_cons_zero, List.set_cons_succ])))))
  go_loopw [5] (fun i wr => ∃ k : Nat, k ≤ d.size ∧ i = .int .i64 k ∧ Mine w wr [(gS, IsCells [.int .i64 3, .int .u8 0, .slice (some ⟨g2, 0, none⟩) 1 1, .string ⟨#[43]⟩, .int .u8 114, .string d] 28), (g2, IsCells [.slice (some ⟨g1, 0, none⟩) 1 1] 45), (g1, IsCells [.int .i64 n] 3)]) (fun i _ => d.size - (intOf i).toNat)
  case atStart => exact ⟨0, Nat.zero_le _, rfl, HO⟩
  case round =>
    obtain ⟨k, hk, rfl, HO2⟩ := hrel
    clear HO
    have HO := HO2
    clear HO2
    by_cases hlt : k < d.size
    · have hc := okD_cases (HOK.out (d[k]'hlt) (by show d.data[k] ∈ _; simp))
      rcases hc with hc | hc | hc | hc
      · have f1 : decide ((48 : Int) ≤ ((d[k]'hlt).toNat : Int)) = true := decide_eq_true (by omega)
        have f2 : decide (((d[k]'hlt).toNat : Int) ≤ 57) = true := decide_eq_true (by omega)
        clear hc
        go_wp2_with (first
      | ((with_reducible refine gate ?_); (first
      | ((refine own_load1 (T := 9) HO rfl rfl rfl (by first | exact .head _ | exact .tail _ (.head _) | exact .tail _ (.tail _ (.head _)) | exact .tail _ (.tail _ (.tail _ (.head _)))) Tryd.isAgg9 rfl ?_); (try simp only [Act.put, List.setIfInBounds_toArray, List.set_cons_zero, List.set_cons_succ]))
      | ((refine own_store1 (T := 9) HO rfl rfl rfl (by first | exact .const | exact .tmp rfl | exact .func) (by rfl) (by first | exact .here | exact .there (.here) | exact .there (.there (.here)) | exact .there (.there (.there (.here)))) Tryd.sizeOf9 (by repeat constructor) (by rfl) ?_); clear HO; intro wN HO; (try simp only [Act.put, List.setIfInBounds_toArray, List.set_cons_zero, List.set_cons_succ])))))
        go_roundw
        case rel => exact ⟨k + 1, by omega, by go_num, HO⟩
        case measure => simp [intOf]; omega
      · have f1 : decide ((48 : Int) ≤ ((d[k]'hlt).toNat : Int)) = true := decide_eq_true (by omega)
        have f2 : decide (((d[k]'hlt).toNat : Int) ≤ 57) = false := decide_eq_false (by omega)
        have f3 : decide ((65 : Int) ≤ ((d[k]'hlt).toNat : Int)) = true := decide_eq_true (by omega)
        have f4 : decide (((d[k]'hlt).toNat : Int) ≤ 70) = true := decide_eq_true (by omega)
        clear hc
        go_wp2_with (first
      | ((with_reducible refine gate ?_); (first
      | ((refine own_load1 (T := 9) HO rfl rfl rfl (by first | exact .head _ | exact .tail _ (.head _) | exact .tail _ (.tail _ (.head _)) | exact .tail _ (.tail _ (.tail _ (.head _)))) Tryd.isAgg9 rfl ?_); (try simp only [Act.put, List.setIfInBounds_toArray, List.set_cons_zero, List.set_cons_succ]))
      | ((refine own_store1 (T := 9) HO rfl rfl rfl (by first | exact .const | exact .tmp rfl | exact .func) (by rfl) (by first | exact .here | exact .there (.here) | exact .there (.there (.here)) | exact .there (.there (.there (.here)))) Tryd.sizeOf9 (by repeat constructor) (by rfl) ?_); clear HO; intro wN HO; (try simp only [Act.put, List.setIfInBounds_toArray, List.set_cons_zero, List.set_cons_succ])))))
        go_roundw
        case rel => exact ⟨k + 1, by omega, by go_num, HO⟩
        case measure => simp [intOf]; omega
      · have f1 : decide ((48 : Int) ≤ ((d[k]'hlt).toNat : Int)) = true := decide_eq_true (by omega)
        have f2 : decide (((d[k]'hlt).toNat : Int) ≤ 57) = false := decide_eq_false (by omega)
        have f3 : decide ((65 : Int) ≤ ((d[k]'hlt).toNat : Int)) = false := decide_eq_false (by omega)
        have f5 : (((d[k]'hlt).toNat : Int) == 61) = true := beq_iff_eq.2 (by omega)
        clear hc
        go_wp2_with (first
      | ((with_reducible refine gate ?_); (first
      | ((refine own_load1 (T := 9) HO rfl rfl rfl (by first | exact .head _ | exact .tail _ (.head _) | exact .tail _ (.tail _ (.head _)) | exact .tail _ (.tail _ (.tail _ (.head _)))) Tryd.isAgg9 rfl ?_); (try simp only [Act.put, List.setIfInBounds_toArray, List.set_cons_zero, List.set_cons_succ]))
      | ((refine own_store1 (T := 9) HO rfl rfl rfl (by first | exact .const | exact .tmp rfl | exact .func) (by rfl) (by first | exact .here | exact .there (.here) | exact .there (.there (.here)) | exact .there (.there (.there (.here)))) Tryd.sizeOf9 (by repeat constructor) (by rfl) ?_); clear HO; intro wN HO; (try simp only [Act.put, List.setIfInBounds_toArray, List.set_cons_zero, List.set_cons_succ])))))
        go_roundw
        case rel => exact ⟨k + 1, by omega, by go_num, HO⟩
        case measure => simp [intOf]; omega
      · have f1 : decide ((48 : Int) ≤ ((d[k]'hlt).toNat : Int)) = true := decide_eq_true (by omega)
        have f2 : decide (((d[k]'hlt).toNat : Int) ≤ 57) = false := decide_eq_false (by omega)
        have f3 : decide ((65 : Int) ≤ ((d[k]'hlt).toNat : Int)) = false := decide_eq_false (by omega)
        have f5 : (((d[k]'hlt).toNat : Int) == 61) = false := beq_eq_false_iff_ne.2 (by omega)
        have f6 : (((d[k]'hlt).toNat : Int) == 59) = true := beq_iff_eq.2 (by omega)
        clear hc
        go_wp2_with (first
      | ((with_reducible refine gate ?_); (first
      | ((refine own_load1 (T := 9) HO rfl rfl rfl (by first | exact .head _ | exact .tail _ (.head _) | exact .tail _ (.tail _ (.head _)) | exact .tail _ (.tail _ (.tail _ (.head _)))) Tryd.isAgg9 rfl ?_); (try simp only [Act.put, List.setIfInBounds_toArray, List.set_cons_zero, List.set_cons_succ]))
      | ((refine own_store1 (T := 9) HO rfl rfl rfl (by first | exact .const | exact .tmp rfl | exact .func) (by rfl) (by first | exact .here | exact .there (.here) | exact .there (.there (.here)) | exact .there (.there (.there (.here)))) Tryd.sizeOf9 (by repeat constructor) (by rfl) ?_); clear HO; intro wN HO; (try simp only [Act.put, List.setIfInBounds_toArray, List.set_cons_zero, List.set_cons_succ])))))
        go_roundw
        case rel => exact ⟨k + 1, by omega, by go_num, HO⟩
        case measure => simp [intOf]; omega
    · go_wp2_with (first
      | (go_at_call 14; refine (HM.out _ _ (rows_one1 (HO.at (.tail _ (.tail _ (.head _)))) (HO.at (.tail _ (.head _))))).mono ?_; rintro eN wN ⟨rfl, hbN⟩; have HON := HO.call hbN; clear HO hbN; have HO := HON; clear HON)
      | ((with_reducible refine gate ?_); (first
      | ((refine own_load (T := 28) HO rfl rfl rfl (by first | exact .head _ | exact .tail _ (.head _) | exact .tail _ (.tail _ (.head _)) | exact .tail _ (.tail _ (.tail _ (.head _)))) Tryd.isAgg28 Tryd.sizeOf28 (by repeat constructor) ?_); (try simp only [Act.put, List.setIfInBounds_toArray, List.set_cons_zero, List.set_cons_succ]))
      | ((refine own_load1 (T := 9) HO rfl rfl rfl (by first | exact .head _ | exact .tail _ (.head _) | exact .tail _ (.tail _ (.head _)) | exact .tail _ (.tail _ (.tail _ (.head _)))) Tryd.isAgg9 rfl ?_); (try simp only [Act.put, List.setIfInBounds_toArray, List.set_cons_zero, List.set_cons_succ]))
      | ((refine own_load1 (T := 3) HO rfl rfl rfl (by first | exact .head _ | exact .tail _ (.head _) | exact .tail _ (.tail _ (.head _)) | exact .tail _ (.tail _ (.tail _ (.head _)))) Tryd.isAgg3 rfl ?_); (try simp only [Act.put, List.setIfInBounds_toArray, List.set_cons_zero, List.set_cons_succ]))
      | ((refine own_store1 (T := 9) HO rfl rfl rfl (by first | exact .const | exact .tmp rfl | exact .func) (by rfl) (by first | exact .here | exact .there (.here) | exact .there (.there (.here)) | exact .there (.there (.there (.here)))) Tryd.sizeOf9 (by repeat constructor) (by rfl) ?_); clear HO; intro wN HO; (try simp only [Act.put, List.setIfInBounds_toArray, List.set_cons_zero, List.set_cons_succ]))
      | ((refine own_store1 (T := 3) HO rfl rfl rfl (by first | exact .const | exact .tmp rfl | exact .func) (by rfl) (by first | exact .here | exact .there (.here) | exact .there (.there (.here)) | exact .there (.there (.there (.here)))) Tryd.sizeOf3 (by repeat constructor) (by rfl) ?_); clear HO; intro wN HO; (try simp only [Act.put, List.setIfInBounds_toArray, List.set_cons_zero, List.set_cons_succ]))
      | ((refine own_store (T := 28) HO rfl rfl rfl rfl (by first | exact .here | exact .there (.here) | exact .there (.there (.here)) | exact .there (.there (.there (.here)))) Tryd.sizeOf28 (by repeat constructor) rfl ?_); clear HO; intro wN HO; (try simp only [Act.put, List.setIfInBounds_toArray, List.set_cons_zero, List.set_cons_succ])))))
      go_ret
      exact ⟨rfl, HO.below⟩
end Go.Proofs.YtclnanhgcnopdaaDoor
end
