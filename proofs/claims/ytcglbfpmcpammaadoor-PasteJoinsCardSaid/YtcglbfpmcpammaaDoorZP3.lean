/- P: texts run together by shake.py: UtY. -/
import Derived.ArgAppend
import Derived.Below
import Derived.BigQuiet
import Derived.Deep.AppendLies
import Derived.Deep.CutBlock
import Derived.Deep.DeepCutAuto
import Derived.Deep.Draws
import Derived.Deep.LoopGhost
import Derived.Deep.OwnRows
import Derived.Deep.Quiet
import Derived.Deep.QuietTactic
import Derived.Deep.RegionHeld3
import Derived.KernelRfl
import Derived.Laws.AppendOwn
import Derived.Laws.AppendOwnNone
import Derived.Laws.BitsAllLaws
import Derived.Laws.BitsLemmas
import Derived.Laws.BytesArg
import Derived.Laws.Concat
import Derived.Laws.CopyRow
import Derived.Laws.IdiomCopy
import Derived.Laws.IdiomStrings
import Derived.Laws.MakeOwn
import Derived.Laws.OwnMore
import Derived.Laws.Rows
import Derived.Laws.Slices
import Derived.Laws.StructEq
import Derived.Laws.Tables
import Derived.Lib.AppendIntMem
import Derived.Lib.AppendStr
import Derived.Lib.ConvBytes
import Derived.Lib.Hide
import Derived.Lib.ItoaLen
import Derived.Lib.ItoaNum
import Derived.Lib.LaidTab
import Derived.Lib.OthersKept
import Derived.Lib.TrimU
import Derived.MapKept
import Derived.Maps.AppendAt
import Derived.Orders
import Derived.OrdersHeld
import Derived.OrdersIn
import Derived.OwnWalk
import Derived.RangeFuncCalls
import Derived.RangeFuncNested
import Derived.RangeFuncWrites
import Derived.RowKit
import Derived.RowKit3
import Derived.Shelf.Bytes.SlEqualAll
import Derived.Shelf.Bytes.SlSearch0
import Derived.Shelf.Bytes.SlSmallAll
import Derived.Shelf.Bytes.Small
import Derived.Shelf.LaysM
import Derived.Shelf.Slices.Empties2
import Derived.Shelf.Slices.Equal
import Derived.Shelf.Small.Strs
import Derived.Shelf.Small.Utf8
import Derived.Shelf.Strconv.Itoa0
import Derived.Shelf.Strconv.Itoa1
import Derived.Shelf.Strconv.Itoa2
import Derived.Shelf.Strconv.Itoa3
import Derived.Shelf.Strings.Builder1
import Derived.Shelf.Strings.Builder2
import Derived.Shelf.Strings.Builder2Cap
import Derived.Shelf.Strings.BuilderCap
import Derived.Shelf.Strings.BuilderF
import Derived.Shelf.Strings.BuilderK
import Derived.Shelf.Strings.OnBuilder
import Derived.Shelf.Strings.Runes
import Derived.Shelf.Strings.Search1
import Derived.Still
import Derived.Tactics
import Derived.TacticsIn
import Derived.Test.YtcglbfpmcpammaaDoorProg
import Derived.WalkKit
import Derived.WideLaws
import Derived.Test.YtcglbfpmcpammaaDoorZP1
import Derived.Test.YtcglbfpmcpammaaDoorZP2
section
namespace Go.Proofs.YtcglbfpmcpammaaDoor
set_option linter.unusedVariables false
set_option linter.unusedSimpArgs false
open Go.RowKit Kit G Go.Proofs.YtcglbfpmcpammaaDoorW.PrintWords
def mostV : Nat → Int | 0 => 127 | 1 => 2047 | 2 => 65535 | _ => 1114111
def markV : Nat → Int | 0 => 0 | 1 => 192 | 2 => 224 | _ => 240
def restV : Nat → Int | 0 => 127 | 1 => 31 | 2 => 15 | _ => 7
def modV : Nat → Nat | 0 => 128 | 1 => 32 | 2 => 16 | _ => 8
theorem four {n : Nat} (h : n < 4) : n = 0 ∨ n = 1 ∨ n = 2 ∨ n = 3 := by omega
theorem index_size (n : Nat) (h : n < 4) (w : World) : (Instr.index 69 (.agg #[.int .i64 1, .int .i64 127, .int .u8 0, .int .u8 127, .int .i64 2, .int .i64 2047, .int .u8 192, .int .u8 31, .int .i64 3, .int .i64 65535, .int .u8 224, .int .u8 15, .int .i64 4, .int .i64 1114111, .int .u8 240, .int .u8 7]) (.int .i64 (n : Int))).run Tryd.prog w = .ok (.agg #[.int .i64 ((n + 1 : Nat) : Int), .int .i64 (mostV n), .int .u8 (markV n), .int .u8 (restV n)]) w := by
  rcases four h with rfl | rfl | rfl | rfl
  · exact index_size0 w
  · exact index_size1 w
  · exact index_size2 w
  · exact index_size3 w
theorem and_rest (n : Nat) (h : n < 4) (x : Nat) (hx : x < 256) : bits .and .u8 (x : Int) (restV n) = ((x % modV n : Nat) : Int) := by
  have m := fun (i : Nat) (hi : i ≤ 8) => bits_mask .u8 8 (by decide) wraps_u8 i hi (x : Int) (by omega) (by omega)
  rcases four h with rfl | rfl | rfl | rfl
  · show bits .and .u8 (x : Int) 127 = ((x % 128 : Nat) : Int)
    exact (m 7 (by decide)).trans (by show (x : Int) % 128 = _; omega)
  · show bits .and .u8 (x : Int) 31 = ((x % 32 : Nat) : Int)
    exact (m 5 (by decide)).trans (by show (x : Int) % 32 = _; omega)
  · show bits .and .u8 (x : Int) 15 = ((x % 16 : Nat) : Int)
    exact (m 4 (by decide)).trans (by show (x : Int) % 16 = _; omega)
  · show bits .and .u8 (x : Int) 7 = ((x % 8 : Nat) : Int)
    exact (m 3 (by decide)).trans (by show (x : Int) % 8 = _; omega)
theorem notMasks : ∀ x, x < 256 → (x &&& (255 - 127)) = x / 128 * 128 ∧ (x &&& (255 - 31)) = x / 32 * 32 ∧ (x &&& (255 - 15)) = x / 16 * 16 ∧ (x &&& (255 - 7)) = x / 8 * 8 := by decide +kernel
theorem not_rest (n : Nat) (h : n < 4) (x : Nat) (hx : x < 256) : bits .andNot .u8 (x : Int) (restV n) = ((x / modV n * modV n : Nat) : Int) := by
  obtain ⟨h1, h2, h3, h4⟩ := notMasks x hx
  have m := fun (b : Nat) (hb : b < 256) => u8_andNot_nat x b hx hb
  rcases four h with rfl | rfl | rfl | rfl
  · exact (m 127 (by decide)).trans (by rw [h1]; rfl)
  · exact (m 31 (by decide)).trans (by rw [h2]; rfl)
  · exact (m 15 (by decide)).trans (by rw [h3]; rfl)
  · exact (m 7 (by decide)).trans (by rw [h4]; rfl)
theorem mask_is (l : List UInt8) (n : Nat) (h : n < 4) : ((((bU l 0) / modV n * modV n : Nat) : Int) != markV n) = !maskU l (n + 1) := by
  have hx := bU_lt l 0
  have key : ∀ (p : Prop) [Decidable p] (a b : Int), (a = b ↔ p) → (a != b) = !decide p := by
    intro p _ a b hp
    by_cases h : p
    · rw [decide_eq_true h, hp.2 h]; simp
    · rw [decide_eq_false h]; simp; exact fun e => h (hp.1 e)
  rcases four h with rfl | rfl | rfl | rfl
  · exact key (bU l 0 < 128) ((bU l 0 / 128 * 128 : Nat) : Int) 0 (by omega)
  · exact key (bU l 0 / 32 = 6) ((bU l 0 / 32 * 32 : Nat) : Int) 192 (by omega)
  · exact key (bU l 0 / 16 = 14) ((bU l 0 / 16 * 16 : Nat) : Int) 224 (by omega)
  · exact key (bU l 0 / 8 = 30) ((bU l 0 / 8 * 8 : Nat) : Int) 240 (by omega)
def progJ (l : List UInt8) (n : Nat) : Nat → Nat
  | 0 => bU l 0 % modV n
  | j + 1 => progJ l n j * 64 + bU l (j + 1) % 64
theorem progJ_all (l : List UInt8) (n : Nat) (h : n < 4) : progJ l n n = progU l (n + 1) := by
  rcases four h with rfl | rfl | rfl | rfl <;> rfl
theorem progJ_lt (l : List UInt8) (n : Nat) : ∀ j, progJ l n j < 128 * 65 ^ j
  | 0 => by
    unfold progJ
    have : modV n ≤ 128 ∧ 0 < modV n := by unfold modV; split <;> omega
    have := Nat.mod_lt (bU l 0) this.2
    omega
  | j + 1 => by
    unfold progJ
    have ih := progJ_lt l n j
    have : 0 < 65 ^ j := Nat.pow_pos (by decide)
    rw [Nat.pow_succ]
    omega
theorem progJ_lt3 (l : List UInt8) (n j : Nat) (h : j ≤ 3) : progJ l n j < 35152000 := by
  have h1 := progJ_lt l n j
  have h2 : 65 ^ j ≤ 65 ^ 3 := Nat.pow_le_pow_right (by omega) h
  omega
theorem fits_is (l : List UInt8) (n : Nat) (h : n < 4) (hl : n + 1 ≤ l.length) : (maskU l (n + 1) = true ∧ putU (progU l (n + 1)) = l.take (n + 1) ↔ fitsU l (n + 1) = true) ∧ (fitsU l (n + 1) = true → progU l (n + 1) = guessU l (n + 1)) := by
  rcases four h with rfl | rfl | rfl | rfl
  · exact prog_1 l hl
  · exact prog_2 l hl
  · exact prog_3 l hl
  · exact prog_4 l hl
theorem or_step (p y : Nat) (hp : p < 35152000) : bits .or .i64 ((p * 64 : Nat) : Int) ((y % 64 : Nat) : Int) = ((p * 64 + y % 64 : Nat) : Int) := by
  have h := bits_join .i64 62 (by decide) (fun n h0 h1 => by rw [IntKind.wrap_i64]; omega) 6 (x := ((p * 64 : Nat) : Int)) (y := ((y % 64 : Nat) : Int))
  first
  | exact (h (by omega) (by omega) (by omega) (by omega) (by omega) (by omega)).trans (by omega)
  | exact (h (by decide) (by omega) (by omega) (by omega) (by omega) (by omega)).trans (by omega)
theorem putRow (r : Nat) (w : World) : Calls Tryd.prog 43 #[.int .i64 (r : Int)] w fun e w' => ∃ v, e = .returned v ∧ Below w.heap.size w w' ∧ fRc (putU r) v w' := by
  refine (utfPut_calls r w).mono ?_
  rintro e w' ⟨v, R, rfl, hR, hM⟩
  obtain ⟨p, c, h1, h2, h3, _⟩ := hR.slice (bs := []) (by simpa using hM)
  rw [List.length_map] at h1 h3
  exact ⟨v, rfl, hM.below, p, c, h1, h3, h2⟩
theorem putU_len (r : Nat) : (putU r).length ≤ 4 := by
  unfold putU
  split
  · simp
  · split
    · simp
    · split
      · simp
      · split <;> simp
attribute [local irreducible] wpList Calls wpQuiet
set_option maxRecDepth 100000 in
set_option maxHeartbeats 8000000 in
theorem utfTake_calls (A : Option Addr) (c : Nat) (l : List UInt8) (hc : l.length ≤ c) (h63 : l.length ≤ 4611686018427387904) (w : World) (hr : Reads w A (l.map byV)) : Calls Tryd.prog 32 #[.slice A l.length c] w fun e w' => e = .returned (.tuple #[.int .i64 ((takeU l).1 : Int), .int .i64 ((takeU l).2 : Int)]) ∧ Below w.heap.size w w' := by
  have HO := Mine.start w
  have HR := Lib.hid hr
  have HC := Lib.hid (And.intro hc h63)
  clear hr
  go_enter Tryd.func32, Tryd.ntmps32
  go_wp2_with (go_at_call 41; refine (sizes_calls _).mono ?_; rintro eN wN ⟨rfl, hbN⟩; have HON := HO.call hbN; clear HO hbN; have HO := HON; clear HON)
  go_loopw [10] (fun i wr => ∃ n : Nat, n ≤ 4 ∧ i = .int .i64 n ∧ (∀ m, 1 ≤ m → m ≤ n → fitsU l m = false) ∧ Mine w wr []) (fun i _ => 4 - (intOf i).toNat)
  case atStart => exact ⟨0, by omega, rfl, fun m h1 h2 => by omega, HO⟩
  case round =>
    obtain ⟨n, hn, rfl, hno, HO2⟩ := hrel
    clear HO
    have HO := HO2
    clear HO2
    by_cases hn4 : n < 4
    · have d1 : decide ((n : Int) < 4) = true := decide_eq_true (by omega)
      have hix := index_size n hn4
      have hand := and_rest n hn4 (bU l 0) (bU_lt l 0)
      have hnot := not_rest n hn4 (bU l 0) (bU_lt l 0)
      have hmask := mask_is l n hn4
      obtain ⟨N, hN⟩ : ∃ N, n + 1 = N := ⟨_, rfl⟩
      obtain ⟨M, hM⟩ : ∃ M, mostV n = M := ⟨_, rfl⟩
      obtain ⟨K, hK⟩ : ∃ K, markV n = K := ⟨_, rfl⟩
      obtain ⟨R, hR⟩ : ∃ R, restV n = R := ⟨_, rfl⟩
      obtain ⟨V, hV⟩ : ∃ V, ((bU l 0 / modV n * modV n : Nat) : Int) = V := ⟨_, rfl⟩
      obtain ⟨x, hx⟩ : ∃ x, bU l 0 = x := ⟨_, rfl⟩
      rw [hN, hM, hK, hR] at hix
      rw [hV, hK, hN] at hmask
      rw [hV, hx, hR] at hnot
      rw [hx, hR] at hand
      have HIX := Lib.hid hix
      have HN4 := Lib.hid hn4
      have HN := Lib.hid hN
      have HNO := Lib.hid hno
      have hn5 : n ≤ 3 := by omega
      clear hix hM hK hR hV hn hno hn4 hN
      go_wp2_with (first
      | ((with_reducible refine gate ?_); (first
      | ((with_reducible refine gateAt (N := 12) rfl ?_); refine wp_index rfl rfl rfl rfl HIX.out ?_; (try simp only [Act.put, List.setIfInBounds_toArray, List.set_cons_zero, List.set_cons_succ]))
      | ((with_reducible refine gateAt (N := 5) rfl ?_); refine own_allocF (T := 68) HO rfl rfl Tryd.zeroValue68 rfl ?_; clear HO; intro g1 wN hgg1 HO; (try simp only [Act.put, List.setIfInBounds_toArray, List.set_cons_zero, List.set_cons_succ]))
      | ((refine own_load (T := 68) HO rfl rfl rfl (by first | exact .head _) Tryd.isAgg68 Tryd.sizeOf68 (by repeat constructor) ?_); (try simp only [Act.put, List.setIfInBounds_toArray, List.set_cons_zero, List.set_cons_succ]))
      | ((refine own_load1 (T := 3) HO rfl rfl rfl (by first | exact .head _) Tryd.isAgg3 rfl ?_); (try simp only [Act.put, List.setIfInBounds_toArray, List.set_cons_zero, List.set_cons_succ]))
      | ((refine own_load1 (T := 5) HO rfl rfl rfl (by first | exact .head _) Tryd.isAgg5 rfl ?_); (try simp only [Act.put, List.setIfInBounds_toArray, List.set_cons_zero, List.set_cons_succ]))
      | ((refine own_store1 (T := 3) HO rfl rfl rfl (by first | exact .const | exact .tmp rfl | exact .func) (by rfl) (by first | exact .here) Tryd.sizeOf3 (by repeat constructor) (by rfl) ?_); clear HO; intro wN HO; (try simp only [Act.put, List.setIfInBounds_toArray, List.set_cons_zero, List.set_cons_succ]))
      | ((refine own_store1 (T := 5) HO rfl rfl rfl (by first | exact .const | exact .tmp rfl | exact .func) (by rfl) (by first | exact .here) Tryd.sizeOf5 (by repeat constructor) (by rfl) ?_); clear HO; intro wN HO; (try simp only [Act.put, List.setIfInBounds_toArray, List.set_cons_zero, List.set_cons_succ]))
      | ((refine own_store (T := 68) HO rfl rfl rfl rfl (by first | exact .here) Tryd.sizeOf68 (by repeat constructor) rfl ?_); clear HO; intro wN HO; (try simp only [Act.put, List.setIfInBounds_toArray, List.set_cons_zero, List.set_cons_succ])))))
      by_cases hl : N ≤ l.length
      · obtain ⟨b0, o0, rfl⟩ : ∃ b0 o0, A = some ⟨b0, o0, none⟩ := by
          have := HN.out
          obtain ⟨b0, o0, he, _⟩ := HR.out 0 (byV (l[0]'(by omega))) (by rw [List.getElem?_map, List.getElem?_eq_getElem (by omega)]; rfl)
          exact ⟨_, _, he⟩
        have hcell : ∀ i, i < l.length → w.cell? ⟨b0, o0 + i, none⟩ = some (.int .u8 (bU l i : Int)) := fun i hi => by
          obtain ⟨b1, o1, he, hc1⟩ := HR.out.byte hi
          cases he
          exact hc1
        have HC0 : Hid (w.cell? ⟨b0, o0, none⟩ = some (.int .u8 (x : Int))) := Lib.hid (by have := HN.out; have := hcell 0 (by omega); rw [hx] at this; exact this)
        have HCE := Lib.hid hcell
        have d2 : decide ((l.length : Int) < (N : Int)) = false := decide_eq_false (by omega)
        have d3 : decide (l.length < N) = false := decide_eq_false (by omega)
        have HL := Lib.hid hl
        have HX := Lib.hid hx
        have dl : decide ((0 : Int) < (l.length : Int)) = true := decide_eq_true (by have := HN.out; omega)
        have dl2 : decide (0 < l.length) = true := decide_eq_true (by have := HN.out; omega)
        have hne : ¬ l = [] := fun e => by rw [e] at dl2; simp at dl2
        clear hcell hl hx hc h63
        cases hmk : maskU l N with
        | false =>
          rw [hmk] at hmask
          have hno2 : ∀ m, 1 ≤ m → m ≤ n + 1 → fitsU l m = false := fun m h1 h2 => by
            by_cases hm : m ≤ n
            · exact HNO.out m h1 hm
            · obtain rfl : m = N := by have := HN.out; omega
              have h3 := (fits_is l n HN4.out (by rw [HN.out]; exact HL.out)).1
              rw [HN.out, hmk] at h3
              cases hf : fitsU l m
              · rfl
              · rw [hf] at h3; exact absurd (h3.2 rfl).1 (by decide)
          have HN2 := Lib.hid hno2
          clear hno2 hmk
          simp only [Bool.not_false] at hmask
          refine region_law 16 [fIs (.slice (some ⟨b0, o0, none⟩) l.length c), fIs (.int .i64 (l.length : Int)), fIs (.pointer (some ⟨g1, 0, none⟩)), fIs (.int .i64 (N : Int)), fIs (.bool false), fIs (.bool false), fIs (.slice (some ⟨b0, o0, none⟩) l.length c), fIs (.pointer (some ⟨b0, o0, none⟩)), fIs (.int .u8 (x : Int)), fIs (.pointer (some ⟨g1, 3, none⟩)), fIs (.int .u8 R), fIs (.int .u8 V), fIs (.pointer (some ⟨g1, 2, none⟩)), fIs (.int .u8 K), fIs (.bool true), fIs (.bool true)] HO (by kernel_rfl) (by kernel_rfl) (by decide) (by kernel_rfl)
            (stays_cons (Stays.fIs _) (stays_cons (Stays.fIs _) (stays_cons (Stays.fIs _) (stays_cons (Stays.fIs _) (stays_cons (Stays.fIs _) (stays_cons (Stays.fIs _) (stays_cons (Stays.fIs _) (stays_cons (Stays.fIs _) (stays_cons (Stays.fIs _) (stays_cons (Stays.fIs _) (stays_cons (Stays.fIs _) (stays_cons (Stays.fIs _) (stays_cons (Stays.fIs _) (stays_cons (Stays.fIs _) (stays_cons (Stays.fIs _) (stays_cons (Stays.fIs _) stays_nil)))))))))))))))) ?_
          intro vals A hA
          simp [fillL, dstOf, List.range, List.range.loop, Act.put] at hA
          subst hA
          refine ⟨⟨?_, ?_, ?_, ?_, ?_, ?_, ?_, ?_, ?_, ?_, ?_, ?_, ?_, ?_, ?_, ?_, trivial⟩, ?_⟩
          all_goals intro W hd hM hb0
          case refine_1 =>
            skip
            exact st_val rfl (by simp only [execOp]; first | (go_simp; done) | (go_simp; rfl)) rfl
          case refine_2 =>
            have v0 : vals 0 = .slice (some ⟨b0, o0, none⟩) l.length c := hd 0 (by kernel_rfl)
            rw [v0]
            exact st_val rfl (by simp only [execOp]; first | (go_simp; done) | (go_simp; rfl)) rfl
          case refine_3 =>
            skip
            exact st_val rfl (by simp only [execOp]; first | (go_simp; done) | (go_simp; rfl)) rfl
          case refine_4 =>
            have v2 : vals 2 = .pointer (some ⟨g1, 0, none⟩) := hd 2 (by kernel_rfl)
            rw [v2]
            exact st_load1 hM rfl rfl rfl (.head _) Tryd.isAgg3 rfl rfl
          case refine_5 =>
            have v1 : vals 1 = .int .i64 (l.length : Int) := hd 1 (by kernel_rfl)
            have v3 : vals 3 = .int .i64 (N : Int) := hd 3 (by kernel_rfl)
            rw [v1, v3]
            exact st_val rfl (by simp only [execOp]; first | (go_simp; done) | (go_simp; rfl)) rfl
          case refine_6 =>
            have v4 : vals 4 = .bool false := hd 4 (by kernel_rfl)
            rw [v4]
            exact st_val rfl (by simp only [execOp]; first | (go_simp; done) | (go_simp; rfl)) rfl
          case refine_7 =>
            have v5 : vals 5 = .bool false := hd 5 (by kernel_rfl)
            rw [v5]
            exact st_val rfl (by simp only [execOp]; first | (go_simp; done) | (go_simp; rfl)) rfl
          case refine_8 =>
            have v5 : vals 5 = .bool false := hd 5 (by kernel_rfl)
            have v6 : vals 6 = .slice (some ⟨b0, o0, none⟩) l.length c := hd 6 (by kernel_rfl)
            rw [v5, v6]
            exact st_val rfl (by simp only [execOp]; first | (go_simp; done) | (go_simp; rfl)) rfl
          case refine_9 =>
            have v5 : vals 5 = .bool false := hd 5 (by kernel_rfl)
            have v7 : vals 7 = .pointer (some ⟨b0, o0, none⟩) := hd 7 (by kernel_rfl)
            rw [v5, v7]
            have hcb := HC0.out
            exact st_read hM rfl rfl rfl hcb Tryd.isAgg5 rfl
          case refine_10 =>
            have v5 : vals 5 = .bool false := hd 5 (by kernel_rfl)
            rw [v5]
            exact st_val rfl (by simp only [execOp]; first | (go_simp; done) | (go_simp; rfl)) rfl
          case refine_11 =>
            have v5 : vals 5 = .bool false := hd 5 (by kernel_rfl)
            have v9 : vals 9 = .pointer (some ⟨g1, 3, none⟩) := hd 9 (by kernel_rfl)
            rw [v5, v9]
            exact st_load1 hM rfl rfl rfl (.head _) Tryd.isAgg5 rfl rfl
          case refine_12 =>
            have v5 : vals 5 = .bool false := hd 5 (by kernel_rfl)
            have v8 : vals 8 = .int .u8 (x : Int) := hd 8 (by kernel_rfl)
            have v10 : vals 10 = .int .u8 R := hd 10 (by kernel_rfl)
            rw [v5, v8, v10]
            exact st_val rfl (by simp only [execOp]; first | (go_simp; done) | (go_simp; rfl)) rfl
          case refine_13 =>
            have v5 : vals 5 = .bool false := hd 5 (by kernel_rfl)
            rw [v5]
            exact st_val rfl (by simp only [execOp]; first | (go_simp; done) | (go_simp; rfl)) rfl
          case refine_14 =>
            have v5 : vals 5 = .bool false := hd 5 (by kernel_rfl)
            have v12 : vals 12 = .pointer (some ⟨g1, 2, none⟩) := hd 12 (by kernel_rfl)
            rw [v5, v12]
            exact st_load1 hM rfl rfl rfl (.head _) Tryd.isAgg5 rfl rfl
          case refine_15 =>
            have v5 : vals 5 = .bool false := hd 5 (by kernel_rfl)
            have v11 : vals 11 = .int .u8 V := hd 11 (by kernel_rfl)
            have v13 : vals 13 = .int .u8 K := hd 13 (by kernel_rfl)
            rw [v5, v11, v13]
            exact st_val rfl (by simp only [execOp]; first | (go_simp; done) | (go_simp; rfl)) rfl
          case refine_16 =>
            have v5 : vals 5 = .bool false := hd 5 (by kernel_rfl)
            have v14 : vals 14 = .bool true := hd 14 (by kernel_rfl)
            rw [v5, v14]
            exact st_val rfl (by simp only [execOp]; first | (go_simp; done) | (go_simp; rfl)) rfl
          case refine_17 =>
            have v15 : vals 15 = .bool true := hd 15 (by omega)
            rw [v15]
            simp only [List.drop_succ_cons, List.drop_zero]
            have HO := hM
            clear hM hd hb0
            go_wp2
            go_roundw
            case rel => exact ⟨n + 1, by have := HN4.out; omega, by go_num, HN2.out, HO.less (List.nil_sublist _)⟩
            case measure => have := HN4.out; simp [intOf]; try omega
        | true =>
          rw [hmk] at hmask
          have HMK := Lib.hid hmk
          clear hmk
          simp only [Bool.not_true] at hmask
          refine region_law 16 [fIs (.slice (some ⟨b0, o0, none⟩) l.length c), fIs (.int .i64 (l.length : Int)), fIs (.pointer (some ⟨g1, 0, none⟩)), fIs (.int .i64 (N : Int)), fIs (.bool false), fIs (.bool false), fIs (.slice (some ⟨b0, o0, none⟩) l.length c), fIs (.pointer (some ⟨b0, o0, none⟩)), fIs (.int .u8 (x : Int)), fIs (.pointer (some ⟨g1, 3, none⟩)), fIs (.int .u8 R), fIs (.int .u8 V), fIs (.pointer (some ⟨g1, 2, none⟩)), fIs (.int .u8 K), fIs (.bool false), fIs (.bool false)] HO (by kernel_rfl) (by kernel_rfl) (by decide) (by kernel_rfl)
            (stays_cons (Stays.fIs _) (stays_cons (Stays.fIs _) (stays_cons (Stays.fIs _) (stays_cons (Stays.fIs _) (stays_cons (Stays.fIs _) (stays_cons (Stays.fIs _) (stays_cons (Stays.fIs _) (stays_cons (Stays.fIs _) (stays_cons (Stays.fIs _) (stays_cons (Stays.fIs _) (stays_cons (Stays.fIs _) (stays_cons (Stays.fIs _) (stays_cons (Stays.fIs _) (stays_cons (Stays.fIs _) (stays_cons (Stays.fIs _) (stays_cons (Stays.fIs _) stays_nil)))))))))))))))) ?_
          intro vals A hA
          simp [fillL, dstOf, List.range, List.range.loop, Act.put] at hA
          subst hA
          refine ⟨⟨?_, ?_, ?_, ?_, ?_, ?_, ?_, ?_, ?_, ?_, ?_, ?_, ?_, ?_, ?_, ?_, trivial⟩, ?_⟩
          all_goals intro W hd hM hb0
          case refine_1 =>
            skip
            exact st_val rfl (by simp only [execOp]; first | (go_simp; done) | (go_simp; rfl)) rfl
          case refine_2 =>
            have v0 : vals 0 = .slice (some ⟨b0, o0, none⟩) l.length c := hd 0 (by kernel_rfl)
            rw [v0]
            exact st_val rfl (by simp only [execOp]; first | (go_simp; done) | (go_simp; rfl)) rfl
          case refine_3 =>
            skip
            exact st_val rfl (by simp only [execOp]; first | (go_simp; done) | (go_simp; rfl)) rfl
          case refine_4 =>
            have v2 : vals 2 = .pointer (some ⟨g1, 0, none⟩) := hd 2 (by kernel_rfl)
            rw [v2]
            exact st_load1 hM rfl rfl rfl (.head _) Tryd.isAgg3 rfl rfl
          case refine_5 =>
            have v1 : vals 1 = .int .i64 (l.length : Int) := hd 1 (by kernel_rfl)
            have v3 : vals 3 = .int .i64 (N : Int) := hd 3 (by kernel_rfl)
            rw [v1, v3]
            exact st_val rfl (by simp only [execOp]; first | (go_simp; done) | (go_simp; rfl)) rfl
          case refine_6 =>
            have v4 : vals 4 = .bool false := hd 4 (by kernel_rfl)
            rw [v4]
            exact st_val rfl (by simp only [execOp]; first | (go_simp; done) | (go_simp; rfl)) rfl
          case refine_7 =>
            have v5 : vals 5 = .bool false := hd 5 (by kernel_rfl)
            rw [v5]
            exact st_val rfl (by simp only [execOp]; first | (go_simp; done) | (go_simp; rfl)) rfl
          case refine_8 =>
            have v5 : vals 5 = .bool false := hd 5 (by kernel_rfl)
            have v6 : vals 6 = .slice (some ⟨b0, o0, none⟩) l.length c := hd 6 (by kernel_rfl)
            rw [v5, v6]
            exact st_val rfl (by simp only [execOp]; first | (go_simp; done) | (go_simp; rfl)) rfl
          case refine_9 =>
            have v5 : vals 5 = .bool false := hd 5 (by kernel_rfl)
            have v7 : vals 7 = .pointer (some ⟨b0, o0, none⟩) := hd 7 (by kernel_rfl)
            rw [v5, v7]
            have hcb := HC0.out
            exact st_read hM rfl rfl rfl hcb Tryd.isAgg5 rfl
          case refine_10 =>
            have v5 : vals 5 = .bool false := hd 5 (by kernel_rfl)
            rw [v5]
            exact st_val rfl (by simp only [execOp]; first | (go_simp; done) | (go_simp; rfl)) rfl
          case refine_11 =>
            have v5 : vals 5 = .bool false := hd 5 (by kernel_rfl)
            have v9 : vals 9 = .pointer (some ⟨g1, 3, none⟩) := hd 9 (by kernel_rfl)
            rw [v5, v9]
            exact st_load1 hM rfl rfl rfl (.head _) Tryd.isAgg5 rfl rfl
          case refine_12 =>
            have v5 : vals 5 = .bool false := hd 5 (by kernel_rfl)
            have v8 : vals 8 = .int .u8 (x : Int) := hd 8 (by kernel_rfl)
            have v10 : vals 10 = .int .u8 R := hd 10 (by kernel_rfl)
            rw [v5, v8, v10]
            exact st_val rfl (by simp only [execOp]; first | (go_simp; done) | (go_simp; rfl)) rfl
          case refine_13 =>
            have v5 : vals 5 = .bool false := hd 5 (by kernel_rfl)
            rw [v5]
            exact st_val rfl (by simp only [execOp]; first | (go_simp; done) | (go_simp; rfl)) rfl
          case refine_14 =>
            have v5 : vals 5 = .bool false := hd 5 (by kernel_rfl)
            have v12 : vals 12 = .pointer (some ⟨g1, 2, none⟩) := hd 12 (by kernel_rfl)
            rw [v5, v12]
            exact st_load1 hM rfl rfl rfl (.head _) Tryd.isAgg5 rfl rfl
          case refine_15 =>
            have v5 : vals 5 = .bool false := hd 5 (by kernel_rfl)
            have v11 : vals 11 = .int .u8 V := hd 11 (by kernel_rfl)
            have v13 : vals 13 = .int .u8 K := hd 13 (by kernel_rfl)
            rw [v5, v11, v13]
            exact st_val rfl (by simp only [execOp]; first | (go_simp; done) | (go_simp; rfl)) rfl
          case refine_16 =>
            have v5 : vals 5 = .bool false := hd 5 (by kernel_rfl)
            have v14 : vals 14 = .bool false := hd 14 (by kernel_rfl)
            rw [v5, v14]
            exact st_val rfl (by simp only [execOp]; first | (go_simp; done) | (go_simp; rfl)) rfl
          case refine_17 =>
            have v15 : vals 15 = .bool false := hd 15 (by omega)
            rw [v15]
            simp only [List.drop_succ_cons, List.drop_zero]
            have HO := hM
            clear hM hd hb0
            go_wp2
            skip
            obtain ⟨p0, hp0⟩ : ∃ p0, x % modV n = p0 := ⟨_, rfl⟩
            rw [hp0] at hand
            have hp256 : p0 < 256 := by have := bU_lt l 0; have := HX.out; have := Nat.mod_le x (modV n); omega
            have hw0 : IntKind.i64.wrap (p0 : Int) = (p0 : Int) := IntWalk.i64_in _ (by omega)
            have HCN : Hid (N ≤ c) := Lib.hid (by have := HC.out; have := HL.out; omega)
            have d4 : decide ((1 : Int) ≤ (N : Int)) = true := decide_eq_true (by have := HN.out; omega)
            have d5 : 1 ≤ N := by have := HN.out; omega
            have d6 : decide ((N : Int) ≤ (c : Int)) = true := decide_eq_true (by have := HC.out; have := HL.out; omega)
            have d7 : N ≤ c := HCN.out
            have d8 : ¬ c < N := by omega
            have d9 : decide (N ≤ c) = true := decide_eq_true d7
            have HP0 : Hid (progJ l n 0 = p0) := Lib.hid (by unfold progJ; rw [HX.out, hp0])
            have HPA : Hid (progJ l n n = progU l (n + 1)) := Lib.hid (progJ_all l n HN4.out)
            have hlt : (l.take N).length = N := by rw [List.length_take]; have := HL.out; omega
            have HLT := Lib.hid hlt
            have hfi := fits_is l n HN4.out (by rw [HN.out]; exact HL.out)
            rw [HN.out] at hfi
            have hnx : decide (putU (progU l (n + 1)) = l.take N) = false → ∀ m, 1 ≤ m → m ≤ n + 1 → fitsU l m = false := fun hb m h1 h2 => by
              by_cases hm : m ≤ n
              · exact HNO.out m h1 hm
              · obtain rfl : m = N := by have := HN.out; omega
                cases hf : fitsU l m
                · rfl
                · have := (hfi.1.2 hf).2
                  rw [← HN.out] at this hb
                  rw [this] at hb
                  simp at hb
            have hyes : decide (putU (progU l (n + 1)) = l.take N) = true → takeU l = (progU l (n + 1), N) := fun hb => by
              have hf := hfi.1.1 ⟨HMK.out, by rw [← HN.out] at hb ⊢; simpa using hb⟩
              have := takeU_of (l := l) (n := N) (by have := HN.out; omega) (by have := HN.out; have := HN4.out; omega) hf (fun m h1 h2 => HNO.out m h1 (by have := HN.out; omega))
              rw [this, ← hfi.2 hf, ← HN.out]
            clear hp0 hmask hfi hlt
            refine region_law 7 [fIs (.slice (some ⟨b0, o0, none⟩) l.length c), fIs (.pointer (some ⟨b0, o0, none⟩)), fIs (.int .u8 (x : Int)), fIs (.pointer (some ⟨g1, 3, none⟩)), fIs (.int .u8 R), fIs (.int .u8 (p0 : Int)), fIs (.int .i64 (p0 : Int))] HO (by kernel_rfl) (by kernel_rfl) (by decide) (by kernel_rfl)
              (stays_cons (Stays.fIs _) (stays_cons (Stays.fIs _) (stays_cons (Stays.fIs _) (stays_cons (Stays.fIs _) (stays_cons (Stays.fIs _) (stays_cons (Stays.fIs _) (stays_cons (Stays.fIs _) stays_nil))))))) ?_
            intro vals A hA
            simp [fillL, dstOf, List.range, List.range.loop, Act.put] at hA
            subst hA
            refine ⟨⟨?_, ?_, ?_, ?_, ?_, ?_, ?_, trivial⟩, ?_⟩
            all_goals intro W hd hM hb0
            case refine_1 =>
              skip
              exact st_val rfl (by simp only [execOp]; first | (go_simp; done) | (go_simp; rfl)) rfl
            case refine_2 =>
              have v0 : vals 0 = .slice (some ⟨b0, o0, none⟩) l.length c := hd 0 (by kernel_rfl)
              rw [v0]
              exact st_val rfl (by simp only [execOp]; first | (go_simp; done) | (go_simp; rfl)) rfl
            case refine_3 =>
              have v1 : vals 1 = .pointer (some ⟨b0, o0, none⟩) := hd 1 (by kernel_rfl)
              rw [v1]
              have hcb := HC0.out
              exact st_read hM rfl rfl rfl hcb Tryd.isAgg5 rfl
            case refine_4 =>
              skip
              exact st_val rfl (by simp only [execOp]; first | (go_simp; done) | (go_simp; rfl)) rfl
            case refine_5 =>
              have v3 : vals 3 = .pointer (some ⟨g1, 3, none⟩) := hd 3 (by kernel_rfl)
              rw [v3]
              exact st_load1 hM rfl rfl rfl (.head _) Tryd.isAgg5 rfl rfl
            case refine_6 =>
              have v2 : vals 2 = .int .u8 (x : Int) := hd 2 (by kernel_rfl)
              have v4 : vals 4 = .int .u8 R := hd 4 (by kernel_rfl)
              rw [v2, v4]
              exact st_val rfl (by simp only [execOp]; first | (go_simp; done) | (go_simp; rfl)) rfl
            case refine_7 =>
              have v5 : vals 5 = .int .u8 (p0 : Int) := hd 5 (by kernel_rfl)
              rw [v5]
              exact st_val rfl (by simp only [execOp]; first | (go_simp; done) | (go_simp; rfl)) rfl
            case refine_8 =>
              have v6 : vals 6 = .int .i64 (p0 : Int) := hd 6 (by omega)
              rw [v6]
              simp only [List.drop_succ_cons, List.drop_zero]
              have HO := hM
              clear hM hd hb0
              by_cases hc1 : c = 1
              · have hN1 : N - 1 = 0 := by have := HCN.out; omega
                have hn0 : n = 0 := by have := HN.out; omega
                have hN0 : N = 1 := by have := HN.out; omega
                subst hn0
                subst hN0
                subst hc1
                rw [← HPA.out, HP0.out] at hyes hnx
                have HYES := Lib.hid hyes
                have HNX := Lib.hid hnx
                clear hyes hnx
                go_wp2_with (first
                | ((with_reducible refine gate ?_); (first
                | ((refine own_load (T := 68) HO rfl rfl rfl (by first | exact .head _) Tryd.isAgg68 Tryd.sizeOf68 (by repeat constructor) ?_); (try simp only [Act.put, List.setIfInBounds_toArray, List.set_cons_zero, List.set_cons_succ]))
                | ((refine own_load1 (T := 3) HO rfl rfl rfl (by first | exact .head _) Tryd.isAgg3 rfl ?_); (try simp only [Act.put, List.setIfInBounds_toArray, List.set_cons_zero, List.set_cons_succ]))
                | ((refine own_load1 (T := 5) HO rfl rfl rfl (by first | exact .head _) Tryd.isAgg5 rfl ?_); (try simp only [Act.put, List.setIfInBounds_toArray, List.set_cons_zero, List.set_cons_succ]))
                | ((refine own_store1 (T := 3) HO rfl rfl rfl (by first | exact .const | exact .tmp rfl | exact .func) (by rfl) (by first | exact .here) Tryd.sizeOf3 (by repeat constructor) (by rfl) ?_); clear HO; intro wN HO; (try simp only [Act.put, List.setIfInBounds_toArray, List.set_cons_zero, List.set_cons_succ]))
                | ((refine own_store1 (T := 5) HO rfl rfl rfl (by first | exact .const | exact .tmp rfl | exact .func) (by rfl) (by first | exact .here) Tryd.sizeOf5 (by repeat constructor) (by rfl) ?_); clear HO; intro wN HO; (try simp only [Act.put, List.setIfInBounds_toArray, List.set_cons_zero, List.set_cons_succ]))
                | ((refine own_store (T := 68) HO rfl rfl rfl rfl (by first | exact .here) Tryd.sizeOf68 (by repeat constructor) rfl ?_); clear HO; intro wN HO; (try simp only [Act.put, List.setIfInBounds_toArray, List.set_cons_zero, List.set_cons_succ])))))
                refine wp_loop_rounds 2 ?_
                rw [rounds_succ]
                go_wp2
                obtain ⟨d, hb⟩ : ∃ d, decide (putU p0 = l.take 1) = d := ⟨_, rfl⟩
                have HB := Lib.hid hb
                clear hb
                cases d
                · refine region_law 7 [fIs (.int .i64 (p0 : Int)), fRc (putU p0), fIs (.slice (some ⟨b0, o0, none⟩) l.length 1), fIs (.pointer (some ⟨g1, 0, none⟩)), fIs (.int .i64 (1 : Int)), fIs (.slice (some ⟨b0, o0, none⟩) 1 1), fIs (.bool false)] HO (by kernel_rfl) (by kernel_rfl) (by decide) (by kernel_rfl)
                    (stays_cons (Stays.fIs _) (stays_cons (Stays.fRc _) (stays_cons (Stays.fIs _) (stays_cons (Stays.fIs _) (stays_cons (Stays.fIs _) (stays_cons (Stays.fIs _) (stays_cons (Stays.fIs _) stays_nil))))))) ?_
                  intro vals A hA
                  simp [fillL, dstOf, List.range, List.range.loop, Act.put] at hA
                  subst hA
                  refine ⟨⟨?_, ?_, ?_, ?_, ?_, ?_, ?_, trivial⟩, ?_⟩
                  all_goals intro W hd hM hb0
                  case refine_1 =>
                    skip
                    exact st_val rfl (by simp only [execOp]; first | (go_simp; done) | (go_simp; rfl)) rfl
                  case refine_2 =>
                    have v0 : vals 0 = .int .i64 (p0 : Int) := hd 0 (by kernel_rfl)
                    rw [v0]
                    exact st_call rfl (by simp only [execOp]; first | (go_simp; done) | (go_simp; rfl)) (putRow p0 W) (by rintro e w' ⟨v, rfl, hb, hf⟩; exact ⟨_, rfl, hb, hf⟩)
                  case refine_3 =>
                    skip
                    exact st_val rfl (by simp only [execOp]; first | (go_simp; done) | (go_simp; rfl)) rfl
                  case refine_4 =>
                    skip
                    exact st_val rfl (by simp only [execOp]; first | (go_simp; done) | (go_simp; rfl)) rfl
                  case refine_5 =>
                    have v3 : vals 3 = .pointer (some ⟨g1, 0, none⟩) := hd 3 (by kernel_rfl)
                    rw [v3]
                    exact st_load1 hM rfl rfl rfl (.head _) Tryd.isAgg3 rfl rfl
                  case refine_6 =>
                    have v2 : vals 2 = .slice (some ⟨b0, o0, none⟩) l.length 1 := hd 2 (by kernel_rfl)
                    have v4 : vals 4 = .int .i64 (1 : Int) := hd 4 (by kernel_rfl)
                    rw [v2, v4]
                    exact st_val rfl (by simp only [execOp]; first | (go_simp; done) | (go_simp; rfl)) rfl
                  case refine_7 =>
                    have v5 : vals 5 = .slice (some ⟨b0, o0, none⟩) 1 1 := hd 5 (by kernel_rfl)
                    rw [v5]
                    obtain ⟨pA, cA, eA, hcA, hrA⟩ : fRc (putU p0) (vals 1) W := hd 1 (by kernel_rfl)
                    rw [eA]
                    have hq := slEq_calls pA (some ⟨b0, o0, none⟩) (putU p0) (l.take 1) cA 1 hcA (by rw [HLT.out]; exact HCN.out) (by have := putU_len p0; omega) (by rw [HLT.out]; have := HC.out; have := HL.out; omega) W hrA (rdTake (HR.out.below hM.below) 1)
                    rw [HLT.out, HB.out] at hq
                    exact st_call rfl (by simp only [execOp]; first | (go_simp; done) | (go_simp; rfl)) hq (by rintro e w' ⟨rfl, hb⟩; exact ⟨_, rfl, hb, rfl⟩)
                  case refine_8 =>
                    have v6 : vals 6 = .bool false := hd 6 (by omega)
                    rw [v6]
                    simp only [List.drop_succ_cons, List.drop_zero]
                    have HO := hM
                    clear hM hd hb0
                    go_wp2
                    go_roundw
                    case rel => exact ⟨0 + 1, by have := HN4.out; omega, by go_num, HNX.out HB.out, HO.less (List.nil_sublist _)⟩
                    case measure => have := HN4.out; simp [intOf]; try omega
                · refine region_law 7 [fIs (.int .i64 (p0 : Int)), fRc (putU p0), fIs (.slice (some ⟨b0, o0, none⟩) l.length 1), fIs (.pointer (some ⟨g1, 0, none⟩)), fIs (.int .i64 (1 : Int)), fIs (.slice (some ⟨b0, o0, none⟩) 1 1), fIs (.bool true)] HO (by kernel_rfl) (by kernel_rfl) (by decide) (by kernel_rfl)
                    (stays_cons (Stays.fIs _) (stays_cons (Stays.fRc _) (stays_cons (Stays.fIs _) (stays_cons (Stays.fIs _) (stays_cons (Stays.fIs _) (stays_cons (Stays.fIs _) (stays_cons (Stays.fIs _) stays_nil))))))) ?_
                  intro vals A hA
                  simp [fillL, dstOf, List.range, List.range.loop, Act.put] at hA
                  subst hA
                  refine ⟨⟨?_, ?_, ?_, ?_, ?_, ?_, ?_, trivial⟩, ?_⟩
                  all_goals intro W hd hM hb0
                  case refine_1 =>
                    skip
                    exact st_val rfl (by simp only [execOp]; first | (go_simp; done) | (go_simp; rfl)) rfl
                  case refine_2 =>
                    have v0 : vals 0 = .int .i64 (p0 : Int) := hd 0 (by kernel_rfl)
                    rw [v0]
                    exact st_call rfl (by simp only [execOp]; first | (go_simp; done) | (go_simp; rfl)) (putRow p0 W) (by rintro e w' ⟨v, rfl, hb, hf⟩; exact ⟨_, rfl, hb, hf⟩)
                  case refine_3 =>
                    skip
                    exact st_val rfl (by simp only [execOp]; first | (go_simp; done) | (go_simp; rfl)) rfl
                  case refine_4 =>
                    skip
                    exact st_val rfl (by simp only [execOp]; first | (go_simp; done) | (go_simp; rfl)) rfl
                  case refine_5 =>
                    have v3 : vals 3 = .pointer (some ⟨g1, 0, none⟩) := hd 3 (by kernel_rfl)
                    rw [v3]
                    exact st_load1 hM rfl rfl rfl (.head _) Tryd.isAgg3 rfl rfl
                  case refine_6 =>
                    have v2 : vals 2 = .slice (some ⟨b0, o0, none⟩) l.length 1 := hd 2 (by kernel_rfl)
                    have v4 : vals 4 = .int .i64 (1 : Int) := hd 4 (by kernel_rfl)
                    rw [v2, v4]
                    exact st_val rfl (by simp only [execOp]; first | (go_simp; done) | (go_simp; rfl)) rfl
                  case refine_7 =>
                    have v5 : vals 5 = .slice (some ⟨b0, o0, none⟩) 1 1 := hd 5 (by kernel_rfl)
                    rw [v5]
                    obtain ⟨pA, cA, eA, hcA, hrA⟩ : fRc (putU p0) (vals 1) W := hd 1 (by kernel_rfl)
                    rw [eA]
                    have hq := slEq_calls pA (some ⟨b0, o0, none⟩) (putU p0) (l.take 1) cA 1 hcA (by rw [HLT.out]; exact HCN.out) (by have := putU_len p0; omega) (by rw [HLT.out]; have := HC.out; have := HL.out; omega) W hrA (rdTake (HR.out.below hM.below) 1)
                    rw [HLT.out, HB.out] at hq
                    exact st_call rfl (by simp only [execOp]; first | (go_simp; done) | (go_simp; rfl)) hq (by rintro e w' ⟨rfl, hb⟩; exact ⟨_, rfl, hb, rfl⟩)
                  case refine_8 =>
                    have v6 : vals 6 = .bool true := hd 6 (by omega)
                    rw [v6]
                    simp only [List.drop_succ_cons, List.drop_zero]
                    have HO := hM
                    clear hM hd hb0
                    go_wp2
                    refine region_law 5 [fIs (.int .i64 (p0 : Int)), fIs (.pointer (some ⟨g1, 0, none⟩)), fIs (.int .i64 (1 : Int)), fIs (.int .i64 (p0 : Int)), fIs (.int .i64 (1 : Int))] HO (by kernel_rfl) (by kernel_rfl) (by decide) (by kernel_rfl)
                      (stays_cons (Stays.fIs _) (stays_cons (Stays.fIs _) (stays_cons (Stays.fIs _) (stays_cons (Stays.fIs _) (stays_cons (Stays.fIs _) stays_nil))))) ?_
                    intro vals A hA
                    simp [fillL, dstOf, List.range, List.range.loop, Act.put] at hA
                    subst hA
                    refine ⟨⟨?_, ?_, ?_, ?_, ?_, trivial⟩, ?_⟩
                    all_goals intro W hd hM hb0
                    case refine_1 =>
                      skip
                      exact st_val rfl (by simp only [execOp]; first | (go_simp; done) | (go_simp; rfl)) rfl
                    case refine_2 =>
                      skip
                      exact st_val rfl (by simp only [execOp]; first | (go_simp; done) | (go_simp; rfl)) rfl
                    case refine_3 =>
                      have v1 : vals 1 = .pointer (some ⟨g1, 0, none⟩) := hd 1 (by kernel_rfl)
                      rw [v1]
                      exact st_load1 hM rfl rfl rfl (.head _) Tryd.isAgg3 rfl rfl
                    case refine_4 =>
                      have v0 : vals 0 = .int .i64 (p0 : Int) := hd 0 (by kernel_rfl)
                      rw [v0]
                      exact st_val rfl (by simp only [execOp]; first | (go_simp; done) | (go_simp; rfl)) rfl
                    case refine_5 =>
                      have v2 : vals 2 = .int .i64 (1 : Int) := hd 2 (by kernel_rfl)
                      rw [v2]
                      exact st_val rfl (by simp only [execOp]; first | (go_simp; done) | (go_simp; rfl)) rfl
                    case refine_6 =>
                      have v3 : vals 3 = .int .i64 (p0 : Int) := hd 3 (by omega)
                      have v4 : vals 4 = .int .i64 (1 : Int) := hd 4 (by omega)
                      rw [v3, v4]
                      simp only [List.drop_succ_cons, List.drop_zero]
                      go_wp2
                      refine bodyPost_ret (results_tmp2 rfl _ _ _) rfl ?_
                      exact ⟨by rw [HYES.out HB.out]; rfl, hM.below⟩
              · have hN1 : N - 1 = n := by have := HN.out; omega
                go_wp2_with (first
                | ((with_reducible refine gate ?_); (first
                | ((refine own_load (T := 68) HO rfl rfl rfl (by first | exact .head _) Tryd.isAgg68 Tryd.sizeOf68 (by repeat constructor) ?_); (try simp only [Act.put, List.setIfInBounds_toArray, List.set_cons_zero, List.set_cons_succ]))
                | ((refine own_load1 (T := 3) HO rfl rfl rfl (by first | exact .head _) Tryd.isAgg3 rfl ?_); (try simp only [Act.put, List.setIfInBounds_toArray, List.set_cons_zero, List.set_cons_succ]))
                | ((refine own_load1 (T := 5) HO rfl rfl rfl (by first | exact .head _) Tryd.isAgg5 rfl ?_); (try simp only [Act.put, List.setIfInBounds_toArray, List.set_cons_zero, List.set_cons_succ]))
                | ((refine own_store1 (T := 3) HO rfl rfl rfl (by first | exact .const | exact .tmp rfl | exact .func) (by rfl) (by first | exact .here) Tryd.sizeOf3 (by repeat constructor) (by rfl) ?_); clear HO; intro wN HO; (try simp only [Act.put, List.setIfInBounds_toArray, List.set_cons_zero, List.set_cons_succ]))
                | ((refine own_store1 (T := 5) HO rfl rfl rfl (by first | exact .const | exact .tmp rfl | exact .func) (by rfl) (by first | exact .here) Tryd.sizeOf5 (by repeat constructor) (by rfl) ?_); clear HO; intro wN HO; (try simp only [Act.put, List.setIfInBounds_toArray, List.set_cons_zero, List.set_cons_succ]))
                | ((refine own_store (T := 68) HO rfl rfl rfl rfl (by first | exact .here) Tryd.sizeOf68 (by repeat constructor) rfl ?_); clear HO; intro wN HO; (try simp only [Act.put, List.setIfInBounds_toArray, List.set_cons_zero, List.set_cons_succ])))))
                go_loopw [6, 41] (fun a i wr => ∃ j : Nat, j ≤ n ∧ a = .int .i64 (progJ l n j : Int) ∧ i = .int .i64 j ∧ Mine w wr [(g1, IsCells [.int .i64 (N : Int), .int .i64 M, .int .u8 K, .int .u8 R] 68)]) (fun _ i _ => n - (intOf i).toNat)
                case atStart => exact ⟨0, Nat.zero_le _, by rw [HP0.out], rfl, HO⟩
                case round =>
                  obtain ⟨j, hj, rfl, rfl, HO2⟩ := hrel
                  clear HO
                  have HO := HO2
                  clear HO2
                  by_cases hjn : j < n
                  · have e1 : decide ((j : Int) < (n : Int)) = true := decide_eq_true (by omega)
                    have hcell : wr.cell? ⟨b0, o0 + 1 + j, none⟩ = some (.int .u8 (bU l (j + 1) : Int)) := by
                      have hx := HCE.out (j + 1) (by have := HL.out; have := HN.out; omega)
                      rw [show o0 + (j + 1) = o0 + 1 + j by omega] at hx
                      exact (HO.below.cell (World.block_lt_of_cell? w _ hx)).trans hx
                    have hy := bU_lt l (j + 1)
                    have hp3 := progJ_lt3 l n j (by omega)
                    have hs : progJ l n (j + 1) = progJ l n j * 64 + bU l (j + 1) % 64 := rfl
                    have hor := or_step (progJ l n j) (bU l (j + 1)) hp3
                    rw [← hs] at hor
                    obtain ⟨y, hyy⟩ : ∃ y, bU l (j + 1) = y := ⟨_, rfl⟩
                    rw [hyy] at hcell hy hor
                    obtain ⟨q, hq⟩ : ∃ q, progJ l n j = q := ⟨_, rfl⟩
                    obtain ⟨q2, hq2⟩ : ∃ q2, progJ l n (j + 1) = q2 := ⟨_, rfl⟩
                    rw [hq] at hp3
                    rw [hq, hq2] at hor
                    simp only [hq]
                    have HQ2 := Lib.hid hq2
                    have a63 := u8_and63 (x := (y : Int)) (by omega) (by omega)
                    rw [show (y : Int) % 64 = ((y % 64 : Nat) : Int) by omega] at a63
                    have hy64 : y % 64 < 64 := Nat.mod_lt _ (by decide)
                    have hw1 : IntKind.i64.wrap ((y % 64 : Nat) : Int) = ((y % 64 : Nat) : Int) := IntWalk.i64_in _ (by omega)
                    have hw2 : wrap64 ((q * 64 : Nat) : Int) = ((q * 64 : Nat) : Int) := by unfold wrap64; omega
                    have hw3 : wrap64 ((q : Int) * 64) = ((q * 64 : Nat) : Int) := by unfold wrap64; omega
                    have HJN := Lib.hid hjn
                    have hor2 : bits .or .i64 ((q : Int) * 64) ((y : Int) % 64) = (q2 : Int) := by
                      rw [show ((q * 64 : Nat) : Int) = (q : Int) * 64 by omega, show ((y % 64 : Nat) : Int) = (y : Int) % 64 by omega] at hor
                      exact hor
                    clear hq hs hyy hjn hj hq2
                    go_wp2
                    go_roundw
                    case rel => exact ⟨j + 1, by have := HJN.out; omega, by rw [HQ2.out], by go_num, HO⟩
                    case measure => have := HJN.out; simp [intOf]; try omega
                  · obtain rfl : n = j := by omega
                    have e1 : decide ((n : Int) < (n : Int)) = false := decide_eq_false (by omega)
                    have HYES := Lib.hid hyes
                    have HNX := Lib.hid hnx
                    rw [HPA.out] at *
                    obtain ⟨r, hr⟩ : ∃ r, progU l (n + 1) = r := ⟨_, rfl⟩
                    simp only [hr] at HYES HNX ⊢
                    clear hyes hnx hr hj hjn
                    go_wp2
                    obtain ⟨d, hb⟩ : ∃ d, decide (putU r = l.take N) = d := ⟨_, rfl⟩
                    have HB := Lib.hid hb
                    clear hb
                    cases d
                    · refine region_law 7 [fIs (.int .i64 (r : Int)), fRc (putU r), fIs (.slice (some ⟨b0, o0, none⟩) l.length c), fIs (.pointer (some ⟨g1, 0, none⟩)), fIs (.int .i64 (N : Int)), fIs (.slice (some ⟨b0, o0, none⟩) N c), fIs (.bool false)] HO (by kernel_rfl) (by kernel_rfl) (by decide) (by kernel_rfl)
                        (stays_cons (Stays.fIs _) (stays_cons (Stays.fRc _) (stays_cons (Stays.fIs _) (stays_cons (Stays.fIs _) (stays_cons (Stays.fIs _) (stays_cons (Stays.fIs _) (stays_cons (Stays.fIs _) stays_nil))))))) ?_
                      intro vals A hA
                      simp [fillL, dstOf, List.range, List.range.loop, Act.put] at hA
                      subst hA
                      refine ⟨⟨?_, ?_, ?_, ?_, ?_, ?_, ?_, trivial⟩, ?_⟩
                      all_goals intro W hd hM hb0
                      case refine_1 =>
                        skip
                        exact st_val rfl (by simp only [execOp]; first | (go_simp; done) | (go_simp; rfl)) rfl
                      case refine_2 =>
                        have v0 : vals 0 = .int .i64 (r : Int) := hd 0 (by kernel_rfl)
                        rw [v0]
                        exact st_call rfl (by simp only [execOp]; first | (go_simp; done) | (go_simp; rfl)) (putRow r W) (by rintro e w' ⟨v, rfl, hb, hf⟩; exact ⟨_, rfl, hb, hf⟩)
                      case refine_3 =>
                        skip
                        exact st_val rfl (by simp only [execOp]; first | (go_simp; done) | (go_simp; rfl)) rfl
                      case refine_4 =>
                        skip
                        exact st_val rfl (by simp only [execOp]; first | (go_simp; done) | (go_simp; rfl)) rfl
                      case refine_5 =>
                        have v3 : vals 3 = .pointer (some ⟨g1, 0, none⟩) := hd 3 (by kernel_rfl)
                        rw [v3]
                        exact st_load1 hM rfl rfl rfl (.head _) Tryd.isAgg3 rfl rfl
                      case refine_6 =>
                        have v2 : vals 2 = .slice (some ⟨b0, o0, none⟩) l.length c := hd 2 (by kernel_rfl)
                        have v4 : vals 4 = .int .i64 (N : Int) := hd 4 (by kernel_rfl)
                        rw [v2, v4]
                        exact st_val rfl (by simp only [execOp]; first | (go_simp; done) | (go_simp; rfl)) rfl
                      case refine_7 =>
                        have v5 : vals 5 = .slice (some ⟨b0, o0, none⟩) N c := hd 5 (by kernel_rfl)
                        rw [v5]
                        obtain ⟨pA, cA, eA, hcA, hrA⟩ : fRc (putU r) (vals 1) W := hd 1 (by kernel_rfl)
                        rw [eA]
                        have hq := slEq_calls pA (some ⟨b0, o0, none⟩) (putU r) (l.take N) cA c hcA (by rw [HLT.out]; exact HCN.out) (by have := putU_len r; omega) (by rw [HLT.out]; have := HC.out; have := HL.out; omega) W hrA (rdTake (HR.out.below hM.below) N)
                        rw [HLT.out, HB.out] at hq
                        exact st_call rfl (by simp only [execOp]; first | (go_simp; done) | (go_simp; rfl)) hq (by rintro e w' ⟨rfl, hb⟩; exact ⟨_, rfl, hb, rfl⟩)
                      case refine_8 =>
                        have v6 : vals 6 = .bool false := hd 6 (by omega)
                        rw [v6]
                        simp only [List.drop_succ_cons, List.drop_zero]
                        have HO := hM
                        clear hM hd hb0
                        go_wp2
                        go_roundw
                        case rel => exact ⟨n + 1, by have := HN4.out; omega, by go_num, HNX.out HB.out, HO.less (List.nil_sublist _)⟩
                        case measure => have := HN4.out; simp [intOf]; try omega
                    · refine region_law 7 [fIs (.int .i64 (r : Int)), fRc (putU r), fIs (.slice (some ⟨b0, o0, none⟩) l.length c), fIs (.pointer (some ⟨g1, 0, none⟩)), fIs (.int .i64 (N : Int)), fIs (.slice (some ⟨b0, o0, none⟩) N c), fIs (.bool true)] HO (by kernel_rfl) (by kernel_rfl) (by decide) (by kernel_rfl)
                        (stays_cons (Stays.fIs _) (stays_cons (Stays.fRc _) (stays_cons (Stays.fIs _) (stays_cons (Stays.fIs _) (stays_cons (Stays.fIs _) (stays_cons (Stays.fIs _) (stays_cons (Stays.fIs _) stays_nil))))))) ?_
                      intro vals A hA
                      simp [fillL, dstOf, List.range, List.range.loop, Act.put] at hA
                      subst hA
                      refine ⟨⟨?_, ?_, ?_, ?_, ?_, ?_, ?_, trivial⟩, ?_⟩
                      all_goals intro W hd hM hb0
                      case refine_1 =>
                        skip
                        exact st_val rfl (by simp only [execOp]; first | (go_simp; done) | (go_simp; rfl)) rfl
                      case refine_2 =>
                        have v0 : vals 0 = .int .i64 (r : Int) := hd 0 (by kernel_rfl)
                        rw [v0]
                        exact st_call rfl (by simp only [execOp]; first | (go_simp; done) | (go_simp; rfl)) (putRow r W) (by rintro e w' ⟨v, rfl, hb, hf⟩; exact ⟨_, rfl, hb, hf⟩)
                      case refine_3 =>
                        skip
                        exact st_val rfl (by simp only [execOp]; first | (go_simp; done) | (go_simp; rfl)) rfl
                      case refine_4 =>
                        skip
                        exact st_val rfl (by simp only [execOp]; first | (go_simp; done) | (go_simp; rfl)) rfl
                      case refine_5 =>
                        have v3 : vals 3 = .pointer (some ⟨g1, 0, none⟩) := hd 3 (by kernel_rfl)
                        rw [v3]
                        exact st_load1 hM rfl rfl rfl (.head _) Tryd.isAgg3 rfl rfl
                      case refine_6 =>
                        have v2 : vals 2 = .slice (some ⟨b0, o0, none⟩) l.length c := hd 2 (by kernel_rfl)
                        have v4 : vals 4 = .int .i64 (N : Int) := hd 4 (by kernel_rfl)
                        rw [v2, v4]
                        exact st_val rfl (by simp only [execOp]; first | (go_simp; done) | (go_simp; rfl)) rfl
                      case refine_7 =>
                        have v5 : vals 5 = .slice (some ⟨b0, o0, none⟩) N c := hd 5 (by kernel_rfl)
                        rw [v5]
                        obtain ⟨pA, cA, eA, hcA, hrA⟩ : fRc (putU r) (vals 1) W := hd 1 (by kernel_rfl)
                        rw [eA]
                        have hq := slEq_calls pA (some ⟨b0, o0, none⟩) (putU r) (l.take N) cA c hcA (by rw [HLT.out]; exact HCN.out) (by have := putU_len r; omega) (by rw [HLT.out]; have := HC.out; have := HL.out; omega) W hrA (rdTake (HR.out.below hM.below) N)
                        rw [HLT.out, HB.out] at hq
                        exact st_call rfl (by simp only [execOp]; first | (go_simp; done) | (go_simp; rfl)) hq (by rintro e w' ⟨rfl, hb⟩; exact ⟨_, rfl, hb, rfl⟩)
                      case refine_8 =>
                        have v6 : vals 6 = .bool true := hd 6 (by omega)
                        rw [v6]
                        simp only [List.drop_succ_cons, List.drop_zero]
                        have HO := hM
                        clear hM hd hb0
                        go_wp2
                        refine region_law 5 [fIs (.int .i64 (r : Int)), fIs (.pointer (some ⟨g1, 0, none⟩)), fIs (.int .i64 (N : Int)), fIs (.int .i64 (r : Int)), fIs (.int .i64 (N : Int))] HO (by kernel_rfl) (by kernel_rfl) (by decide) (by kernel_rfl)
                          (stays_cons (Stays.fIs _) (stays_cons (Stays.fIs _) (stays_cons (Stays.fIs _) (stays_cons (Stays.fIs _) (stays_cons (Stays.fIs _) stays_nil))))) ?_
                        intro vals A hA
                        simp [fillL, dstOf, List.range, List.range.loop, Act.put] at hA
                        subst hA
                        refine ⟨⟨?_, ?_, ?_, ?_, ?_, trivial⟩, ?_⟩
                        all_goals intro W hd hM hb0
                        case refine_1 =>
                          skip
                          exact st_val rfl (by simp only [execOp]; first | (go_simp; done) | (go_simp; rfl)) rfl
                        case refine_2 =>
                          skip
                          exact st_val rfl (by simp only [execOp]; first | (go_simp; done) | (go_simp; rfl)) rfl
                        case refine_3 =>
                          have v1 : vals 1 = .pointer (some ⟨g1, 0, none⟩) := hd 1 (by kernel_rfl)
                          rw [v1]
                          exact st_load1 hM rfl rfl rfl (.head _) Tryd.isAgg3 rfl rfl
                        case refine_4 =>
                          have v0 : vals 0 = .int .i64 (r : Int) := hd 0 (by kernel_rfl)
                          rw [v0]
                          exact st_val rfl (by simp only [execOp]; first | (go_simp; done) | (go_simp; rfl)) rfl
                        case refine_5 =>
                          have v2 : vals 2 = .int .i64 (N : Int) := hd 2 (by kernel_rfl)
                          rw [v2]
                          exact st_val rfl (by simp only [execOp]; first | (go_simp; done) | (go_simp; rfl)) rfl
                        case refine_6 =>
                          have v3 : vals 3 = .int .i64 (r : Int) := hd 3 (by omega)
                          have v4 : vals 4 = .int .i64 (N : Int) := hd 4 (by omega)
                          rw [v3, v4]
                          simp only [List.drop_succ_cons, List.drop_zero]
                          go_wp2
                          refine bodyPost_ret (results_tmp2 rfl _ _ _) rfl ?_
                          exact ⟨by rw [HYES.out HB.out]; rfl, hM.below⟩
      · have hno2 : ∀ m, 1 ≤ m → m ≤ n + 1 → fitsU l m = false := fun m h1 h2 => by
          by_cases hm : m ≤ n
          · exact HNO.out m h1 hm
          · have := HN.out
            unfold fitsU
            rw [decide_eq_false (show ¬ m ≤ l.length by omega), Bool.false_and]
        have HN2 := Lib.hid hno2
        have d2 : decide ((l.length : Int) < (N : Int)) = true := decide_eq_true (by omega)
        have d3 : decide (l.length < N) = true := decide_eq_true (by omega)
        clear hno2 hl
        refine region_law 16 [fIs (.slice A l.length c), fIs (.int .i64 (l.length : Int)), fIs (.pointer (some ⟨g1, 0, none⟩)), fIs (.int .i64 (N : Int)), fIs (.bool true), fIs (.bool true), fIs (undef), fIs (undef), fIs (undef), fIs (undef), fIs (undef), fIs (undef), fIs (undef), fIs (undef), fIs (undef), fIs (.bool true)] HO (by kernel_rfl) (by kernel_rfl) (by decide) (by kernel_rfl)
          (stays_cons (Stays.fIs _) (stays_cons (Stays.fIs _) (stays_cons (Stays.fIs _) (stays_cons (Stays.fIs _) (stays_cons (Stays.fIs _) (stays_cons (Stays.fIs _) (stays_cons (Stays.fIs _) (stays_cons (Stays.fIs _) (stays_cons (Stays.fIs _) (stays_cons (Stays.fIs _) (stays_cons (Stays.fIs _) (stays_cons (Stays.fIs _) (stays_cons (Stays.fIs _) (stays_cons (Stays.fIs _) (stays_cons (Stays.fIs _) (stays_cons (Stays.fIs _) stays_nil)))))))))))))))) ?_
        intro vals A hA
        simp [fillL, dstOf, List.range, List.range.loop, Act.put] at hA
        subst hA
        refine ⟨⟨?_, ?_, ?_, ?_, ?_, ?_, ?_, ?_, ?_, ?_, ?_, ?_, ?_, ?_, ?_, ?_, trivial⟩, ?_⟩
        all_goals intro W hd hM hb0
        case refine_1 =>
          skip
          exact st_val rfl (by simp only [execOp]; first | (go_simp; done) | (go_simp; rfl)) rfl
        case refine_2 =>
          have v0 : vals 0 = .slice A l.length c := hd 0 (by kernel_rfl)
          rw [v0]
          exact st_val rfl (by simp only [execOp]; first | (go_simp; done) | (go_simp; rfl)) rfl
        case refine_3 =>
          skip
          exact st_val rfl (by simp only [execOp]; first | (go_simp; done) | (go_simp; rfl)) rfl
        case refine_4 =>
          have v2 : vals 2 = .pointer (some ⟨g1, 0, none⟩) := hd 2 (by kernel_rfl)
          rw [v2]
          exact st_load1 hM rfl rfl rfl (.head _) Tryd.isAgg3 rfl rfl
        case refine_5 =>
          have v1 : vals 1 = .int .i64 (l.length : Int) := hd 1 (by kernel_rfl)
          have v3 : vals 3 = .int .i64 (N : Int) := hd 3 (by kernel_rfl)
          rw [v1, v3]
          exact st_val rfl (by simp only [execOp]; first | (go_simp; done) | (go_simp; rfl)) rfl
        case refine_6 =>
          have v4 : vals 4 = .bool true := hd 4 (by kernel_rfl)
          rw [v4]
          exact st_val rfl (by simp only [execOp]; first | (go_simp; done) | (go_simp; rfl)) rfl
        case refine_7 =>
          have v5 : vals 5 = .bool true := hd 5 (by kernel_rfl)
          rw [v5]
          exact st_pass rfl rfl
        case refine_8 =>
          have v5 : vals 5 = .bool true := hd 5 (by kernel_rfl)
          rw [v5]
          exact st_pass rfl rfl
        case refine_9 =>
          have v5 : vals 5 = .bool true := hd 5 (by kernel_rfl)
          rw [v5]
          exact st_pass rfl rfl
        case refine_10 =>
          have v5 : vals 5 = .bool true := hd 5 (by kernel_rfl)
          rw [v5]
          exact st_pass rfl rfl
        case refine_11 =>
          have v5 : vals 5 = .bool true := hd 5 (by kernel_rfl)
          rw [v5]
          exact st_pass rfl rfl
        case refine_12 =>
          have v5 : vals 5 = .bool true := hd 5 (by kernel_rfl)
          rw [v5]
          exact st_pass rfl rfl
        case refine_13 =>
          have v5 : vals 5 = .bool true := hd 5 (by kernel_rfl)
          rw [v5]
          exact st_pass rfl rfl
        case refine_14 =>
          have v5 : vals 5 = .bool true := hd 5 (by kernel_rfl)
          rw [v5]
          exact st_pass rfl rfl
        case refine_15 =>
          have v5 : vals 5 = .bool true := hd 5 (by kernel_rfl)
          rw [v5]
          exact st_pass rfl rfl
        case refine_16 =>
          have v5 : vals 5 = .bool true := hd 5 (by kernel_rfl)
          rw [v5]
          exact st_val rfl (by simp only [execOp]; first | (go_simp; done) | (go_simp; rfl)) rfl
        case refine_17 =>
          have v15 : vals 15 = .bool true := hd 15 (by omega)
          rw [v15]
          simp only [List.drop_succ_cons, List.drop_zero]
          have HO := hM
          clear hM hd hb0
          go_wp2
          go_roundw
          case rel => exact ⟨n + 1, by have := HN4.out; omega, by go_num, HN2.out, HO.less (List.nil_sublist _)⟩
          case measure => have := HN4.out; simp [intOf]; try omega
    · obtain rfl : n = 4 := by omega
      have htk : takeU l = (0, 0) := by
        unfold takeU
        rw [hno 1 (by omega) (by omega), hno 2 (by omega) (by omega), hno 3 (by omega) (by omega), hno 4 (by omega) (by omega)]
        rfl
      have HT := Lib.hid htk
      clear hno htk hn hn4
      go_wp2
      refine bodyPost_ret (results_tmp2 rfl _ _ _) rfl ?_
      exact ⟨by rw [HT.out]; rfl, HO.below⟩
end Go.Proofs.YtcglbfpmcpammaaDoor
end
