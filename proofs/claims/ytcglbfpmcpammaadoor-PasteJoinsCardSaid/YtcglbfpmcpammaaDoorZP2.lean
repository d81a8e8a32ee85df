/- P: texts run together by shake.py: WMore KitN WiA WiB Gx0 Gutfa UtB UtB1 UtB2 UtB3 UtB4 UtP UtC UtU UtV UtW PuU RgL RdB Gslicesa UtE KitUW Gpastea. -/
import Derived.ArgAppend
import Derived.Below
import Derived.BigQuiet
import Derived.Deep.AppendLies
import Derived.Deep.CutBlock
import Derived.Deep.DeepCutAuto
import Derived.Deep.Draws
import Derived.Deep.LoopGhost
import Derived.Deep.OwnRows
import Derived.Deep.Quiet
import Derived.Deep.QuietTactic
import Derived.Deep.RegionHeld3
import Derived.KernelRfl
import Derived.Laws.AppendOwn
import Derived.Laws.AppendOwnNone
import Derived.Laws.BitsLemmas
import Derived.Laws.BytesArg
import Derived.Laws.Concat
import Derived.Laws.CopyRow
import Derived.Laws.IdiomCopy
import Derived.Laws.IdiomStrings
import Derived.Laws.MakeOwn
import Derived.Laws.OwnMore
import Derived.Laws.Rows
import Derived.Laws.Slices
import Derived.Laws.StructEq
import Derived.Laws.Tables
import Derived.Lib.AppendIntMem
import Derived.Lib.AppendStr
import Derived.Lib.ConvBytes
import Derived.Lib.Hide
import Derived.Lib.ItoaLen
import Derived.Lib.ItoaNum
import Derived.Lib.LaidTab
import Derived.Lib.OthersKept
import Derived.Lib.TrimU
import Derived.MapKept
import Derived.Maps.AppendAt
import Derived.Orders
import Derived.OrdersHeld
import Derived.OrdersIn
import Derived.OwnWalk
import Derived.RangeFuncCalls
import Derived.RangeFuncNested
import Derived.RangeFuncWrites
import Derived.RowKit
import Derived.RowKit3
import Derived.Shelf.Bytes.SlEqualAll
import Derived.Shelf.Bytes.SlSearch0
import Derived.Shelf.Bytes.SlSmallAll
import Derived.Shelf.Bytes.Small
import Derived.Shelf.LaysM
import Derived.Shelf.Slices.Empties2
import Derived.Shelf.Slices.Equal
import Derived.Shelf.Small.Strs
import Derived.Shelf.Small.Utf8
import Derived.Shelf.Strconv.Itoa0
import Derived.Shelf.Strconv.Itoa1
import Derived.Shelf.Strconv.Itoa2
import Derived.Shelf.Strconv.Itoa3
import Derived.Shelf.Strings.Builder1
import Derived.Shelf.Strings.Builder2
import Derived.Shelf.Strings.Builder2Cap
import Derived.Shelf.Strings.BuilderCap
import Derived.Shelf.Strings.BuilderF
import Derived.Shelf.Strings.BuilderK
import Derived.Shelf.Strings.OnBuilder
import Derived.Shelf.Strings.Runes
import Derived.Shelf.Strings.Search1
import Derived.Still
import Derived.Tactics
import Derived.TacticsIn
import Derived.Test.YtcglbfpmcpammaaDoorProg
import Derived.WalkKit
import Derived.WideLaws
import Derived.Test.YtcglbfpmcpammaaDoorZP1
section
namespace Go.Proofs.YtcglbfpmcpammaaDoorW.PrintMore
open Go.RowKit Go.Proofs.YtcglbfpmcpammaaDoorW.PrintWords
open Go.Proofs.YtcglbfpmcpammaaDoorW.PrintWords.Kd
open Go.Proofs.YtcglbfpmcpammaaDoorW.PrintWords.Kd
theorem max2_int (k k' : IntKind) (x y : Int) : Builtin.max2 (.int k x) (.int k' y) = pure (.int k (if x < y then y else x)) := by simp only [Builtin.max2, gt_iff_lt]
theorem min2_int (k k' : IntKind) (x y : Int) : Builtin.min2 (.int k x) (.int k' y) = pure (.int k (if y < x then y else x)) := by simp only [Builtin.min2]
theorem max_two (ats : Array TypeId) (ty : TypeId) (a b : Value) : Builtin.max_ ats ty #[a, b] = (Builtin.max2 a b >>= fun s => pure s) := by simp only [Builtin.max_, List.foldlM_cons, List.foldlM_nil]
theorem min_two (ats : Array TypeId) (ty : TypeId) (a b : Value) : Builtin.min_ ats ty #[a, b] = (Builtin.min2 a b >>= fun s => pure s) := by simp only [Builtin.min_, List.foldlM_cons, List.foldlM_nil]
theorem max_three (ats : Array TypeId) (ty : TypeId) (a b c : Value) : Builtin.max_ ats ty #[a, b, c] = (Builtin.max2 a b >>= fun s => Builtin.max2 s c >>= fun s => pure s) := by simp only [Builtin.max_, List.foldlM_cons, List.foldlM_nil]
theorem min_three (ats : Array TypeId) (ty : TypeId) (a b c : Value) : Builtin.min_ ats ty #[a, b, c] = (Builtin.min2 a b >>= fun s => Builtin.min2 s c >>= fun s => pure s) := by simp only [Builtin.min_, List.foldlM_cons, List.foldlM_nil]
theorem max_four (ats : Array TypeId) (ty : TypeId) (a b c d : Value) : Builtin.max_ ats ty #[a, b, c, d] = (Builtin.max2 a b >>= fun s => Builtin.max2 s c >>= fun s => Builtin.max2 s d >>= fun s => pure s) := by simp only [Builtin.max_, List.foldlM_cons, List.foldlM_nil]
theorem min_four (ats : Array TypeId) (ty : TypeId) (a b c d : Value) : Builtin.min_ ats ty #[a, b, c, d] = (Builtin.min2 a b >>= fun s => Builtin.min2 s c >>= fun s => Builtin.min2 s d >>= fun s => pure s) := by simp only [Builtin.min_, List.foldlM_cons, List.foldlM_nil]
end Go.Proofs.YtcglbfpmcpammaaDoorW.PrintMore
namespace Go.Proofs.YtcglbfpmcpammaaDoorW.PrintWords
open Go.RowKit
section
variable {P : Program} {ops : Array Oper} {rest : List Oper} {o : Oper} {a : Act} {Q : Exit → Act → World → Prop} {W : World}
theorem gate_callee {f : FuncId} {as1 : Array Operand} {ts : Array TypeId} (_ho : o.op = .call { callee := .value (.func f), args := as1, argTypes := ts }) (h : wpList P ops Q (o :: rest) a W) : wpList P ops Q (o :: rest) a W := h
theorem gate_builtin {b : Builtin} {xs : Array Operand} {ts : Array TypeId} (_ho : o.op = .call { callee := .builtin b, args := xs, argTypes := ts }) (h : wpList P ops Q (o :: rest) a W) : wpList P ops Q (o :: rest) a W := h
end
end Go.Proofs.YtcglbfpmcpammaaDoorW.PrintWords
namespace Go.Proofs.YtcglbfpmcpammaaDoorW.PrintWords
open Go.RowKit
namespace Kd
def V {α : Type} (d : Kd α) (_e : Nat) (W : World) (_base : Nat) (ok : Nat → Prop) (v : Value) (xs : List α) : Prop := ∃ A c, v = .slice A xs.length c ∧ xs.length ≤ c ∧ F d W ok A xs.length xs
section
variable {α β : Type} {d : Kd α} {e base base' n m c g N' lo hi : Nat} {ok ok' S : Nat → Prop} {w W w1 : World} {A : Option Addr} {ad : Addr} {u v v1 : Value} {xs : List α}
theorem V_nil (d : Kd α) (e : Nat) (W : World) (base : Nat) (ok : Nat → Prop) : V d e W base ok (.slice none 0 0) [] := ⟨none, 0, rfl, Nat.le_refl _, F_nil d W ok⟩
end
end Kd
end Go.Proofs.YtcglbfpmcpammaaDoorW.PrintWords
end
section
namespace Go.Proofs.YtcglbfpmcpammaaDoor.Kit
set_option linter.unusedVariables false
set_option linter.unusedSimpArgs false
open Go Go.RowKit Go.Proofs.YtcglbfpmcpammaaDoorW.PrintWords
section
variable {P : Program} {ops : Array Oper} {Q : Exit → Act → World → Prop} {a : Act} {w W0 : World} {rest : List Oper} {o : Oper} {bs bs' : Res} {g off n : Nat} {cs cs' vs : List Value} {T E : TypeId} {v : Value} {X : World → Prop}
def XB (X : World → Prop) : Prop := ∀ w w', X w → Below w.heap.size w w' → X w'
def XS (E : TypeId) (X : World → Prop) : Prop := ∀ w g cs cs', X w → w.heap[g]? = some (.cells cs E (0, 0)) → X (w.setRow g cs')
theorem XB.and {X Y : World → Prop} (h : XB X) (k : XB Y) : XB (fun w => X w ∧ Y w) := fun w w' hx hb => ⟨h w w' hx.1 hb, k w w' hx.2 hb⟩
theorem XS.and {X Y : World → Prop} {E : TypeId} (h : XS E X) (k : XS E Y) : XS E (fun w => X w ∧ Y w) := fun w g cs cs' hx hb => ⟨h w g cs cs' hx.1 hb, k w g cs cs' hx.2 hb⟩
theorem XB.rows {α : Type} (d : Kd α) (e base : Nat) (ok : Nat → Prop) (v : Value) (xs : List α) : XB (fun w => Kd.S d e w base ok v xs) := fun w w' h hb => Kd.S_below h hb
theorem XS.rows {α : Type} (d : Kd α) (e base : Nat) (ok : Nat → Prop) (v : Value) (xs : List α) {T : TypeId} (ht : ∀ q, q ∈ e :: d.E → q ≠ T) : XS T (fun w => Kd.S d e w base ok v xs) := fun w g cs cs' h hg => by
  refine Kd.S_mono (Kd.S_step (Kd.S_bound h) (fun k hk hlt => ?_)) (fun k hk => hk.1)
  obtain ⟨_, _, _, q, hq, cells, hc⟩ := hk
  refine setRow_other w g k _ (fun e => ?_)
  subst e
  rw [hc] at hg
  cases hg
  exact absurd rfl (ht _ hq)
end
end Go.Proofs.YtcglbfpmcpammaaDoor.Kit
end
section
namespace Go.Proofs.YtcglbfpmcpammaaDoor
set_option linter.unusedVariables false
set_option linter.unusedSimpArgs false
open Go.RowKit Kit Go.Proofs.YtcglbfpmcpammaaDoorW.PrintWords
theorem retBo {a b : Bool} (h : a = b) : Ending.returned (.bool a) = .returned (.bool b) := by rw [h]
def btwL (a b : Nat) (l : List UInt8) : Bool := l.all fun c => decide (a ≤ c.toNat) && decide (c.toNat ≤ b)
theorem btwL_bad {a b : Nat} {l : List UInt8} {k : Nat} (hk : k < l.length) (h : (l[k]).toNat < a ∨ b < (l[k]).toNat) : btwL a b l = false := by
  rw [Bool.eq_false_iff]
  intro e
  have := List.all_eq_true.1 e (l[k]) (List.getElem_mem hk)
  simp at this
  omega
theorem btwL_good {a b : Nat} {l : List UInt8} (h : ∀ j (hj : j < l.length), a ≤ (l[j]).toNat ∧ (l[j]).toNat ≤ b) : btwL a b l = true := by
  refine List.all_eq_true.2 fun c hc => ?_
  obtain ⟨j, hj, rfl⟩ := List.mem_iff_getElem.1 hc
  have := h j hj
  simp
  omega
attribute [local irreducible] wpList Calls wpQuiet
theorem outside_calls (a b r : Nat) (ha : a < 256) (hb : b < 256) (hr : r < 2147483648) (gA gB : Nat) (w : World) (hA : w.cell? ⟨gA, 0, none⟩ = some (.int .u8 (a : Int))) (hB : w.cell? ⟨gB, 0, none⟩ = some (.int .u8 (b : Int))) (t : Bool) (ht : (decide (r < a) || decide (b < r)) = t) :
    Calls Tryd.prog 55 #[.int .i32 (r : Int), .pointer (some ⟨gA, 0, none⟩), .pointer (some ⟨gB, 0, none⟩)] w fun e w' => e = .returned (.bool t) ∧ w' = w := by
  have e1 : IntKind.i32.wrap (a : Int) = (a : Int) := IntWalk.i32_in _ (by omega)
  have e2 : IntKind.i32.wrap (b : Int) = (b : Int) := IntWalk.i32_in _ (by omega)
  have HT := Lib.hid ht
  clear ht
  by_cases h1 : r < a
  · have b1 : decide (r < a) = true := decide_eq_true h1
    have b1' : decide ((r : Int) < (a : Int)) = true := decide_eq_true (by omega)
    have hte : t = true := by rw [← HT.out, b1]; rfl
    subst hte
    clear h1 ha hb hr
    go_enter Tryd.func55, Tryd.ntmps55
    go_wp2
    go_ret
    exact ⟨rfl, rfl⟩
  · have b1 : decide (r < a) = false := decide_eq_false h1
    have b1' : decide ((r : Int) < (a : Int)) = false := decide_eq_false (by omega)
    by_cases h2 : b < r
    · have b2 : decide (b < r) = true := decide_eq_true h2
      have b2' : decide ((b : Int) < (r : Int)) = true := decide_eq_true (by omega)
      have hte : t = true := by rw [← HT.out, b1, b2]; rfl
      subst hte
      clear h1 h2 ha hb hr
      go_enter Tryd.func55, Tryd.ntmps55
      go_wp2
      go_ret
      exact ⟨rfl, rfl⟩
    · have b2 : decide (b < r) = false := decide_eq_false h2
      have b2' : decide ((b : Int) < (r : Int)) = false := decide_eq_false (by omega)
      have hte : t = false := by rw [← HT.out, b1, b2]; rfl
      subst hte
      clear h1 h2 ha hb hr
      go_enter Tryd.func55, Tryd.ntmps55
      go_wp2
      go_ret
      exact ⟨rfl, rfl⟩
theorem indexOut_calls (s : ByteArray) (a b : Nat) (ha : a < 128) (hb : b < 128) (gA gB : Nat) (w : World) (hA : w.cell? ⟨gA, 0, none⟩ = some (.int .u8 (a : Int))) (hB : w.cell? ⟨gB, 0, none⟩ = some (.int .u8 (b : Int))) :
    Calls Tryd.prog 70 #[.string s, .func (.func 55) #[] #[.pointer (some ⟨gA, 0, none⟩), .pointer (some ⟨gB, 0, none⟩)], .bool true] w fun e w' => ∃ I : Int, e = .returned (.int .i64 I) ∧ decide (0 ≤ I) = !btwL a b s.data.toList ∧ Below w.heap.size w w' := by
  have hlA := World.block_lt_of_cell? w _ hA
  have hlB := World.block_lt_of_cell? w _ hB
  have HC : Hid (∀ (W : World), Below w.heap.size w W → ∀ r : Nat, r < 2147483648 → ∀ t, (decide (r < a) || decide (b < r)) = t → Calls Tryd.prog 55 #[.int .i32 (r : Int), .pointer (some ⟨gA, 0, none⟩), .pointer (some ⟨gB, 0, none⟩)] W fun e w' => e = .returned (.bool t) ∧ w' = W) :=
    Lib.hid fun W hW r hr t ht => outside_calls a b r (by omega) (by omega) hr gA gB W ((hW.cell (p := ⟨gA, 0, none⟩) hlA).trans hA) ((hW.cell (p := ⟨gB, 0, none⟩) hlB).trans hB) t ht
  have HSZ : Hid (s.data.toList.length = s.size) := Lib.hid (by simp)
  clear hA hB hlA hlB
  go_enter Tryd.func70, Tryd.ntmps70
  go_wp2
  go_loopw [] (fun wr => ∃ k : Nat, k ≤ s.size ∧ wr = w.iter s k ∧ Hid (∀ j (hj : j < s.data.toList.length), j < k → a ≤ (s.data.toList[j]).toNat ∧ (s.data.toList[j]).toNat ≤ b)) (fun wr => s.size - wr.iterPos w.heap.size)
  case atStart => exact ⟨0, Nat.zero_le _, rfl, Lib.hid (fun j hj h => by omega)⟩
  case round =>
    obtain ⟨k, hk, rfl, HG⟩ := hrel
    by_cases hlt : k < s.size
    · obtain ⟨x, hx⟩ : ∃ x : UInt8, x = s[k]'hlt := ⟨_, rfl⟩
      have hkl : k < s.data.toList.length := by rw [HSZ.out]; exact hlt
      have hxl : s.data.toList[k] = x := by rw [hx]; rfl
      have hxb : x.toNat < 256 := x.toNat_lt
      by_cases hin : a ≤ x.toNat ∧ x.toNat ≤ b
      · obtain ⟨hi1, hi2⟩ := hin
        have hnx : ∀ ty, (Instr.next (.pointer (some ⟨w.heap.size, 0, none⟩)) true ty).run Tryd.prog (w.iter s k) = .ok (.tuple #[.bool true, .int .i64 k, .int .i32 (x.toNat : Int)]) (w.iter s (k + 1)) := by
          intro ty
          rw [hx]
          exact run_next_ascii w s k ty hlt (by rw [← hx]; omega)
        have cC := HC.out (w.iter s (k + 1)) ((Below.refl _ _).alloc (Nat.le_refl _) _) x.toNat (by omega) false (by rw [decide_eq_false (show ¬ x.toNat < a by omega), decide_eq_false (show ¬ b < x.toNat by omega)]; rfl)
        have HG2 : Hid (∀ j (hj : j < s.data.toList.length), j < k + 1 → a ≤ (s.data.toList[j]).toNat ∧ (s.data.toList[j]).toNat ≤ b) := Lib.hid fun j hj h => by
          by_cases e : j = k
          · subst e; rw [hxl]; exact ⟨hi1, hi2⟩
          · exact HG.out j hj (by omega)
        have HK := Lib.hid (And.intro hk hlt)
        clear hx hxl hkl hxb hi1 hi2 HG hk hlt
        go_wp2_with (go_at_call 55; refine cC.mono ?_; rintro e w' ⟨rfl, rfl⟩)
        go_roundw
        case rel => exact ⟨k + 1, by have := HK.out; omega, rfl, HG2⟩
        case measure =>
          have := HK.out
          simp only [World.iterPos, World.iter_heap]
          omega
      · have hbad : btwL a b s.data.toList = false := btwL_bad hkl (by rw [hxl]; omega)
        have HBAD := Lib.hid hbad
        by_cases hasc : x.toNat < 128
        · have hnx : ∀ ty, (Instr.next (.pointer (some ⟨w.heap.size, 0, none⟩)) true ty).run Tryd.prog (w.iter s k) = .ok (.tuple #[.bool true, .int .i64 k, .int .i32 (x.toNat : Int)]) (w.iter s (k + 1)) := by
            intro ty
            rw [hx]
            exact run_next_ascii w s k ty hlt (by rw [← hx]; omega)
          have cC := HC.out (w.iter s (k + 1)) ((Below.refl _ _).alloc (Nat.le_refl _) _) x.toNat (by omega) true (by
            by_cases h1 : x.toNat < a
            · rw [decide_eq_true h1]; rfl
            · rw [decide_eq_true (show b < x.toNat by omega)]; simp)
          have HB : Hid (Below w.heap.size w (w.iter s (k + 1))) := Lib.hid ((Below.refl _ _).alloc (Nat.le_refl _) _)
          clear hx hxl hkl hxb hin HG hk hbad
          go_wp2_with (go_at_call 55; refine cC.mono ?_; rintro e w' ⟨rfl, rfl⟩)
          go_ret
          exact ⟨_, rfl, by rw [HBAD.out]; exact decide_eq_true (by omega), HB.out⟩
        · have hd := (decode_high s k hlt (by rw [← hx]; omega)).1
          have hrb : (Utf8.decode s k).1 < 2147483648 := Nat.lt_of_le_of_lt (Lib.rune_le s k) (by decide)
          obtain ⟨r, hr⟩ : ∃ r, (Utf8.decode s k).1 = r := ⟨_, rfl⟩
          have hnx : ∀ ty, (Instr.next (.pointer (some ⟨w.heap.size, 0, none⟩)) true ty).run Tryd.prog (w.iter s k) = _ := fun ty => Lib.run_next_any_at (w.iter s k) w.heap.size s k ty (World.iter_heap w s k) hlt
          rw [hr] at hnx hd hrb
          have HB : Hid (Below w.heap.size w ((w.iter s k).iterAt w.heap.size s (k + (Utf8.decode s k).2))) := Lib.hid (Lib.below_iterAt (((Below.refl w.heap.size w).alloc (Nat.le_refl _) _ : Below w.heap.size w (w.iter s k))) (Nat.le_refl w.heap.size) s (k + (Utf8.decode s k).2))
          obtain ⟨W2, hW2⟩ : ∃ W2, (w.iter s k).iterAt w.heap.size s (k + (Utf8.decode s k).2) = W2 := ⟨_, rfl⟩
          rw [hW2] at hnx HB
          have cC := HC.out W2 HB.out r hrb true (by rw [decide_eq_true (show b < r by omega)]; simp)
          clear hx hxl hkl hxb hin HG hk hbad hasc hd hrb hr hW2
          go_wp2_with (go_at_call 55; refine cC.mono ?_; rintro e w' ⟨rfl, rfl⟩)
          go_ret
          exact ⟨_, rfl, by rw [HBAD.out]; exact decide_eq_true (by omega), HB.out⟩
    · have hks : k = s.size := by omega
      have hnx := fun ty => run_next_end (P := Tryd.prog) w s k ty hlt
      have HGOOD : Hid (btwL a b s.data.toList = true) := Lib.hid (btwL_good fun j hj => HG.out j hj (by rw [HSZ.out] at hj; omega))
      have HB : Hid (Below w.heap.size w (w.iter s k)) := Lib.hid ((Below.refl _ _).alloc (Nat.le_refl _) _)
      clear HG hk
      subst hks
      go_wp2
      go_ret
      exact ⟨_, rfl, by rw [HGOOD.out]; decide, HB.out⟩
theorem between_calls (s : ByteArray) (a b : Nat) (ha : a < 128) (hb : b < 128) (w : World) :
    Calls Tryd.prog 49 #[.string s, .int .u8 (a : Int), .int .u8 (b : Int)] w fun e w' => e = .returned (.bool (btwL a b s.data.toList)) ∧ Below w.heap.size w w' := by
  have HI : Hid (∀ (gA gB : Nat) (W : World), W.cell? ⟨gA, 0, none⟩ = some (.int .u8 (a : Int)) → W.cell? ⟨gB, 0, none⟩ = some (.int .u8 (b : Int)) → Calls Tryd.prog 54 #[.string s, .func (.func 55) #[] #[.pointer (some ⟨gA, 0, none⟩), .pointer (some ⟨gB, 0, none⟩)]] W fun e w' => e = .returned (.bool (!btwL a b s.data.toList)) ∧ Below W.heap.size W w') := by
    refine Lib.hid fun gA gB W hA hB => ?_
    have h1 : Calls Tryd.prog 64 #[.string s, .func (.func 55) #[] #[.pointer (some ⟨gA, 0, none⟩), .pointer (some ⟨gB, 0, none⟩)]] W fun e w' => ∃ I : Int, e = .returned (.int .i64 I) ∧ decide (0 ≤ I) = !btwL a b s.data.toList ∧ Below W.heap.size W w' := by
      have h2 := Lib.hid (indexOut_calls s a b ha hb gA gB W hA hB)
      clear hA hB ha hb
      go_enter Tryd.func64, Tryd.ntmps64
      go_wp2_with (go_at_call 70; refine h2.out.mono ?_; rintro e w' ⟨I, rfl, hI, hb⟩; have HI := Lib.hid hI; clear hI)
      go_ret
      exact ⟨I, rfl, HI.out, hb⟩
    have h2 := Lib.hid h1
    clear h1 hA hB ha hb
    go_enter Tryd.func54, Tryd.ntmps54
    go_wp2_with (go_at_call 64; refine h2.out.mono ?_; rintro e w' ⟨I, rfl, hI, hb⟩; have HI := Lib.hid hI; clear hI)
    go_ret
    exact ⟨retBo HI.out, hb⟩
  obtain ⟨t, ht⟩ : ∃ t, btwL a b s.data.toList = t := ⟨_, rfl⟩
  rw [ht] at HI ⊢
  clear ht
  have HO := Mine.start w
  clear ha hb
  go_enter Tryd.func49, Tryd.ntmps49
  go_wp2_with (first
      | (go_at_call 54; refine (HI.out gA gB _ (HO.cell1 (.head _)) (HO.cell1 (.tail _ (.head _)))).mono ?_; rintro eN wN ⟨rfl, hbN⟩; have HON := HO.call hbN; clear HO hbN; have HO := HON; clear HON)
      | ((with_reducible refine gate ?_); (first
      | ((with_reducible refine gateAt (N := 4) rfl ?_); refine own_box (T := 5) HO rfl rfl rfl ?_; clear HO; intro gA wN hggA HO; (simp only [List.nil_append, List.cons_append] at HO); (try simp only [Act.put, List.setIfInBounds_toArray, List.set_cons_zero, List.set_cons_succ]))
      | ((with_reducible refine gateAt (N := 5) rfl ?_); refine own_box (T := 5) HO rfl rfl rfl ?_; clear HO; intro gB wN hggB HO; (simp only [List.nil_append, List.cons_append] at HO); (try simp only [Act.put, List.setIfInBounds_toArray, List.set_cons_zero, List.set_cons_succ]))
      | ((refine own_box HO rfl rfl rfl ?_); clear HO; intro gN wN hgN HO; (simp only [List.nil_append, List.cons_append] at HO); (try simp only [Act.put, List.setIfInBounds_toArray, List.set_cons_zero, List.set_cons_succ])))))
  go_ret
  exact ⟨rfl, HO.below⟩
end Go.Proofs.YtcglbfpmcpammaaDoor
end
section
namespace Go.Proofs.YtcglbfpmcpammaaDoor
set_option linter.unusedVariables false
set_option linter.unusedSimpArgs false
open Go.RowKit Kit Go.Proofs.YtcglbfpmcpammaaDoorW.PrintWords
theorem Kit.rows_get {T : Nat} {w : World} {A : Option Addr} {n : Nat} {xs : List (List Int)} (h : (Kd.slice T (Kd.int .i64)).C w A n xs) {k : Nat} (hk : k < n) :
    ∃ b o A' c', A = some ⟨b, o, none⟩ ∧ w.cell? ⟨b, o + k, none⟩ = some (.slice A' (xs.getD k []).length c') ∧ (xs.getD k []).length ≤ c' ∧ (Kd.int .i64).C w A' (xs.getD k []).length (xs.getD k []) := by
  obtain ⟨ad, c, rfl, hc, hK, hcell⟩ := Kd.C_get h [] (k : Int) (by omega) (by omega)
  obtain ⟨A', c', rfl, hl, hr⟩ := hK
  have h1 := hcell 0 _ rfl
  have e : ((k : Int).toNat * (Kd.slice T (Kd.int .i64)).sz + 0) = k := by
    show (k : Int).toNat * 1 + 0 = k
    omega
  rw [e] at h1
  simp only [Int.toNat_natCast] at h1 hl hr
  have hs : ad.spot = none := by
    obtain ⟨ad', c2, e2, _, ⟨A2, c3, rfl, _, _⟩, hcell2⟩ := Kd.C_get h [] 0 (by omega) (by omega)
    cases e2
    have h3 := spot_of_cell (hcell2 0 _ rfl)
    simpa [Addr.add] using h3
  obtain ⟨b, oo, rfl, h2⟩ := add_at h1 hs
  exact ⟨b, oo, A', c', rfl, h2, hl, hr⟩
theorem Kit.int_get {w : World} {A : Option Addr} {n : Nat} {xs : List Int} (h : (Kd.int .i64).C w A n xs) {k : Nat} (hk : k < n) :
    ∃ b o, A = some ⟨b, o, none⟩ ∧ w.cell? ⟨b, o + k, none⟩ = some (.int .i64 (xs.getD k 0)) := by
  have hl : xs.length = n := h.1
  obtain ⟨b, o, h1, h2⟩ := (reads_ints h).int (k := k) (by omega)
  exact ⟨b, o, h1, by rw [h2, List.getD_eq_getElem?_getD]⟩
theorem equalI_calls (A B : Option Addr) (c d : Nat) (xs ys : List Int) (w : World) (hA : (Kd.int .i64).C w A xs.length xs) (hB : (Kd.int .i64).C w B ys.length ys) :
    Calls Tryd.prog 56 #[.slice A xs.length c, .slice B ys.length d] w fun e w' => e = .returned (.bool (decide (xs = ys))) ∧ Below w.heap.size w w' := by
  have hm1 := Kd.C_max hA
  have hm2 := Kd.C_max hB
  by_cases h : xs.length = ys.length
  · by_cases h0 : xs.length = 0
    · have e1 : xs = [] := List.length_eq_zero_iff.1 h0
      have e2 : ys = [] := List.length_eq_zero_iff.1 (by omega)
      subst e1; subst e2
      exact (Tryd.slices_Equal_int_empty A B c 0 d w (by omega)).mono fun e w' ⟨h1, h2⟩ => ⟨by rw [h1]; rfl, by rw [h2]; exact Below.refl _ _⟩
    · obtain ⟨b1, o1, rfl, _⟩ := int_get hA (k := 0) (by omega)
      obtain ⟨b2, o2, rfl, _⟩ := int_get hB (k := 0) (by omega)
      refine (Tryd.slices_Equal_int b1 o1 xs.length c b2 o2 ys.length d xs ys w (Nat.le_refl _) (Nat.le_refl _) hm1 hm2 (fun j hj => ?_) (fun j hj => ?_)).mono fun e w' ⟨h1, q, h2⟩ => ⟨?_, ?_⟩
      · obtain ⟨b, oo, e, hc⟩ := int_get hA (k := j) hj
        cases e
        exact hc
      · obtain ⟨b, oo, e, hc⟩ := int_get hB (k := j) hj
        cases e
        exact hc
      · rw [h1, List.take_length, List.take_length]
        exact retBo (by rw [Bool.eq_iff_iff]; simp)
      · rw [h2]
        exact pw_below_drewN (Below.refl _ _) q
  · refine (Tryd.slices_Equal_int_lens A B xs.length c ys.length d w h).mono fun e w' ⟨h1, h2⟩ => ⟨?_, by rw [h2]; exact Below.refl _ _⟩
    rw [h1]
    exact retBo (decide_eq_false fun e => h (by rw [e])).symm
def partB (n : Int) : Bool := decide (-1 ≤ n) && decide (n ≤ 1114111)
def paramB (p : List Int) : Bool := p.all partB && (decide (1 ≤ p.length) && decide (p.length ≤ 8))
def listedB (l : List (List Int)) : Bool := !(decide (16 < l.length) || decide (l = [[-1]])) && l.all paramB
theorem all_at {α : Type} {p : α → Bool} {l : List α} (z : α) (h : ∀ j, j < l.length → p (l.getD j z) = true) : l.all p = true := by
  refine List.all_eq_true.2 fun c hc => ?_
  obtain ⟨j, hj, rfl⟩ := List.mem_iff_getElem.1 hc
  have := h j hj
  simpa [List.getD, hj] using this
theorem not_all {α : Type} {p : α → Bool} {l : List α} {z : α} {j : Nat} (hj : j < l.length) (h : p (l.getD j z) = false) : l.all p = false := by
  rw [Bool.eq_false_iff]
  intro e
  have := List.all_eq_true.1 e (l.getD j z) (by simp [List.getD, hj])
  rw [h] at this
  cases this
attribute [local irreducible] wpList Calls wpQuiet
theorem oddPart_calls (n : Int) (w : World) (t : Bool) (ht : (!partB n) = t) : Calls Tryd.prog 58 #[.int .i64 n] w fun e w' => e = .returned (.bool t) ∧ w' = w := by
  have HT := Lib.hid ht
  clear ht
  by_cases h1 : n < -1
  · have b1 : decide (n < -1) = true := decide_eq_true h1
    have hte : t = true := by rw [← HT.out]; simp [partB]; omega
    subst hte
    clear h1
    go_enter Tryd.func58, Tryd.ntmps58
    go_wp2
    go_ret
    exact ⟨rfl, rfl⟩
  · have b1 : decide (n < -1) = false := decide_eq_false h1
    by_cases h2 : 1114111 < n
    · have b2 : decide (1114111 < n) = true := decide_eq_true h2
      have hte : t = true := by rw [← HT.out]; simp [partB]; omega
      subst hte
      clear h1 h2
      go_enter Tryd.func58, Tryd.ntmps58
      go_wp2
      go_ret
      exact ⟨rfl, rfl⟩
    · have b2 : decide (1114111 < n) = false := decide_eq_false h2
      have hte : t = false := by rw [← HT.out]; simp [partB]; omega
      subst hte
      clear h1 h2
      go_enter Tryd.func58, Tryd.ntmps58
      go_wp2
      go_ret
      exact ⟨rfl, rfl⟩
theorem oddAt_calls (A : Option Addr) (c : Nat) (p : List Int) (w : World) (hC : (Kd.int .i64).C w A p.length p) (t : Bool) (ht : (!p.all partB) = t) :
    Calls Tryd.prog 57 #[.slice A p.length c, .func (.func 58) #[] #[]] w fun e w' => e = .returned (.bool t) ∧ w' = w := by
  have hI : Calls Tryd.prog 65 #[.slice A p.length c, .func (.func 58) #[] #[]] w fun e w' => ∃ I : Int, e = .returned (.int .i64 I) ∧ decide (0 ≤ I) = t ∧ w' = w := by
    have hm := Kd.C_max hC
    obtain ⟨n, hn⟩ : ∃ n, p.length = n := ⟨_, rfl⟩
    rw [hn] at hm ⊢
    have HN := Lib.hid hn
    have HC := Lib.hid hC
    have HT := Lib.hid ht
    clear hn hC ht
    go_enter Tryd.func65, Tryd.ntmps65
    go_wp2
    go_loop [8] (fun i => ∃ k : Nat, k ≤ n ∧ i = .int .i64 k ∧ Hid (∀ j, j < k → partB (p.getD j 0) = true)) (fun i => n - (intOf i).toNat)
    case atStart => exact ⟨0, Nat.zero_le _, rfl, Lib.hid (fun j hj => by omega)⟩
    case round =>
      obtain ⟨k, hk, rfl, HG⟩ := hrel
      by_cases hlt : k < n
      · obtain ⟨b, oo, rfl, hcell⟩ := int_get HC.out (k := k) (by rw [HN.out]; exact hlt)
        obtain ⟨z, hz⟩ : ∃ z, p.getD k 0 = z := ⟨_, rfl⟩
        rw [hz] at hcell
        have HZ := Lib.hid hz
        have hb1 : decide ((k : Int) < (n : Int)) = true := decide_eq_true (by omega)
        clear hz
        cases hp : partB z
        · have cC := oddPart_calls z w true (by rw [hp]; rfl)
          have HR : Hid (t = true) := Lib.hid (by rw [← HT.out, not_all (z := 0) (j := k) (by rw [HN.out]; exact hlt) (by rw [HZ.out]; exact hp)]; rfl)
          clear hp HG hk
          go_wp2_with (go_at_call 58; refine cC.mono ?_; rintro e w' ⟨rfl, rfl⟩)
          go_ret
          exact ⟨_, rfl, by rw [HR.out]; exact decide_eq_true (by omega), rfl⟩
        · have cC := oddPart_calls z w false (by rw [hp]; rfl)
          have HG2 : Hid (∀ j, j < k + 1 → partB (p.getD j 0) = true) := Lib.hid fun j hj => by
            by_cases e : j = k
            · subst e; rw [HZ.out]; exact hp
            · exact HG.out j (by omega)
          clear hp HG
          go_wp2_with (go_at_call 58; refine cC.mono ?_; rintro e w' ⟨rfl, rfl⟩)
          go_round
          case rel => exact ⟨k + 1, by omega, by go_num, HG2⟩
          case measure => simp [intOf]; omega
      · have hb1 : decide ((k : Int) < (n : Int)) = false := decide_eq_false (by omega)
        have HR : Hid (t = false) := Lib.hid (by rw [← HT.out, all_at (0 : Int) fun j hj => HG.out j (by rw [HN.out] at hj; omega)]; rfl)
        clear HG hk
        go_wp2
        go_ret
        exact ⟨_, rfl, by rw [HR.out]; decide, rfl⟩
  have h2 := Lib.hid hI
  clear hI hC ht
  go_enter Tryd.func57, Tryd.ntmps57
  go_wp2_with (go_at_call 65; refine h2.out.mono ?_; rintro e w' ⟨I, rfl, hI, rfl⟩; have HI := Lib.hid hI; clear hI)
  go_ret
  exact ⟨retBo HI.out, rfl⟩
set_option maxRecDepth 100000 in
set_option maxHeartbeats 4000000 in
theorem listed_many (A : Option Addr) (c : Nat) (l : List (List Int)) (w : World) (hC : (Kd.slice 3 (Kd.int .i64)).C w A l.length l) (hq : 16 < l.length) :
    Calls Tryd.prog 50 #[.slice A l.length c] w fun e w' => e = .returned (.bool (listedB l)) ∧ Below w.heap.size w w' := by
  have hm := Kd.C_max hC
  have HO := Mine.start w
  obtain ⟨n, hn⟩ : ∃ n, l.length = n := ⟨_, rfl⟩
  rw [hn] at hm hq ⊢
  have HN := Lib.hid hn
  have HC := Lib.hid hC
  clear hn hC
  have b1 : decide ((16 : Int) < (n : Int)) = true := decide_eq_true (by omega)
  have b2 : decide (16 < n) = true := decide_eq_true hq
  have HR : Hid (listedB l = false) := Lib.hid (by
    unfold listedB
    rw [HN.out, b2]
    rfl)
  clear hq
  go_enter Tryd.func50, Tryd.ntmps50
  go_wp2
  go_ret
  exact ⟨retBo HR.out.symm, Below.refl _ _⟩
set_option maxRecDepth 100000 in
set_option maxHeartbeats 4000000 in
theorem listed_some (A : Option Addr) (c : Nat) (l : List (List Int)) (w : World) (hC : (Kd.slice 3 (Kd.int .i64)).C w A l.length l) (hq : ¬ 16 < l.length ∧ l.length ≠ 1) :
    Calls Tryd.prog 50 #[.slice A l.length c] w fun e w' => e = .returned (.bool (listedB l)) ∧ Below w.heap.size w w' := by
  have hm := Kd.C_max hC
  have HO := Mine.start w
  obtain ⟨n, hn⟩ : ∃ n, l.length = n := ⟨_, rfl⟩
  rw [hn] at hm hq ⊢
  have HN := Lib.hid hn
  have HC := Lib.hid hC
  clear hn hC
  obtain ⟨hq, hq1⟩ := hq
  have b1 : decide ((16 : Int) < (n : Int)) = false := decide_eq_false (by omega)
  have b2 : decide (16 < n) = false := decide_eq_false hq
  have e1 : ((n : Int) == 1) = false := beq_eq_false_iff_ne.2 (by omega)
  have e2 : (n == 1) = false := beq_eq_false_iff_ne.2 hq1
  have HX : Hid ((decide (16 < l.length) || decide (l = [[-1]])) = false) := Lib.hid (by
    rw [HN.out, b2, decide_eq_false (fun e => hq1 (by rw [← HN.out, e]; rfl))]
    rfl)
  clear hq hq1
  go_enter Tryd.func50, Tryd.ntmps50
  go_wp2
  go_loopw [23] (fun i wr => ∃ k : Nat, k ≤ n ∧ i = .int .i64 k ∧ Below w.heap.size w wr ∧ Hid (∀ j, j < k → paramB (l.getD j []) = true)) (fun i _ => n - (intOf i).toNat)
  case atStart => exact ⟨0, Nat.zero_le _, rfl, HO.below, Lib.hid (fun j hj => by omega)⟩
  case round =>
    obtain ⟨k, hk, rfl, hbw, HG⟩ := hrel
    by_cases hlt : k < n
    · obtain ⟨b, oo, A', c', hAA, hcell, _, hrow⟩ := rows_get (Kd.C_below HC.out hbw) (k := k) (by rw [HN.out]; exact hlt)
      cases hAA
      obtain ⟨p, hp⟩ : ∃ p, l.getD k [] = p := ⟨_, rfl⟩
      rw [hp] at hcell hrow
      have HP := Lib.hid hp
      have hb1 : decide ((k : Int) < (n : Int)) = true := decide_eq_true (by omega)
      obtain ⟨m, hm⟩ : ∃ m, p.length = m := ⟨_, rfl⟩
      rw [hm] at hcell hrow
      have hmm := Kd.C_max hrow
      have HKL : Hid (k < l.length) := Lib.hid (by rw [HN.out]; exact hlt)
      have HK := Lib.hid hk
      clear hp
      cases ha : p.all partB
      · have HR : Hid (listedB l = false) := Lib.hid (by
          unfold listedB
          rw [not_all (z := []) HKL.out (by rw [HP.out]; unfold paramB; rw [ha]; rfl), Bool.and_false])
        have cC := fun W hW => oddAt_calls A' c' p W (by rw [hm]; exact Kd.C_below hrow hW) true (by rw [ha]; rfl)
        rw [hm] at cC
        have HCC := Lib.hid cC
        have HB := Lib.hid hbw
        clear ha hm hrow cC HG hk
        go_wp2_with (go_at_call 57; refine (HCC.out _ (Below.refl _ _)).mono ?_; rintro e w' ⟨rfl, rfl⟩)
        go_ret
        exact ⟨retBo HR.out.symm, HB.out⟩
      · have cC := fun W hW => oddAt_calls A' c' p W (by rw [hm]; exact Kd.C_below hrow hW) false (by rw [ha]; rfl)
        rw [hm] at cC
        have HCC := Lib.hid cC
        have HB := Lib.hid hbw
        have HM := Lib.hid hm
        have HA := Lib.hid ha
        clear ha hm hrow cC
        by_cases h1 : m < 1
        · have b1 : decide ((m : Int) < 1) = true := decide_eq_true (by omega)
          have b2 : decide (m < 1) = true := decide_eq_true h1
          have HR : Hid (listedB l = false) := Lib.hid (by
            unfold listedB
            rw [not_all (z := []) HKL.out (by rw [HP.out]; unfold paramB; rw [HM.out, decide_eq_false (show ¬ 1 ≤ m by omega)]; simp), Bool.and_false])
          clear HG hk h1
          go_wp2_with (go_at_call 57; refine (HCC.out _ (Below.refl _ _)).mono ?_; rintro e w' ⟨rfl, rfl⟩)
          go_ret
          exact ⟨retBo HR.out.symm, HB.out⟩
        · have b1 : decide ((m : Int) < 1) = false := decide_eq_false (by omega)
          have b2 : decide (m < 1) = false := decide_eq_false h1
          by_cases h8 : 8 < m
          · have b3 : decide ((8 : Int) < (m : Int)) = true := decide_eq_true (by omega)
            have b4 : decide (8 < m) = true := decide_eq_true h8
            have HR : Hid (listedB l = false) := Lib.hid (by
              unfold listedB
              rw [not_all (z := []) HKL.out (by rw [HP.out]; unfold paramB; rw [HM.out, decide_eq_false (show ¬ m ≤ 8 by omega)]; simp), Bool.and_false])
            clear HG hk h1 h8
            go_wp2_with (go_at_call 57; refine (HCC.out _ (Below.refl _ _)).mono ?_; rintro e w' ⟨rfl, rfl⟩)
            go_ret
            exact ⟨retBo HR.out.symm, HB.out⟩
          · have b3 : decide ((8 : Int) < (m : Int)) = false := decide_eq_false (by omega)
            have b4 : decide (8 < m) = false := decide_eq_false h8
            have HG2 : Hid (∀ j, j < k + 1 → paramB (l.getD j []) = true) := Lib.hid fun j hj => by
              by_cases e : j = k
              · subst e
                rw [HP.out]
                unfold paramB
                rw [HA.out, HM.out, decide_eq_true (show 1 ≤ m by omega), decide_eq_true (show m ≤ 8 by omega)]
                rfl
              · exact HG.out j (by omega)
            clear HG h1 h8
            go_wp2_with (go_at_call 57; refine (HCC.out _ (Below.refl _ _)).mono ?_; rintro e w' ⟨rfl, rfl⟩)
            go_roundw
            case rel => exact ⟨k + 1, by omega, by go_num, HB.out, HG2⟩
            case measure => simp [intOf]; omega
    · have hb1 : decide ((k : Int) < (n : Int)) = false := decide_eq_false (by omega)
      have HR : Hid (listedB l = true) := Lib.hid (by
        unfold listedB
        rw [HX.out, all_at ([] : List Int) fun j hj => HG.out j (by rw [HN.out] at hj; omega)]
        rfl)
      have HB := Lib.hid hbw
      clear HG hk hbw
      go_wp2
      go_ret
      exact ⟨retBo HR.out.symm, HB.out⟩
set_option maxRecDepth 100000 in
set_option maxHeartbeats 4000000 in
theorem listed_one (A : Option Addr) (c : Nat) (l : List (List Int)) (w : World) (hC : (Kd.slice 3 (Kd.int .i64)).C w A l.length l) (hq : l.length = 1) :
    Calls Tryd.prog 50 #[.slice A l.length c] w fun e w' => e = .returned (.bool (listedB l)) ∧ Below w.heap.size w w' := by
  have hm := Kd.C_max hC
  have HO := Mine.start w
  obtain ⟨n, hn⟩ : ∃ n, l.length = n := ⟨_, rfl⟩
  rw [hn] at hm hq ⊢
  have HN := Lib.hid hn
  have HC := Lib.hid hC
  clear hn hC
  have HQ := Lib.hid hq
  obtain ⟨b, oo, A', c', rfl, hcell, _, hrow⟩ := rows_get HC.out (k := 0) (by rw [HN.out]; omega)
  obtain ⟨p, hp⟩ : ∃ p, l.getD 0 [] = p := ⟨_, rfl⟩
  rw [hp] at hcell hrow
  have hl1 : l = [p] := by
    have := HN.out.trans hq
    match l, this with
    | [x], _ => rw [← hp]; rfl
  have HL1 := Lib.hid hl1
  obtain ⟨m, hm2⟩ : ∃ m, p.length = m := ⟨_, rfl⟩
  have hcell2 : w.cell? ⟨b, oo, none⟩ = some (.slice A' m c') := by rw [hm2] at hcell; simpa using hcell
  obtain ⟨t, ht⟩ : ∃ t, decide (p = [-1]) = t := ⟨_, rfl⟩
  have HE : Hid (∀ (g : Nat) (W : World), Below w.heap.size w W → W.heap[g]? = some (.cells [Value.int .i64 (-1)].toArray 3 (0, 0)) → Calls Tryd.prog 56 #[.slice A' m c', .slice (some ⟨g, 0, none⟩) 1 1] W fun e w' => e = .returned (.bool t) ∧ Below W.heap.size W w') :=
    Lib.hid fun g W hW hg => by
      have h := equalI_calls A' (some ⟨g, 0, none⟩) c' 1 p [-1] W (Kd.C_below hrow hW) (lit_ints (xs := [-1]) hg (by decide))
      rw [hm2, ht] at h
      exact h
  have HT := Lib.hid ht
  have hblt : b < w.heap.size := World.block_lt_of_cell? w _ hcell2
  have HRD : Hid (∀ W : World, Below w.heap.size w W → W.cell? ⟨b, oo, none⟩ = some (.slice A' m c')) := Lib.hid fun W hW => (hW.cell (p := ⟨b, oo, none⟩) hblt).trans hcell2
  have b1 : decide ((16 : Int) < (n : Int)) = false := decide_eq_false (by omega)
  have b2 : decide (16 < n) = false := decide_eq_false (by omega)
  have e1 : ((n : Int) == 1) = true := beq_iff_eq.2 (by omega)
  have e2 : (n == 1) = true := beq_iff_eq.2 hq
  have e3 : decide ((0 : Int) < (n : Int)) = true := decide_eq_true (by omega)
  have e4 : 0 < n := by omega
  clear hp hl1 hm2 ht hcell hrow hblt hq
  cases t
  · have HX : Hid ((decide (16 < l.length) || decide (l = [[-1]])) = false) := Lib.hid (by
      have h := of_decide_eq_false HT.out
      rw [HN.out, b2, decide_eq_false (fun e => h (by rw [HL1.out] at e; injection e))]
      rfl)
    go_enter Tryd.func50, Tryd.ntmps50
    go_wp2_with (first
      | (go_at_call 56; refine (HE.out gQ _ HO.below (HO.at (.head _))).mono ?_; rintro eN wN ⟨rfl, hbN⟩; have HON := HO.call hbN; clear HO hbN; have HO := HON; clear HON)
      | ((with_reducible refine gate ?_); (first
      | ((with_reducible refine gateAt (N := 17) rfl ?_); refine own_lit HO rfl (n := 1) (cs := [.int .i64 (-1)]) (T := 3) (by first | (go_simp; done) | (go_simp; rfl)) ?_; clear HO; intro gQ wN hggQ HO; (simp only [List.nil_append, List.cons_append] at HO); (try simp only [Act.put, List.setIfInBounds_toArray, List.set_cons_zero, List.set_cons_succ]))
      | ((refine own_box HO rfl rfl rfl ?_); clear HO; intro gN wN hgN HO; (simp only [List.nil_append, List.cons_append] at HO); (try simp only [Act.put, List.setIfInBounds_toArray, List.set_cons_zero, List.set_cons_succ])))))
    go_loopw [23] (fun i wr => ∃ k : Nat, k ≤ n ∧ i = .int .i64 k ∧ Below w.heap.size w wr ∧ Hid (∀ j, j < k → paramB (l.getD j []) = true)) (fun i _ => n - (intOf i).toNat)
    case atStart => exact ⟨0, Nat.zero_le _, rfl, HO.below, Lib.hid (fun j hj => by omega)⟩
    case round =>
      obtain ⟨k, hk, rfl, hbw, HG⟩ := hrel
      by_cases hlt : k < n
      · obtain ⟨b, oo, A', c', hAA, hcell, _, hrow⟩ := rows_get (Kd.C_below HC.out hbw) (k := k) (by rw [HN.out]; exact hlt)
        cases hAA
        obtain ⟨p, hp⟩ : ∃ p, l.getD k [] = p := ⟨_, rfl⟩
        rw [hp] at hcell hrow
        have HP := Lib.hid hp
        have hb1 : decide ((k : Int) < (n : Int)) = true := decide_eq_true (by omega)
        obtain ⟨m, hm⟩ : ∃ m, p.length = m := ⟨_, rfl⟩
        rw [hm] at hcell hrow
        have hmm := Kd.C_max hrow
        have HKL : Hid (k < l.length) := Lib.hid (by rw [HN.out]; exact hlt)
        have HK := Lib.hid hk
        clear hp
        cases ha : p.all partB
        · have HR : Hid (listedB l = false) := Lib.hid (by
            unfold listedB
            rw [not_all (z := []) HKL.out (by rw [HP.out]; unfold paramB; rw [ha]; rfl), Bool.and_false])
          have cC := fun W hW => oddAt_calls A' c' p W (by rw [hm]; exact Kd.C_below hrow hW) true (by rw [ha]; rfl)
          rw [hm] at cC
          have HCC := Lib.hid cC
          have HB := Lib.hid hbw
          clear ha hm hrow cC HG hk
          go_wp2_with (go_at_call 57; refine (HCC.out _ (Below.refl _ _)).mono ?_; rintro e w' ⟨rfl, rfl⟩)
          go_ret
          exact ⟨retBo HR.out.symm, HB.out⟩
        · have cC := fun W hW => oddAt_calls A' c' p W (by rw [hm]; exact Kd.C_below hrow hW) false (by rw [ha]; rfl)
          rw [hm] at cC
          have HCC := Lib.hid cC
          have HB := Lib.hid hbw
          have HM := Lib.hid hm
          have HA := Lib.hid ha
          clear ha hm hrow cC
          by_cases h1 : m < 1
          · have b1 : decide ((m : Int) < 1) = true := decide_eq_true (by omega)
            have b2 : decide (m < 1) = true := decide_eq_true h1
            have HR : Hid (listedB l = false) := Lib.hid (by
              unfold listedB
              rw [not_all (z := []) HKL.out (by rw [HP.out]; unfold paramB; rw [HM.out, decide_eq_false (show ¬ 1 ≤ m by omega)]; simp), Bool.and_false])
            clear HG hk h1
            go_wp2_with (go_at_call 57; refine (HCC.out _ (Below.refl _ _)).mono ?_; rintro e w' ⟨rfl, rfl⟩)
            go_ret
            exact ⟨retBo HR.out.symm, HB.out⟩
          · have b1 : decide ((m : Int) < 1) = false := decide_eq_false (by omega)
            have b2 : decide (m < 1) = false := decide_eq_false h1
            by_cases h8 : 8 < m
            · have b3 : decide ((8 : Int) < (m : Int)) = true := decide_eq_true (by omega)
              have b4 : decide (8 < m) = true := decide_eq_true h8
              have HR : Hid (listedB l = false) := Lib.hid (by
                unfold listedB
                rw [not_all (z := []) HKL.out (by rw [HP.out]; unfold paramB; rw [HM.out, decide_eq_false (show ¬ m ≤ 8 by omega)]; simp), Bool.and_false])
              clear HG hk h1 h8
              go_wp2_with (go_at_call 57; refine (HCC.out _ (Below.refl _ _)).mono ?_; rintro e w' ⟨rfl, rfl⟩)
              go_ret
              exact ⟨retBo HR.out.symm, HB.out⟩
            · have b3 : decide ((8 : Int) < (m : Int)) = false := decide_eq_false (by omega)
              have b4 : decide (8 < m) = false := decide_eq_false h8
              have HG2 : Hid (∀ j, j < k + 1 → paramB (l.getD j []) = true) := Lib.hid fun j hj => by
                by_cases e : j = k
                · subst e
                  rw [HP.out]
                  unfold paramB
                  rw [HA.out, HM.out, decide_eq_true (show 1 ≤ m by omega), decide_eq_true (show m ≤ 8 by omega)]
                  rfl
                · exact HG.out j (by omega)
              clear HG h1 h8
              go_wp2_with (go_at_call 57; refine (HCC.out _ (Below.refl _ _)).mono ?_; rintro e w' ⟨rfl, rfl⟩)
              go_roundw
              case rel => exact ⟨k + 1, by omega, by go_num, HB.out, HG2⟩
              case measure => simp [intOf]; omega
      · have hb1 : decide ((k : Int) < (n : Int)) = false := decide_eq_false (by omega)
        have HR : Hid (listedB l = true) := Lib.hid (by
          unfold listedB
          rw [HX.out, all_at ([] : List Int) fun j hj => HG.out j (by rw [HN.out] at hj; omega)]
          rfl)
        have HB := Lib.hid hbw
        clear HG hk hbw
        go_wp2
        go_ret
        exact ⟨retBo HR.out.symm, HB.out⟩
  · have HR : Hid (listedB l = false) := Lib.hid (by
      have h := of_decide_eq_true HT.out
      unfold listedB
      rw [HL1.out, h]
      simp)
    go_enter Tryd.func50, Tryd.ntmps50
    go_wp2_with (first
      | (go_at_call 56; refine (HE.out gQ _ HO.below (HO.at (.head _))).mono ?_; rintro eN wN ⟨rfl, hbN⟩; have HON := HO.call hbN; clear HO hbN; have HO := HON; clear HON)
      | ((with_reducible refine gate ?_); (first
      | ((with_reducible refine gateAt (N := 17) rfl ?_); refine own_lit HO rfl (n := 1) (cs := [.int .i64 (-1)]) (T := 3) (by first | (go_simp; done) | (go_simp; rfl)) ?_; clear HO; intro gQ wN hggQ HO; (simp only [List.nil_append, List.cons_append] at HO); (try simp only [Act.put, List.setIfInBounds_toArray, List.set_cons_zero, List.set_cons_succ]))
      | ((refine own_box HO rfl rfl rfl ?_); clear HO; intro gN wN hgN HO; (simp only [List.nil_append, List.cons_append] at HO); (try simp only [Act.put, List.setIfInBounds_toArray, List.set_cons_zero, List.set_cons_succ])))))
    go_ret
    exact ⟨retBo HR.out.symm, HO.below⟩
theorem listed_calls (A : Option Addr) (c : Nat) (l : List (List Int)) (w : World) (hC : (Kd.slice 3 (Kd.int .i64)).C w A l.length l) :
    Calls Tryd.prog 50 #[.slice A l.length c] w fun e w' => e = .returned (.bool (listedB l)) ∧ Below w.heap.size w w' := by
  by_cases h : 16 < l.length
  · exact listed_many A c l w hC h
  · by_cases h1 : l.length = 1
    · exact listed_one A c l w hC h1
    · exact listed_some A c l w hC ⟨h, h1⟩
end Go.Proofs.YtcglbfpmcpammaaDoor
end
section
namespace Go.Proofs.YtcglbfpmcpammaaDoor.G
open Go.RowKit Go.Proofs.YtcglbfpmcpammaaDoorW.PrintWords Go.Proofs.YtcglbfpmcpammaaDoorW.PrintLast Go.Proofs.YtcglbfpmcpammaaDoorW.PrintMore
attribute [local go_sem] max2_int min2_int max_two min_two max_three min_three max_four min_four
set_option linter.unusedVariables false
set_option linter.unusedSimpArgs false
def errW : Option Int → Value
  | none => .nilIface
  | some c => .iface 0 (.int .i64 c)
theorem errW_none : errW none = .nilIface := rfl
theorem errW_some (c : Int) : errW (some c) = .iface 0 (.int .i64 c) := rfl
theorem info5 : (Tryd.prog.info? 5).map (fun i => (i.zero, i.size, i.bytes)) = some (some (.int .u8 0), 1, 1) := by kernel_rfl
theorem info9 : (Tryd.prog.info? 9).map (fun i => (i.zero, i.size, i.bytes)) = some (some (.string ⟨#[]⟩), 1, 16) := by kernel_rfl
theorem info35 : (Tryd.prog.info? 35).map (fun i => (i.zero, i.size, i.bytes)) = some (some (.slice none 0 0), 1, 24) := by kernel_rfl
def rd_L5 (xs : List (List Int)) (i : Int) : (List Int) := xs.getD i.toNat ([] : List Int)
theorem at_L5 {w : World} {A : Option Addr} {n : Nat} {xs : List (List Int)} (h : Kd.C (Kd.slice 3 (Kd.int .i64)) w A n xs) (i : Int) (h0 : 0 ≤ i) (h1 : i < n) : ∃ ad A0 c0, A = some ad ∧ w.cell? (ad.add i.toNat) = some (.slice A0 (rd_L5 xs i).length c0) ∧ (rd_L5 xs i).length ≤ c0 ∧ (Kd.int .i64).C w A0 (rd_L5 xs i).length (rd_L5 xs i) := by
  obtain ⟨ad, c, e, _, hK, hc0⟩ := Kd.C_get h ([] : List Int) i h0 h1
  have hc : ∀ j u, c[j]? = some u → w.cell? (ad.add (i.toNat * 1 + j)) = some u := hc0
  obtain ⟨A0, c0, rfl, l0, g0⟩ := hK
  exact ⟨ad, A0, c0, e, by have hq := hc 0 _ rfl; rwa [Nat.mul_one, Nat.add_zero] at hq, l0, g0⟩
end Go.Proofs.YtcglbfpmcpammaaDoor.G
end
section
namespace Go.Proofs.YtcglbfpmcpammaaDoor.G
open Go.RowKit Go.Proofs.YtcglbfpmcpammaaDoorW.PrintWords Go.Proofs.YtcglbfpmcpammaaDoorW.PrintLast Go.Proofs.YtcglbfpmcpammaaDoorW.PrintMore
attribute [local go_sem] max2_int min2_int max_two min_two max_three min_three max_four min_four
set_option linter.unusedVariables false
set_option linter.unusedSimpArgs false
def utf_is.f (a0 : Int) : Option (Bool) := if a0 ≥ 0 then (if a0 ≤ 1114111 then (if a0 < 55296 then (some true) else (some (decide (a0 > 57343)))) else (some false)) else (some false)
set_option maxHeartbeats 8000000 in
set_option maxRecDepth 100000 in
theorem utf_is.calls (a0 : Int) (r : Bool) (w : World) (h : utf_is.f a0 = some r) :
    Calls Tryd.prog 48 #[.int .i64 a0] w fun e w' => e = .returned (.bool r) ∧ Drawn0 w w' := by
  have H : (if a0 ≥ 0 then (if a0 ≤ 1114111 then (if a0 < 55296 then (some true) else (some (decide (a0 > 57343)))) else (some false)) else (some false)) = some r := h
  clear h
  by_cases c2 : a0 ≥ 0
  · rw [if_pos c2] at H
    have c2b0 : decide (0 ≤ a0) = true := decide_eq_true c2
    clear c2
    by_cases c3 : a0 ≤ 1114111
    · rw [if_pos c3] at H
      have c3b0 : decide (a0 ≤ 1114111) = true := decide_eq_true c3
      clear c3
      by_cases c4 : a0 < 55296
      · rw [if_pos c4] at H
        have c4b0 : decide (a0 < 55296) = true := decide_eq_true c4
        clear c4
        obtain rfl := Option.some.inj H
        go_enter Tryd.func48, Tryd.ntmps48
        go_wp2
        go_ret
        exact ⟨by first | rfl | (simp; done) | (simp [*]; done), by repeat (first | exact Drawn0.refl _ | apply Drawn0.step)⟩
      · rw [if_neg c4] at H
        have c4b0 : decide (a0 < 55296) = false := decide_eq_false c4
        clear c4
        obtain rfl := Option.some.inj H
        go_enter Tryd.func48, Tryd.ntmps48
        go_wp2
        go_ret
        exact ⟨by first | rfl | (simp; done) | (simp [*]; done), by repeat (first | exact Drawn0.refl _ | apply Drawn0.step)⟩
    · rw [if_neg c3] at H
      have c3b0 : decide (a0 ≤ 1114111) = false := decide_eq_false c3
      clear c3
      obtain rfl := Option.some.inj H
      go_enter Tryd.func48, Tryd.ntmps48
      go_wp2
      go_ret
      exact ⟨by first | rfl | (simp; done) | (simp [*]; done), by repeat (first | exact Drawn0.refl _ | apply Drawn0.step)⟩
  · rw [if_neg c2] at H
    have c2b0 : decide (0 ≤ a0) = false := decide_eq_false c2
    clear c2
    obtain rfl := Option.some.inj H
    go_enter Tryd.func48, Tryd.ntmps48
    go_wp2
    go_ret
    exact ⟨by first | rfl | (simp; done) | (simp [*]; done), by repeat (first | exact Drawn0.refl _ | apply Drawn0.step)⟩
end Go.Proofs.YtcglbfpmcpammaaDoor.G
end
section
namespace Go.Proofs.YtcglbfpmcpammaaDoor
set_option linter.unusedVariables false
set_option linter.unusedSimpArgs false
open Go.RowKit Kit G
def isU (x : Int) : Bool := decide (0 ≤ x) && decide (x ≤ 1114111) && (decide (x < 55296) || decide (57343 < x))
theorem i64_and63 (x : Nat) (h : x < 2 ^ 62) : bits .and .i64 (x : Int) 63 = ((x % 64 : Nat) : Int) := by
  have h1 := bits_mask .i64 62 (by decide) (fun n h0 h1 => by rw [IntKind.wrap_i64]; omega) 6 (by decide) (x : Int) (by omega) (by exact_mod_cast h)
  have h2 : ((2 : Int) ^ 6 - 1) = 63 := by decide
  rw [h2] at h1
  rw [h1]
  have h3 : (2 : Int) ^ 6 = 64 := by decide
  rw [h3]
  omega
theorem isU_calls (x : Int) (w : World) : Calls Tryd.prog 48 #[.int .i64 x] w fun e w' => e = .returned (.bool (isU x)) ∧ Below w.heap.size w w' := by
  refine (utf_is.calls x (isU x) w ?_).mono fun e w' ⟨h1, h2⟩ => ⟨h1, h2.below⟩
  unfold utf_is.f isU
  by_cases h1 : x ≥ 0 <;> by_cases h2 : x ≤ 1114111 <;> by_cases h3 : x < 55296 <;> simp [h1, h2, h3]
attribute [local irreducible] wpList Calls wpQuiet
theorem own_makeF {P : Program} {ops : Array Oper} {Q : Exit → Act → World → Prop} {a : Act} {w W0 : World} {rest : List Oper} {o : Oper} {bs : Res} (HO : Mine W0 w bs) {t T : TypeId} {x y : Operand} {n : Nat} {z : Value} (ho : o.op = .makeSlice t x y) (hgd : Region.wanted o (yielded ops a.tmps) = true)
    (hx : a.eval x = .int .i64 (n : Int)) (hy : a.eval y = .int .i64 (n : Int)) (hn : n ≤ 1000) (ht : P.underlying t = some (.slice T)) (hinfo : (P.info? T).map (fun i => (i.zero, i.size, i.bytes)) = some (some z, 1, 1)) (hz : z.cells = #[z])
    (h : ∀ g w', W0.heap.size ≤ g → Mine W0 w' ((g, IsCells (List.replicate n z) T) :: bs) → wpList P ops Q rest (a.put o.dst (.slice (some ⟨g, 0, none⟩) n n)) w') : wpList P ops Q (o :: rest) a w := by
  obtain ⟨i, hi, hiz, hs, hb⟩ : ∃ i, P.info? T = some i ∧ i.zero = some z ∧ i.size = 1 ∧ i.bytes = 1 := by
    cases hi : P.info? T with
    | none => rw [hi] at hinfo; cases hinfo
    | some i => rw [hi] at hinfo; simp at hinfo; exact ⟨i, rfl, hinfo.1, hinfo.2.1, hinfo.2.2⟩
  have hr := run_makeSlice (P := P) (w := w) t T i z ht hi hiz .i64 .i64 (n : Int) (n : Int) (by omega) (Int.le_refl _) (by rw [hs]; simp; omega) (by rw [hb]; omega) (by omega)
  have hc : madeCells z.cells ((n : Int).toNat * i.size) = (List.replicate n z).toArray := by
    rw [hs, hz]
    simp [madeCells]
    apply Array.ext
    · simp
    · intro i h1 h2
      simp [Nat.mod_one]
  rw [hc] at hr
  refine own_litF HO hgd (n := n) (cs := List.replicate n z) (T := T) ?_ h
  unfold execOp
  simp only [ho, hx, hy, Sem.run_bind, hr, Sem.run_pure, Result.andThen_ok, Int.toNat_natCast]
end Go.Proofs.YtcglbfpmcpammaaDoor
end
section
namespace Go.Proofs.YtcglbfpmcpammaaDoor
set_option linter.unusedVariables false
set_option linter.unusedSimpArgs false
open Go.RowKit Kit G
attribute [local irreducible] wpList Calls wpQuiet
set_option maxRecDepth 100000 in
set_option maxHeartbeats 4000000 in
theorem put1_calls (x : Nat) (h0 : x ≤ 127) (w : World) : Calls Tryd.prog 43 #[.int .i64 (x : Int)] w fun e w' => ∃ g, e = .returned (.slice (some ⟨g, 0, none⟩) 1 1) ∧ Mine w w' [(g, IsCells [.int .u8 ((x : Nat) : Int)] 5)] := by
  have HO := Mine.start w
  have HI : Hid (isU (x : Int) = true) := Lib.hid (by simp [isU]; omega)
  have HIC : Hid (∀ W, Calls Tryd.prog 48 #[.int .i64 (x : Int)] W fun e w' => e = .returned (.bool true) ∧ Below W.heap.size W w') := Lib.hid fun W => by have h := isU_calls (x : Int) W; rw [HI.out] at h; exact h
  have k0 : decide ((127 : Int) < (x : Int)) = false := decide_eq_false (by omega)
  go_enter Tryd.func43, Tryd.ntmps43
  go_wp2_with (first
    | (go_at_call 48; refine (HIC.out _).mono ?_; rintro eN wN ⟨rfl, hbN⟩; have HON := HO.call hbN; clear HO hbN; have HO := HON; clear HON)
    | (go_at_call 41; refine (sizes_calls _).mono ?_; rintro eN wN ⟨rfl, hbN⟩; have HON := HO.call hbN; clear HO hbN; have HO := HON; clear HON))
  refine wp_loop_rounds 5 ?_
  rw [rounds_succ]
  go_wp2_with (first
      | ((with_reducible refine gate ?_); (first
      | ((with_reducible refine gateAt (N := 13) rfl ?_); (first | (refine wp_index rfl rfl rfl rfl index_size0 ?_; (try simp only [Act.put, List.setIfInBounds_toArray, List.set_cons_zero, List.set_cons_succ])) | (refine wp_index rfl rfl rfl rfl index_size1 ?_; (try simp only [Act.put, List.setIfInBounds_toArray, List.set_cons_zero, List.set_cons_succ])) | (refine wp_index rfl rfl rfl rfl index_size2 ?_; (try simp only [Act.put, List.setIfInBounds_toArray, List.set_cons_zero, List.set_cons_succ])) | (refine wp_index rfl rfl rfl rfl index_size3 ?_; (try simp only [Act.put, List.setIfInBounds_toArray, List.set_cons_zero, List.set_cons_succ]))))
      | ((with_reducible refine gateAt (N := 20) rfl ?_); refine own_makeF (n := 1) (T := 5) (t := 24) (z := .int .u8 0) HO rfl rfl rfl rfl (by decide) Tryd.underlying24 (by kernel_rfl) rfl ?_; clear HO; intro g3 wN hgg3 HO; simp only [List.replicate_succ, List.replicate_zero] at HO; (try simp only [Act.put, List.setIfInBounds_toArray, List.set_cons_zero, List.set_cons_succ]))
      | ((with_reducible refine gateAt (N := 4) rfl ?_); refine own_allocF (T := 68) HO rfl rfl Tryd.zeroValue68 rfl ?_; clear HO; intro g2 wN hgg2 HO; (try simp only [Act.put, List.setIfInBounds_toArray, List.set_cons_zero, List.set_cons_succ]))
      | ((refine own_load (T := 68) HO rfl rfl rfl (by first | exact .head _ | exact .tail _ (.head _)) Tryd.isAgg68 Tryd.sizeOf68 (by repeat constructor) ?_); (try simp only [Act.put, List.setIfInBounds_toArray, List.set_cons_zero, List.set_cons_succ]))
      | ((refine own_load1 (T := 3) HO rfl rfl rfl (by first | exact .head _ | exact .tail _ (.head _)) Tryd.isAgg3 rfl ?_); (try simp only [Act.put, List.setIfInBounds_toArray, List.set_cons_zero, List.set_cons_succ]))
      | ((refine own_load1 (T := 5) HO rfl rfl rfl (by first | exact .head _ | exact .tail _ (.head _)) Tryd.isAgg5 rfl ?_); (try simp only [Act.put, List.setIfInBounds_toArray, List.set_cons_zero, List.set_cons_succ]))
      | ((refine own_store1 (T := 3) HO rfl rfl rfl (by first | exact .const | exact .tmp rfl | exact .func) (by rfl) (by first | exact .here | exact .there (.here)) Tryd.sizeOf3 (by repeat constructor) (by rfl) ?_); clear HO; intro wN HO; (try simp only [Act.put, List.setIfInBounds_toArray, List.set_cons_zero, List.set_cons_succ]))
      | ((refine own_store1 (T := 5) HO rfl rfl rfl (by first | exact .const | exact .tmp rfl | exact .func) (by rfl) (by first | exact .here | exact .there (.here)) Tryd.sizeOf5 (by repeat constructor) (by rfl) ?_); clear HO; intro wN HO; (try simp only [Act.put, List.setIfInBounds_toArray, List.set_cons_zero, List.set_cons_succ]))
      | ((refine own_store (T := 68) HO rfl rfl rfl rfl (by first | exact .here | exact .there (.here)) Tryd.sizeOf68 (by repeat constructor) rfl ?_); clear HO; intro wN HO; (try simp only [Act.put, List.setIfInBounds_toArray, List.set_cons_zero, List.set_cons_succ])))))
  refine wp_loop_rounds 5 ?_
  rw [rounds_succ]
  go_wp2_with (first
      | ((with_reducible refine gate ?_); (first
      | ((refine own_load (T := 68) HO rfl rfl rfl (by first | exact .head _ | exact .tail _ (.head _)) Tryd.isAgg68 Tryd.sizeOf68 (by repeat constructor) ?_); (try simp only [Act.put, List.setIfInBounds_toArray, List.set_cons_zero, List.set_cons_succ]))
      | ((refine own_load1 (T := 3) HO rfl rfl rfl (by first | exact .head _ | exact .tail _ (.head _)) Tryd.isAgg3 rfl ?_); (try simp only [Act.put, List.setIfInBounds_toArray, List.set_cons_zero, List.set_cons_succ]))
      | ((refine own_load1 (T := 5) HO rfl rfl rfl (by first | exact .head _ | exact .tail _ (.head _)) Tryd.isAgg5 rfl ?_); (try simp only [Act.put, List.setIfInBounds_toArray, List.set_cons_zero, List.set_cons_succ]))
      | ((refine own_store1 (T := 3) HO rfl rfl rfl (by first | exact .const | exact .tmp rfl | exact .func) (by rfl) (by first | exact .here | exact .there (.here)) Tryd.sizeOf3 (by repeat constructor) (by rfl) ?_); clear HO; intro wN HO; (try simp only [Act.put, List.setIfInBounds_toArray, List.set_cons_zero, List.set_cons_succ]))
      | ((refine own_store1 (T := 5) HO rfl rfl rfl (by first | exact .const | exact .tmp rfl | exact .func) (by rfl) (by first | exact .here | exact .there (.here)) Tryd.sizeOf5 (by repeat constructor) (by rfl) ?_); clear HO; intro wN HO; (try simp only [Act.put, List.setIfInBounds_toArray, List.set_cons_zero, List.set_cons_succ]))
      | ((refine own_store (T := 68) HO rfl rfl rfl rfl (by first | exact .here | exact .there (.here)) Tryd.sizeOf68 (by repeat constructor) rfl ?_); clear HO; intro wN HO; (try simp only [Act.put, List.setIfInBounds_toArray, List.set_cons_zero, List.set_cons_succ])))))
  go_ret
  refine ⟨g3, rfl, ?_⟩
  have HON := HO.less (cs := [_]) (.cons_cons _ (List.nil_sublist _))
  have a0 : bits .or .u8 0 (x : Int) = (x : Int) := by
    have h := (bits_nat .u8 8 (by decide) wraps_u8 0 x (by decide) (by omega)).2
    simpa using h
  rw [a0] at HON
  exact HON
end Go.Proofs.YtcglbfpmcpammaaDoor
end
section
namespace Go.Proofs.YtcglbfpmcpammaaDoor
set_option linter.unusedVariables false
set_option linter.unusedSimpArgs false
open Go.RowKit Kit G
attribute [local irreducible] wpList Calls wpQuiet
set_option maxRecDepth 100000 in
set_option maxHeartbeats 4000000 in
theorem put2_calls (x : Nat) (h1 : 128 ≤ x) (h2 : x ≤ 2047) (w : World) : Calls Tryd.prog 43 #[.int .i64 (x : Int)] w fun e w' => ∃ g, e = .returned (.slice (some ⟨g, 0, none⟩) 2 2) ∧ Mine w w' [(g, IsCells [.int .u8 ((192 + x / 64 : Nat) : Int), .int .u8 ((128 + x % 64 : Nat) : Int)] 5)] := by
  have HO := Mine.start w
  have HI : Hid (isU (x : Int) = true) := Lib.hid (by simp [isU]; omega)
  have HIC : Hid (∀ W, Calls Tryd.prog 48 #[.int .i64 (x : Int)] W fun e w' => e = .returned (.bool true) ∧ Below W.heap.size W w') := Lib.hid fun W => by have h := isU_calls (x : Int) W; rw [HI.out] at h; exact h
  have k0 : decide ((127 : Int) < (x : Int)) = true := decide_eq_true (by omega)
  have k1 : decide ((2047 : Int) < (x : Int)) = false := decide_eq_false (by omega)
  have a1 := i64_and63 (x) (by omega)
  go_enter Tryd.func43, Tryd.ntmps43
  go_wp2_with (first
    | (go_at_call 48; refine (HIC.out _).mono ?_; rintro eN wN ⟨rfl, hbN⟩; have HON := HO.call hbN; clear HO hbN; have HO := HON; clear HON)
    | (go_at_call 41; refine (sizes_calls _).mono ?_; rintro eN wN ⟨rfl, hbN⟩; have HON := HO.call hbN; clear HO hbN; have HO := HON; clear HON))
  refine wp_loop_rounds 5 ?_
  rw [rounds_succ]
  go_wp2_with (first
      | ((with_reducible refine gate ?_); (first
      | ((with_reducible refine gateAt (N := 13) rfl ?_); (first | (refine wp_index rfl rfl rfl rfl index_size0 ?_; (try simp only [Act.put, List.setIfInBounds_toArray, List.set_cons_zero, List.set_cons_succ])) | (refine wp_index rfl rfl rfl rfl index_size1 ?_; (try simp only [Act.put, List.setIfInBounds_toArray, List.set_cons_zero, List.set_cons_succ])) | (refine wp_index rfl rfl rfl rfl index_size2 ?_; (try simp only [Act.put, List.setIfInBounds_toArray, List.set_cons_zero, List.set_cons_succ])) | (refine wp_index rfl rfl rfl rfl index_size3 ?_; (try simp only [Act.put, List.setIfInBounds_toArray, List.set_cons_zero, List.set_cons_succ]))))
      | ((with_reducible refine gateAt (N := 4) rfl ?_); refine own_allocF (T := 68) HO rfl rfl Tryd.zeroValue68 rfl ?_; clear HO; intro g1 wN hgg1 HO; (try simp only [Act.put, List.setIfInBounds_toArray, List.set_cons_zero, List.set_cons_succ]))
      | ((refine own_load (T := 68) HO rfl rfl rfl (by first | exact .head _ | exact .tail _ (.head _)) Tryd.isAgg68 Tryd.sizeOf68 (by repeat constructor) ?_); (try simp only [Act.put, List.setIfInBounds_toArray, List.set_cons_zero, List.set_cons_succ]))
      | ((refine own_load1 (T := 3) HO rfl rfl rfl (by first | exact .head _ | exact .tail _ (.head _)) Tryd.isAgg3 rfl ?_); (try simp only [Act.put, List.setIfInBounds_toArray, List.set_cons_zero, List.set_cons_succ]))
      | ((refine own_load1 (T := 5) HO rfl rfl rfl (by first | exact .head _ | exact .tail _ (.head _)) Tryd.isAgg5 rfl ?_); (try simp only [Act.put, List.setIfInBounds_toArray, List.set_cons_zero, List.set_cons_succ]))
      | ((refine own_store1 (T := 3) HO rfl rfl rfl (by first | exact .const | exact .tmp rfl | exact .func) (by rfl) (by first | exact .here | exact .there (.here)) Tryd.sizeOf3 (by repeat constructor) (by rfl) ?_); clear HO; intro wN HO; (try simp only [Act.put, List.setIfInBounds_toArray, List.set_cons_zero, List.set_cons_succ]))
      | ((refine own_store1 (T := 5) HO rfl rfl rfl (by first | exact .const | exact .tmp rfl | exact .func) (by rfl) (by first | exact .here | exact .there (.here)) Tryd.sizeOf5 (by repeat constructor) (by rfl) ?_); clear HO; intro wN HO; (try simp only [Act.put, List.setIfInBounds_toArray, List.set_cons_zero, List.set_cons_succ]))
      | ((refine own_store (T := 68) HO rfl rfl rfl rfl (by first | exact .here | exact .there (.here)) Tryd.sizeOf68 (by repeat constructor) rfl ?_); clear HO; intro wN HO; (try simp only [Act.put, List.setIfInBounds_toArray, List.set_cons_zero, List.set_cons_succ])))))
  have HON := HO.less (List.nil_sublist _)
  clear HO
  have HO := HON
  clear HON
  rw [rounds_succ]
  go_wp2_with (first
      | ((with_reducible refine gate ?_); (first
      | ((with_reducible refine gateAt (N := 13) rfl ?_); (first | (refine wp_index rfl rfl rfl rfl index_size0 ?_; (try simp only [Act.put, List.setIfInBounds_toArray, List.set_cons_zero, List.set_cons_succ])) | (refine wp_index rfl rfl rfl rfl index_size1 ?_; (try simp only [Act.put, List.setIfInBounds_toArray, List.set_cons_zero, List.set_cons_succ])) | (refine wp_index rfl rfl rfl rfl index_size2 ?_; (try simp only [Act.put, List.setIfInBounds_toArray, List.set_cons_zero, List.set_cons_succ])) | (refine wp_index rfl rfl rfl rfl index_size3 ?_; (try simp only [Act.put, List.setIfInBounds_toArray, List.set_cons_zero, List.set_cons_succ]))))
      | ((with_reducible refine gateAt (N := 20) rfl ?_); refine own_makeF (n := 2) (T := 5) (t := 24) (z := .int .u8 0) HO rfl rfl rfl rfl (by decide) Tryd.underlying24 (by kernel_rfl) rfl ?_; clear HO; intro g3 wN hgg3 HO; simp only [List.replicate_succ, List.replicate_zero] at HO; (try simp only [Act.put, List.setIfInBounds_toArray, List.set_cons_zero, List.set_cons_succ]))
      | ((with_reducible refine gateAt (N := 4) rfl ?_); refine own_allocF (T := 68) HO rfl rfl Tryd.zeroValue68 rfl ?_; clear HO; intro g2 wN hgg2 HO; (try simp only [Act.put, List.setIfInBounds_toArray, List.set_cons_zero, List.set_cons_succ]))
      | ((refine own_load (T := 68) HO rfl rfl rfl (by first | exact .head _ | exact .tail _ (.head _)) Tryd.isAgg68 Tryd.sizeOf68 (by repeat constructor) ?_); (try simp only [Act.put, List.setIfInBounds_toArray, List.set_cons_zero, List.set_cons_succ]))
      | ((refine own_load1 (T := 3) HO rfl rfl rfl (by first | exact .head _ | exact .tail _ (.head _)) Tryd.isAgg3 rfl ?_); (try simp only [Act.put, List.setIfInBounds_toArray, List.set_cons_zero, List.set_cons_succ]))
      | ((refine own_load1 (T := 5) HO rfl rfl rfl (by first | exact .head _ | exact .tail _ (.head _)) Tryd.isAgg5 rfl ?_); (try simp only [Act.put, List.setIfInBounds_toArray, List.set_cons_zero, List.set_cons_succ]))
      | ((refine own_store1 (T := 3) HO rfl rfl rfl (by first | exact .const | exact .tmp rfl | exact .func) (by rfl) (by first | exact .here | exact .there (.here)) Tryd.sizeOf3 (by repeat constructor) (by rfl) ?_); clear HO; intro wN HO; (try simp only [Act.put, List.setIfInBounds_toArray, List.set_cons_zero, List.set_cons_succ]))
      | ((refine own_store1 (T := 5) HO rfl rfl rfl (by first | exact .const | exact .tmp rfl | exact .func) (by rfl) (by first | exact .here | exact .there (.here)) Tryd.sizeOf5 (by repeat constructor) (by rfl) ?_); clear HO; intro wN HO; (try simp only [Act.put, List.setIfInBounds_toArray, List.set_cons_zero, List.set_cons_succ]))
      | ((refine own_store (T := 68) HO rfl rfl rfl rfl (by first | exact .here | exact .there (.here)) Tryd.sizeOf68 (by repeat constructor) rfl ?_); clear HO; intro wN HO; (try simp only [Act.put, List.setIfInBounds_toArray, List.set_cons_zero, List.set_cons_succ])))))
  refine wp_loop_rounds 5 ?_
  rw [rounds_succ]
  go_wp2_with (first
      | ((with_reducible refine gate ?_); (first
      | ((refine own_load (T := 68) HO rfl rfl rfl (by first | exact .head _ | exact .tail _ (.head _)) Tryd.isAgg68 Tryd.sizeOf68 (by repeat constructor) ?_); (try simp only [Act.put, List.setIfInBounds_toArray, List.set_cons_zero, List.set_cons_succ]))
      | ((refine own_load1 (T := 3) HO rfl rfl rfl (by first | exact .head _ | exact .tail _ (.head _)) Tryd.isAgg3 rfl ?_); (try simp only [Act.put, List.setIfInBounds_toArray, List.set_cons_zero, List.set_cons_succ]))
      | ((refine own_load1 (T := 5) HO rfl rfl rfl (by first | exact .head _ | exact .tail _ (.head _)) Tryd.isAgg5 rfl ?_); (try simp only [Act.put, List.setIfInBounds_toArray, List.set_cons_zero, List.set_cons_succ]))
      | ((refine own_store1 (T := 3) HO rfl rfl rfl (by first | exact .const | exact .tmp rfl | exact .func) (by rfl) (by first | exact .here | exact .there (.here)) Tryd.sizeOf3 (by repeat constructor) (by rfl) ?_); clear HO; intro wN HO; (try simp only [Act.put, List.setIfInBounds_toArray, List.set_cons_zero, List.set_cons_succ]))
      | ((refine own_store1 (T := 5) HO rfl rfl rfl (by first | exact .const | exact .tmp rfl | exact .func) (by rfl) (by first | exact .here | exact .there (.here)) Tryd.sizeOf5 (by repeat constructor) (by rfl) ?_); clear HO; intro wN HO; (try simp only [Act.put, List.setIfInBounds_toArray, List.set_cons_zero, List.set_cons_succ]))
      | ((refine own_store (T := 68) HO rfl rfl rfl rfl (by first | exact .here | exact .there (.here)) Tryd.sizeOf68 (by repeat constructor) rfl ?_); clear HO; intro wN HO; (try simp only [Act.put, List.setIfInBounds_toArray, List.set_cons_zero, List.set_cons_succ])))))
  rw [rounds_succ]
  go_wp2_with (first
      | ((with_reducible refine gate ?_); (first
      | ((refine own_load (T := 68) HO rfl rfl rfl (by first | exact .head _ | exact .tail _ (.head _)) Tryd.isAgg68 Tryd.sizeOf68 (by repeat constructor) ?_); (try simp only [Act.put, List.setIfInBounds_toArray, List.set_cons_zero, List.set_cons_succ]))
      | ((refine own_load1 (T := 3) HO rfl rfl rfl (by first | exact .head _ | exact .tail _ (.head _)) Tryd.isAgg3 rfl ?_); (try simp only [Act.put, List.setIfInBounds_toArray, List.set_cons_zero, List.set_cons_succ]))
      | ((refine own_load1 (T := 5) HO rfl rfl rfl (by first | exact .head _ | exact .tail _ (.head _)) Tryd.isAgg5 rfl ?_); (try simp only [Act.put, List.setIfInBounds_toArray, List.set_cons_zero, List.set_cons_succ]))
      | ((refine own_store1 (T := 3) HO rfl rfl rfl (by first | exact .const | exact .tmp rfl | exact .func) (by rfl) (by first | exact .here | exact .there (.here)) Tryd.sizeOf3 (by repeat constructor) (by rfl) ?_); clear HO; intro wN HO; (try simp only [Act.put, List.setIfInBounds_toArray, List.set_cons_zero, List.set_cons_succ]))
      | ((refine own_store1 (T := 5) HO rfl rfl rfl (by first | exact .const | exact .tmp rfl | exact .func) (by rfl) (by first | exact .here | exact .there (.here)) Tryd.sizeOf5 (by repeat constructor) (by rfl) ?_); clear HO; intro wN HO; (try simp only [Act.put, List.setIfInBounds_toArray, List.set_cons_zero, List.set_cons_succ]))
      | ((refine own_store (T := 68) HO rfl rfl rfl rfl (by first | exact .here | exact .there (.here)) Tryd.sizeOf68 (by repeat constructor) rfl ?_); clear HO; intro wN HO; (try simp only [Act.put, List.setIfInBounds_toArray, List.set_cons_zero, List.set_cons_succ])))))
  go_ret
  refine ⟨g3, rfl, ?_⟩
  have HON := HO.less (cs := [_]) (.cons_cons _ (List.nil_sublist _))
  simpa [Int.ediv_ediv] using HON
end Go.Proofs.YtcglbfpmcpammaaDoor
end
section
namespace Go.Proofs.YtcglbfpmcpammaaDoor
set_option linter.unusedVariables false
set_option linter.unusedSimpArgs false
open Go.RowKit Kit G
attribute [local irreducible] wpList Calls wpQuiet
set_option maxRecDepth 100000 in
set_option maxHeartbeats 4000000 in
theorem put3_calls (x : Nat) (h1 : 2048 ≤ x) (h2 : x ≤ 65535) (h3 : x < 55296 ∨ 57343 < x) (w : World) : Calls Tryd.prog 43 #[.int .i64 (x : Int)] w fun e w' => ∃ g, e = .returned (.slice (some ⟨g, 0, none⟩) 3 3) ∧ Mine w w' [(g, IsCells [.int .u8 ((224 + x / 4096 : Nat) : Int), .int .u8 ((128 + x / 64 % 64 : Nat) : Int), .int .u8 ((128 + x % 64 : Nat) : Int)] 5)] := by
  have HO := Mine.start w
  have HI : Hid (isU (x : Int) = true) := Lib.hid (by simp [isU]; omega)
  have HIC : Hid (∀ W, Calls Tryd.prog 48 #[.int .i64 (x : Int)] W fun e w' => e = .returned (.bool true) ∧ Below W.heap.size W w') := Lib.hid fun W => by have h := isU_calls (x : Int) W; rw [HI.out] at h; exact h
  have k0 : decide ((127 : Int) < (x : Int)) = true := decide_eq_true (by omega)
  have k1 : decide ((2047 : Int) < (x : Int)) = true := decide_eq_true (by omega)
  have k2 : decide ((65535 : Int) < (x : Int)) = false := decide_eq_false (by omega)
  have a1 := i64_and63 (x) (by omega)
  have a2 := i64_and63 (x / 64) (by omega)
  rw [show (((x / 64 : Nat)) : Int) = (x : Int) / 64 by omega] at a2
  go_enter Tryd.func43, Tryd.ntmps43
  go_wp2_with (first
    | (go_at_call 48; refine (HIC.out _).mono ?_; rintro eN wN ⟨rfl, hbN⟩; have HON := HO.call hbN; clear HO hbN; have HO := HON; clear HON)
    | (go_at_call 41; refine (sizes_calls _).mono ?_; rintro eN wN ⟨rfl, hbN⟩; have HON := HO.call hbN; clear HO hbN; have HO := HON; clear HON))
  refine wp_loop_rounds 5 ?_
  rw [rounds_succ]
  go_wp2_with (first
      | ((with_reducible refine gate ?_); (first
      | ((with_reducible refine gateAt (N := 13) rfl ?_); (first | (refine wp_index rfl rfl rfl rfl index_size0 ?_; (try simp only [Act.put, List.setIfInBounds_toArray, List.set_cons_zero, List.set_cons_succ])) | (refine wp_index rfl rfl rfl rfl index_size1 ?_; (try simp only [Act.put, List.setIfInBounds_toArray, List.set_cons_zero, List.set_cons_succ])) | (refine wp_index rfl rfl rfl rfl index_size2 ?_; (try simp only [Act.put, List.setIfInBounds_toArray, List.set_cons_zero, List.set_cons_succ])) | (refine wp_index rfl rfl rfl rfl index_size3 ?_; (try simp only [Act.put, List.setIfInBounds_toArray, List.set_cons_zero, List.set_cons_succ]))))
      | ((with_reducible refine gateAt (N := 4) rfl ?_); refine own_allocF (T := 68) HO rfl rfl Tryd.zeroValue68 rfl ?_; clear HO; intro g1 wN hgg1 HO; (try simp only [Act.put, List.setIfInBounds_toArray, List.set_cons_zero, List.set_cons_succ]))
      | ((refine own_load (T := 68) HO rfl rfl rfl (by first | exact .head _ | exact .tail _ (.head _)) Tryd.isAgg68 Tryd.sizeOf68 (by repeat constructor) ?_); (try simp only [Act.put, List.setIfInBounds_toArray, List.set_cons_zero, List.set_cons_succ]))
      | ((refine own_load1 (T := 3) HO rfl rfl rfl (by first | exact .head _ | exact .tail _ (.head _)) Tryd.isAgg3 rfl ?_); (try simp only [Act.put, List.setIfInBounds_toArray, List.set_cons_zero, List.set_cons_succ]))
      | ((refine own_load1 (T := 5) HO rfl rfl rfl (by first | exact .head _ | exact .tail _ (.head _)) Tryd.isAgg5 rfl ?_); (try simp only [Act.put, List.setIfInBounds_toArray, List.set_cons_zero, List.set_cons_succ]))
      | ((refine own_store1 (T := 3) HO rfl rfl rfl (by first | exact .const | exact .tmp rfl | exact .func) (by rfl) (by first | exact .here | exact .there (.here)) Tryd.sizeOf3 (by repeat constructor) (by rfl) ?_); clear HO; intro wN HO; (try simp only [Act.put, List.setIfInBounds_toArray, List.set_cons_zero, List.set_cons_succ]))
      | ((refine own_store1 (T := 5) HO rfl rfl rfl (by first | exact .const | exact .tmp rfl | exact .func) (by rfl) (by first | exact .here | exact .there (.here)) Tryd.sizeOf5 (by repeat constructor) (by rfl) ?_); clear HO; intro wN HO; (try simp only [Act.put, List.setIfInBounds_toArray, List.set_cons_zero, List.set_cons_succ]))
      | ((refine own_store (T := 68) HO rfl rfl rfl rfl (by first | exact .here | exact .there (.here)) Tryd.sizeOf68 (by repeat constructor) rfl ?_); clear HO; intro wN HO; (try simp only [Act.put, List.setIfInBounds_toArray, List.set_cons_zero, List.set_cons_succ])))))
  have HON := HO.less (List.nil_sublist _)
  clear HO
  have HO := HON
  clear HON
  rw [rounds_succ]
  go_wp2_with (first
      | ((with_reducible refine gate ?_); (first
      | ((with_reducible refine gateAt (N := 13) rfl ?_); (first | (refine wp_index rfl rfl rfl rfl index_size0 ?_; (try simp only [Act.put, List.setIfInBounds_toArray, List.set_cons_zero, List.set_cons_succ])) | (refine wp_index rfl rfl rfl rfl index_size1 ?_; (try simp only [Act.put, List.setIfInBounds_toArray, List.set_cons_zero, List.set_cons_succ])) | (refine wp_index rfl rfl rfl rfl index_size2 ?_; (try simp only [Act.put, List.setIfInBounds_toArray, List.set_cons_zero, List.set_cons_succ])) | (refine wp_index rfl rfl rfl rfl index_size3 ?_; (try simp only [Act.put, List.setIfInBounds_toArray, List.set_cons_zero, List.set_cons_succ]))))
      | ((with_reducible refine gateAt (N := 4) rfl ?_); refine own_allocF (T := 68) HO rfl rfl Tryd.zeroValue68 rfl ?_; clear HO; intro g1 wN hgg1 HO; (try simp only [Act.put, List.setIfInBounds_toArray, List.set_cons_zero, List.set_cons_succ]))
      | ((refine own_load (T := 68) HO rfl rfl rfl (by first | exact .head _ | exact .tail _ (.head _)) Tryd.isAgg68 Tryd.sizeOf68 (by repeat constructor) ?_); (try simp only [Act.put, List.setIfInBounds_toArray, List.set_cons_zero, List.set_cons_succ]))
      | ((refine own_load1 (T := 3) HO rfl rfl rfl (by first | exact .head _ | exact .tail _ (.head _)) Tryd.isAgg3 rfl ?_); (try simp only [Act.put, List.setIfInBounds_toArray, List.set_cons_zero, List.set_cons_succ]))
      | ((refine own_load1 (T := 5) HO rfl rfl rfl (by first | exact .head _ | exact .tail _ (.head _)) Tryd.isAgg5 rfl ?_); (try simp only [Act.put, List.setIfInBounds_toArray, List.set_cons_zero, List.set_cons_succ]))
      | ((refine own_store1 (T := 3) HO rfl rfl rfl (by first | exact .const | exact .tmp rfl | exact .func) (by rfl) (by first | exact .here | exact .there (.here)) Tryd.sizeOf3 (by repeat constructor) (by rfl) ?_); clear HO; intro wN HO; (try simp only [Act.put, List.setIfInBounds_toArray, List.set_cons_zero, List.set_cons_succ]))
      | ((refine own_store1 (T := 5) HO rfl rfl rfl (by first | exact .const | exact .tmp rfl | exact .func) (by rfl) (by first | exact .here | exact .there (.here)) Tryd.sizeOf5 (by repeat constructor) (by rfl) ?_); clear HO; intro wN HO; (try simp only [Act.put, List.setIfInBounds_toArray, List.set_cons_zero, List.set_cons_succ]))
      | ((refine own_store (T := 68) HO rfl rfl rfl rfl (by first | exact .here | exact .there (.here)) Tryd.sizeOf68 (by repeat constructor) rfl ?_); clear HO; intro wN HO; (try simp only [Act.put, List.setIfInBounds_toArray, List.set_cons_zero, List.set_cons_succ])))))
  have HON := HO.less (List.nil_sublist _)
  clear HO
  have HO := HON
  clear HON
  rw [rounds_succ]
  go_wp2_with (first
      | ((with_reducible refine gate ?_); (first
      | ((with_reducible refine gateAt (N := 13) rfl ?_); (first | (refine wp_index rfl rfl rfl rfl index_size0 ?_; (try simp only [Act.put, List.setIfInBounds_toArray, List.set_cons_zero, List.set_cons_succ])) | (refine wp_index rfl rfl rfl rfl index_size1 ?_; (try simp only [Act.put, List.setIfInBounds_toArray, List.set_cons_zero, List.set_cons_succ])) | (refine wp_index rfl rfl rfl rfl index_size2 ?_; (try simp only [Act.put, List.setIfInBounds_toArray, List.set_cons_zero, List.set_cons_succ])) | (refine wp_index rfl rfl rfl rfl index_size3 ?_; (try simp only [Act.put, List.setIfInBounds_toArray, List.set_cons_zero, List.set_cons_succ]))))
      | ((with_reducible refine gateAt (N := 20) rfl ?_); refine own_makeF (n := 3) (T := 5) (t := 24) (z := .int .u8 0) HO rfl rfl rfl rfl (by decide) Tryd.underlying24 (by kernel_rfl) rfl ?_; clear HO; intro g3 wN hgg3 HO; simp only [List.replicate_succ, List.replicate_zero] at HO; (try simp only [Act.put, List.setIfInBounds_toArray, List.set_cons_zero, List.set_cons_succ]))
      | ((with_reducible refine gateAt (N := 4) rfl ?_); refine own_allocF (T := 68) HO rfl rfl Tryd.zeroValue68 rfl ?_; clear HO; intro g2 wN hgg2 HO; (try simp only [Act.put, List.setIfInBounds_toArray, List.set_cons_zero, List.set_cons_succ]))
      | ((refine own_load (T := 68) HO rfl rfl rfl (by first | exact .head _ | exact .tail _ (.head _)) Tryd.isAgg68 Tryd.sizeOf68 (by repeat constructor) ?_); (try simp only [Act.put, List.setIfInBounds_toArray, List.set_cons_zero, List.set_cons_succ]))
      | ((refine own_load1 (T := 3) HO rfl rfl rfl (by first | exact .head _ | exact .tail _ (.head _)) Tryd.isAgg3 rfl ?_); (try simp only [Act.put, List.setIfInBounds_toArray, List.set_cons_zero, List.set_cons_succ]))
      | ((refine own_load1 (T := 5) HO rfl rfl rfl (by first | exact .head _ | exact .tail _ (.head _)) Tryd.isAgg5 rfl ?_); (try simp only [Act.put, List.setIfInBounds_toArray, List.set_cons_zero, List.set_cons_succ]))
      | ((refine own_store1 (T := 3) HO rfl rfl rfl (by first | exact .const | exact .tmp rfl | exact .func) (by rfl) (by first | exact .here | exact .there (.here)) Tryd.sizeOf3 (by repeat constructor) (by rfl) ?_); clear HO; intro wN HO; (try simp only [Act.put, List.setIfInBounds_toArray, List.set_cons_zero, List.set_cons_succ]))
      | ((refine own_store1 (T := 5) HO rfl rfl rfl (by first | exact .const | exact .tmp rfl | exact .func) (by rfl) (by first | exact .here | exact .there (.here)) Tryd.sizeOf5 (by repeat constructor) (by rfl) ?_); clear HO; intro wN HO; (try simp only [Act.put, List.setIfInBounds_toArray, List.set_cons_zero, List.set_cons_succ]))
      | ((refine own_store (T := 68) HO rfl rfl rfl rfl (by first | exact .here | exact .there (.here)) Tryd.sizeOf68 (by repeat constructor) rfl ?_); clear HO; intro wN HO; (try simp only [Act.put, List.setIfInBounds_toArray, List.set_cons_zero, List.set_cons_succ])))))
  refine wp_loop_rounds 5 ?_
  rw [rounds_succ]
  go_wp2_with (first
      | ((with_reducible refine gate ?_); (first
      | ((refine own_load (T := 68) HO rfl rfl rfl (by first | exact .head _ | exact .tail _ (.head _)) Tryd.isAgg68 Tryd.sizeOf68 (by repeat constructor) ?_); (try simp only [Act.put, List.setIfInBounds_toArray, List.set_cons_zero, List.set_cons_succ]))
      | ((refine own_load1 (T := 3) HO rfl rfl rfl (by first | exact .head _ | exact .tail _ (.head _)) Tryd.isAgg3 rfl ?_); (try simp only [Act.put, List.setIfInBounds_toArray, List.set_cons_zero, List.set_cons_succ]))
      | ((refine own_load1 (T := 5) HO rfl rfl rfl (by first | exact .head _ | exact .tail _ (.head _)) Tryd.isAgg5 rfl ?_); (try simp only [Act.put, List.setIfInBounds_toArray, List.set_cons_zero, List.set_cons_succ]))
      | ((refine own_store1 (T := 3) HO rfl rfl rfl (by first | exact .const | exact .tmp rfl | exact .func) (by rfl) (by first | exact .here | exact .there (.here)) Tryd.sizeOf3 (by repeat constructor) (by rfl) ?_); clear HO; intro wN HO; (try simp only [Act.put, List.setIfInBounds_toArray, List.set_cons_zero, List.set_cons_succ]))
      | ((refine own_store1 (T := 5) HO rfl rfl rfl (by first | exact .const | exact .tmp rfl | exact .func) (by rfl) (by first | exact .here | exact .there (.here)) Tryd.sizeOf5 (by repeat constructor) (by rfl) ?_); clear HO; intro wN HO; (try simp only [Act.put, List.setIfInBounds_toArray, List.set_cons_zero, List.set_cons_succ]))
      | ((refine own_store (T := 68) HO rfl rfl rfl rfl (by first | exact .here | exact .there (.here)) Tryd.sizeOf68 (by repeat constructor) rfl ?_); clear HO; intro wN HO; (try simp only [Act.put, List.setIfInBounds_toArray, List.set_cons_zero, List.set_cons_succ])))))
  rw [rounds_succ]
  go_wp2_with (first
      | ((with_reducible refine gate ?_); (first
      | ((refine own_load (T := 68) HO rfl rfl rfl (by first | exact .head _ | exact .tail _ (.head _)) Tryd.isAgg68 Tryd.sizeOf68 (by repeat constructor) ?_); (try simp only [Act.put, List.setIfInBounds_toArray, List.set_cons_zero, List.set_cons_succ]))
      | ((refine own_load1 (T := 3) HO rfl rfl rfl (by first | exact .head _ | exact .tail _ (.head _)) Tryd.isAgg3 rfl ?_); (try simp only [Act.put, List.setIfInBounds_toArray, List.set_cons_zero, List.set_cons_succ]))
      | ((refine own_load1 (T := 5) HO rfl rfl rfl (by first | exact .head _ | exact .tail _ (.head _)) Tryd.isAgg5 rfl ?_); (try simp only [Act.put, List.setIfInBounds_toArray, List.set_cons_zero, List.set_cons_succ]))
      | ((refine own_store1 (T := 3) HO rfl rfl rfl (by first | exact .const | exact .tmp rfl | exact .func) (by rfl) (by first | exact .here | exact .there (.here)) Tryd.sizeOf3 (by repeat constructor) (by rfl) ?_); clear HO; intro wN HO; (try simp only [Act.put, List.setIfInBounds_toArray, List.set_cons_zero, List.set_cons_succ]))
      | ((refine own_store1 (T := 5) HO rfl rfl rfl (by first | exact .const | exact .tmp rfl | exact .func) (by rfl) (by first | exact .here | exact .there (.here)) Tryd.sizeOf5 (by repeat constructor) (by rfl) ?_); clear HO; intro wN HO; (try simp only [Act.put, List.setIfInBounds_toArray, List.set_cons_zero, List.set_cons_succ]))
      | ((refine own_store (T := 68) HO rfl rfl rfl rfl (by first | exact .here | exact .there (.here)) Tryd.sizeOf68 (by repeat constructor) rfl ?_); clear HO; intro wN HO; (try simp only [Act.put, List.setIfInBounds_toArray, List.set_cons_zero, List.set_cons_succ])))))
  rw [rounds_succ]
  go_wp2_with (first
      | ((with_reducible refine gate ?_); (first
      | ((refine own_load (T := 68) HO rfl rfl rfl (by first | exact .head _ | exact .tail _ (.head _)) Tryd.isAgg68 Tryd.sizeOf68 (by repeat constructor) ?_); (try simp only [Act.put, List.setIfInBounds_toArray, List.set_cons_zero, List.set_cons_succ]))
      | ((refine own_load1 (T := 3) HO rfl rfl rfl (by first | exact .head _ | exact .tail _ (.head _)) Tryd.isAgg3 rfl ?_); (try simp only [Act.put, List.setIfInBounds_toArray, List.set_cons_zero, List.set_cons_succ]))
      | ((refine own_load1 (T := 5) HO rfl rfl rfl (by first | exact .head _ | exact .tail _ (.head _)) Tryd.isAgg5 rfl ?_); (try simp only [Act.put, List.setIfInBounds_toArray, List.set_cons_zero, List.set_cons_succ]))
      | ((refine own_store1 (T := 3) HO rfl rfl rfl (by first | exact .const | exact .tmp rfl | exact .func) (by rfl) (by first | exact .here | exact .there (.here)) Tryd.sizeOf3 (by repeat constructor) (by rfl) ?_); clear HO; intro wN HO; (try simp only [Act.put, List.setIfInBounds_toArray, List.set_cons_zero, List.set_cons_succ]))
      | ((refine own_store1 (T := 5) HO rfl rfl rfl (by first | exact .const | exact .tmp rfl | exact .func) (by rfl) (by first | exact .here | exact .there (.here)) Tryd.sizeOf5 (by repeat constructor) (by rfl) ?_); clear HO; intro wN HO; (try simp only [Act.put, List.setIfInBounds_toArray, List.set_cons_zero, List.set_cons_succ]))
      | ((refine own_store (T := 68) HO rfl rfl rfl rfl (by first | exact .here | exact .there (.here)) Tryd.sizeOf68 (by repeat constructor) rfl ?_); clear HO; intro wN HO; (try simp only [Act.put, List.setIfInBounds_toArray, List.set_cons_zero, List.set_cons_succ])))))
  go_ret
  refine ⟨g3, rfl, ?_⟩
  have HON := HO.less (cs := [_]) (.cons_cons _ (List.nil_sublist _))
  simpa [Int.ediv_ediv] using HON
end Go.Proofs.YtcglbfpmcpammaaDoor
end
section
namespace Go.Proofs.YtcglbfpmcpammaaDoor
set_option linter.unusedVariables false
set_option linter.unusedSimpArgs false
open Go.RowKit Kit G
attribute [local irreducible] wpList Calls wpQuiet
set_option maxRecDepth 100000 in
set_option maxHeartbeats 4000000 in
theorem put4_calls (x : Nat) (h1 : 65536 ≤ x) (h2 : x ≤ 1114111) (w : World) : Calls Tryd.prog 43 #[.int .i64 (x : Int)] w fun e w' => ∃ g, e = .returned (.slice (some ⟨g, 0, none⟩) 4 4) ∧ Mine w w' [(g, IsCells [.int .u8 ((240 + x / 262144 : Nat) : Int), .int .u8 ((128 + x / 4096 % 64 : Nat) : Int), .int .u8 ((128 + x / 64 % 64 : Nat) : Int), .int .u8 ((128 + x % 64 : Nat) : Int)] 5)] := by
  have HO := Mine.start w
  have HI : Hid (isU (x : Int) = true) := Lib.hid (by simp [isU]; omega)
  have HIC : Hid (∀ W, Calls Tryd.prog 48 #[.int .i64 (x : Int)] W fun e w' => e = .returned (.bool true) ∧ Below W.heap.size W w') := Lib.hid fun W => by have h := isU_calls (x : Int) W; rw [HI.out] at h; exact h
  have k0 : decide ((127 : Int) < (x : Int)) = true := decide_eq_true (by omega)
  have k1 : decide ((2047 : Int) < (x : Int)) = true := decide_eq_true (by omega)
  have k2 : decide ((65535 : Int) < (x : Int)) = true := decide_eq_true (by omega)
  have k3 : decide ((1114111 : Int) < (x : Int)) = false := decide_eq_false (by omega)
  have a1 := i64_and63 (x) (by omega)
  have a2 := i64_and63 (x / 64) (by omega)
  rw [show (((x / 64 : Nat)) : Int) = (x : Int) / 64 by omega] at a2
  have a3 := i64_and63 (x / 4096) (by omega)
  rw [show (((x / 4096 : Nat)) : Int) = (x : Int) / 4096 by omega] at a3
  have a3x : bits .and .i64 ((x : Int) / 64 / 64) 63 = ((x / 4096 % 64 : Nat) : Int) := by
    rw [show (x : Int) / 64 / 64 = (x : Int) / 4096 by omega]
    exact a3
  go_enter Tryd.func43, Tryd.ntmps43
  go_wp2_with (first
    | (go_at_call 48; refine (HIC.out _).mono ?_; rintro eN wN ⟨rfl, hbN⟩; have HON := HO.call hbN; clear HO hbN; have HO := HON; clear HON)
    | (go_at_call 41; refine (sizes_calls _).mono ?_; rintro eN wN ⟨rfl, hbN⟩; have HON := HO.call hbN; clear HO hbN; have HO := HON; clear HON))
  refine wp_loop_rounds 5 ?_
  rw [rounds_succ]
  go_wp2_with (first
      | ((with_reducible refine gate ?_); (first
      | ((with_reducible refine gateAt (N := 13) rfl ?_); (first | (refine wp_index rfl rfl rfl rfl index_size0 ?_; (try simp only [Act.put, List.setIfInBounds_toArray, List.set_cons_zero, List.set_cons_succ])) | (refine wp_index rfl rfl rfl rfl index_size1 ?_; (try simp only [Act.put, List.setIfInBounds_toArray, List.set_cons_zero, List.set_cons_succ])) | (refine wp_index rfl rfl rfl rfl index_size2 ?_; (try simp only [Act.put, List.setIfInBounds_toArray, List.set_cons_zero, List.set_cons_succ])) | (refine wp_index rfl rfl rfl rfl index_size3 ?_; (try simp only [Act.put, List.setIfInBounds_toArray, List.set_cons_zero, List.set_cons_succ]))))
      | ((with_reducible refine gateAt (N := 4) rfl ?_); refine own_allocF (T := 68) HO rfl rfl Tryd.zeroValue68 rfl ?_; clear HO; intro g1 wN hgg1 HO; (try simp only [Act.put, List.setIfInBounds_toArray, List.set_cons_zero, List.set_cons_succ]))
      | ((refine own_load (T := 68) HO rfl rfl rfl (by first | exact .head _ | exact .tail _ (.head _)) Tryd.isAgg68 Tryd.sizeOf68 (by repeat constructor) ?_); (try simp only [Act.put, List.setIfInBounds_toArray, List.set_cons_zero, List.set_cons_succ]))
      | ((refine own_load1 (T := 3) HO rfl rfl rfl (by first | exact .head _ | exact .tail _ (.head _)) Tryd.isAgg3 rfl ?_); (try simp only [Act.put, List.setIfInBounds_toArray, List.set_cons_zero, List.set_cons_succ]))
      | ((refine own_load1 (T := 5) HO rfl rfl rfl (by first | exact .head _ | exact .tail _ (.head _)) Tryd.isAgg5 rfl ?_); (try simp only [Act.put, List.setIfInBounds_toArray, List.set_cons_zero, List.set_cons_succ]))
      | ((refine own_store1 (T := 3) HO rfl rfl rfl (by first | exact .const | exact .tmp rfl | exact .func) (by rfl) (by first | exact .here | exact .there (.here)) Tryd.sizeOf3 (by repeat constructor) (by rfl) ?_); clear HO; intro wN HO; (try simp only [Act.put, List.setIfInBounds_toArray, List.set_cons_zero, List.set_cons_succ]))
      | ((refine own_store1 (T := 5) HO rfl rfl rfl (by first | exact .const | exact .tmp rfl | exact .func) (by rfl) (by first | exact .here | exact .there (.here)) Tryd.sizeOf5 (by repeat constructor) (by rfl) ?_); clear HO; intro wN HO; (try simp only [Act.put, List.setIfInBounds_toArray, List.set_cons_zero, List.set_cons_succ]))
      | ((refine own_store (T := 68) HO rfl rfl rfl rfl (by first | exact .here | exact .there (.here)) Tryd.sizeOf68 (by repeat constructor) rfl ?_); clear HO; intro wN HO; (try simp only [Act.put, List.setIfInBounds_toArray, List.set_cons_zero, List.set_cons_succ])))))
  have HON := HO.less (List.nil_sublist _)
  clear HO
  have HO := HON
  clear HON
  rw [rounds_succ]
  go_wp2_with (first
      | ((with_reducible refine gate ?_); (first
      | ((with_reducible refine gateAt (N := 13) rfl ?_); (first | (refine wp_index rfl rfl rfl rfl index_size0 ?_; (try simp only [Act.put, List.setIfInBounds_toArray, List.set_cons_zero, List.set_cons_succ])) | (refine wp_index rfl rfl rfl rfl index_size1 ?_; (try simp only [Act.put, List.setIfInBounds_toArray, List.set_cons_zero, List.set_cons_succ])) | (refine wp_index rfl rfl rfl rfl index_size2 ?_; (try simp only [Act.put, List.setIfInBounds_toArray, List.set_cons_zero, List.set_cons_succ])) | (refine wp_index rfl rfl rfl rfl index_size3 ?_; (try simp only [Act.put, List.setIfInBounds_toArray, List.set_cons_zero, List.set_cons_succ]))))
      | ((with_reducible refine gateAt (N := 4) rfl ?_); refine own_allocF (T := 68) HO rfl rfl Tryd.zeroValue68 rfl ?_; clear HO; intro g1 wN hgg1 HO; (try simp only [Act.put, List.setIfInBounds_toArray, List.set_cons_zero, List.set_cons_succ]))
      | ((refine own_load (T := 68) HO rfl rfl rfl (by first | exact .head _ | exact .tail _ (.head _)) Tryd.isAgg68 Tryd.sizeOf68 (by repeat constructor) ?_); (try simp only [Act.put, List.setIfInBounds_toArray, List.set_cons_zero, List.set_cons_succ]))
      | ((refine own_load1 (T := 3) HO rfl rfl rfl (by first | exact .head _ | exact .tail _ (.head _)) Tryd.isAgg3 rfl ?_); (try simp only [Act.put, List.setIfInBounds_toArray, List.set_cons_zero, List.set_cons_succ]))
      | ((refine own_load1 (T := 5) HO rfl rfl rfl (by first | exact .head _ | exact .tail _ (.head _)) Tryd.isAgg5 rfl ?_); (try simp only [Act.put, List.setIfInBounds_toArray, List.set_cons_zero, List.set_cons_succ]))
      | ((refine own_store1 (T := 3) HO rfl rfl rfl (by first | exact .const | exact .tmp rfl | exact .func) (by rfl) (by first | exact .here | exact .there (.here)) Tryd.sizeOf3 (by repeat constructor) (by rfl) ?_); clear HO; intro wN HO; (try simp only [Act.put, List.setIfInBounds_toArray, List.set_cons_zero, List.set_cons_succ]))
      | ((refine own_store1 (T := 5) HO rfl rfl rfl (by first | exact .const | exact .tmp rfl | exact .func) (by rfl) (by first | exact .here | exact .there (.here)) Tryd.sizeOf5 (by repeat constructor) (by rfl) ?_); clear HO; intro wN HO; (try simp only [Act.put, List.setIfInBounds_toArray, List.set_cons_zero, List.set_cons_succ]))
      | ((refine own_store (T := 68) HO rfl rfl rfl rfl (by first | exact .here | exact .there (.here)) Tryd.sizeOf68 (by repeat constructor) rfl ?_); clear HO; intro wN HO; (try simp only [Act.put, List.setIfInBounds_toArray, List.set_cons_zero, List.set_cons_succ])))))
  have HON := HO.less (List.nil_sublist _)
  clear HO
  have HO := HON
  clear HON
  rw [rounds_succ]
  go_wp2_with (first
      | ((with_reducible refine gate ?_); (first
      | ((with_reducible refine gateAt (N := 13) rfl ?_); (first | (refine wp_index rfl rfl rfl rfl index_size0 ?_; (try simp only [Act.put, List.setIfInBounds_toArray, List.set_cons_zero, List.set_cons_succ])) | (refine wp_index rfl rfl rfl rfl index_size1 ?_; (try simp only [Act.put, List.setIfInBounds_toArray, List.set_cons_zero, List.set_cons_succ])) | (refine wp_index rfl rfl rfl rfl index_size2 ?_; (try simp only [Act.put, List.setIfInBounds_toArray, List.set_cons_zero, List.set_cons_succ])) | (refine wp_index rfl rfl rfl rfl index_size3 ?_; (try simp only [Act.put, List.setIfInBounds_toArray, List.set_cons_zero, List.set_cons_succ]))))
      | ((with_reducible refine gateAt (N := 4) rfl ?_); refine own_allocF (T := 68) HO rfl rfl Tryd.zeroValue68 rfl ?_; clear HO; intro g1 wN hgg1 HO; (try simp only [Act.put, List.setIfInBounds_toArray, List.set_cons_zero, List.set_cons_succ]))
      | ((refine own_load (T := 68) HO rfl rfl rfl (by first | exact .head _ | exact .tail _ (.head _)) Tryd.isAgg68 Tryd.sizeOf68 (by repeat constructor) ?_); (try simp only [Act.put, List.setIfInBounds_toArray, List.set_cons_zero, List.set_cons_succ]))
      | ((refine own_load1 (T := 3) HO rfl rfl rfl (by first | exact .head _ | exact .tail _ (.head _)) Tryd.isAgg3 rfl ?_); (try simp only [Act.put, List.setIfInBounds_toArray, List.set_cons_zero, List.set_cons_succ]))
      | ((refine own_load1 (T := 5) HO rfl rfl rfl (by first | exact .head _ | exact .tail _ (.head _)) Tryd.isAgg5 rfl ?_); (try simp only [Act.put, List.setIfInBounds_toArray, List.set_cons_zero, List.set_cons_succ]))
      | ((refine own_store1 (T := 3) HO rfl rfl rfl (by first | exact .const | exact .tmp rfl | exact .func) (by rfl) (by first | exact .here | exact .there (.here)) Tryd.sizeOf3 (by repeat constructor) (by rfl) ?_); clear HO; intro wN HO; (try simp only [Act.put, List.setIfInBounds_toArray, List.set_cons_zero, List.set_cons_succ]))
      | ((refine own_store1 (T := 5) HO rfl rfl rfl (by first | exact .const | exact .tmp rfl | exact .func) (by rfl) (by first | exact .here | exact .there (.here)) Tryd.sizeOf5 (by repeat constructor) (by rfl) ?_); clear HO; intro wN HO; (try simp only [Act.put, List.setIfInBounds_toArray, List.set_cons_zero, List.set_cons_succ]))
      | ((refine own_store (T := 68) HO rfl rfl rfl rfl (by first | exact .here | exact .there (.here)) Tryd.sizeOf68 (by repeat constructor) rfl ?_); clear HO; intro wN HO; (try simp only [Act.put, List.setIfInBounds_toArray, List.set_cons_zero, List.set_cons_succ])))))
  have HON := HO.less (List.nil_sublist _)
  clear HO
  have HO := HON
  clear HON
  rw [rounds_succ]
  go_wp2_with (first
      | ((with_reducible refine gate ?_); (first
      | ((with_reducible refine gateAt (N := 13) rfl ?_); (first | (refine wp_index rfl rfl rfl rfl index_size0 ?_; (try simp only [Act.put, List.setIfInBounds_toArray, List.set_cons_zero, List.set_cons_succ])) | (refine wp_index rfl rfl rfl rfl index_size1 ?_; (try simp only [Act.put, List.setIfInBounds_toArray, List.set_cons_zero, List.set_cons_succ])) | (refine wp_index rfl rfl rfl rfl index_size2 ?_; (try simp only [Act.put, List.setIfInBounds_toArray, List.set_cons_zero, List.set_cons_succ])) | (refine wp_index rfl rfl rfl rfl index_size3 ?_; (try simp only [Act.put, List.setIfInBounds_toArray, List.set_cons_zero, List.set_cons_succ]))))
      | ((with_reducible refine gateAt (N := 20) rfl ?_); refine own_makeF (n := 4) (T := 5) (t := 24) (z := .int .u8 0) HO rfl rfl rfl rfl (by decide) Tryd.underlying24 (by kernel_rfl) rfl ?_; clear HO; intro g3 wN hgg3 HO; simp only [List.replicate_succ, List.replicate_zero] at HO; (try simp only [Act.put, List.setIfInBounds_toArray, List.set_cons_zero, List.set_cons_succ]))
      | ((with_reducible refine gateAt (N := 4) rfl ?_); refine own_allocF (T := 68) HO rfl rfl Tryd.zeroValue68 rfl ?_; clear HO; intro g2 wN hgg2 HO; (try simp only [Act.put, List.setIfInBounds_toArray, List.set_cons_zero, List.set_cons_succ]))
      | ((refine own_load (T := 68) HO rfl rfl rfl (by first | exact .head _ | exact .tail _ (.head _)) Tryd.isAgg68 Tryd.sizeOf68 (by repeat constructor) ?_); (try simp only [Act.put, List.setIfInBounds_toArray, List.set_cons_zero, List.set_cons_succ]))
      | ((refine own_load1 (T := 3) HO rfl rfl rfl (by first | exact .head _ | exact .tail _ (.head _)) Tryd.isAgg3 rfl ?_); (try simp only [Act.put, List.setIfInBounds_toArray, List.set_cons_zero, List.set_cons_succ]))
      | ((refine own_load1 (T := 5) HO rfl rfl rfl (by first | exact .head _ | exact .tail _ (.head _)) Tryd.isAgg5 rfl ?_); (try simp only [Act.put, List.setIfInBounds_toArray, List.set_cons_zero, List.set_cons_succ]))
      | ((refine own_store1 (T := 3) HO rfl rfl rfl (by first | exact .const | exact .tmp rfl | exact .func) (by rfl) (by first | exact .here | exact .there (.here)) Tryd.sizeOf3 (by repeat constructor) (by rfl) ?_); clear HO; intro wN HO; (try simp only [Act.put, List.setIfInBounds_toArray, List.set_cons_zero, List.set_cons_succ]))
      | ((refine own_store1 (T := 5) HO rfl rfl rfl (by first | exact .const | exact .tmp rfl | exact .func) (by rfl) (by first | exact .here | exact .there (.here)) Tryd.sizeOf5 (by repeat constructor) (by rfl) ?_); clear HO; intro wN HO; (try simp only [Act.put, List.setIfInBounds_toArray, List.set_cons_zero, List.set_cons_succ]))
      | ((refine own_store (T := 68) HO rfl rfl rfl rfl (by first | exact .here | exact .there (.here)) Tryd.sizeOf68 (by repeat constructor) rfl ?_); clear HO; intro wN HO; (try simp only [Act.put, List.setIfInBounds_toArray, List.set_cons_zero, List.set_cons_succ])))))
  refine wp_loop_rounds 5 ?_
  rw [rounds_succ]
  go_wp2_with (first
      | ((with_reducible refine gate ?_); (first
      | ((refine own_load (T := 68) HO rfl rfl rfl (by first | exact .head _ | exact .tail _ (.head _)) Tryd.isAgg68 Tryd.sizeOf68 (by repeat constructor) ?_); (try simp only [Act.put, List.setIfInBounds_toArray, List.set_cons_zero, List.set_cons_succ]))
      | ((refine own_load1 (T := 3) HO rfl rfl rfl (by first | exact .head _ | exact .tail _ (.head _)) Tryd.isAgg3 rfl ?_); (try simp only [Act.put, List.setIfInBounds_toArray, List.set_cons_zero, List.set_cons_succ]))
      | ((refine own_load1 (T := 5) HO rfl rfl rfl (by first | exact .head _ | exact .tail _ (.head _)) Tryd.isAgg5 rfl ?_); (try simp only [Act.put, List.setIfInBounds_toArray, List.set_cons_zero, List.set_cons_succ]))
      | ((refine own_store1 (T := 3) HO rfl rfl rfl (by first | exact .const | exact .tmp rfl | exact .func) (by rfl) (by first | exact .here | exact .there (.here)) Tryd.sizeOf3 (by repeat constructor) (by rfl) ?_); clear HO; intro wN HO; (try simp only [Act.put, List.setIfInBounds_toArray, List.set_cons_zero, List.set_cons_succ]))
      | ((refine own_store1 (T := 5) HO rfl rfl rfl (by first | exact .const | exact .tmp rfl | exact .func) (by rfl) (by first | exact .here | exact .there (.here)) Tryd.sizeOf5 (by repeat constructor) (by rfl) ?_); clear HO; intro wN HO; (try simp only [Act.put, List.setIfInBounds_toArray, List.set_cons_zero, List.set_cons_succ]))
      | ((refine own_store (T := 68) HO rfl rfl rfl rfl (by first | exact .here | exact .there (.here)) Tryd.sizeOf68 (by repeat constructor) rfl ?_); clear HO; intro wN HO; (try simp only [Act.put, List.setIfInBounds_toArray, List.set_cons_zero, List.set_cons_succ])))))
  rw [rounds_succ]
  go_wp2_with (first
      | ((with_reducible refine gate ?_); (first
      | ((refine own_load (T := 68) HO rfl rfl rfl (by first | exact .head _ | exact .tail _ (.head _)) Tryd.isAgg68 Tryd.sizeOf68 (by repeat constructor) ?_); (try simp only [Act.put, List.setIfInBounds_toArray, List.set_cons_zero, List.set_cons_succ]))
      | ((refine own_load1 (T := 3) HO rfl rfl rfl (by first | exact .head _ | exact .tail _ (.head _)) Tryd.isAgg3 rfl ?_); (try simp only [Act.put, List.setIfInBounds_toArray, List.set_cons_zero, List.set_cons_succ]))
      | ((refine own_load1 (T := 5) HO rfl rfl rfl (by first | exact .head _ | exact .tail _ (.head _)) Tryd.isAgg5 rfl ?_); (try simp only [Act.put, List.setIfInBounds_toArray, List.set_cons_zero, List.set_cons_succ]))
      | ((refine own_store1 (T := 3) HO rfl rfl rfl (by first | exact .const | exact .tmp rfl | exact .func) (by rfl) (by first | exact .here | exact .there (.here)) Tryd.sizeOf3 (by repeat constructor) (by rfl) ?_); clear HO; intro wN HO; (try simp only [Act.put, List.setIfInBounds_toArray, List.set_cons_zero, List.set_cons_succ]))
      | ((refine own_store1 (T := 5) HO rfl rfl rfl (by first | exact .const | exact .tmp rfl | exact .func) (by rfl) (by first | exact .here | exact .there (.here)) Tryd.sizeOf5 (by repeat constructor) (by rfl) ?_); clear HO; intro wN HO; (try simp only [Act.put, List.setIfInBounds_toArray, List.set_cons_zero, List.set_cons_succ]))
      | ((refine own_store (T := 68) HO rfl rfl rfl rfl (by first | exact .here | exact .there (.here)) Tryd.sizeOf68 (by repeat constructor) rfl ?_); clear HO; intro wN HO; (try simp only [Act.put, List.setIfInBounds_toArray, List.set_cons_zero, List.set_cons_succ])))))
  rw [rounds_succ]
  go_wp2_with (first
      | ((with_reducible refine gate ?_); (first
      | ((refine own_load (T := 68) HO rfl rfl rfl (by first | exact .head _ | exact .tail _ (.head _)) Tryd.isAgg68 Tryd.sizeOf68 (by repeat constructor) ?_); (try simp only [Act.put, List.setIfInBounds_toArray, List.set_cons_zero, List.set_cons_succ]))
      | ((refine own_load1 (T := 3) HO rfl rfl rfl (by first | exact .head _ | exact .tail _ (.head _)) Tryd.isAgg3 rfl ?_); (try simp only [Act.put, List.setIfInBounds_toArray, List.set_cons_zero, List.set_cons_succ]))
      | ((refine own_load1 (T := 5) HO rfl rfl rfl (by first | exact .head _ | exact .tail _ (.head _)) Tryd.isAgg5 rfl ?_); (try simp only [Act.put, List.setIfInBounds_toArray, List.set_cons_zero, List.set_cons_succ]))
      | ((refine own_store1 (T := 3) HO rfl rfl rfl (by first | exact .const | exact .tmp rfl | exact .func) (by rfl) (by first | exact .here | exact .there (.here)) Tryd.sizeOf3 (by repeat constructor) (by rfl) ?_); clear HO; intro wN HO; (try simp only [Act.put, List.setIfInBounds_toArray, List.set_cons_zero, List.set_cons_succ]))
      | ((refine own_store1 (T := 5) HO rfl rfl rfl (by first | exact .const | exact .tmp rfl | exact .func) (by rfl) (by first | exact .here | exact .there (.here)) Tryd.sizeOf5 (by repeat constructor) (by rfl) ?_); clear HO; intro wN HO; (try simp only [Act.put, List.setIfInBounds_toArray, List.set_cons_zero, List.set_cons_succ]))
      | ((refine own_store (T := 68) HO rfl rfl rfl rfl (by first | exact .here | exact .there (.here)) Tryd.sizeOf68 (by repeat constructor) rfl ?_); clear HO; intro wN HO; (try simp only [Act.put, List.setIfInBounds_toArray, List.set_cons_zero, List.set_cons_succ])))))
  rw [rounds_succ]
  go_wp2_with (first
      | ((with_reducible refine gate ?_); (first
      | ((refine own_load (T := 68) HO rfl rfl rfl (by first | exact .head _ | exact .tail _ (.head _)) Tryd.isAgg68 Tryd.sizeOf68 (by repeat constructor) ?_); (try simp only [Act.put, List.setIfInBounds_toArray, List.set_cons_zero, List.set_cons_succ]))
      | ((refine own_load1 (T := 3) HO rfl rfl rfl (by first | exact .head _ | exact .tail _ (.head _)) Tryd.isAgg3 rfl ?_); (try simp only [Act.put, List.setIfInBounds_toArray, List.set_cons_zero, List.set_cons_succ]))
      | ((refine own_load1 (T := 5) HO rfl rfl rfl (by first | exact .head _ | exact .tail _ (.head _)) Tryd.isAgg5 rfl ?_); (try simp only [Act.put, List.setIfInBounds_toArray, List.set_cons_zero, List.set_cons_succ]))
      | ((refine own_store1 (T := 3) HO rfl rfl rfl (by first | exact .const | exact .tmp rfl | exact .func) (by rfl) (by first | exact .here | exact .there (.here)) Tryd.sizeOf3 (by repeat constructor) (by rfl) ?_); clear HO; intro wN HO; (try simp only [Act.put, List.setIfInBounds_toArray, List.set_cons_zero, List.set_cons_succ]))
      | ((refine own_store1 (T := 5) HO rfl rfl rfl (by first | exact .const | exact .tmp rfl | exact .func) (by rfl) (by first | exact .here | exact .there (.here)) Tryd.sizeOf5 (by repeat constructor) (by rfl) ?_); clear HO; intro wN HO; (try simp only [Act.put, List.setIfInBounds_toArray, List.set_cons_zero, List.set_cons_succ]))
      | ((refine own_store (T := 68) HO rfl rfl rfl rfl (by first | exact .here | exact .there (.here)) Tryd.sizeOf68 (by repeat constructor) rfl ?_); clear HO; intro wN HO; (try simp only [Act.put, List.setIfInBounds_toArray, List.set_cons_zero, List.set_cons_succ])))))
  go_ret
  refine ⟨g3, rfl, ?_⟩
  have HON := HO.less (cs := [_]) (.cons_cons _ (List.nil_sublist _))
  simpa [Int.ediv_ediv] using HON
end Go.Proofs.YtcglbfpmcpammaaDoor
end
section
namespace Go.Proofs.YtcglbfpmcpammaaDoor
set_option linter.unusedVariables false
set_option linter.unusedSimpArgs false
open Go.RowKit Kit G
def putU (x : Nat) : List UInt8 :=
  if isU (x : Int) = false then [] else
  if x ≤ 127 then [UInt8.ofNat x] else
  if x ≤ 2047 then [UInt8.ofNat (192 + x / 64), UInt8.ofNat (128 + x % 64)] else
  if x ≤ 65535 then [UInt8.ofNat (224 + x / 4096), UInt8.ofNat (128 + x / 64 % 64), UInt8.ofNat (128 + x % 64)] else
  [UInt8.ofNat (240 + x / 262144), UInt8.ofNat (128 + x / 4096 % 64), UInt8.ofNat (128 + x / 64 % 64), UInt8.ofNat (128 + x % 64)]
theorem byV_nat (a : Nat) (h : a < 256) : byV (UInt8.ofNat a) = .int .u8 (a : Int) := by
  unfold byV
  rw [UInt8.toNat_ofNat', Nat.mod_eq_of_lt h]
theorem ofNat_eq {a : Nat} (h : a < 256) (b : UInt8) : UInt8.ofNat a = b ↔ a = b.toNat := by
  constructor
  · intro e
    rw [← e, UInt8.toNat_ofNat', Nat.mod_eq_of_lt h]
  · intro e
    rw [e, UInt8.ofNat_toNat]
theorem isU_nat (y : Nat) : isU (y : Int) = true ↔ y ≤ 1114111 ∧ (y < 55296 ∨ 57343 < y) := by
  simp [isU]
  omega
theorem putU_1 (y : Nat) (a : UInt8) : putU y = [a] ↔ y ≤ 127 ∧ a.toNat = y := by
  have hi := isU_nat y
  unfold putU
  split
  · rename_i h
    rw [h] at hi
    simp at hi ⊢
    omega
  · split
    · rename_i h1 h2
      simp [ofNat_eq (show y < 256 by omega)]
      omega
    · split
      · simp; omega
      · split <;> (simp; omega)
theorem putU_2 (y : Nat) (a b : UInt8) : putU y = [a, b] ↔ 128 ≤ y ∧ y ≤ 2047 ∧ a.toNat = 192 + y / 64 ∧ b.toNat = 128 + y % 64 := by
  have hi := isU_nat y
  unfold putU
  split
  · rename_i h
    rw [h] at hi
    simp at hi ⊢
    omega
  · split
    · simp; omega
    · split
      · rename_i h1 h2 h3
        simp only [List.cons.injEq, and_true, ofNat_eq (show 192 + y / 64 < 256 by omega), ofNat_eq (show 128 + y % 64 < 256 by omega)]
        omega
      · split <;> (simp; omega)
theorem putU_3 (y : Nat) (a b c : UInt8) : putU y = [a, b, c] ↔ 2048 ≤ y ∧ y ≤ 65535 ∧ (y < 55296 ∨ 57343 < y) ∧ a.toNat = 224 + y / 4096 ∧ b.toNat = 128 + y / 64 % 64 ∧ c.toNat = 128 + y % 64 := by
  have hi := isU_nat y
  unfold putU
  split
  · rename_i h
    rw [h] at hi
    simp at hi ⊢
    omega
  · rename_i h
    have h' : isU (y : Int) = true := by simpa using h
    rw [h'] at hi
    simp at hi
    split
    · simp; omega
    · split
      · simp; omega
      · split
        · rename_i h1 h2 h3
          simp only [List.cons.injEq, and_true, ofNat_eq (show 224 + y / 4096 < 256 by omega), ofNat_eq (show 128 + y / 64 % 64 < 256 by omega), ofNat_eq (show 128 + y % 64 < 256 by omega)]
          omega
        · simp; omega
theorem putU_4 (y : Nat) (a b c d : UInt8) : putU y = [a, b, c, d] ↔ 65536 ≤ y ∧ y ≤ 1114111 ∧ a.toNat = 240 + y / 262144 ∧ b.toNat = 128 + y / 4096 % 64 ∧ c.toNat = 128 + y / 64 % 64 ∧ d.toNat = 128 + y % 64 := by
  have hi := isU_nat y
  unfold putU
  split
  · rename_i h
    rw [h] at hi
    simp at hi ⊢
    omega
  · rename_i h
    have h' : isU (y : Int) = true := by simpa using h
    rw [h'] at hi
    simp at hi
    split
    · simp; omega
    · split
      · simp; omega
      · split
        · simp; omega
        · simp only [List.cons.injEq, and_true, ofNat_eq (show 240 + y / 262144 < 256 by omega), ofNat_eq (show 128 + y / 4096 % 64 < 256 by omega), ofNat_eq (show 128 + y / 64 % 64 < 256 by omega), ofNat_eq (show 128 + y % 64 < 256 by omega)]
          omega
end Go.Proofs.YtcglbfpmcpammaaDoor
end
section
namespace Go.Proofs.YtcglbfpmcpammaaDoor
set_option linter.unusedVariables false
set_option linter.unusedSimpArgs false
open Go.RowKit Kit G
attribute [local irreducible] wpList Calls wpQuiet
set_option maxRecDepth 100000 in
set_option maxHeartbeats 4000000 in
theorem put0_calls (x : Nat) (h : isU (x : Int) = false) (w : World) : Calls Tryd.prog 43 #[.int .i64 (x : Int)] w fun e w' => e = .returned (.slice none 0 0) ∧ Below w.heap.size w w' := by
  have HO := Mine.start w
  have HIC : Hid (∀ W, Calls Tryd.prog 48 #[.int .i64 (x : Int)] W fun e w' => e = .returned (.bool false) ∧ Below W.heap.size W w') := Lib.hid fun W => by have h2 := isU_calls (x : Int) W; rw [h] at h2; exact h2
  clear h
  go_enter Tryd.func43, Tryd.ntmps43
  go_wp2_with (go_at_call 48; refine (HIC.out _).mono ?_; rintro eN wN ⟨rfl, hbN⟩; have HON := HO.call hbN; clear HO hbN; have HO := HON; clear HON)
  go_ret
  exact ⟨rfl, HO.below⟩
theorem utfPut_calls (x : Nat) (w : World) : Calls Tryd.prog 43 #[.int .i64 (x : Int)] w fun e w' => ∃ v R, e = .returned v ∧ GRow 5 v ((putU x).map byV) R ∧ Mine w w' R := by
  cases hu : isU (x : Int) with
  | false =>
    have e0 : putU x = [] := by unfold putU; rw [if_pos hu]
    refine (put0_calls x hu w).mono fun e w' ⟨h1, h2⟩ => ⟨_, [], h1, by rw [e0]; exact GRow.nil _, ⟨h2, List.nodup_nil, by simp⟩⟩
  | true =>
    have hx : x ≤ 1114111 ∧ (x < 55296 ∨ 57343 < x) := by simp [isU] at hu; omega
    have e1 : ¬ isU (x : Int) = false := by rw [hu]; decide
    by_cases h1 : x ≤ 127
    · have e0 : putU x = [UInt8.ofNat x] := by unfold putU; rw [if_neg e1, if_pos h1]
      refine (put1_calls x h1 w).mono fun e w' ⟨g, h1', h2⟩ => ⟨_, [(g, _)], h1', ?_, h2⟩
      rw [e0, List.map_singleton, byV_nat x (by omega)]
      exact GRow.lit (xs := [_]) (by simp [maxLen])
    by_cases h2 : x ≤ 2047
    · have e0 : putU x = [UInt8.ofNat (192 + x / 64), UInt8.ofNat (128 + x % 64)] := by unfold putU; rw [if_neg e1, if_neg h1, if_pos h2]
      refine (put2_calls x (by omega) h2 w).mono fun e w' ⟨g, h1', h2'⟩ => ⟨_, [(g, _)], h1', ?_, h2'⟩
      rw [e0]
      simp only [List.map_cons, List.map_nil]
      rw [byV_nat _ (by omega), byV_nat _ (by omega)]
      exact GRow.lit (xs := [_, _]) (by simp [maxLen])
    by_cases h3 : x ≤ 65535
    · have e0 : putU x = [UInt8.ofNat (224 + x / 4096), UInt8.ofNat (128 + x / 64 % 64), UInt8.ofNat (128 + x % 64)] := by unfold putU; rw [if_neg e1, if_neg h1, if_neg h2, if_pos h3]
      refine (put3_calls x (by omega) h3 hx.2 w).mono fun e w' ⟨g, h1', h2'⟩ => ⟨_, [(g, _)], h1', ?_, h2'⟩
      rw [e0]
      simp only [List.map_cons, List.map_nil]
      rw [byV_nat _ (by omega), byV_nat _ (by omega), byV_nat _ (by omega)]
      exact GRow.lit (xs := [_, _, _]) (by simp [maxLen])
    · have e0 : putU x = [UInt8.ofNat (240 + x / 262144), UInt8.ofNat (128 + x / 4096 % 64), UInt8.ofNat (128 + x / 64 % 64), UInt8.ofNat (128 + x % 64)] := by unfold putU; rw [if_neg e1, if_neg h1, if_neg h2, if_neg h3]
      refine (put4_calls x (by omega) hx.1 w).mono fun e w' ⟨g, h1', h2'⟩ => ⟨_, [(g, _)], h1', ?_, h2'⟩
      rw [e0]
      simp only [List.map_cons, List.map_nil]
      rw [byV_nat _ (by omega), byV_nat _ (by omega), byV_nat _ (by omega), byV_nat _ (by omega)]
      exact GRow.lit (xs := [_, _, _, _]) (by simp [maxLen])
end Go.Proofs.YtcglbfpmcpammaaDoor
end
section
namespace Go.Proofs.YtcglbfpmcpammaaDoor
set_option linter.unusedVariables false
set_option linter.unusedSimpArgs false
open Go.RowKit Kit G Go.Proofs.YtcglbfpmcpammaaDoorW.PrintWords Go.Proofs.YtcglbfpmcpammaaDoorW.PrintLast Go.Proofs.YtcglbfpmcpammaaDoorW.PrintMore
def bU (l : List UInt8) (i : Nat) : Nat := (l[i]?.getD 0).toNat
def guessU (l : List UInt8) (n : Nat) : Nat :=
  if n = 1 then bU l 0 else
  if n = 2 then (bU l 0 + 64) % 256 * 64 + (bU l 1 + 128) % 256 else
  if n = 3 then (bU l 0 + 32) % 256 * 4096 + (bU l 1 + 128) % 256 * 64 + (bU l 2 + 128) % 256 else
  (bU l 0 + 16) % 256 * 262144 + (bU l 1 + 128) % 256 * 4096 + (bU l 2 + 128) % 256 * 64 + (bU l 3 + 128) % 256
def fitsU (l : List UInt8) (n : Nat) : Bool := decide (n ≤ l.length) && decide (putU (guessU l n) = l.take n)
def takeU (l : List UInt8) : Nat × Nat :=
  if fitsU l 1 then (guessU l 1, 1) else if fitsU l 2 then (guessU l 2, 2) else if fitsU l 3 then (guessU l 3, 3) else if fitsU l 4 then (guessU l 4, 4) else (0, 0)
theorem bU_lt (l : List UInt8) (i : Nat) : bU l i < 256 := by unfold bU; exact UInt8.toNat_lt _
theorem rd_bU (l : List UInt8) (i : Nat) (h : i < l.length) : rd (natsB l) (i : Int) = (bU l i : Int) := by
  unfold rd bU natsB
  simp [List.getD_eq_getElem?_getD, h]
end Go.Proofs.YtcglbfpmcpammaaDoor
end
section
namespace Go.Proofs.YtcglbfpmcpammaaDoor
set_option linter.unusedVariables false
set_option linter.unusedSimpArgs false
open Go.RowKit Kit G
def maskU (l : List UInt8) (n : Nat) : Bool :=
  if n = 1 then decide (bU l 0 < 128) else if n = 2 then decide (bU l 0 / 32 = 6) else if n = 3 then decide (bU l 0 / 16 = 14) else decide (bU l 0 / 8 = 30)
def progU (l : List UInt8) (n : Nat) : Nat :=
  if n = 1 then bU l 0 % 128 else
  if n = 2 then bU l 0 % 32 * 64 + bU l 1 % 64 else
  if n = 3 then (bU l 0 % 16 * 64 + bU l 1 % 64) * 64 + bU l 2 % 64 else
  ((bU l 0 % 8 * 64 + bU l 1 % 64) * 64 + bU l 2 % 64) * 64 + bU l 3 % 64
theorem prog_1 (l : List UInt8) (hl : 1 ≤ l.length) : (maskU l 1 = true ∧ putU (progU l 1) = l.take 1 ↔ fitsU l 1 = true) ∧ (fitsU l 1 = true → progU l 1 = guessU l 1) := by
  obtain ⟨a, l, rfl⟩ : ∃ a t, l = a :: t := by
    cases l with
    | nil => exact absurd hl (by decide)
    | cons a t => exact ⟨a, t, rfl⟩
  have ha := a.toNat_lt
  have e0 : bU (a :: l) 0 = a.toNat := rfl
  have m : maskU (a :: l) 1 = decide (a.toNat < 128) := rfl
  have p : progU (a :: l) 1 = a.toNat % 128 := rfl
  have g : guessU (a :: l) 1 = a.toNat := rfl
  have t : (a :: l).take 1 = [a] := rfl
  unfold fitsU
  rw [m, p, g, t, putU_1, Bool.and_eq_true, decide_eq_true_eq, decide_eq_true_eq, decide_eq_true_eq, putU_1]
  omega
theorem prog_2 (l : List UInt8) (hl : 2 ≤ l.length) : (maskU l 2 = true ∧ putU (progU l 2) = l.take 2 ↔ fitsU l 2 = true) ∧ (fitsU l 2 = true → progU l 2 = guessU l 2) := by
  match l, hl with
  | a :: b :: l, _ =>
    have ha := a.toNat_lt
    have hb := b.toNat_lt
    have e0 : bU (a :: b :: l) 0 = a.toNat := rfl
    have e1 : bU (a :: b :: l) 1 = b.toNat := rfl
    simp only [maskU, fitsU, progU, guessU, e0, e1, if_true, if_false, Nat.reduceEqDiff, List.take_succ_cons, List.take_zero, Bool.and_eq_true, decide_eq_true_eq, putU_2, List.length_cons]
    omega
theorem prog_3 (l : List UInt8) (hl : 3 ≤ l.length) : (maskU l 3 = true ∧ putU (progU l 3) = l.take 3 ↔ fitsU l 3 = true) ∧ (fitsU l 3 = true → progU l 3 = guessU l 3) := by
  match l, hl with
  | a :: b :: c :: l, _ =>
    have ha := a.toNat_lt
    have hb := b.toNat_lt
    have hc := c.toNat_lt
    have e0 : bU (a :: b :: c :: l) 0 = a.toNat := rfl
    have e1 : bU (a :: b :: c :: l) 1 = b.toNat := rfl
    have e2 : bU (a :: b :: c :: l) 2 = c.toNat := rfl
    simp only [maskU, fitsU, progU, guessU, e0, e1, e2, if_true, if_false, Nat.reduceEqDiff, List.take_succ_cons, List.take_zero, Bool.and_eq_true, decide_eq_true_eq, putU_3, List.length_cons]
    have key : ∀ q0 q1 q2 : Nat, (q0 * 64 + q1) * 64 + q2 = q0 * 4096 + q1 * 64 + q2 := fun q0 q1 q2 => by omega
    have same : (a.toNat / 16 = 14 ∧ b.toNat / 64 = 2 ∧ c.toNat / 64 = 2) → (a.toNat + 32) % 256 = a.toNat % 16 ∧ (b.toNat + 128) % 256 = b.toNat % 64 ∧ (c.toNat + 128) % 256 = c.toNat % 64 := by omega
    have t1 : (maskU [] 0 = maskU [] 0) := rfl
    rw [key]
    constructor
    · constructor
      · rintro ⟨h0, h1, h2, h3, h4, h5, h6⟩
        obtain ⟨s0, s1, s2⟩ := same ⟨h0, by omega, by omega⟩
        rw [s0, s1, s2]
        exact ⟨by omega, h1, h2, h3, h4, h5, h6⟩
      · rintro ⟨hq, h1, h2, h3, h4, h5, h6⟩
        have c0 : a.toNat / 16 = 14 := by omega
        have c1 : b.toNat / 64 = 2 := by omega
        have c2 : c.toNat / 64 = 2 := by omega
        obtain ⟨s0, s1, s2⟩ := same ⟨c0, c1, c2⟩
        rw [s0, s1, s2] at h1 h2 h3 h4 h5 h6
        exact ⟨c0, h1, h2, h3, h4, h5, h6⟩
    · rintro ⟨hq, h1, h2, h3, h4, h5, h6⟩
      have c0 : a.toNat / 16 = 14 := by omega
      have c1 : b.toNat / 64 = 2 := by omega
      have c2 : c.toNat / 64 = 2 := by omega
      obtain ⟨s0, s1, s2⟩ := same ⟨c0, c1, c2⟩
      rw [s0, s1, s2]
theorem prog_4 (l : List UInt8) (hl : 4 ≤ l.length) : (maskU l 4 = true ∧ putU (progU l 4) = l.take 4 ↔ fitsU l 4 = true) ∧ (fitsU l 4 = true → progU l 4 = guessU l 4) := by
  match l, hl with
  | a :: b :: c :: d :: l, _ =>
    have ha := a.toNat_lt
    have hb := b.toNat_lt
    have hc := c.toNat_lt
    have hd := d.toNat_lt
    have e0 : bU (a :: b :: c :: d :: l) 0 = a.toNat := rfl
    have e1 : bU (a :: b :: c :: d :: l) 1 = b.toNat := rfl
    have e2 : bU (a :: b :: c :: d :: l) 2 = c.toNat := rfl
    have e3 : bU (a :: b :: c :: d :: l) 3 = d.toNat := rfl
    simp only [maskU, fitsU, progU, guessU, e0, e1, e2, e3, if_true, if_false, Nat.reduceEqDiff, List.take_succ_cons, List.take_zero, Bool.and_eq_true, decide_eq_true_eq, putU_4, List.length_cons]
    have key : ∀ q0 q1 q2 q3 : Nat, ((q0 * 64 + q1) * 64 + q2) * 64 + q3 = q0 * 262144 + q1 * 4096 + q2 * 64 + q3 := fun q0 q1 q2 q3 => by omega
    have sa : a.toNat / 8 = 30 → (a.toNat + 16) % 256 = a.toNat % 8 := by omega
    have sb : b.toNat / 64 = 2 → (b.toNat + 128) % 256 = b.toNat % 64 := by omega
    have sc : c.toNat / 64 = 2 → (c.toNat + 128) % 256 = c.toNat % 64 := by omega
    have sd : d.toNat / 64 = 2 → (d.toNat + 128) % 256 = d.toNat % 64 := by omega
    have cont : ∀ x y : Nat, x = 128 + y % 64 → x / 64 = 2 := by omega
    have first : ∀ x y : Nat, x = 240 + y / 262144 → y ≤ 1114111 → x / 8 = 30 := by omega
    rw [key]
    constructor
    · constructor
      · rintro ⟨h0, h1, h2, h4, h5, h6, h7⟩
        rw [sa h0, sb (cont _ _ h5), sc (cont _ _ h6), sd (cont _ _ h7)]
        exact ⟨by omega, h1, h2, h4, h5, h6, h7⟩
      · rintro ⟨hq, h1, h2, h4, h5, h6, h7⟩
        have c0 := first _ _ h4 h2
        have c1 := cont _ _ h5
        have c2 := cont _ _ h6
        have c3 := cont _ _ h7
        rw [sa c0, sb c1, sc c2, sd c3] at h1 h2 h4 h5 h6 h7
        exact ⟨c0, h1, h2, h4, h5, h6, h7⟩
    · rintro ⟨hq, h1, h2, h4, h5, h6, h7⟩
      rw [sa (first _ _ h4 h2), sb (cont _ _ h5), sc (cont _ _ h6), sd (cont _ _ h7)]
end Go.Proofs.YtcglbfpmcpammaaDoor
end
section
namespace Go.Proofs.YtcglbfpmcpammaaDoor
set_option linter.unusedVariables false
set_option linter.unusedSimpArgs false
open Go.RowKit Kit G Go.Proofs.YtcglbfpmcpammaaDoorW.PrintWords
theorem R_row {e base : Nat} {ok : Nat → Prop} {w : World} {v : Value} {l : List UInt8} (h : Kd.R (Kd.int .u8) e w base ok v (natsB l)) : ∃ A c, v = .slice A l.length c ∧ l.length ≤ c ∧ Reads w A (l.map byV) := by
  obtain ⟨A, c, h1, h2, h3⟩ := Kd.R_reads h
  have h4 := reads_bytes h3 (isB_natsB l)
  rw [bytesI_natsB] at h4
  rw [natsB_length] at h1 h2
  exact ⟨A, c, h1, h2, h4⟩
theorem C_bytes {w : World} {A : Option Addr} {l : List UInt8} (h : Reads w A (l.map byV)) (hm : l.length ≤ 4611686018427387904) : (Kd.int .u8).C w A (natsB l).length (natsB l) := by
  refine Kd.C_of_reads (d := (0 : Int)) ⟨rfl, by rw [natsB_length]; omega, fun h0 => ?_⟩
  rw [natsB_length] at h0
  obtain ⟨b0, o0, he, _⟩ := h 0 (byV (l[0]'(by omega))) (by rw [List.getElem?_map, List.getElem?_eq_getElem (by omega)]; rfl)
  refine ⟨_, he, fun j hj => ?_⟩
  rw [natsB_length] at hj
  obtain ⟨b1, o1, he1, hc⟩ := h j (byV (l[j]'hj)) (by rw [List.getElem?_map, List.getElem?_eq_getElem hj]; rfl)
  rw [he] at he1
  cases he1
  have e : (⟨b0, o0, none⟩ : Addr).add j = ⟨b0, o0 + j, none⟩ := by unfold Addr.add; split <;> simp_all
  rw [e, hc]
  simp [natsB, List.getD_eq_getElem?_getD, hj, byV]
end Go.Proofs.YtcglbfpmcpammaaDoor
end
section
namespace Go.Proofs.YtcglbfpmcpammaaDoor
set_option linter.unusedVariables false
set_option linter.unusedSimpArgs false
theorem takeU_cases (l : List UInt8) : (∃ n, 1 ≤ n ∧ n ≤ 4 ∧ fitsU l n = true ∧ (∀ m, 1 ≤ m → m < n → fitsU l m = false) ∧ takeU l = (guessU l n, n)) ∨ ((∀ m, 1 ≤ m → m ≤ 4 → fitsU l m = false) ∧ takeU l = (0, 0)) := by
  unfold takeU
  cases h1 : fitsU l 1
  · cases h2 : fitsU l 2
    · cases h3 : fitsU l 3
      · cases h4 : fitsU l 4
        · refine .inr ⟨fun m a b => ?_, rfl⟩
          have : m = 1 ∨ m = 2 ∨ m = 3 ∨ m = 4 := by omega
          rcases this with rfl | rfl | rfl | rfl <;> assumption
        · refine .inl ⟨4, by omega, by omega, h4, fun m a b => ?_, rfl⟩
          have : m = 1 ∨ m = 2 ∨ m = 3 := by omega
          rcases this with rfl | rfl | rfl <;> assumption
      · refine .inl ⟨3, by omega, by omega, h3, fun m a b => ?_, rfl⟩
        have : m = 1 ∨ m = 2 := by omega
        rcases this with rfl | rfl <;> assumption
    · refine .inl ⟨2, by omega, by omega, h2, fun m a b => ?_, rfl⟩
      have : m = 1 := by omega
      subst this; assumption
  · exact .inl ⟨1, by omega, by omega, h1, fun m a b => by omega, rfl⟩
theorem takeU_of {l : List UInt8} {n : Nat} (h1 : 1 ≤ n) (h4 : n ≤ 4) (hf : fitsU l n = true) (hno : ∀ m, 1 ≤ m → m < n → fitsU l m = false) : takeU l = (guessU l n, n) := by
  rcases takeU_cases l with ⟨k, k1, k4, kf, kno, ke⟩ | ⟨hn, _⟩
  · have : k = n := by
      rcases Nat.lt_trichotomy k n with h | h | h
      · rw [hno k k1 h] at kf; cases kf
      · exact h
      · rw [kno n h1 h] at hf; cases hf
    subst this; exact ke
  · rw [hn n h1 h4] at hf; cases hf
theorem bU_app {x y : List UInt8} {i : Nat} (h : i < x.length) : bU (x ++ y) i = bU x i := by
  unfold bU
  rw [List.getElem?_append_left h]
theorem fitsU_app (x y : List UInt8) (n : Nat) (h1 : 1 ≤ n) (h4 : n ≤ 4) (hn : n ≤ x.length) : fitsU (x ++ y) n = fitsU x n ∧ guessU (x ++ y) n = guessU x n := by
  have hb : ∀ i, i < n → bU (x ++ y) i = bU x i := fun i hi => bU_app (by omega)
  have hg : guessU (x ++ y) n = guessU x n := by
    unfold guessU
    have : n = 1 ∨ n = 2 ∨ n = 3 ∨ n = 4 := by omega
    rcases this with h | h | h | h
    · simp only [if_pos h, hb 0 (by omega)]
    · simp only [if_neg (show ¬ n = 1 by omega), if_pos h, hb 0 (by omega), hb 1 (by omega)]
    · simp only [if_neg (show ¬ n = 1 by omega), if_neg (show ¬ n = 2 by omega), if_pos h, hb 0 (by omega), hb 1 (by omega), hb 2 (by omega)]
    · simp only [if_neg (show ¬ n = 1 by omega), if_neg (show ¬ n = 2 by omega), if_neg (show ¬ n = 3 by omega), hb 0 (by omega), hb 1 (by omega), hb 2 (by omega), hb 3 (by omega)]
  refine ⟨?_, hg⟩
  unfold fitsU
  rw [hg, List.take_append_of_le_length hn]
  have e1 : decide (n ≤ (x ++ y).length) = true := decide_eq_true (by simp; omega)
  have e2 : decide (n ≤ x.length) = true := decide_eq_true hn
  rw [e1, e2]
theorem fitsU_spec {l : List UInt8} {n : Nat} (h : fitsU l n = true) : n ≤ l.length ∧ putU (guessU l n) = l.take n := by
  unfold fitsU at h
  simpa using h
theorem takeU_spec {l : List UInt8} {r n : Nat} (h : takeU l = (r, n)) : n ≤ l.length ∧ n ≤ 4 ∧ (0 < n → putU r = l.take n) ∧ (n = 0 → r = 0) := by
  rcases takeU_cases l with ⟨k, k1, k4, kf, kno, ke⟩ | ⟨hn, he⟩
  · rw [h] at ke
    cases ke
    exact ⟨(fitsU_spec kf).1, k4, fun _ => (fitsU_spec kf).2, fun e => by omega⟩
  · rw [h] at he
    cases he
    exact ⟨Nat.zero_le _, by omega, fun e => by omega, fun _ => rfl⟩
theorem takeU_app {x : List UInt8} (y : List UInt8) {r n : Nat} (h : takeU x = (r, n)) (hn : 0 < n) : takeU (x ++ y) = (r, n) := by
  rcases takeU_cases x with ⟨k, k1, k4, kf, kno, ke⟩ | ⟨_, he⟩
  · rw [h] at ke
    cases ke
    have hk := (fitsU_spec kf).1
    have e := fitsU_app x y n k1 k4 hk
    rw [takeU_of (l := x ++ y) k1 k4 (by rw [e.1]; exact kf) (fun m a b => by rw [(fitsU_app x y m a (by omega) (by omega)).1]; exact kno m a b), e.2]
  · rw [h] at he
    cases he
    omega
def cleanR (r : Nat) : Bool := decide (r = 9) || decide (r = 10) || decide (r = 13) || (decide (32 ≤ r) && (decide (r < 127) || decide (159 < r)))
def pointsF : Nat → List UInt8 → List (List UInt8 × Bool)
  | 0, _ => []
  | f + 1, l => if l = [] then [] else (l.take (max (takeU l).2 1), decide (0 < (takeU l).2) && cleanR (takeU l).1) :: pointsF f (l.drop (max (takeU l).2 1))
def pointsL (l : List UInt8) : List (List UInt8 × Bool) := pointsF l.length l
theorem pointsF_fuel : ∀ (f g : Nat) (l : List UInt8), l.length ≤ f → l.length ≤ g → pointsF f l = pointsF g l
  | 0, 0, l, _, _ => rfl
  | 0, g + 1, l, h, _ => by
    have : l = [] := List.eq_nil_of_length_eq_zero (by omega)
    subst this; simp [pointsF]
  | f + 1, 0, l, _, h => by
    have : l = [] := List.eq_nil_of_length_eq_zero (by omega)
    subst this; simp [pointsF]
  | f + 1, g + 1, l, hf, hg => by
    unfold pointsF
    split
    · rfl
    · rename_i h
      have h0 : 0 < l.length := List.length_pos_iff.2 h
      rw [pointsF_fuel f g _ (by simp; omega) (by simp; omega)]
theorem pointsL_nil : pointsL [] = [] := rfl
theorem pointsL_cons {l : List UInt8} (h : l ≠ []) : pointsL l = (l.take (max (takeU l).2 1), decide (0 < (takeU l).2) && cleanR (takeU l).1) :: pointsL (l.drop (max (takeU l).2 1)) := by
  have h0 : 0 < l.length := List.length_pos_iff.2 h
  unfold pointsL
  obtain ⟨f, hf⟩ : ∃ f, l.length = f + 1 := ⟨l.length - 1, by omega⟩
  rw [hf]
  conv => lhs; unfold pointsF
  rw [if_neg h]
  congr 1
  exact pointsF_fuel _ _ _ (by simp; omega) (by simp)
def cleanOf (ps : List (List UInt8 × Bool)) : List UInt8 := (ps.filter (·.2)).flatMap (·.1)
def cleanL (l : List UInt8) : List UInt8 := cleanOf (pointsL l)
theorem cleanOf_append (a b : List (List UInt8 × Bool)) : cleanOf (a ++ b) = cleanOf a ++ cleanOf b := by simp [cleanOf]
theorem cleanOf_one (x : List UInt8) (b : Bool) : cleanOf [(x, b)] = if b then x else [] := by cases b <;> simp [cleanOf]
theorem cleanL_step {l : List UInt8} (h : l ≠ []) : cleanL l = (if decide (0 < (takeU l).2) && cleanR (takeU l).1 then l.take (takeU l).2 else []) ++ cleanL (l.drop (max (takeU l).2 1)) := by
  unfold cleanL
  rw [pointsL_cons h, ← List.singleton_append, cleanOf_append, cleanOf_one]
  congr 1
  by_cases h0 : 0 < (takeU l).2
  · rw [Nat.max_eq_left h0]
  · simp [h0]
theorem cleanL_nil : cleanL [] = [] := rfl
inductive Cl : List UInt8 → Prop
  | nil : Cl []
  | cons {x y : List UInt8} {r : Nat} (h0 : 0 < x.length) (ht : takeU x = (r, x.length)) (hr : cleanR r = true) (h : Cl y) : Cl (x ++ y)
theorem Cl.app {x y : List UInt8} (h : Cl x) (h' : Cl y) : Cl (x ++ y) := by
  induction h with
  | nil => exact h'
  | cons h0 ht hr _ ih => rw [List.append_assoc]; exact .cons h0 ht hr ih
theorem cleanL_len : ∀ (f : Nat) (l : List UInt8), l.length ≤ f → (cleanL l).length ≤ l.length
  | 0, l, h => by
    have : l = [] := List.eq_nil_of_length_eq_zero (by omega)
    subst this; simp [cleanL_nil]
  | f + 1, l, h => by
    by_cases hl : l = []
    · subst hl; simp [cleanL_nil]
    · have h0 : 0 < l.length := List.length_pos_iff.2 hl
      rw [cleanL_step hl]
      have ih := cleanL_len f (l.drop (max (takeU l).2 1)) (by simp; omega)
      have hs := (takeU_spec (show takeU l = ((takeU l).1, (takeU l).2) from rfl)).1
      rw [List.length_drop] at ih
      rw [List.length_append]
      split
      · rename_i h1
        simp at h1
        rw [List.length_take]
        omega
      · simp; omega
theorem cleanL_le (l : List UInt8) : (cleanL l).length ≤ l.length := cleanL_len _ l (Nat.le_refl _)
def allF : Nat → List UInt8 → Option (List Nat)
  | 0, l => if l = [] then some [] else none
  | f + 1, l => if l = [] then some [] else if (takeU l).2 = 0 then none else (allF f (l.drop (takeU l).2)).map ((takeU l).1 :: ·)
def allU (l : List UInt8) : Option (List Nat) := allF l.length l
theorem allF_fuel : ∀ (f g : Nat) (l : List UInt8), l.length ≤ f → l.length ≤ g → allF f l = allF g l
  | 0, 0, l, _, _ => rfl
  | 0, g + 1, l, h, _ => by
    have : l = [] := List.eq_nil_of_length_eq_zero (by omega)
    subst this; simp [allF]
  | f + 1, 0, l, _, h => by
    have : l = [] := List.eq_nil_of_length_eq_zero (by omega)
    subst this; simp [allF]
  | f + 1, g + 1, l, hf, hg => by
    unfold allF
    split
    · rfl
    · rename_i h
      have h0 : 0 < l.length := List.length_pos_iff.2 h
      split
      · rfl
      · rw [allF_fuel f g _ (by simp; omega) (by simp; omega)]
theorem allU_cons {l : List UInt8} (h : l ≠ []) : allU l = if (takeU l).2 = 0 then none else (allU (l.drop (takeU l).2)).map ((takeU l).1 :: ·) := by
  have h0 : 0 < l.length := List.length_pos_iff.2 h
  unfold allU
  obtain ⟨f, hf⟩ : ∃ f, l.length = f + 1 := ⟨l.length - 1, by omega⟩
  rw [hf]
  conv => lhs; unfold allF
  rw [if_neg h]
  split
  · rfl
  · rw [allF_fuel f _ (l.drop (takeU l).2) (by simp; omega) (Nat.le_refl _)]
theorem Cl.all {l : List UInt8} (h : Cl l) : ∃ k, allU l = some k ∧ ∀ r ∈ k, cleanR r = true := by
  induction h with
  | nil => exact ⟨[], rfl, by simp⟩
  | @cons x y r h0 ht hr _ ih =>
    obtain ⟨k, hk, hc⟩ := ih
    have ha := takeU_app y ht h0
    refine ⟨r :: k, ?_, ?_⟩
    · rw [allU_cons (by intro e; simp at e; have := e.1; subst this; simp at h0), ha]
      simp only [if_neg (Nat.ne_of_gt h0), List.drop_left, hk, Option.map_some]
    · intro q hq
      rcases List.mem_cons.1 hq with rfl | hq
      · exact hr
      · exact hc q hq
def spanF : Nat → List UInt8 → Nat
  | 0, _ => 0
  | f + 1, l => if l = [] then 0 else if (decide (0 < (takeU l).2) && cleanR (takeU l).1) = true then (takeU l).2 + spanF f (l.drop (takeU l).2) else 0
def spanU (l : List UInt8) : Nat := spanF l.length l
theorem spanF_fuel : ∀ (f g : Nat) (l : List UInt8), l.length ≤ f → l.length ≤ g → spanF f l = spanF g l
  | 0, 0, l, _, _ => rfl
  | 0, g + 1, l, h, _ => by
    have : l = [] := List.eq_nil_of_length_eq_zero (by omega)
    subst this; simp [spanF]
  | f + 1, 0, l, _, h => by
    have : l = [] := List.eq_nil_of_length_eq_zero (by omega)
    subst this; simp [spanF]
  | f + 1, g + 1, l, hf, hg => by
    unfold spanF
    split
    · rfl
    · rename_i h
      have h0 : 0 < l.length := List.length_pos_iff.2 h
      split
      · rename_i h1
        simp at h1
        rw [spanF_fuel f g _ (by simp; omega) (by simp; omega)]
      · rfl
theorem spanU_cons {l : List UInt8} (h : l ≠ []) : spanU l = if (decide (0 < (takeU l).2) && cleanR (takeU l).1) = true then (takeU l).2 + spanU (l.drop (takeU l).2) else 0 := by
  have h0 : 0 < l.length := List.length_pos_iff.2 h
  unfold spanU
  obtain ⟨f, hf⟩ : ∃ f, l.length = f + 1 := ⟨l.length - 1, by omega⟩
  rw [hf]
  conv => lhs; unfold spanF
  rw [if_neg h]
  split
  · rename_i h1
    simp at h1
    rw [spanF_fuel f _ (l.drop (takeU l).2) (by simp; omega) (Nat.le_refl _)]
  · rfl
theorem spanF_le : ∀ (f : Nat) (l : List UInt8), l.length ≤ f → spanF f l ≤ l.length
  | 0, l, _ => Nat.zero_le _
  | f + 1, l, h => by
    unfold spanF
    split
    · exact Nat.zero_le _
    · rename_i hl
      have h0 : 0 < l.length := List.length_pos_iff.2 hl
      split
      · rename_i h1
        simp at h1
        have ih := spanF_le f (l.drop (takeU l).2) (by simp; omega)
        have hs := (takeU_spec (show takeU l = ((takeU l).1, (takeU l).2) from rfl)).1
        rw [List.length_drop] at ih
        omega
      · exact Nat.zero_le _
theorem spanU_le (l : List UInt8) : spanU l ≤ l.length := spanF_le _ l (Nat.le_refl _)
def openM : List UInt8 := [27, 91, 50, 48, 48, 126]
def shutM : List UInt8 := [27, 91, 50, 48, 49, 126]
def takeP (b : List UInt8) : Option (List UInt8 × Nat) :=
  if b.take 6 = openM then
    if ((b.drop 6).drop (spanU (b.drop 6))).take 6 = shutM then some ((b.drop 6).take (spanU (b.drop 6)), spanU (b.drop 6) + 12) else none
  else none
def sentP (p : List UInt8) : List UInt8 := openM ++ cleanL p ++ shutM
def spanOf : List (List UInt8 × Bool) → Nat
  | [] => 0
  | (c, b) :: t => if b = true then c.length + spanOf t else 0
theorem spanF_of : ∀ (f : Nat) (l : List UInt8), l.length ≤ f → spanU l = spanOf (pointsL l)
  | 0, l, h => by
    have : l = [] := List.eq_nil_of_length_eq_zero (by omega)
    subst this; rfl
  | f + 1, l, h => by
    by_cases hl : l = []
    · subst hl; rfl
    · have h0 : 0 < l.length := List.length_pos_iff.2 hl
      rw [spanU_cons hl, pointsL_cons hl]
      unfold spanOf
      split
      · rename_i h1
        have h2 : 0 < (takeU l).2 := by simp at h1; exact h1.1
        have hs := (takeU_spec (show takeU l = ((takeU l).1, (takeU l).2) from rfl)).1
        rw [Nat.max_eq_left h2, spanF_of f _ (by simp; omega), List.length_take, Nat.min_eq_left hs]
      · rfl
theorem spanU_of (l : List UInt8) : spanU l = spanOf (pointsL l) := spanF_of _ l (Nat.le_refl _)
theorem spanOf_app : ∀ (pre t : List (List UInt8 × Bool)), (∀ x ∈ pre, x.2 = true) → spanOf (pre ++ t) = spanOf pre + spanOf t
  | [], t, _ => by simp [spanOf]
  | (c, b) :: pre, t, h => by
    have hb : b = true := h (c, b) (.head _)
    subst hb
    simp [spanOf, spanOf_app pre t (fun x hx => h x (.tail _ hx))]
    omega
theorem cleanOf_le : ∀ (f : Nat) (l : List UInt8), l.length ≤ f → ∀ pre post, pointsL l = pre ++ post → (cleanOf pre).length ≤ l.length ∧ (pre.flatMap (·.1)).length ≤ l.length
  | 0, l, h => by
    have : l = [] := List.eq_nil_of_length_eq_zero (by omega)
    subst this
    intro pre post e
    rw [pointsL_nil] at e
    have := (List.append_eq_nil_iff.1 e.symm).1
    subst this; simp [cleanOf]
  | f + 1, l, h => by
    intro pre post e
    by_cases hl : l = []
    · subst hl
      rw [pointsL_nil] at e
      have := (List.append_eq_nil_iff.1 e.symm).1
      subst this; simp [cleanOf]
    · have h0 : 0 < l.length := List.length_pos_iff.2 hl
      rw [pointsL_cons hl] at e
      cases pre with
      | nil => simp [cleanOf]
      | cons x pre =>
        rw [List.cons_append] at e
        obtain ⟨e1, e2⟩ := List.cons.inj e
        have hs := (takeU_spec (show takeU l = ((takeU l).1, (takeU l).2) from rfl)).1
        have ih := cleanOf_le f (l.drop (max (takeU l).2 1)) (by simp; omega) pre post e2
        rw [List.length_drop] at ih
        have hx : x.1.length = max (takeU l).2 1 := by rw [← e1]; simp; omega
        rw [show x :: pre = [x] ++ pre from rfl, cleanOf_append]
        have hc : (cleanOf [x]).length ≤ x.1.length := by
          obtain ⟨c, b⟩ := x
          rw [cleanOf_one]
          cases b <;> simp
        rw [List.length_append, List.flatMap_append, List.length_append]
        simp only [List.flatMap_cons, List.flatMap_nil, List.append_nil]
        omega
end Go.Proofs.YtcglbfpmcpammaaDoor
end
section
namespace Go.Proofs.YtcglbfpmcpammaaDoor
set_option linter.unusedVariables false
set_option linter.unusedSimpArgs false
open Go.RowKit Kit
namespace Kit
section
variable {P : Program} {Q : Exit → Act → World → Prop}
theorem region_law (k : Nat) (fs : List Fact) {id : Nat} {l : List Oper} {a0 : Act} {W0 w0 : World} {bs : Res} (HO : Mine W0 w0 bs) (hm : P.follows .mixedOrders = true) (hB : anyOk l.toArray = true) (hk : decide (k ≤ l.length) = true) (hT : tailOk l.toArray k = true)
    (hs : ∀ p ∈ fs, Stays p)
    (h : ∀ vals A, A = fillL l.toArray vals (List.range k) a0 →
      eachFrom (fun i o => ∀ w, (∀ j, waits l.toArray o j = true → Facts fs j (vals j) w) → Mine W0 w bs → Below w0.heap.size w0 w → StepOk P l.toArray o A w fun v w' => Below w.heap.size w w' ∧ Facts fs i v w') 0 (l.take k) ∧
      ∀ w, (∀ i < k, Facts fs i (vals i) w) → Mine W0 w bs → Below w0.heap.size w0 w → wpList P l.toArray Q (l.drop k) A w) :
    (Code.region id l.toArray true).wp P Q a0 w0 := by
  refine wp_region_walk k hm hB hk hT (fun w => Mine W0 w bs ∧ Below w0.heap.size w0 w) (fun a b => Below a.heap.size a b) (fun _ => []) (fun i vals w => Facts fs i (vals i) w) ?_ (fun i vals w w' h1 h2 => Facts.stays hs i _ _ _ h1 h2) (fun i vals vals' w e _ h1 => by rw [e]; exact h1) ⟨HO.drew, (Below.refl _ _).drew⟩ ?_
  · refine List.all_eq_true.2 fun i _ => ?_
    cases l[i]? <;> simp
  · intro vals A hA
    obtain ⟨h1, h2⟩ := h vals A hA
    refine ⟨?_, fun w hf hI => h2 w hf hI.1 hI.2⟩
    have mono : ∀ (R R' : Nat → Oper → Prop), (∀ i o, R i o → R' i o) → ∀ (l : List Oper) (k : Nat), eachFrom R k l → eachFrom R' k l := by
      intro R R' hR l
      induction l with
      | nil => intro k _; trivial
      | cons o l ih => intro k hk; exact ⟨hR _ _ hk.1, ih _ hk.2⟩
    refine mono _ _ (fun i o hi w hf hI => ?_) _ _ h1
    have h3 := hi w hf hI.1 hI.2
    have k2 : ∀ {v w'}, (Below w.heap.size w w' ∧ Facts fs i v w') → ((Mine W0 w' bs ∧ Below w0.heap.size w0 w') ∧ Below w.heap.size w w' ∧ ∀ vals' : Nat → Value, vals' i = v → (∀ d ∈ ([] : List Nat), vals' d = vals d) → Facts fs i (vals' i) w') := by
      rintro v w' ⟨hb, hf⟩
      exact ⟨⟨hI.1.call hb, hI.2.trans (hb.mono hI.2.size)⟩, hb, fun vals' e _ => by rw [e]; exact hf⟩
    unfold StepOk at h3 ⊢
    split
    · rename_i hw
      rw [if_pos hw] at h3
      generalize (execOp A.eval o).run P w = r at h3 ⊢
      cases r with
      | ok n w' =>
        cases n <;> simp only [StepUpon] at h3 ⊢
        case value u => exact k2 h3
        case skip => exact k2 h3
        case enter f args => exact h3.mono fun e w'' he => by obtain ⟨v, rfl, hk⟩ := he; exact ⟨v, rfl, k2 hk⟩
      | halt x w' => simp only [StepUpon] at h3
    · rename_i hw
      rw [if_neg hw] at h3
      exact k2 h3
end
end Kit
end Go.Proofs.YtcglbfpmcpammaaDoor
end
section
namespace Go.Proofs.YtcglbfpmcpammaaDoor
set_option linter.unusedVariables false
set_option linter.unusedSimpArgs false
open Go.RowKit Kit
theorem beqD (a b : List UInt8) : (a == b) = decide (a = b) := by
  by_cases h : a = b
  · subst h; simp
  · rw [decide_eq_false h]; exact beq_eq_false_iff_ne.2 h
theorem Reads.drop {w : World} {b o : Nat} {l : List UInt8} (h : Reads w (some ⟨b, o, none⟩) (l.map byV)) (k : Nat) : Reads w (some ⟨b, o + k, none⟩) ((l.drop k).map byV) := by
  intro j x hx
  rw [List.map_drop, List.getElem?_drop] at hx
  obtain ⟨b', o', he, hc⟩ := h (k + j) x hx
  cases he
  exact ⟨b, o + k, rfl, by rw [Nat.add_assoc]; exact hc⟩
theorem Reads.take {w : World} {A : Option Addr} {l : List UInt8} (h : Reads w A (l.map byV)) (k : Nat) : Reads w A ((l.take k).map byV) := by
  intro j x hx
  rw [List.map_take, List.getElem?_take] at hx
  split at hx
  · exact h j x hx
  · cases hx
theorem rdTake {w : World} {A : Option Addr} {l : List UInt8} (h : Reads w A (l.map byV)) (k : Nat) : Reads w A ((l.take k).map byV) := Reads.take h k
theorem rdDrop {w : World} {b o : Nat} {l : List UInt8} (h : Reads w (some ⟨b, o, none⟩) (l.map byV)) (k : Nat) : Reads w (some ⟨b, o + k, none⟩) ((l.drop k).map byV) := Reads.drop h k
theorem slice_at {w : World} {A : Option Addr} {l : List UInt8} (h : Reads w A (l.map byV)) : ∃ b0 o0, l = [] ∨ A = some ⟨b0, o0, none⟩ := by
  cases l with
  | nil => exact ⟨0, 0, .inl rfl⟩
  | cons x t =>
    obtain ⟨b, o, he, _⟩ := h 0 (byV x) rfl
    exact ⟨b, o, .inr he⟩
theorem Reads.none {w : World} {l : List UInt8} (h : Reads w none (l.map byV)) : l = [] := by
  cases l with
  | nil => rfl
  | cons x t => obtain ⟨b, o, he, _⟩ := h 0 (byV x) rfl; cases he
def BytesAt (p : Option Addr) (l : List UInt8) (b o : Nat) : Prop := l = [] ∨ p = some ⟨b, o, none⟩
theorem BytesAt.reads {p : Option Addr} {l : List UInt8} {b o : Nat} (h : BytesAt p l b o) {w : World} (hr : Reads w (some ⟨b, o, none⟩) (l.map byV)) : Reads w p (l.map byV) := by
  rcases h with rfl | rfl
  · exact Reads.nil _ _
  · exact hr
def fRc (l : List UInt8) : Fact := fun v w => ∃ p c, v = .slice p l.length c ∧ l.length ≤ c ∧ Reads w p (l.map byV)
theorem Stays.fRc (l : List UInt8) : Stays (fRc l) := fun v w w' h hb => by
  obtain ⟨p, c, h1, h2, h3⟩ := h
  exact ⟨p, c, h1, h2, h3.below hb⟩
def fOw (B : Nat) (l : List UInt8) : Fact := fun v w => w.ownsRow B 5 1 v l.length (l.map byV)
theorem Stays.fOw (B : Nat) (l : List UInt8) : Stays (fOw B l) := fun v w w' h hb => by
  obtain ⟨h1, h2⟩ := h
  refine ⟨h1, ?_⟩
  rcases h2 with h2 | ⟨g, cap, cur, e, hg, hh, hr⟩
  · exact .inl h2
  · exact .inr ⟨g, cap, cur, e, hg, (hb.block g (Array.getElem?_eq_some_iff.1 hh).1).trans hh, hr⟩
theorem own_lower {w : World} {B B' : Nat} {T : TypeId} {v : Value} {n : Nat} {xs : List Value} (h : w.ownsRow B T 1 v n xs) (hB : B' ≤ B) : w.ownsRow B' T 1 v n xs := by
  obtain ⟨h1, h2⟩ := h
  refine ⟨h1, ?_⟩
  rcases h2 with h2 | ⟨g, cap, cur, e, hg, hr⟩
  · exact .inl h2
  · exact .inr ⟨g, cap, cur, e, Nat.le_trans hB hg, hr⟩
theorem fOw_of {W w : World} {R : Res} {l : List UInt8} {v : Value} {B : Nat} (h : GRow 5 v (l.map byV) R) (HM : Mine W w R) (hB : B ≤ W.heap.size) : fOw B l v w := by
  have := h.own (bs := []) (by simpa using HM)
  rw [List.length_map] at this
  exact own_lower this hB
end Go.Proofs.YtcglbfpmcpammaaDoor
end
section
namespace Go.Proofs.YtcglbfpmcpammaaDoor.G
open Go.RowKit Go.Proofs.YtcglbfpmcpammaaDoorW.PrintWords Go.Proofs.YtcglbfpmcpammaaDoorW.PrintLast Go.Proofs.YtcglbfpmcpammaaDoorW.PrintMore
attribute [local go_sem] max2_int min2_int max_two min_two max_three min_three max_four min_four
set_option linter.unusedVariables false
set_option linter.unusedSimpArgs false
def slices_Equal_byte_byte.l0 : Nat → List Int → List Int → Int → Int → Option (Bool)
  | 0, _, _, _, _ => none
  | k + 1, x0, x1, x12, x13 => if x13 < x12 then (if 0 ≤ x13 then (if x13 < (x0.length : Int) then (if x13 < (x1.length : Int) then (if (rd x0 x13) = (rd x1 x13) then (slices_Equal_byte_byte.l0 k x0 x1 x12 (wrap64 (x13 + 1))) else (some false)) else (none)) else (none)) else (none)) else (some true)
def slices_Equal_byte_byte.f (k : Nat) (l0 : List Int) (l1 : List Int) : Option (Bool) := if (l0.length : Int) = (l1.length : Int) then (slices_Equal_byte_byte.l0 k l0 l1 (l0.length : Int) 0) else (some false)
theorem slices_Equal_byte_byte.mono_l : ∀ k, (∀ y0 y1 y2 y3, LeO (slices_Equal_byte_byte.l0 k y0 y1 y2 y3) (slices_Equal_byte_byte.l0 (k + 1) y0 y1 y2 y3))
  | 0 => fun _ _ _ _ r h => by simp [slices_Equal_byte_byte.l0] at h
  | k + 1 => by
    have ih0 := slices_Equal_byte_byte.mono_l k
    · intro y0 y1 y2 y3
      unfold slices_Equal_byte_byte.l0
      repeat' first
      | (with_reducible exact ih0 _ _ _ _)
      | (with_reducible exact LeO.refl _)
      | (with_reducible exact LeO.none _)
      | (with_reducible refine LeO.ite ?_ ?_)
      | (with_reducible refine LeO.bind ?_ (fun _ => ?_))
      | exact ih0 _ _ _ _
      | exact LeO.none _
      | refine LeO.ite ?_ ?_
      | refine LeO.bind ?_ (fun _ => ?_)
theorem slices_Equal_byte_byte.mono : ∀ a0 a1 k, LeO (slices_Equal_byte_byte.f k a0 a1) (slices_Equal_byte_byte.f (k + 1) a0 a1) := by
  intro a0 a1 k
  have ih0 := slices_Equal_byte_byte.mono_l k
  unfold slices_Equal_byte_byte.f
  repeat' first
      | (with_reducible exact ih0 _ _ _ _)
      | (with_reducible exact LeO.refl _)
      | (with_reducible exact LeO.none _)
      | (with_reducible refine LeO.ite ?_ ?_)
      | (with_reducible refine LeO.bind ?_ (fun _ => ?_))
      | exact ih0 _ _ _ _
      | exact LeO.none _
      | refine LeO.ite ?_ ?_
      | refine LeO.bind ?_ (fun _ => ?_)
set_option maxHeartbeats 8000000 in
set_option maxRecDepth 100000 in
theorem slices_Equal_byte_byte.calls (k : Nat) (A0 : Option Addr) (c0 : Nat) (l0 : List Int) (A1 : Option Addr) (c1 : Nat) (l1 : List Int) (r : Bool) (w : World) (hr0 : Kd.C (Kd.int .u8) w A0 l0.length l0) (hc0 : l0.length ≤ c0) (hr1 : Kd.C (Kd.int .u8) w A1 l1.length l1) (hc1 : l1.length ≤ c1) (h : slices_Equal_byte_byte.f k l0 l1 = some r) :
    Calls Tryd.prog 42 #[.slice A0 l0.length c0, .slice A1 l1.length c1] w fun e w' => e = .returned (.bool r) ∧ Drawn0 w w' := by
  have HR0 := Aside0.mk hr0
  have HC0 := Aside0.mk hc0
  clear hr0 hc0
  have HR1 := Aside0.mk hr1
  have HC1 := Aside0.mk hc1
  clear hr1 hc1
  have H : (if (l0.length : Int) = (l1.length : Int) then (slices_Equal_byte_byte.l0 k l0 l1 (l0.length : Int) 0) else (some false)) = some r := h
  clear h
  by_cases c3 : (l0.length : Int) = (l1.length : Int)
  · rw [if_pos c3] at H
    have c3b0 : ((l0.length : Int) == (l1.length : Int)) = true := beq_iff_eq.mpr c3
    have c3b1 : ((l0.length : Int) != (l1.length : Int)) = false := bne_eq_false_iff_eq.mpr c3
    have c3b2 : (l0.length == l1.length) = true := by first | simpa using c3 | (simp at c3 ⊢; omega)
    clear c3
    have H' := Aside0.mk H
    clear H
    go_enter Tryd.func42, Tryd.ntmps42
    go_wp2
    repeat (go_quiet (fail); try go_wp2)
    go_loopg [13] k (fun kq v13 w' => ∃ (x13_1 : Int), v13 = .int .i64 x13_1 ∧ Aside0 (slices_Equal_byte_byte.l0 kq l0 l1 (l0.length : Int) x13_1 = some r) ∧ Aside0 (kq ≤ k) ∧ Drawn0 w w')
    case atStart => exact ⟨(0), (by first | rfl | (simp; done) | (simp [*]; done)), H', ⟨Nat.le_refl _⟩, by repeat (first | exact Drawn0.refl _ | apply Drawn0.step)⟩
    case round =>
      clear H'
      try clear c1
      try clear p2
      try clear c3
      try clear c3b0
      try clear c3b1
      try clear c3b2
      obtain ⟨x13_1, rfl, HA, HK1, ⟨m1, rfl⟩⟩ := hrel
      cases gk with
      | zero => exact absurd HA.out (by simp [slices_Equal_byte_byte.l0])
      | succ k1 =>
        have H := HA.out
        clear HA
        simp only [slices_Equal_byte_byte.l0] at H
        by_cases c4 : x13_1 < (l0.length : Int)
        · rw [if_pos c4] at H
          have c4b0 : decide (x13_1 < (l0.length : Int)) = true := decide_eq_true c4
          clear c4
          by_cases c5 : 0 ≤ x13_1
          · rw [if_pos c5] at H
            have c5b0 : decide (0 ≤ x13_1) = true := decide_eq_true c5
            clear c5
            by_cases c6 : x13_1 < (l0.length : Int)
            · rw [if_pos c6] at H
              have c6b0 : decide (x13_1 < (l0.length : Int)) = true := decide_eq_true c6
              clear c6
              by_cases c7 : x13_1 < (l1.length : Int)
              · rw [if_pos c7] at H
                have c7b0 : decide (x13_1 < (l1.length : Int)) = true := decide_eq_true c7
                clear c7
                by_cases c8 : (rd l0 x13_1) = (rd l1 x13_1)
                · rw [if_pos c8] at H
                  have c8b0 : ((rd l0 x13_1) == (rd l1 x13_1)) = true := beq_iff_eq.mpr c8
                  have c8b1 : ((rd l0 x13_1) != (rd l1 x13_1)) = false := bne_eq_false_iff_eq.mpr c8
                  clear c8
                  have H' := Aside0.mk H
                  clear H
                  have p101 : 0 ≤ (x13_1 : Int) := of_decide_eq_true (by first | (with_reducible assumption) | assumption)
                  have q101 : x13_1 < (l0.length : Int) := of_decide_eq_true (by first | (with_reducible assumption) | assumption)
                  obtain ⟨ad101, e101, hx101_0⟩ := Kd.at_int HR0.out x13_1 p101 q101
                  cases e101
                  replace p101 := eq_true p101
                  replace q101 := eq_true q101
                  have p102 : 0 ≤ (x13_1 : Int) := of_decide_eq_true (by first | (with_reducible assumption) | assumption)
                  have q102 : x13_1 < (l1.length : Int) := of_decide_eq_true (by first | (with_reducible assumption) | assumption)
                  obtain ⟨ad102, e102, hx102_0⟩ := Kd.at_int HR1.out x13_1 p102 q102
                  cases e102
                  replace p102 := eq_true p102
                  replace q102 := eq_true q102
                  go_wp2
                  repeat (go_quiet (fail); try go_wp2)
                  go_roundg k1
                  case measure => have := HK1.out; omega
                  case rel => exact ⟨(wrap64 (x13_1 + 1)), (by first | rfl | (simp; done) | (simp [*]; done)), H', ⟨by have := HK1.out; omega⟩, by repeat (first | exact Drawn0.refl _ | apply Drawn0.step)⟩
                · rw [if_neg c8] at H
                  have c8b0 : ((rd l0 x13_1) == (rd l1 x13_1)) = false := beq_eq_false_iff_ne.mpr c8
                  have c8b1 : ((rd l0 x13_1) != (rd l1 x13_1)) = true := bne_iff_ne.mpr c8
                  obtain rfl := Option.some.inj H
                  have p101 : 0 ≤ (x13_1 : Int) := of_decide_eq_true (by first | (with_reducible assumption) | assumption)
                  have q101 : x13_1 < (l0.length : Int) := of_decide_eq_true (by first | (with_reducible assumption) | assumption)
                  obtain ⟨ad101, e101, hx101_0⟩ := Kd.at_int HR0.out x13_1 p101 q101
                  cases e101
                  replace p101 := eq_true p101
                  replace q101 := eq_true q101
                  have p102 : 0 ≤ (x13_1 : Int) := of_decide_eq_true (by first | (with_reducible assumption) | assumption)
                  have q102 : x13_1 < (l1.length : Int) := of_decide_eq_true (by first | (with_reducible assumption) | assumption)
                  obtain ⟨ad102, e102, hx102_0⟩ := Kd.at_int HR1.out x13_1 p102 q102
                  cases e102
                  replace p102 := eq_true p102
                  replace q102 := eq_true q102
                  go_wp2
                  repeat (go_quiet (fail); try go_wp2)
                  go_ret
                  exact ⟨by first | rfl | (simp; done) | (simp [*]; done), by repeat (first | exact Drawn0.refl _ | apply Drawn0.step)⟩
              · rw [if_neg c7] at H
                exact absurd H (by simp)
            · rw [if_neg c6] at H
              exact absurd H (by simp)
          · rw [if_neg c5] at H
            exact absurd H (by simp)
        · rw [if_neg c4] at H
          have c4b0 : decide (x13_1 < (l0.length : Int)) = false := decide_eq_false c4
          clear c4
          obtain rfl := Option.some.inj H
          go_wp2
          repeat (go_quiet (fail); try go_wp2)
          go_ret
          exact ⟨by first | rfl | (simp; done) | (simp [*]; done), by repeat (first | exact Drawn0.refl _ | apply Drawn0.step)⟩
  · rw [if_neg c3] at H
    have c3b0 : ((l0.length : Int) == (l1.length : Int)) = false := beq_eq_false_iff_ne.mpr c3
    have c3b1 : ((l0.length : Int) != (l1.length : Int)) = true := bne_iff_ne.mpr c3
    have c3b2 : (l0.length == l1.length) = false := by first | simpa using c3 | (simp at c3 ⊢; omega)
    obtain rfl := Option.some.inj H
    go_enter Tryd.func42, Tryd.ntmps42
    go_wp2
    repeat (go_quiet (fail); try go_wp2)
    go_ret
    exact ⟨by first | rfl | (simp; done) | (simp [*]; done), by repeat (first | exact Drawn0.refl _ | apply Drawn0.step)⟩
end Go.Proofs.YtcglbfpmcpammaaDoor.G
end
section
namespace Go.Proofs.YtcglbfpmcpammaaDoor
set_option linter.unusedVariables false
set_option linter.unusedSimpArgs false
open Go.RowKit Kit G Go.Proofs.YtcglbfpmcpammaaDoorW.PrintWords
theorem eqL (a b : List UInt8) (he : a.length = b.length) (hm : a.length ≤ 4611686018427387904) : ∀ (k j : Nat), j ≤ a.length → a.length - j < k → slices_Equal_byte_byte.l0 k (natsB a) (natsB b) (a.length : Int) (j : Int) = some (decide (a.drop j = b.drop j)) := by
  have hla : ((natsB a).length : Int) = a.length := by rw [natsB_length]
  have hlb : ((natsB b).length : Int) = a.length := by rw [natsB_length, he]
  intro k
  induction k with
  | zero => intro j _ h; omega
  | succ k ih =>
    intro j hj h
    have hk2 : a.length - (j + 1) < k ∨ ¬ j < a.length := by omega
    have c1 : ¬ j < a.length → ¬ (j : Int) < (a.length : Int) := by omega
    have c2 : j < a.length → (j : Int) < (a.length : Int) := by omega
    have c3 : (0 : Int) ≤ (j : Int) := by omega
    by_cases hlt : j < a.length
    · have hltb : j < b.length := by omega
      have c4 := c2 hlt
      have c5 : (j : Int) < ((natsB a).length : Int) := by rw [hla]; exact c4
      have c6 : (j : Int) < ((natsB b).length : Int) := by rw [hlb]; exact c4
      have hne : ∀ x y : UInt8, ¬ x = y → ¬ (x.toNat : Int) = (y.toNat : Int) := fun x y h e => h (UInt8.toNat_inj.1 (by omega))
      have hk3 := hk2.resolve_right (fun h => h hlt)
      have hj3 : (j : Int) + 1 ≤ 4611686018427387904 := by omega
      have ea : rd (natsB a) (j : Int) = ((a[j]'hlt).toNat : Int) := by rw [rd_bU a j hlt]; unfold bU; rw [List.getElem?_eq_getElem hlt]; rfl
      have eb : rd (natsB b) (j : Int) = ((b[j]'hltb).toNat : Int) := by rw [rd_bU b j hltb]; unfold bU; rw [List.getElem?_eq_getElem hltb]; rfl
      have hw : wrap64 ((j : Int) + 1) = ((j + 1 : Nat) : Int) := by
        clear ea eb
        unfold wrap64
        omega
      have e1 := ih (j + 1) hlt hk3
      rw [← hw] at e1
      have d1 := List.drop_eq_getElem_cons hlt
      have d2 := List.drop_eq_getElem_cons hltb
      generalize (a[j]'hlt) = x at ea d1
      generalize (b[j]'hltb) = y at eb d2
      rw [d1, d2]
      unfold slices_Equal_byte_byte.l0
      rw [if_pos c4, if_pos c3, if_pos c5, if_pos c6, ea, eb]
      by_cases hc : x = y
      · subst hc
        rw [if_pos rfl, e1]
        simp
      · rw [if_neg (hne x y hc)]
        simp [hc]
    · have d1 : a.drop j = [] := List.drop_eq_nil_of_le (by omega)
      have d2 : b.drop j = [] := List.drop_eq_nil_of_le (by omega)
      rw [d1, d2]
      unfold slices_Equal_byte_byte.l0
      rw [if_neg (c1 hlt)]
      rfl
theorem slEq_calls (A B : Option Addr) (a b : List UInt8) (ca cb : Nat) (hca : a.length ≤ ca) (hcb : b.length ≤ cb) (hma : a.length ≤ 4611686018427387904) (hmb : b.length ≤ 4611686018427387904) (w : World) (ha : Reads w A (a.map byV)) (hb : Reads w B (b.map byV)) :
    Calls Tryd.prog 42 #[.slice A a.length ca, .slice B b.length cb] w fun e w' => e = .returned (.bool (decide (a = b))) ∧ Below w.heap.size w w' := by
  have hf : slices_Equal_byte_byte.f (a.length + 1) (natsB a) (natsB b) = some (decide (a = b)) := by
    unfold slices_Equal_byte_byte.f
    rw [natsB_length, natsB_length]
    by_cases he : a.length = b.length
    · rw [if_pos (by omega), show (0 : Int) = ((0 : Nat) : Int) from rfl, eqL a b he hma _ 0 (by omega) (by omega)]
      rfl
    · rw [if_neg (by omega), decide_eq_false (by intro e; exact he (by rw [e]))]
  have h := slices_Equal_byte_byte.calls (a.length + 1) A ca (natsB a) B cb (natsB b) (decide (a = b)) w (C_bytes ha hma) (by rw [natsB_length]; exact hca) (C_bytes hb hmb) (by rw [natsB_length]; exact hcb) hf
  rw [natsB_length, natsB_length] at h
  exact h.mono fun e w' ⟨h1, h2⟩ => ⟨h1, h2.below⟩
end Go.Proofs.YtcglbfpmcpammaaDoor
end
section
namespace Go.Proofs.YtcglbfpmcpammaaDoor.Kit
set_option linter.unusedVariables false
set_option linter.unusedSimpArgs false
open Go Go.RowKit
section
variable {P : Program} {ops : Array Oper} {Q : Exit → Act → World → Prop} {n : Nat}
theorem wpOpIn_of_stepW {o : Oper} {a : Act} {w : World} {i : Nat} {A : Act} {K : Value → World → Prop} {K' : Act → World → Prop} (ho : ops[i]? = some o) (hd : noDefer o = true)
    (he : execOp A.eval o = execOp a.eval o) (hw : Region.wanted o (yielded ops A.tmps) = Region.wanted o (yielded ops a.tmps))
    (h : StepOk P ops o A w K) (hK : ∀ v w', K v w' → K' (a.put o.dst v) w') : wpOpIn Fence.wide n P ops Q i K' a w := by
  unfold StepOk at h
  rw [he, hw] at h
  unfold wpOpIn
  rw [ho]
  show if Region.wanted o (yielded ops a.tmps) = true then _ else _
  split
  · rename_i hwa
    rw [if_pos hwa] at h
    refine ⟨fun _ _ => trivial, ?_⟩
    rw [show Fence.wide.round = none from rfl, Oper.semAt_eq none a.eval o (noDefer_ne hd)]
    generalize (execOp a.eval o).run P w = r at h
    cases r with
    | ok n w' =>
      cases n <;> simp only [StepUpon] at h <;> simp only [Oper.uponIn]
      case value v => exact hK _ _ h
      case skip => exact hK _ _ h
      case enter f args => exact ⟨fun e => by simp [Fence.wide] at e, callsIn_wide.2 (h.mono fun e w'' he => by obtain ⟨v, rfl, hk⟩ := he; exact hK _ _ hk)⟩
    | halt x w' => simp only [StepUpon] at h
  · rename_i hwa
    rw [if_neg hwa] at h
    exact ⟨fun _ _ => trivial, hK _ _ h⟩
theorem wpAnyIn_tailW (hE : depsOk ops = true) {k0 : Nat} (hT : tailOk ops k0 = true) : ∀ (fuel k : Nat) (listed : Array Bool) (a : Act) (w : World), k0 ≤ k → k + fuel = ops.size → listed.size = ops.size →
    (∀ j < ops.size, listed.getD j true = decide (j < k) ∧ listed.getD j false = decide (j < k)) → wpListIn Fence.wide n P ops Q (ops.toList.drop k) a w → wpAnyIn Fence.wide n P .any ops Q fuel listed a w := by
  intro fuel
  induction fuel with
  | zero =>
    intro k listed a w hk hs hsz hl h
    have hnil : ops.toList.drop k = [] := List.drop_eq_nil_of_le (by simp; omega)
    rw [hnil] at h
    refine ⟨?_, h⟩
    cases hr : Region.ready .any ops listed with
    | nil => rfl
    | cons j rs =>
      have hj : j ∈ Region.ready .any ops listed := by rw [hr]; simp
      obtain ⟨h0, o, ho, _⟩ := mem_ready.1 hj
      have hjl : j < ops.size := (Array.getElem?_eq_some_iff.1 ho).1
      rw [(hl j hjl).1] at h0
      simp at h0
      omega
  | succ fuel ih =>
    intro k listed a w hk hs hsz hl h
    have hkl : k < ops.size := by omega
    have hok : ops[k]? = some ops[k] := by simp [hkl]
    have hdrop : ops.toList.drop k = ops[k] :: ops.toList.drop (k + 1) := by
      rw [List.drop_eq_getElem_cons (by simpa using hkl)]
      simp
    rw [hdrop] at h
    refine ⟨fun hr => ?_, fun i hi => ?_⟩
    · have hmem : k ∈ Region.ready .any ops listed := by
        refine mem_ready.2 ⟨by rw [(hl k hkl).1]; simp, ops[k], hok, fun e he hb => ?_⟩
        have hlt := (depsOk_spec hE (i := k) (o := ops[k]) hok).1 e he hb
        rw [(hl e.on (by omega)).2]
        simpa using hlt
      rw [hr] at hmem
      cases hmem
    · obtain ⟨h0, o, ho, hafter⟩ := mem_ready.1 hi
      have hil : i < ops.size := (Array.getElem?_eq_some_iff.1 ho).1
      rw [(hl i hil).1] at h0
      have hge : k ≤ i := by simpa using h0
      have hik : i = k := by
        rcases Nat.lt_or_ge k i with hlt | h2
        · obtain ⟨e, he, hp⟩ := List.any_eq_true.1 (tailOk_spec hT ho (by omega) hlt)
          simp only [Bool.and_eq_true] at hp
          have he' : e ∈ o.after := by simpa using he
          have h1 := hafter e he' hp.1
          have h2 := (depsOk_spec hE ho).1 e he' hp.1
          rw [(hl e.on (by omega)).2] at h1
          have h3 := reachB_le hE 4 e.on k hp.2
          have h4 : e.on < k := by simpa using h1
          omega
        · omega
      subst hik
      have hK : ∀ a' w', wpListIn Fence.wide n P ops Q (ops.toList.drop (i + 1)) a' w' → wpAnyIn Fence.wide n P .any ops Q fuel (listed.setIfInBounds i true) a' w' := by
        intro a' w' h'
        refine ih (i + 1) _ a' w' (by omega) (by omega) (by simpa using hsz) (fun j hj => ?_) h'
        by_cases hji : j = i
        · subst hji
          simp [hsz ▸ hj]
        · have := hl j hj
          rw [getD_set_ne true (Ne.symm hji), getD_set_ne false (Ne.symm hji), this.1, this.2]
          have : decide (j < i) = decide (j < i + 1) := by
            rcases Nat.lt_or_ge j i with h1 | h1
            · rw [decide_eq_true h1, decide_eq_true (by omega)]
            · rw [decide_eq_false (by omega), decide_eq_false (by omega)]
          exact ⟨this, this⟩
      unfold wpOpIn
      rw [ho]
      have hoe : o = ops[i] := by rw [hok] at ho; exact (Option.some.inj ho).symm
      subst hoe
      show if Region.wanted ops[i] (yielded ops a.tmps) = true then _ else _
      unfold wpListIn at h
      split
      · rename_i hw
        rw [if_pos hw] at h
        exact Oper.wpIn_mono hK h
      · rename_i hw
        rw [if_neg hw] at h
        exact ⟨h.1, hK _ _ h.2⟩
theorem wpAnyIn_splitW (hN : ops.toList.all noDefer = true) (hB : anyOk ops = true) {k0 : Nat} (hk0 : k0 ≤ ops.size) (hT : tailOk ops k0 = true) (a0 : Act) (C : List Nat → (Nat → Value) → World → Prop)
    (hstep : ∀ i o js vals w, i < k0 → ops[i]? = some o → i ∉ js → (∀ j, waits ops o j = true → j ∈ js) → C js vals w →
      StepOk P ops o (fillL ops vals (List.range k0) a0) w fun v w' => C (js ++ [i]) (Vset vals i v) w')
    (hend : ∀ js vals w, (∀ i < k0, i ∈ js) → C js vals w → wpListIn Fence.wide n P ops Q (ops.toList.drop k0) (fillL ops vals (List.range k0) a0) w) :
    ∀ (fuel : Nat) (js : List Nat) (listed : Array Bool) (vals : Nat → Value) (w : World), js.Nodup → (∀ j ∈ js, j < k0) →
      (∀ j < ops.size, listed.getD j true = decide (j ∈ js) ∧ listed.getD j false = decide (j ∈ js)) → listed.size = ops.size → js.length + fuel = ops.size → Closed ops js → C js vals w →
      wpAnyIn Fence.wide n P .any ops Q fuel listed (fillL ops vals js a0) w := by
  have hB' := hB
  simp only [anyOk, Bool.and_eq_true] at hB
  obtain ⟨hS, hD, hE⟩ := hB
  have fin : ∀ (fuel : Nat) (js : List Nat) (listed : Array Bool) (vals : Nat → Value) (w : World), js.Nodup → (∀ j ∈ js, j < k0) → (∀ i < k0, i ∈ js) →
      (∀ j < ops.size, listed.getD j true = decide (j ∈ js) ∧ listed.getD j false = decide (j ∈ js)) → listed.size = ops.size → js.length + fuel = ops.size → C js vals w → wpAnyIn Fence.wide n P .any ops Q fuel listed (fillL ops vals js a0) w := by
    intro fuel js listed vals w hn hlt hall hl hsz hc hC
    have hp : js.Perm (List.range k0) := (List.perm_ext_iff_of_nodup hn List.nodup_range).2 fun j => ⟨fun h => List.mem_range.2 (hlt j h), fun h => hall j (List.mem_range.1 h)⟩
    have hlen : js.length = k0 := by rw [hp.length_eq]; simp
    rw [fillL_perm hD vals hp hn (fun j hj => Nat.lt_of_lt_of_le (hlt j hj) hk0) a0]
    refine wpAnyIn_tailW hE hT fuel k0 listed _ w (Nat.le_refl _) (by omega) hsz (fun j hj => ?_) (hend js vals w hall hC)
    have e : decide (j ∈ js) = decide (j < k0) := by
      by_cases h : j < k0
      · rw [decide_eq_true h, decide_eq_true (hall j h)]
      · rw [decide_eq_false h, decide_eq_false (fun h' => h (hlt j h'))]
    rw [← e]
    exact hl j hj
  intro fuel
  induction fuel with
  | zero =>
    intro js listed vals w hn hlt hl hsz hc hcl hC
    refine fin 0 js listed vals w hn hlt (fun i hi => ?_) hl hsz hc hC
    apply Classical.byContradiction
    intro hni
    have h1 := nodup_len (i :: js) (List.range k0) (List.nodup_cons.2 ⟨hni, hn⟩) (fun j hj => by
      rcases List.mem_cons.1 hj with rfl | h
      · exact List.mem_range.2 hi
      · exact List.mem_range.2 (hlt j h))
    simp at h1
    omega
  | succ fuel ih =>
    intro js listed vals w hn hlt hl hsz hc hcl hC
    by_cases hall : ∀ i < k0, i ∈ js
    · exact fin (fuel + 1) js listed vals w hn hlt hall hl hsz hc hC
    have hlt' : ∀ j ∈ js, j < ops.size := fun j hj => Nat.lt_of_lt_of_le (hlt j hj) hk0
    refine ⟨fun hr => ?_, fun i hi => ?_⟩
    · exfalso
      apply hall
      intro i
      induction i using Nat.strongRecOn with
      | _ i ihi =>
        intro hi
        apply Classical.byContradiction
        intro hni
        have his : i < ops.size := by omega
        have hmem : i ∈ Region.ready .any ops listed := by
          refine mem_ready.2 ⟨by rw [(hl i his).1]; simpa using hni, ops[i], by simp [his], fun e he hb => ?_⟩
          have hlt := (depsOk_spec hE (i := i) (o := ops[i]) (by simp [his])).1 e he hb
          rw [(hl e.on (by omega)).2]
          simpa using ihi e.on hlt (by omega)
        rw [hr] at hmem
        cases hmem
    · obtain ⟨h0, o, ho, hafter⟩ := mem_ready.1 hi
      have hil : i < ops.size := (Array.getElem?_eq_some_iff.1 ho).1
      rw [(hl i hil).1] at h0
      have hni : i ∉ js := by simpa using h0
      have hdeps : ∀ e ∈ o.after, Region.binds .any e = true → e.on ∈ js := fun e he hb => by
        have h1 := hafter e he hb
        have hlt' := (depsOk_spec hE ho).1 e he hb
        rw [(hl e.on (by omega)).2] at h1
        simpa using h1
      have hik : i < k0 := by
        rcases Nat.lt_or_ge i k0 with h | h
        · exact h
        · exfalso
          apply hall
          intro j hj
          obtain ⟨e, he, hp⟩ := List.any_eq_true.1 (tailOk_spec hT ho h (show j < i by omega))
          simp only [Bool.and_eq_true] at hp
          exact reachB_mem hcl 4 e.on j (hdeps e (by simpa using he) hp.1) hp.2
      have hsel : ∀ cs b, o.op ≠ .select cs b := fun cs b => Region.noSelect_spec hS i o cs b ho
      obtain ⟨rest, hrest⟩ : ∃ rest, rest = (List.range k0).filter fun j => decide (j ∉ js) := ⟨_, rfl⟩
      have hperm : (js ++ rest).Perm (List.range k0) := by
        refine (List.perm_ext_iff_of_nodup ?_ List.nodup_range).2 fun j => ?_
        · rw [List.nodup_append]
          refine ⟨hn, by rw [hrest]; exact List.nodup_range.filter _, fun x hx y hy e => ?_⟩
          subst e
          rw [hrest] at hy
          simp at hy
          exact hy.2 hx
        · rw [List.mem_append, hrest]
          simp only [List.mem_filter, List.mem_range, decide_eq_true_eq]
          constructor
          · rintro (h | h)
            · exact hlt j h
            · exact h.1
          · intro h
            by_cases hj : j ∈ js
            · exact .inl hj
            · exact .inr ⟨h, hj⟩
      have hnd : (js ++ rest).Nodup := hperm.nodup_iff.2 List.nodup_range
      have hrlt : ∀ j ∈ js ++ rest, j < ops.size := fun j hj => Nat.lt_of_lt_of_le (List.mem_range.1 (hperm.mem_iff.1 hj)) hk0
      have hwhole : fillL ops vals (List.range k0) a0 = fillL ops vals rest (fillL ops vals js a0) := by
        rw [← fillL_perm hD vals hperm hnd hrlt a0, fillL_append]
      obtain ⟨he, hw⟩ := exec_fill (ops := ops) o hsel vals rest (fun j hj d hd hmem => by
        have hjr : j < k0 ∧ j ∉ js := by rw [hrest] at hj; simpa using hj
        obtain ⟨e, he, hb, heq⟩ := (depsOk_spec hE ho).2 j (by omega) d hd hmem
        exact hjr.2 (heq ▸ hdeps e he hb)) (fillL ops vals js a0)
      rw [← hwhole] at he hw
      have hwaits : ∀ j, waits ops o j = true → j ∈ js := fun j hj => by
        obtain ⟨e, he, hp⟩ := List.any_eq_true.1 hj
        simp only [Bool.and_eq_true] at hp
        exact reachB_mem hcl 4 e.on j (hdeps e (by simpa using he) hp.1) hp.2
      refine wpOpIn_of_stepW ho (List.all_eq_true.1 hN o (Array.mem_toList_iff.2 (Array.mem_of_getElem? ho))) he hw (hstep i o js vals w hik ho hni hwaits hC) fun v w' hK => ?_
      have hdst : o.dst = dstOf ops i := by simp [dstOf, ho]
      have hnext : (fillL ops vals js a0).put o.dst v = fillL ops (Vset vals i v) (js ++ [i]) a0 := by
        rw [fillL_append, fillL_vset vals i v js hni, hdst]
        show _ = (fillL ops vals js a0).put (dstOf ops i) (Vset vals i v i)
        rw [Vset_same]
      rw [hnext]
      refine ih (js ++ [i]) (listed.setIfInBounds i true) (Vset vals i v) w' ?_ ?_ ?_ (by simpa using hsz) (by simp; omega) ?_ hK
      · rw [List.nodup_append]
        refine ⟨hn, by simp, fun x hx y hy e => ?_⟩
        simp at hy
        subst hy
        exact hni (e ▸ hx)
      · intro j hj
        rcases List.mem_append.1 hj with h | h
        · exact hlt j h
        · simp at h; omega
      · intro j hj
        by_cases hji : j = i
        · subst hji
          simp [hsz ▸ hj]
        · have := hl j hj
          rw [getD_set_ne true (Ne.symm hji), getD_set_ne false (Ne.symm hji)]
          simpa [hji] using this
      · intro j hj o' ho' e he hb
        rcases List.mem_append.1 hj with h | h
        · exact List.mem_append_left _ (hcl j h o' ho' e he hb)
        · simp at h
          subst h
          rw [ho] at ho'
          cases ho'
          exact List.mem_append_left _ (hdeps e he hb)
theorem wpIn_region_walkW {l : List Oper} (hN : l.all noDefer = true) (k : Nat) {id : Nat} {a0 : Act} {w0 : World} (hm : P.follows .mixedOrders = true) (hB : anyOk l.toArray = true) (hk : decide (k ≤ l.length) = true) (hT : tailOk l.toArray k = true) (I : World → Prop) (Rel : World → World → Prop) (D : Nat → List Nat) (F : Nat → (Nat → Value) → World → Prop)
    (hD : ((List.range k).all fun i => match l[i]? with | none => true | some o => (D i).all fun d => waits l.toArray o d) = true)
    (hW : ∀ i vals w w', F i vals w → Rel w w' → F i vals w') (hV : ∀ i vals vals' w, vals' i = vals i → (∀ d ∈ D i, vals' d = vals d) → F i vals w → F i vals' w) (h0 : I w0.drew)
    (h : ∀ vals A, A = fillL l.toArray vals (List.range k) a0 →
      eachFrom (fun i o => ∀ w, (∀ j, waits l.toArray o j = true → F j vals w) → I w → StepOk P l.toArray o A w fun v w' => I w' ∧ Rel w w' ∧ ∀ vals', vals' i = v → (∀ d ∈ D i, vals' d = vals d) → F i vals' w') 0 (l.take k) ∧
      ∀ w, (∀ i < k, F i vals w) → I w → wpListIn Fence.wide n P l.toArray Q (l.drop k) A w) :
    (Code.region id l.toArray true).wpIn Fence.wide n P Q a0 w0 := by
  have hk' : k ≤ l.length := of_decide_eq_true hk
  have hDs : ∀ i o, i < k → l[i]? = some o → ∀ d ∈ D i, waits l.toArray o d = true := by
    intro i o hi ho d hd
    have h1 := List.all_eq_true.1 hD i (List.mem_range.2 hi)
    rw [ho] at h1
    exact List.all_eq_true.1 h1 d hd
  refine wpIn_region_any hm ?_
  have key := wpAnyIn_splitW (P := P) (Q := Q) (n := n) (by simpa using hN) hB (k0 := k) (by simpa using hk') hT a0 (fun js vals w => I w ∧ ∀ j ∈ js, (∀ d ∈ D j, d ∈ js) ∧ F j vals w) ?_ ?_ l.toArray.size [] (Array.replicate l.toArray.size false) (fun _ => undef) w0.drew List.nodup_nil (by simp) (by intro j hj; have hj2 : j < l.length := (by simpa using hj); simp [hj2]) (by simp) (by simp) (fun j hj => by cases hj) ⟨h0, by simp⟩
  · exact key
  · intro i o js vals w hik ho hni hdeps hC
    have ho' : l[i]? = some o := by simpa using ho
    have h1 := eachFrom_spec (h vals _ rfl).1 i o (by rw [List.getElem?_take, if_pos hik]; exact ho') w (fun j hj => (hC.2 _ (hdeps j hj)).2) hC.1
    rw [Nat.zero_add] at h1
    have hdi : ∀ d ∈ D i, d ∈ js := fun d hd => hdeps d (hDs i o hik ho' d hd)
    have hdi' : ∀ d ∈ D i, d ≠ i := fun d hd e => hni (e ▸ hdi d hd)
    have mono : ∀ {v w'}, (I w' ∧ Rel w w' ∧ ∀ vals', vals' i = v → (∀ d ∈ D i, vals' d = vals d) → F i vals' w') → (I w' ∧ ∀ j ∈ js ++ [i], (∀ d ∈ D j, d ∈ js ++ [i]) ∧ F j (Vset vals i v) w') := by
      rintro v w' ⟨hI, hR, hFi⟩
      refine ⟨hI, fun j hj => ?_⟩
      by_cases hji : j = i
      · subst hji
        exact ⟨fun d hd => List.mem_append_left _ (hdi d hd), hFi _ (Vset_same _ _ _) (fun d hd => Vset_other _ _ (hdi' d hd))⟩
      · rcases List.mem_append.1 hj with h | h
        · obtain ⟨h2, h3⟩ := hC.2 j h
          exact ⟨fun d hd => List.mem_append_left _ (h2 d hd), hV j vals _ w' (Vset_other _ _ hji) (fun d hd => Vset_other _ _ (fun e => hni (e ▸ h2 d hd))) (hW _ _ _ _ h3 hR)⟩
        · simp at h; exact absurd h hji
    unfold StepOk at h1 ⊢
    split
    · rename_i hw
      rw [if_pos hw] at h1
      generalize (execOp (fillL l.toArray vals (List.range k) a0).eval o).run P w = r at h1 ⊢
      cases r with
      | ok n w' =>
        cases n <;> simp only [StepUpon] at h1 ⊢
        case value u => exact mono h1
        case skip => exact mono h1
        case enter f args => exact h1.mono fun e w'' he => by obtain ⟨v, rfl, hk⟩ := he; exact ⟨v, rfl, mono hk⟩
      | halt x w' => simp only [StepUpon] at h1
    · rename_i hw
      rw [if_neg hw] at h1
      exact mono h1
  · intro js vals w hall hC
    exact (h vals _ rfl).2 w (fun i hi => (hC.2 i (hall i hi)).2) hC.1
theorem region_lawW {l : List Oper} (hN : l.all noDefer = true) (k : Nat) (fs : List Fact) {id : Nat} {a0 : Act} {W0 w0 : World} {bs : Res} (HO : Mine W0 w0 bs) (hm : P.follows .mixedOrders = true) (hB : anyOk l.toArray = true) (hk : decide (k ≤ l.length) = true) (hT : tailOk l.toArray k = true)
    (hs : ∀ p ∈ fs, Stays p)
    (h : ∀ vals A, A = fillL l.toArray vals (List.range k) a0 →
      eachFrom (fun i o => ∀ w, (∀ j, waits l.toArray o j = true → Facts fs j (vals j) w) → Mine W0 w bs → Below w0.heap.size w0 w → StepOk P l.toArray o A w fun v w' => Below w.heap.size w w' ∧ Facts fs i v w') 0 (l.take k) ∧
      ∀ w, (∀ i < k, Facts fs i (vals i) w) → Mine W0 w bs → Below w0.heap.size w0 w → wpListIn Fence.wide n P l.toArray Q (l.drop k) A w) :
    (Code.region id l.toArray true).wpIn Fence.wide n P Q a0 w0 := by
  refine wpIn_region_walkW hN k hm hB hk hT (fun w => Mine W0 w bs ∧ Below w0.heap.size w0 w) (fun a b => Below a.heap.size a b) (fun _ => []) (fun i vals w => Facts fs i (vals i) w) ?_ (fun i vals w w' h1 h2 => Facts.stays hs i _ _ _ h1 h2) (fun i vals vals' w e _ h1 => by rw [e]; exact h1) ⟨HO.drew, (Below.refl _ _).drew⟩ ?_
  · refine List.all_eq_true.2 fun i _ => ?_
    cases l[i]? <;> simp
  · intro vals A hA
    obtain ⟨h1, h2⟩ := h vals A hA
    refine ⟨?_, fun w hf hI => h2 w hf hI.1 hI.2⟩
    have mono : ∀ (R R' : Nat → Oper → Prop), (∀ i o, R i o → R' i o) → ∀ (l : List Oper) (k : Nat), eachFrom R k l → eachFrom R' k l := by
      intro R R' hR l
      induction l with
      | nil => intro k _; trivial
      | cons o l ih => intro k hk; exact ⟨hR _ _ hk.1, ih _ hk.2⟩
    refine mono _ _ (fun i o hi w hf hI => ?_) _ _ h1
    have h3 := hi w hf hI.1 hI.2
    have k2 : ∀ {v w'}, (Below w.heap.size w w' ∧ Facts fs i v w') → ((Mine W0 w' bs ∧ Below w0.heap.size w0 w') ∧ Below w.heap.size w w' ∧ ∀ vals' : Nat → Value, vals' i = v → (∀ d ∈ ([] : List Nat), vals' d = vals d) → Facts fs i (vals' i) w') := by
      rintro v w' ⟨hb, hf⟩
      exact ⟨⟨hI.1.call hb, hI.2.trans (hb.mono hI.2.size)⟩, hb, fun vals' e _ => by rw [e]; exact hf⟩
    unfold StepOk at h3 ⊢
    split
    · rename_i hw
      rw [if_pos hw] at h3
      generalize (execOp A.eval o).run P w = r at h3 ⊢
      cases r with
      | ok n w' =>
        cases n <;> simp only [StepUpon] at h3 ⊢
        case value u => exact k2 h3
        case skip => exact k2 h3
        case enter f args => exact h3.mono fun e w'' he => by obtain ⟨v, rfl, hk⟩ := he; exact ⟨v, rfl, k2 hk⟩
      | halt x w' => simp only [StepUpon] at h3
    · rename_i hw
      rw [if_neg hw] at h3
      exact k2 h3
end
end Go.Proofs.YtcglbfpmcpammaaDoor.Kit
end
section
namespace Go.Proofs.YtcglbfpmcpammaaDoor.G
open Go.RowKit Go.Proofs.YtcglbfpmcpammaaDoorW.PrintWords Go.Proofs.YtcglbfpmcpammaaDoorW.PrintLast Go.Proofs.YtcglbfpmcpammaaDoorW.PrintMore
attribute [local go_sem] max2_int min2_int max_two min_two max_three min_three max_four min_four
set_option linter.unusedVariables false
set_option linter.unusedSimpArgs false
def paste_clean.f (a0 : Int) : Option (Bool) := if a0 = 9 then (some true) else (if a0 = 10 then (some true) else (if a0 = 13 then (some true) else (if a0 ≥ 32 then (if a0 < 127 then (some true) else (some (decide (a0 > 159)))) else (some false))))
set_option maxHeartbeats 8000000 in
set_option maxRecDepth 100000 in
theorem paste_clean.calls (a0 : Int) (r : Bool) (w : World) (h : paste_clean.f a0 = some r) :
    Calls Tryd.prog 33 #[.int .i64 a0] w fun e w' => e = .returned (.bool r) ∧ Drawn0 w w' := by
  have H : (if a0 = 9 then (some true) else (if a0 = 10 then (some true) else (if a0 = 13 then (some true) else (if a0 ≥ 32 then (if a0 < 127 then (some true) else (some (decide (a0 > 159)))) else (some false))))) = some r := h
  clear h
  by_cases c2 : a0 = 9
  · rw [if_pos c2] at H
    have c2b0 : (a0 == 9) = true := beq_iff_eq.mpr c2
    have c2b1 : (a0 != 9) = false := bne_eq_false_iff_eq.mpr c2
    clear c2
    obtain rfl := Option.some.inj H
    go_enter Tryd.func33, Tryd.ntmps33
    go_wp2
    go_ret
    exact ⟨by first | rfl | (simp; done) | (simp [*]; done), by repeat (first | exact Drawn0.refl _ | apply Drawn0.step)⟩
  · rw [if_neg c2] at H
    have c2b0 : (a0 == 9) = false := beq_eq_false_iff_ne.mpr c2
    have c2b1 : (a0 != 9) = true := bne_iff_ne.mpr c2
    by_cases c3 : a0 = 10
    · rw [if_pos c3] at H
      have c3b0 : (a0 == 10) = true := beq_iff_eq.mpr c3
      have c3b1 : (a0 != 10) = false := bne_eq_false_iff_eq.mpr c3
      clear c3
      obtain rfl := Option.some.inj H
      go_enter Tryd.func33, Tryd.ntmps33
      go_wp2
      go_ret
      exact ⟨by first | rfl | (simp; done) | (simp [*]; done), by repeat (first | exact Drawn0.refl _ | apply Drawn0.step)⟩
    · rw [if_neg c3] at H
      have c3b0 : (a0 == 10) = false := beq_eq_false_iff_ne.mpr c3
      have c3b1 : (a0 != 10) = true := bne_iff_ne.mpr c3
      by_cases c4 : a0 = 13
      · rw [if_pos c4] at H
        have c4b0 : (a0 == 13) = true := beq_iff_eq.mpr c4
        have c4b1 : (a0 != 13) = false := bne_eq_false_iff_eq.mpr c4
        clear c4
        obtain rfl := Option.some.inj H
        go_enter Tryd.func33, Tryd.ntmps33
        go_wp2
        go_ret
        exact ⟨by first | rfl | (simp; done) | (simp [*]; done), by repeat (first | exact Drawn0.refl _ | apply Drawn0.step)⟩
      · rw [if_neg c4] at H
        have c4b0 : (a0 == 13) = false := beq_eq_false_iff_ne.mpr c4
        have c4b1 : (a0 != 13) = true := bne_iff_ne.mpr c4
        by_cases c5 : a0 ≥ 32
        · rw [if_pos c5] at H
          have c5b0 : decide (32 ≤ a0) = true := decide_eq_true c5
          clear c5
          by_cases c6 : a0 < 127
          · rw [if_pos c6] at H
            have c6b0 : decide (a0 < 127) = true := decide_eq_true c6
            clear c6
            obtain rfl := Option.some.inj H
            go_enter Tryd.func33, Tryd.ntmps33
            go_wp2
            go_ret
            exact ⟨by first | rfl | (simp; done) | (simp [*]; done), by repeat (first | exact Drawn0.refl _ | apply Drawn0.step)⟩
          · rw [if_neg c6] at H
            have c6b0 : decide (a0 < 127) = false := decide_eq_false c6
            clear c6
            obtain rfl := Option.some.inj H
            go_enter Tryd.func33, Tryd.ntmps33
            go_wp2
            go_ret
            exact ⟨by first | rfl | (simp; done) | (simp [*]; done), by repeat (first | exact Drawn0.refl _ | apply Drawn0.step)⟩
        · rw [if_neg c5] at H
          have c5b0 : decide (32 ≤ a0) = false := decide_eq_false c5
          clear c5
          obtain rfl := Option.some.inj H
          go_enter Tryd.func33, Tryd.ntmps33
          go_wp2
          go_ret
          exact ⟨by first | rfl | (simp; done) | (simp [*]; done), by repeat (first | exact Drawn0.refl _ | apply Drawn0.step)⟩
end Go.Proofs.YtcglbfpmcpammaaDoor.G
end
