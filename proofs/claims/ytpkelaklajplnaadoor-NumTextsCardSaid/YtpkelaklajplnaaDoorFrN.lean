/- Words for the cards' frames: the table out of the row's condition, a world for the witness, how bytes are opened. No condition. -/
import Derived.Test.YtpkelaklajplnaaDoorCards
import Derived.Test.YtpkelaklajplnaaDoorTie
import Derived.WalkKit
import Derived.ProofKit
import Derived.OpenShut
import Derived.ShutString
import Derived.ChangeOld
import Derived.Below
import Derived.Deep.DeepHandedRow
import Derived.Lib.LaidTab
import Derived.Stop.LaidErr
import Derived.Test.YtpkelaklajplnaaDoorNuI
namespace Go.Proofs.YtpkelaklajplnaaDoor
open Go.ChangeShapes Go.WideShapes Go.ChangeAt Go.RowKit
set_option linter.unusedVariables false
set_option linter.unusedSimpArgs false

theorem own : ownKnob Tryd.prog.godebug = none := by kernel_rfl
theorem laidOut : laidOutB Tryd.prog = true := by kernel_rfl
theorem cells_pow : Tryd.prog.cellsOf 49 = 20 := by kernel_rfl
theorem cells_u64 : Tryd.prog.cellsOf 42 = 1 := by kernel_rfl
theorem cells_u8 : Tryd.prog.cellsOf 5 = 1 := by kernel_rfl
theorem gPow : Tryd.prog.globalNamed "internal/strconv.uint64pow10" = some 0 := by kernel_rfl
theorem gPowType : (Tryd.prog.globals[0]?).map (·.type) = some 49 := by kernel_rfl

theorem tab_data {H : Type} : (Rows.laid_internal_strconv_uint64pow10 : DataW H) = Lib.tabData .u64 Lib.pow10Tab := rfl
/-- WHAT THE ROWS' LIST GIVES -/
theorem tabOf {W : World} (h : laidMetH Tryd.prog Rows.numTextsRow.laid W) : Tab W := by
  have h1 : laidMet Tryd.prog Rows.numTextsRow.laid W := h
  exact Lib.tabIs_of_head (rest := []) gPow gPowType Tryd.underlying49 Tryd.underlying42 cells_u64 cells_pow h1.tail.tail

/-- A WORLD FOR THE WITNESS: the settled one, the tables holding what their initialisers lay. -/
def cellsOfD (d : DataW Unit) : Array Value := match d with
  | .agg l => (l.map fun x => match x with | .lit (.int k z) => Value.int k z | _ => undef).toArray
  | _ => #[]
def layCells (d : DataW Unit) : Obj → Obj
  | .cells _ t frozen => .cells (cellsOfD d) t frozen
  | o => o
noncomputable def laidWorld (os : Os) : World :=
  { World.holding Tryd.prog os ⟨#[], #[], []⟩ with heap := (((World.holding Tryd.prog os ⟨#[], #[], []⟩).heap.modify 0 (layCells Rows.laid_internal_strconv_uint64pow10)).modify 1 (layCells Rows.laid_math_bits_deBruijn32tab)).modify 2 (layCells Rows.laid_math_bits_deBruijn64tab) }

theorem reads_cells {w : World} {a : Addr} {xs : List Value} (hc : ∀ i x, xs[i]? = some x → w.cell? (a.add i) = some x) : Kit.Reads w (some a) xs := by
  intro k x hk
  have hlt : 0 < xs.length := by have := (List.getElem?_eq_some_iff.1 hk).1; omega
  have h0 := hc 0 xs[0] (by simp [hlt])
  rw [show a.add 0 = a from rfl] at h0
  have hs : a.spot = none := by
    unfold World.cell? at h0
    split at h0
    · split at h0
      · cases h0
      · rename_i hn; simpa using hn
    · cases h0
  obtain ⟨b, o, sp⟩ := a
  simp only at hs
  subst hs
  have hadd : (⟨b, o, none⟩ : Addr).add k = ⟨b, o + k, none⟩ := by unfold Addr.add; split <;> simp_all
  exact ⟨b, o, rfl, by rw [← hadd]; exact hc k x hk⟩

theorem i64_lo {x : Int} (h : (Lit.int .i64 x).wf = true) : -9223372036854775808 ≤ x := by
  simp [Lit.wf, IntKind.min, IntKind.max, IntKind.signed, IntKind.bits] at h
  omega
theorem i64_hi {x : Int} (h : (Lit.int .i64 x).wf = true) : x ≤ 9223372036854775807 := by
  simp [Lit.wf, IntKind.min, IntKind.max, IntKind.signed, IntKind.bits] at h
  omega
theorem byteOf {x : Int} (h : (Lit.int .u8 x).wf = true) : 0 ≤ x ∧ x < 256 := by
  simp [Lit.wf, IntKind.min, IntKind.max, IntKind.signed, IntKind.bits] at h
  omega
theorem open_bytes {H : Type} {enc : TypeId × Value → H} {W : World} {v : Value} {d : DataW H} {p : List MemPlace} (h : DataW.Trod enc Tryd.prog W 0 (fun _ => true) true 22 v d p) {r : Reach} {b0 : Nat} (hv : Value.okWide Tryd.prog W r b0 22 v) :
    ∃ (a0 : Option Addr) (m c : Nat) (l : List UInt8), v = .slice a0 m c ∧ l.length = m ∧ m ≤ c ∧ Kit.Reads W a0 (l.map Kit.byV) := by
  obtain ⟨a0, len, cap, rfl⟩ := okWide_slice Tryd.underlying22 hv
  obtain ⟨fuel, hf⟩ := h
  rcases open_ints Tryd.underlying22 Tryd.underlying5 cells_u8 hf with ⟨hcs, hx⟩ | ⟨a, len', cap', zs, hcs, _, hl, hm, hz, hx, hcell, hwz⟩
  · simp [Value.cells] at hcs
    obtain ⟨rfl, rfl, rfl⟩ := hcs
    exact ⟨none, 0, 0, [], rfl, rfl, Nat.le_refl _, Kit.Reads.nil _ _⟩
  · simp [Value.cells] at hcs
    obtain ⟨rfl, rfl, rfl⟩ := hcs
    simp only [if_true] at hz
    refine ⟨some a, len, cap, (zs.take len).map (fun z => UInt8.ofNat z.toNat), rfl, by simp; omega, hl, reads_cells fun i x hx => ?_⟩
    rw [List.map_map] at hx
    have hi : i < len ∧ i < zs.length := by have := (List.getElem?_eq_some_iff.1 hx).1; simp at this; omega
    rw [hcell i hi.2]
    have hb := byteOf (hwz (zs.getD i 0) (by simp [List.getD, hi.2]))
    simp [hi.1, hi.2] at hx
    subst hx
    simp [List.getD, hi.2] at hb ⊢
    unfold Kit.byV
    congr 1
    rw [UInt8.toNat_ofNat']
    omega

end Go.Proofs.YtpkelaklajplnaaDoor
