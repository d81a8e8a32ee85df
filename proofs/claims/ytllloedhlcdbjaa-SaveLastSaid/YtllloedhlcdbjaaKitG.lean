/- Rows as the print reads and hands them back, and as the walks by hand do. No condition. -/
import Derived.Test.YtllloedhlcdbjaaKitF
import Derived.Test.YtllloedhlcdbjaaWWords
namespace Go.Proofs.Ytllloedhlcdbjaa.Kit
set_option linter.unusedVariables false
set_option linter.unusedSimpArgs false
open Go Go.RowKit Go.Proofs.YtllloedhlcdbjaaW.PrintWords

/-- whole numbers that are bytes, as bytes; bytes as whole numbers -/
def bytesI (l : List Int) : List UInt8 := l.map fun z => UInt8.ofNat z.toNat
def isB (l : List Int) : Bool := l.all fun z => decide (0 ≤ z) && decide (z < 256)
def natsB (l : List UInt8) : List Int := l.map fun c => (c.toNat : Int)
theorem bytesI_length (l : List Int) : (bytesI l).length = l.length := by simp [bytesI]
theorem natsB_length (l : List UInt8) : (natsB l).length = l.length := by simp [natsB]
theorem isB_iff (l : List Int) : isB l = true ↔ ∀ z ∈ l, 0 ≤ z ∧ z < 256 := by simp [isB]
theorem bytesI_natsB (l : List UInt8) : bytesI (natsB l) = l := by
  induction l with
  | nil => rfl
  | cons c l ih => simp only [bytesI, natsB, List.map_cons, List.map_map] at ih ⊢; rw [ih]; simp
theorem isB_natsB (l : List UInt8) : isB (natsB l) = true := by
  rw [isB_iff]
  intro z hz
  obtain ⟨c, _, rfl⟩ := List.mem_map.1 hz
  have := c.toNat_lt
  omega
theorem natsB_bytesI {l : List Int} (h : isB l = true) : natsB (bytesI l) = l := by
  rw [isB_iff] at h
  induction l with
  | nil => rfl
  | cons z l ih =>
    have h0 := h z (by simp)
    have h1 := ih (fun y hy => h y (by simp [hy]))
    simp only [bytesI, natsB, List.map_cons, List.map_map] at h1 ⊢
    rw [h1]
    congr 1
    rw [UInt8.toNat_ofNat']
    omega
theorem ints_byV {l : List Int} (h : isB l = true) : l.map (Value.int .u8) = (bytesI l).map byV := by
  conv => lhs; rw [← natsB_bytesI h]
  simp [natsB, byV, List.map_map, Function.comp_def]
theorem add_at {w : World} {a : Addr} {v : Value} {i : Nat} (hc : w.cell? (a.add i) = some v) (hs : a.spot = none) : ∃ b o, a = ⟨b, o, none⟩ ∧ w.cell? ⟨b, o + i, none⟩ = some v := by
  obtain ⟨b, o, sp⟩ := a
  simp only at hs
  subst hs
  refine ⟨b, o, rfl, ?_⟩
  have hadd : (⟨b, o, none⟩ : Addr).add i = ⟨b, o + i, none⟩ := by unfold Addr.add; split <;> simp_all
  rwa [hadd] at hc
theorem spot_of_cell {w : World} {a : Addr} {v : Value} (h0 : w.cell? a = some v) : a.spot = none := by
  unfold World.cell? at h0
  split at h0
  · split at h0
    · cases h0
    · rename_i hn; simpa using hn
  · cases h0
/-- what the print says of a slice that is read -/
theorem reads_scalar {α : Type} {enc : α → Value} (d : α) {h1 : ∀ x, (enc x).oneCell' = true} {w : World} {A : Option Addr} {n : Nat} {l : List α} (h : (Kd.scalar enc h1).C w A n l) : Reads w A (l.map enc) := by
  intro k x hk
  have hr := Kd.reads_of_C (d := d) h
  have hl := hr.1
  have hlt : k < n := by have := (List.getElem?_eq_some_iff.1 hk).1; simp at this; omega
  obtain ⟨ad, e, hc⟩ := hr.2.2 (by omega)
  have hs := spot_of_cell (a := ad) (by have := hc 0 (by omega); rwa [show ad.add 0 = ad from rfl] at this)
  obtain ⟨b, o, rfl, h2⟩ := add_at (hc k hlt) hs
  refine ⟨b, o, e, h2.trans ?_⟩
  rw [List.getElem?_map, List.getElem?_eq_getElem (by omega)] at hk
  rw [← hk, List.getD_eq_getElem?_getD, List.getElem?_eq_getElem (by omega)]
  rfl
theorem reads_ints {k : IntKind} {w : World} {A : Option Addr} {n : Nat} {l : List Int} (h : (Kd.int k).C w A n l) : Reads w A (l.map (Value.int k)) := reads_scalar 0 h
theorem reads_bytes {w : World} {A : Option Addr} {n : Nat} {l : List Int} (h : (Kd.int .u8).C w A n l) (hb : isB l = true) : Reads w A ((bytesI l).map byV) := by
  rw [← ints_byV hb]
  exact reads_ints h
theorem C_len {α : Type} {d : Kd α} {w : World} {A : Option Addr} {n : Nat} {l : List α} (h : d.C w A n l) : l.length = n ∧ n ≤ 9223372036854775807 := ⟨h.1, h.2.1⟩
/-- a row of our own, as the print hands it back -/
theorem R_bytes {e : Nat} {w : World} {base n : Nat} {v : Value} {l : List UInt8} (h : w.ownsRow base e 1 v n (l.map byV)) : Kd.R (Kd.int .u8) e w base (fun _ => True) v (natsB l) := by
  have hn : n = l.length := by have := h.1; simp at this; omega
  subst hn
  refine Kd.R_of_own (enc := Value.int .u8) ?_ (fun _ _ => trivial)
  rw [natsB_length]
  have : encs (Value.int .u8) (natsB l) = l.map byV := by simp [encs, natsB, byV, List.map_map, Function.comp_def]
  rw [this]
  exact h
theorem R_ints {k : IntKind} {e : Nat} {w : World} {base n : Nat} {v : Value} {l : List Int} (h : w.ownsRow base e 1 v n (l.map (Value.int k))) : Kd.R (Kd.int k) e w base (fun _ => True) v l := by
  have hn : n = l.length := by have := h.1; simp at this; omega
  subst hn
  exact Kd.R_of_own (enc := Value.int k) h (fun _ _ => trivial)

end Go.Proofs.Ytllloedhlcdbjaa.Kit
