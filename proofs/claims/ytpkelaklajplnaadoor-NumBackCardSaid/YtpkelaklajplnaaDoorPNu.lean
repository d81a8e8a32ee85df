/- Plain functions of numbers in figures, and their laws: no program in sight. No condition. -/
import Derived.Lib.ItoaNum
namespace Go.Proofs.YtpkelaklajplnaaDoor
set_option linter.unusedVariables false
set_option linter.unusedSimpArgs false

/-! ### figures of ten -/
def figU (c : UInt8) : Bool := decide (48 ≤ c.toNat) && decide (c.toNat ≤ 57)
def nextF (n : Int) (c : UInt8) : Int := min (10 * n + ((c.toNat : Int) - 48)) 1114111
def takeF : Int → List UInt8 → Int × Nat
  | n, [] => (n, 0)
  | n, c :: t => if figU c then ((takeF (nextF n c) t).1, (takeF (nextF n c) t).2 + 1) else (n, 0)
/-- the first k bytes are read, n is what they make -/
def TakeAt (l : List UInt8) (k : Nat) (n : Int) : Prop := takeF 0 l = ((takeF n (l.drop k)).1, (takeF n (l.drop k)).2 + k) ∧ 0 ≤ n ∧ n ≤ 1114111
theorem TakeAt.start (l : List UInt8) : TakeAt l 0 0 := ⟨by simp, by decide, by decide⟩
theorem drop_at (l : List UInt8) {k : Nat} (hk : k < l.length) : l.drop k = l[k]?.getD 0 :: l.drop (k + 1) := by
  rw [List.drop_eq_getElem_cons hk, List.getElem?_eq_getElem hk]
  rfl
theorem nextF_range {n : Int} {c : UInt8} (h0 : 0 ≤ n) (hf : figU c = true) : 0 ≤ nextF n c ∧ nextF n c ≤ 1114111 := by
  simp only [figU, Bool.and_eq_true, decide_eq_true_eq] at hf
  unfold nextF
  omega
theorem TakeAt.step {l : List UInt8} {k : Nat} {n : Int} (h : TakeAt l k n) (hk : k < l.length) (hf : figU (l[k]?.getD 0) = true) : TakeAt l (k + 1) (nextF n (l[k]?.getD 0)) := by
  obtain ⟨h1, h2, h3⟩ := h
  refine ⟨?_, (nextF_range h2 hf).1, (nextF_range h2 hf).2⟩
  rw [h1, drop_at l hk]
  simp only [takeF, hf, if_true]
  simp only [Prod.mk.injEq, true_and]
  omega
theorem TakeAt.stop {l : List UInt8} {k : Nat} {n : Int} (h : TakeAt l k n) (hk : k < l.length) (hf : figU (l[k]?.getD 0) = false) : takeF 0 l = (n, k) := by
  rw [h.1, drop_at l hk]
  simp [takeF, hf]
theorem TakeAt.whole {l : List UInt8} {k : Nat} {n : Int} (h : TakeAt l k n) (hk : l.length ≤ k) : takeF 0 l = (n, k) := by
  rw [h.1, List.drop_eq_nil_of_le hk]
  simp [takeF]

/-- a number in figures -/
def textL (n : Int) : List UInt8 := if n < 0 then [] else Lib.decDigits n.toNat

/-! ### figures of sixteen -/
def valU (c : UInt8) : Int :=
  if 48 ≤ c.toNat ∧ c.toNat ≤ 57 then (c.toNat : Int) - 48 else if 65 ≤ c.toNat ∧ c.toNat ≤ 70 then (c.toNat : Int) - 55 else if 97 ≤ c.toNat ∧ c.toNat ≤ 102 then (c.toNat : Int) - 87 else -1
theorem valU_range (c : UInt8) : -1 ≤ valU c ∧ valU c ≤ 15 := by unfold valU; split <;> (try split) <;> (try split) <;> omega
def figV (n : Nat) : UInt8 := if n < 10 then UInt8.ofNat (48 + n) else UInt8.ofNat (55 + n)
def hexL (l : List UInt8) : List UInt8 := l.flatMap fun c => [figV (c.toNat / 16), figV (c.toNat % 16)]
theorem hexL_step (l : List UInt8) {k : Nat} (hk : k < l.length) : hexL (l.take (k + 1)) = hexL (l.take k) ++ [figV ((l[k]?.getD 0).toNat / 16), figV ((l[k]?.getD 0).toNat % 16)] := by
  have e : l.take (k + 1) = l.take k ++ [l[k]?.getD 0] := by rw [List.take_add_one, List.getElem?_eq_getElem hk]; rfl
  rw [e]
  simp only [hexL, List.flatMap_append, List.flatMap_cons, List.flatMap_nil, List.append_nil]
theorem hexL_length (l : List UInt8) : (hexL l).length = 2 * l.length := by
  induction l with
  | nil => rfl
  | cons c l ih => simp [hexL, List.flatMap_cons] at ih ⊢; omega

def pairU (a b : UInt8) : UInt8 := UInt8.ofNat (16 * valU a + valU b).toNat
def unhexL : List UInt8 → Option (List UInt8)
  | [] => some []
  | [_] => none
  | a :: b :: t => if valU a < 0 ∨ valU b < 0 then none else (unhexL t).map (pairU a b :: ·)
/-- the first k pairs -/
def pairs (l : List UInt8) : Nat → List UInt8
  | 0 => []
  | k + 1 => pairs l k ++ [pairU (l[2 * k]?.getD 0) (l[2 * k + 1]?.getD 0)]
theorem pairs_length (l : List UInt8) (k : Nat) : (pairs l k).length = k := by induction k with
  | zero => rfl
  | succ k ih => simp [pairs, ih]
/-- the first k bytes are figures -/
def Good (l : List UInt8) (k : Nat) : Prop := ∀ j, j < k → 0 ≤ valU (l[j]?.getD 0)
theorem unhexL_go (l : List UInt8) (k : Nat) (hk : 2 * k ≤ l.length) (hg : Good l (2 * k)) : unhexL l = (unhexL (l.drop (2 * k))).map (pairs l k ++ ·) := by
  induction k with
  | zero => simp [pairs]
  | succ k ih =>
    rw [ih (by omega) (fun j hj => hg j (by omega))]
    rw [drop_at l (k := 2 * k) (by omega), drop_at l (k := 2 * k + 1) (by omega)]
    have h1 := hg (2 * k) (by omega)
    have h2 := hg (2 * k + 1) (by omega)
    simp only [unhexL]
    rw [if_neg (by omega), show 2 * (k + 1) = 2 * k + 1 + 1 by omega]
    simp [pairs, Option.map_map, Function.comp_def]
theorem unhexL_all {l : List UInt8} (he : l.length % 2 = 0) (hg : Good l l.length) : unhexL l = some (pairs l (l.length / 2)) := by
  have e : 2 * (l.length / 2) = l.length := by omega
  rw [unhexL_go l (l.length / 2) (by omega) (by rw [e]; exact hg), e]
  simp [unhexL]
theorem unhexL_spec (l : List UInt8) : ∀ r, unhexL l = some r → l.length = 2 * r.length ∧ Good l l.length := by
  induction l using unhexL.induct with
  | case1 => intro r h; simp [unhexL] at h; subst h; exact ⟨rfl, fun j hj => by simp at hj⟩
  | case2 => intro r h; simp [unhexL] at h
  | case3 a b t h0 => intro r h; simp [unhexL, h0] at h
  | case4 a b t h0 ih =>
    intro r h
    simp only [unhexL, if_neg h0, Option.map_eq_some_iff] at h
    obtain ⟨r', h1, rfl⟩ := h
    obtain ⟨h2, h3⟩ := ih r' h1
    refine ⟨by simp; omega, fun j hj => ?_⟩
    match j, hj with
    | 0, _ => simp; omega
    | 1, _ => simp; omega
    | j + 2, hj => have := h3 j (by simp at hj; omega); simpa using this
theorem unhexL_odd {l : List UInt8} (ho : l.length % 2 = 1) : unhexL l = none := by
  cases h : unhexL l with
  | none => rfl
  | some r => have := (unhexL_spec l r h).1; omega
theorem unhexL_bad {l : List UInt8} {k : Nat} (hk : k < l.length) (hv : valU (l[k]?.getD 0) < 0) : unhexL l = none := by
  cases h : unhexL l with
  | none => rfl
  | some r => have := (unhexL_spec l r h).2 k hk; omega

end Go.Proofs.YtpkelaklajplnaaDoor
