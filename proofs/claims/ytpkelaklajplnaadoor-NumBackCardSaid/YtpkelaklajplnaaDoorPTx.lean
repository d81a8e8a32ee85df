/- Numbers in figures, told there and back: plain laws. No condition. -/
import Derived.Test.YtpkelaklajplnaaDoorPNu
namespace Go.Proofs.YtpkelaklajplnaaDoor
set_option linter.unusedVariables false
set_option linter.unusedSimpArgs false

def foldF (m : Int) (l : List UInt8) : Int := l.foldl nextF m
theorem takeF_all (l rest : List UInt8) (h : ∀ c ∈ l, figU c = true) : ∀ m, takeF m (l ++ rest) = ((takeF (foldF m l) rest).1, (takeF (foldF m l) rest).2 + l.length) := by
  induction l with
  | nil => intro m; simp [foldF]
  | cons c l ih =>
    intro m
    have hc := h c (by simp)
    have hl := ih (fun x hx => h x (by simp [hx])) (nextF m c)
    simp only [List.cons_append, takeF, hc, if_true, hl]
    simp only [foldF, List.foldl_cons, List.length_cons, Prod.mk.injEq, true_and]
    omega
theorem foldF_append (m : Int) (a b : List UInt8) : foldF m (a ++ b) = foldF (foldF m a) b := by simp [foldF]
theorem digit_toNat {d : Nat} (h : d < 10) : (UInt8.ofNat (48 + d)).toNat = 48 + d := by
  rw [UInt8.toNat_ofNat']
  omega
theorem figU_digit {d : Nat} (h : d < 10) : figU (UInt8.ofNat (48 + d)) = true := by
  simp only [figU, digit_toNat h, Bool.and_eq_true, decide_eq_true_eq]
  omega
theorem decDigits_small {n : Nat} (h : n < 10) : Lib.decDigits n = [UInt8.ofNat (48 + n)] := by rw [Lib.decDigits, dif_pos h]
theorem decDigits_big {n : Nat} (h : ¬ n < 10) : Lib.decDigits n = Lib.decDigits (n / 10) ++ [UInt8.ofNat (48 + n % 10)] := by rw [Lib.decDigits, dif_neg h]
theorem decDigits_figs (n : Nat) : ∀ c ∈ Lib.decDigits n, figU c = true := by
  induction n using Nat.strongRecOn with
  | _ n ih =>
    intro c hc
    by_cases h : n < 10
    · rw [decDigits_small h] at hc
      rw [List.mem_singleton.1 hc]
      exact figU_digit h
    · rw [decDigits_big h] at hc
      rcases List.mem_append.1 hc with h1 | h1
      · exact ih (n / 10) (by omega) c h1
      · rw [List.mem_singleton.1 h1]
        exact figU_digit (by omega)
theorem foldF_dec (n : Nat) : foldF 0 (Lib.decDigits n) = min (n : Int) 1114111 := by
  induction n using Nat.strongRecOn with
  | _ n ih =>
    by_cases h : n < 10
    · rw [decDigits_small h]
      simp only [foldF, List.foldl_cons, List.foldl_nil, nextF, digit_toNat h]
      omega
    · rw [decDigits_big h, foldF_append, ih (n / 10) (by omega)]
      simp only [foldF, List.foldl_cons, List.foldl_nil, nextF, digit_toNat (show n % 10 < 10 by omega)]
      omega
theorem foldF_noughts (d : Nat) : foldF 0 (List.replicate d 48) = 0 := by
  induction d with
  | zero => rfl
  | succ d ih => rw [List.replicate_succ]; exact ih
theorem textL_of {n : Int} (h : 0 ≤ n) : textL n = Lib.decDigits n.toNat := by unfold textL; rw [if_neg (by omega)]
theorem textL_figs (n : Int) : ∀ c ∈ textL n, figU c = true := by
  unfold textL
  split
  · intro c hc; cases hc
  · exact decDigits_figs _
theorem foldF_text {n : Int} (h : 0 ≤ n) : foldF 0 (textL n) = min n 1114111 := by
  rw [textL_of h, foldF_dec]
  omega
theorem textL_inj {a b : Int} (ha : 0 ≤ a) (hb : 0 ≤ b) (la : a ≤ 1114111) (lb : b ≤ 1114111) (h : textL a = textL b) : a = b := by
  have h1 := foldF_text ha
  rw [h, foldF_text hb] at h1
  omega
theorem decDigits_mono (a : Nat) : ∀ b, a ≤ b → (Lib.decDigits a).length ≤ (Lib.decDigits b).length := by
  induction a using Nat.strongRecOn with
  | _ a ih =>
    intro b hab
    by_cases h : a < 10
    · rw [decDigits_small h]
      rw [Lib.decDigits_length]
      exact Lib.nDigits_pos b
    · rw [decDigits_big h, decDigits_big (show ¬ b < 10 by omega)]
      have := ih (a / 10) (by omega) (b / 10) (by omega)
      simp only [List.length_append, List.length_singleton]
      omega
theorem textL_mono {a b : Int} (ha : 0 ≤ a) (h : a ≤ b) : (textL a).length ≤ (textL b).length := by
  rw [textL_of ha, textL_of (by omega)]
  exact decDigits_mono _ _ (by omega)
theorem textL_len {a : Int} (h0 : 0 ≤ a) (h : a ≤ 9223372036854775807) : (textL a).length ≤ 20 ∧ 1 ≤ (textL a).length := by
  rw [textL_of h0, Lib.decDigits_length]
  exact ⟨by
    have : Lib.nDigits a.toNat ≤ 20 := by
      rcases Nat.lt_or_ge 20 (Lib.nDigits a.toNat) with h1 | h1
      · exfalso
        have h2 := Lib.decDigits_length a.toNat
        have h3 : (Lib.decDigits a.toNat).length ≤ (Lib.decDigits 9223372036854775807).length := decDigits_mono _ _ (by omega)
        rw [Lib.decDigits_length, Lib.decDigits_length] at h3
        have h4 : Lib.nDigits 9223372036854775807 = 18 + 1 := Lib.nDigits_unique 18 _ (by decide) (by decide)
        omega
      · exact h1
    exact this, Lib.nDigits_pos _⟩

end Go.Proofs.YtpkelaklajplnaaDoor
