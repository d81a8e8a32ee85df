/- S: texts run together by shake.py: WWords WApart PTx. -/
import Derived.ArgAppend
import Derived.Below
import Derived.BigQuiet
import Derived.Deep.AppendLies
import Derived.Deep.CutBlock
import Derived.Deep.DeepCutAuto
import Derived.Deep.Draws
import Derived.Deep.LoopGhost
import Derived.Deep.OwnRows
import Derived.Deep.QuietTactic
import Derived.Deep.RegionHeld3
import Derived.KernelRfl
import Derived.Laws.BitsLemmas
import Derived.Laws.BytesArg
import Derived.Laws.IdiomCopy
import Derived.Laws.MakeOwn
import Derived.Laws.OwnMore
import Derived.Laws.Rows
import Derived.Laws.Slices
import Derived.Lib.AppendStr
import Derived.Lib.ConvBytes
import Derived.Lib.ItoaNum
import Derived.Maps.AppendAt
import Derived.OrdersHeld
import Derived.OwnWalk
import Derived.RowKit
import Derived.RowKit3
import Derived.Tactics
import Derived.WalkKit
import Derived.WideLaws
import Derived.Test.YtbaigfoioiklkaaDoorZS1
import Derived.Test.YtbaigfoioiklkaaDoorZS4
section
set_option linter.unusedVariables false
set_option linter.unusedSimpArgs false
namespace Go.Proofs.YtbaigfoioiklkaaDoorW.PrintWords
open Go.RowKit
theorem own_other {w w1 : World} {base : Nat} {e : TypeId} {size n : Nat} {v : Value} {xs : List Value} (h : w.ownsRow base e size v n xs) {row : Option Nat} (hg : w.grownBy w1 row) (hne : v.ownBlock = none ∨ v.ownBlock ≠ row) : w1.ownsRow base e size v n xs := h.kept hg hne
section
variable {α : Type} {R R' : α → List Value → Prop} {e : TypeId} {size : Nat} {w w1 : World} {base : Nat} {v : Value} {ps : List α}
theorem OwnRow.other (h : OwnRow R e size w base v ps) {row : Option Nat} (hg : w.grownBy w1 row) (hne : v.ownBlock = none ∨ v.ownBlock ≠ row) : OwnRow R e size w1 base v ps := by
  obtain ⟨inner, ho, hr⟩ := h
  exact ⟨inner, own_other ho hg hne, hr⟩
end
namespace Kd
section
variable {α : Type} {d : Kd α} {e e' : Nat} {w w1 W : World} {base : Nat} {ok : Nat → Prop} {u v : Value} {xs : List α}
theorem R_new' (h : d.R e w1 W.heap.size ok v xs) (hlt : ∀ k, u.ownBlock = some k → k < W.heap.size) : d.R e w1 W.heap.size (fun k => ok k ∧ some k ≠ u.ownBlock) v xs :=
  R_mono (R_bound h) (fun k hk => ⟨hk.1, fun he => by have := hlt k he.symm; have := hk.2.1; omega⟩)
end
end Kd
end Go.Proofs.YtbaigfoioiklkaaDoorW.PrintWords
end
section
namespace Go.Proofs.YtbaigfoioiklkaaDoorW.PrintWords
open Go.RowKit
namespace Kd
section
variable {α β : Type} {d : Kd α} {d' : Kd β} {e e' : Nat} {w w1 W : World} {base b : Nat} {ok ok' okv oku : Nat → Prop} {u v : Value} {xs : List α} {ys : List β}
theorem S_new' (h : S d e w1 W.heap.size ok v xs) (hlt : ∀ k, u.ownBlock = some k → k < W.heap.size) : S d e w1 W.heap.size (fun k => ok k ∧ some k ≠ u.ownBlock) v xs := by
  obtain ⟨f, h⟩ := h
  exact ⟨f, R_new' h hlt⟩
end
end Kd
end Go.Proofs.YtbaigfoioiklkaaDoorW.PrintWords
end
section
namespace Go.Proofs.YtbaigfoioiklkaaDoor
set_option linter.unusedVariables false
set_option linter.unusedSimpArgs false
def foldF (m : Int) (l : List UInt8) : Int := l.foldl nextF m
theorem foldF_append (m : Int) (a b : List UInt8) : foldF m (a ++ b) = foldF (foldF m a) b := by simp [foldF]
theorem digit_toNat {d : Nat} (h : d < 10) : (UInt8.ofNat (48 + d)).toNat = 48 + d := by
  rw [UInt8.toNat_ofNat']
  omega
theorem figU_digit {d : Nat} (h : d < 10) : figU (UInt8.ofNat (48 + d)) = true := by
  simp only [figU, digit_toNat h, Bool.and_eq_true, decide_eq_true_eq]
  omega
theorem decDigits_figs (n : Nat) : ∀ c ∈ Lib.decDigits n, figU c = true := by
  induction n using Nat.strongRecOn with
  | _ n ih =>
    intro c hc
    by_cases h : n < 10
    · rw [decDigits_small h] at hc
      rw [List.mem_singleton.1 hc]
      exact figU_digit h
    · rw [decDigits_big h] at hc
      rcases List.mem_append.1 hc with h1 | h1
      · exact ih (n / 10) (by omega) c h1
      · rw [List.mem_singleton.1 h1]
        exact figU_digit (by omega)
theorem foldF_dec (n : Nat) : foldF 0 (Lib.decDigits n) = min (n : Int) 1114111 := by
  induction n using Nat.strongRecOn with
  | _ n ih =>
    by_cases h : n < 10
    · rw [decDigits_small h]
      simp only [foldF, List.foldl_cons, List.foldl_nil, nextF, digit_toNat h]
      omega
    · rw [decDigits_big h, foldF_append, ih (n / 10) (by omega)]
      simp only [foldF, List.foldl_cons, List.foldl_nil, nextF, digit_toNat (show n % 10 < 10 by omega)]
      omega
theorem textL_figs (n : Int) : ∀ c ∈ textL n, figU c = true := by
  unfold textL
  split
  · intro c hc; cases hc
  · exact decDigits_figs _
theorem foldF_text {n : Int} (h : 0 ≤ n) : foldF 0 (textL n) = min n 1114111 := by
  rw [textL_of h, foldF_dec]
  omega
theorem textL_inj {a b : Int} (ha : 0 ≤ a) (hb : 0 ≤ b) (la : a ≤ 1114111) (lb : b ≤ 1114111) (h : textL a = textL b) : a = b := by
  have h1 := foldF_text ha
  rw [h, foldF_text hb] at h1
  omega
end Go.Proofs.YtbaigfoioiklkaaDoor
end
