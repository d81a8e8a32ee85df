/- A row that a conversion marked ('[]byte(s)'): read, and appended onto. No condition. -/
import Derived.Test.YtpkelaklajplnaaDoorKitF
import Derived.ArgAppend
namespace Go.Proofs.YtpkelaklajplnaaDoor.Kit
set_option linter.unusedVariables false
set_option linter.unusedSimpArgs false
open Go Go.RowKit

variable {P : Program} {w : World}

theorem below_setCells {B b : Nat} (hb : B ≤ b) : ∀ (vs : List Value) (o : Nat) (a w : World), Below B a w → Below B a (w.setCells b o vs) := by
  intro vs
  induction vs with
  | nil => intro o a w h; exact h
  | cons v r ih => intro o a w h; exact ih (o + 1) a _ (h.setCell hb v)

/-- A slice of the whole of a row of bytes; what the row's mark freezes lies behind its end. -/
def Marked (w : World) (B : Nat) (e : TypeId) (v : Value) (n : Nat) (xs : List Value) : Prop :=
  ∃ g cap cur fz, v = .slice (some ⟨g, 0, none⟩) n cap ∧ B ≤ g ∧ w.heap[g]? = some (.cells cur e fz) ∧ cur.size = cap ∧ cap ≤ fz.1 ∧ n ≤ cap ∧ cur.toList.take n = xs

theorem Marked.len {B : Nat} {e : TypeId} {v : Value} {n : Nat} {xs : List Value} (h : Marked w B e v n xs) : xs.length = n := by
  obtain ⟨g, cap, cur, fz, _, _, _, hc, _, hn, rfl⟩ := h
  rw [List.length_take, Array.length_toList]
  omega

theorem run_append_marked {t ty e : TypeId} {i : TypeInfo} {z : Value} (ht : P.underlying t = some (.slice e)) (hi : P.info? e = some i) (hz : i.zero = some z) (hs : i.size = 1) (hb : i.bytes = 1) (hzs : z.cells.size = 1)
    {B n : Nat} {v : Value} {olds : List Value} (hM : Marked w B e v n olds) (hB : B ≤ w.heap.size)
    {p : Option Addr} {m c : Nat} {news : List Value} (hl : news.length = m) (hr : Reads w p news) (h1 : ∀ u ∈ news, u.oneCell' = true) (h63 : n + m ≤ 1000000) :
    ∃ A c' w', (Builtin.append_ #[t, t] ty #[v, .slice p m c]).run P w = .ok (.slice A (n + m) c') w' ∧ n + m ≤ c' ∧ Below B w w' ∧ Reads w' A (olds ++ news) := by
  have hlo := hM.len
  obtain ⟨g, cap, cur, fz, rfl, hBg, hg, hcap, hfz, hn, htk⟩ := hM
  cases p with
  | none =>
    have : news = [] := by
      cases news with
      | nil => rfl
      | cons x l => obtain ⟨b, o, h, _⟩ := hr 0 x rfl; cases h
    subst this
    simp at hl
    subst hl
    refine ⟨some ⟨g, 0, none⟩, cap, w, ?_, by omega, Below.refl _ _, ?_⟩
    · simp [Builtin.append_, run_underlying ht, sizeOf, typeInfo, hi, Builtin.lenOf, hn, Builtin.firstCells, storeCells]
    · rw [List.append_nil]
      exact Reads.row hg htk
  | some a =>
    have hcells : ∀ j u, news[j]? = some u → w.cell? (a.add j) = some u := by
      intro j u hj
      obtain ⟨b, o, h, hc⟩ := hr j u hj
      cases h
      have hadd : (⟨b, o, none⟩ : Addr).add j = ⟨b, o + j, none⟩ := by unfold Addr.add; split <;> simp_all
      rw [hadd]
      exact hc
    have holds : ∀ j u, olds[j]? = some u → w.cell? ⟨g, 0 + j, none⟩ = some u := by
      intro j u hj
      obtain ⟨b, o, h, hc⟩ := Reads.row hg htk j u hj
      cases h
      exact hc
    by_cases hroom : n + m ≤ cap
    · have hin : ∀ j, j < news.length → (w.cell? ⟨g, 0 + n * i.size + j, none⟩).isSome = true := by
        intro j hj
        rw [hs]
        have : 0 + n * 1 + j < cur.size := by omega
        simp [World.cell?, hg]
        omega
      have hfr : ∀ j, j < news.length → w.frozen? ⟨g, 0 + n * i.size + j, none⟩ = false := by
        intro j hj
        rw [hs]
        simp only [World.frozen?, hg]
        simp
        omega
      have hrun := run_append_room_cells (P := P) w t ty e i ht hi g 0 n cap a m c news (by rw [hs]; omega) hcells h1 hroom hin hfr
      rw [hs] at hrun hin
      refine ⟨_, _, _, hrun, hroom, below_setCells hBg _ _ _ _ (Below.refl _ _), ?_⟩
      intro k x hk
      refine ⟨g, 0, rfl, ?_⟩
      by_cases hkn : k < olds.length
      · rw [List.getElem?_append_left hkn] at hk
        rw [World.cell?_setCells_out g news (0 + n * 1) w ⟨g, 0 + k, none⟩ (fun _ _ => .inl (by show 0 + k < 0 + n * 1; omega))]
        exact holds k x hk
      · rw [List.getElem?_append_right (by omega)] at hk
        obtain ⟨hj, rfl⟩ := List.getElem?_eq_some_iff.1 hk
        have := World.cell?_setCells_in g news (0 + n * 1) w hin (k - olds.length) hj
        rw [show 0 + n * 1 + (k - olds.length) = 0 + k by omega] at this
        exact this
    · obtain ⟨v', w', hrun, hown, hgr⟩ := run_append_arg_grows (P := P) (w := w) t ty e i z 1 1 ht hi hz hs hb hzs (by decide) ⟨g, 0, none⟩ n cap olds (by omega) (fun j u hj => by rw [Addr.add_lit]; exact holds j u hj) a m c news (by omega) hcells (by omega) (by simp only [maxLen]; omega) (by omega)
      obtain ⟨A, c', rfl, hR, hc', _⟩ := hown.reads
      exact ⟨A, c', w', hrun, hc', (Below.refl B w).grown hgr hB (fun k hk => by cases hk), hR⟩
end Go.Proofs.YtpkelaklajplnaaDoor.Kit
