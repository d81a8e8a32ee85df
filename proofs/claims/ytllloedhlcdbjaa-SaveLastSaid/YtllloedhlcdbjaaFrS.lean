/- How layer 7's arguments are opened: two modes in a row, what was saved. No condition. -/
import Derived.Test.YtllloedhlcdbjaaFr
import Derived.Test.YtllloedhlcdbjaaAwS
namespace Go.Proofs.Ytllloedhlcdbjaa
open Go.ChangeShapes Go.WideShapes Go.ChangeAt Go.RowKit
set_option linter.unusedVariables false
set_option linter.unusedSimpArgs false
set_option maxRecDepth 100000

abbrev mCells (m : Md) : List Value := [.bool m.cursor, .bool m.keypad, .bool m.back, .bool m.focus, .bool m.paste, .bool m.lock, .bool m.line, .int .i64 m.mouse, .int .i64 m.coding, .int .i64 m.other]
section
variable {H : Type} {enc : TypeId × Value → H} {W : World} {base : Nat} {spare : Nat → Bool} {held : Bool} {v : Value} {d : DataW H} {p : List MemPlace} {r : Reach} {b0 : Nat}
theorem modes_cells {fuel : Nat} {cs : List Value} {x : DataW H × List MemPlace} (hf : DataW.trod enc Try.prog W base spare held fuel 23 cs = some x) (hl : cs.length = 10) : ∃ m : Md, cs = mCells m := by
  obtain ⟨xs, n, _, _, _, hlen, hx⟩ := DataW.trod_struct Try.underlying23 hf
  have hc1 : Try.prog.cellsOf 4 = 1 := by kernel_rfl
  have hc2 : Try.prog.cellsOf 3 = 1 := by kernel_rfl
  match cs, hl with
  | [c0, c1, c2, c3, c4, c5, c6, c7, c8, c9], _ =>
    match xs, hlen with
    | [x0, x1, x2, x3, x4, x5, x6, x7, x8, x9], _ =>
      have e0 := hx 0 _ rfl
      have e1 := hx 1 _ rfl
      have e2 := hx 2 _ rfl
      have e3 := hx 3 _ rfl
      have e4 := hx 4 _ rfl
      have e5 := hx 5 _ rfl
      have e6 := hx 6 _ rfl
      have e7 := hx 7 _ rfl
      have e8 := hx 8 _ rfl
      have e9 := hx 9 _ rfl
      simp [hc1, hc2] at e0 e1 e2 e3 e4 e5 e6 e7 e8 e9
      obtain ⟨y0, z0, _⟩ := DataW.trod_bool Try.underlying4 e0
      obtain ⟨y1, z1, _⟩ := DataW.trod_bool Try.underlying4 e1
      obtain ⟨y2, z2, _⟩ := DataW.trod_bool Try.underlying4 e2
      obtain ⟨y3, z3, _⟩ := DataW.trod_bool Try.underlying4 e3
      obtain ⟨y4, z4, _⟩ := DataW.trod_bool Try.underlying4 e4
      obtain ⟨y5, z5, _⟩ := DataW.trod_bool Try.underlying4 e5
      obtain ⟨y6, z6, _⟩ := DataW.trod_bool Try.underlying4 e6
      obtain ⟨y7, z7, _⟩ := DataW.trod_int Try.underlying3 e7
      obtain ⟨y8, z8, _⟩ := DataW.trod_int Try.underlying3 e8
      obtain ⟨y9, z9, _⟩ := DataW.trod_int Try.underlying3 e9
      simp at z0 z1 z2 z3 z4 z5 z6 z7 z8 z9
      subst z0 z1 z2 z3 z4 z5 z6 z7 z8 z9
      exact ⟨⟨y0, y1, y2, y3, y4, y5, y6, y7, y8, y9⟩, rfl⟩
theorem open_modes2 (hv : Value.okWide Try.prog W r b0 48 v) (h : DataW.Trod enc Try.prog W base spare held 48 v d p) : ∃ m n : Md, v = .agg (mCells m ++ mCells n).toArray := by
  obtain ⟨cs, rfl, hsz⟩ := okWide_array Try.underlying48 hv
  have hc0 : Try.prog.cellsOf 48 = 20 := by kernel_rfl
  rw [hc0] at hsz
  obtain ⟨fuel, hf⟩ := h
  obtain ⟨xs, n, _, _, _, hlen, hx⟩ := DataW.trod_array Try.underlying48 hf
  rw [cells_modes] at hx
  have hcl : (Value.agg cs).cells.toList.length = 20 := by simpa [Value.cells] using hsz
  have e0 := hx 0 (by omega)
  have e1 := hx 1 (by omega)
  have x0 : xs[0]? = some xs[0] := by simp [hlen]
  have x1 : xs[1]? = some xs[1] := by simp [hlen]
  rw [x0] at e0
  rw [x1] at e1
  obtain ⟨m, hm⟩ := modes_cells e0 (by simp at hcl ⊢; omega)
  obtain ⟨n2, hn⟩ := modes_cells e1 (by simp at hcl ⊢; omega)
  refine ⟨m, n2, ?_⟩
  rw [← hm, ← hn]
  congr 1
  apply Array.ext'
  have hcl2 : cs.toList.length = 20 := by simpa using hsz
  have e : (Value.agg cs).cells.toList = cs.toList := rfl
  rw [e]
  simp only [Nat.zero_mul, List.drop_zero, Nat.one_mul]
  rw [show List.take 10 (List.drop 10 cs.toList) = List.drop 10 cs.toList from List.take_of_length_le (by simp at hcl2 ⊢; omega), List.take_append_drop]
theorem open_saved (hv : Value.okWide Try.prog W r b0 38 v) (h : DataW.Trod enc Try.prog W base spare held 38 v d p) : ∃ s : List Int, s.length = 12 ∧ v = .agg (u8s s).toArray ∧ ∀ x ∈ s, (Lit.int .u8 x).wf = true := by
  obtain ⟨cs, rfl, hsz⟩ := okWide_array Try.underlying38 hv
  have hc0 : Try.prog.cellsOf 38 = 12 := by kernel_rfl
  have hc1 : Try.prog.cellsOf 5 = 1 := by kernel_rfl
  rw [hc0] at hsz
  obtain ⟨fuel, hf⟩ := h
  obtain ⟨xs, n, _, _, _, hlen, hx⟩ := DataW.trod_array Try.underlying38 hf
  rw [hc1] at hx
  have hcl2 : cs.toList.length = 12 := by simpa using hsz
  have one : ∀ i, i < 12 → ∃ y, cs.toList[i]? = some (.int .u8 y) ∧ (Lit.int .u8 y).wf = true := by
    intro i hi
    have e := hx i hi
    have x0 : xs[i]? = some xs[i] := by simp [hlen, hi]
    rw [x0, Nat.mul_one] at e
    have e2 : (Value.agg cs).cells.toList = cs.toList := rfl
    rw [e2] at e
    obtain ⟨y, z, hy⟩ := DataW.trod_int Try.underlying5 e
    refine ⟨y, ?_, hy.2⟩
    have h1 : (List.take 1 (List.drop i cs.toList))[0]? = some (.int .u8 y) := by rw [z]; rfl
    simpa using h1
  obtain ⟨s, hs⟩ : ∃ s : List Int, s = cs.toList.map fun v => match v with | .int _ y => y | _ => 0 := ⟨_, rfl⟩
  have hsl : s.length = 12 := by rw [hs, List.length_map]; exact hcl2
  have hcs : u8s s = cs.toList := by
    apply List.ext_getElem?
    intro i
    by_cases hi : i < 12
    · obtain ⟨y, hy, _⟩ := one i hi
      rw [hs]
      simp only [u8s, List.map_map, List.getElem?_map, hy]
      rfl
    · rw [List.getElem?_eq_none (by simp [hsl]; omega), List.getElem?_eq_none (by rw [hcl2]; omega)]
  refine ⟨s, hsl, by rw [hcs], fun x hxs => ?_⟩
  obtain ⟨i, hi, he⟩ := List.mem_iff_getElem.1 hxs
  obtain ⟨y, hy, hw⟩ := one i (by omega)
  have : (u8s s)[i]? = some (.int .u8 y) := by rw [hcs]; exact hy
  simp [hi] at this
  rw [← he, this]
  exact hw
end

end Go.Proofs.Ytllloedhlcdbjaa
