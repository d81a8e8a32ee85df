/- How arguments of the laws' types are opened: modes, pairs. No condition. -/
import Derived.Test.YtllloedhlcdbjaaRows
import Derived.Test.YtllloedhlcdbjaaPMo
import Derived.WalkKit
import Derived.ProofKit
import Derived.OpenShut
import Derived.ShutString
import Derived.ChangeOld
import Derived.Below
namespace Go.Proofs.Ytllloedhlcdbjaa
open Go.ChangeShapes Go.WideShapes Go.ChangeAt Go.RowKit
set_option linter.unusedVariables false
set_option linter.unusedSimpArgs false
set_option maxRecDepth 100000

theorem own : ownKnob Try.prog.godebug = none := by kernel_rfl
theorem laidOut : laidOutB Try.prog = true := by kernel_rfl

section
variable {H : Type} {enc : TypeId × Value → H} {W : World} {base : Nat} {spare : Nat → Bool} {held : Bool} {v : Value} {d : DataW H} {p : List MemPlace} {r : Reach} {b0 : Nat}

theorem okWide_array {n : Nat} {e t : TypeId} (ht : Try.prog.underlying t = some (.array n e)) (h : Value.okWide Try.prog W r b0 t v) : ∃ cs, v = .agg cs ∧ cs.size = Try.prog.cellsOf t := by
  simp only [Value.okWide, ht] at h
  obtain ⟨cs, h1, h2, _⟩ := h
  exact ⟨cs, h1, h2⟩

theorem cells_modes : Try.prog.cellsOf 23 = 10 := by kernel_rfl
theorem open_modes (hv : Value.okWide Try.prog W r b0 23 v) (h : DataW.Trod enc Try.prog W base spare held 23 v d p) : ∃ m : Md, v = m.v := by
  obtain ⟨cs, rfl, hsz⟩ := okWide_struct Try.underlying23 hv
  rw [cells_modes] at hsz
  obtain ⟨fuel, hf⟩ := h
  obtain ⟨xs, n, _, _, _, hlen, hx⟩ := DataW.trod_struct Try.underlying23 hf
  have hc1 : Try.prog.cellsOf 4 = 1 := by kernel_rfl
  have hc2 : Try.prog.cellsOf 3 = 1 := by kernel_rfl
  match cs, hsz with
  | ⟨[c0, c1, c2, c3, c4, c5, c6, c7, c8, c9]⟩, _ =>
    match xs, hlen with
    | [x0, x1, x2, x3, x4, x5, x6, x7, x8, x9], _ =>
      have e0 := hx 0 _ rfl
      have e1 := hx 1 _ rfl
      have e2 := hx 2 _ rfl
      have e3 := hx 3 _ rfl
      have e4 := hx 4 _ rfl
      have e5 := hx 5 _ rfl
      have e6 := hx 6 _ rfl
      have e7 := hx 7 _ rfl
      have e8 := hx 8 _ rfl
      have e9 := hx 9 _ rfl
      simp [Value.cells, hc1, hc2] at e0 e1 e2 e3 e4 e5 e6 e7 e8 e9
      obtain ⟨y0, z0, _⟩ := DataW.trod_bool Try.underlying4 e0
      obtain ⟨y1, z1, _⟩ := DataW.trod_bool Try.underlying4 e1
      obtain ⟨y2, z2, _⟩ := DataW.trod_bool Try.underlying4 e2
      obtain ⟨y3, z3, _⟩ := DataW.trod_bool Try.underlying4 e3
      obtain ⟨y4, z4, _⟩ := DataW.trod_bool Try.underlying4 e4
      obtain ⟨y5, z5, _⟩ := DataW.trod_bool Try.underlying4 e5
      obtain ⟨y6, z6, _⟩ := DataW.trod_bool Try.underlying4 e6
      obtain ⟨y7, z7, _⟩ := DataW.trod_int Try.underlying3 e7
      obtain ⟨y8, z8, _⟩ := DataW.trod_int Try.underlying3 e8
      obtain ⟨y9, z9, _⟩ := DataW.trod_int Try.underlying3 e9
      simp at z0 z1 z2 z3 z4 z5 z6 z7 z8 z9
      subst z0 z1 z2 z3 z4 z5 z6 z7 z8 z9
      exact ⟨⟨y0, y1, y2, y3, y4, y5, y6, y7, y8, y9⟩, rfl⟩


theorem open_int2 (hv : Value.okWide Try.prog W r b0 24 v) (h : DataW.Trod enc Try.prog W base spare held 24 v d p) : ∃ x y : Int, v = .agg #[.int .i64 x, .int .i64 y] ∧ (Lit.int .i64 x).wf = true ∧ (Lit.int .i64 y).wf = true := by
  obtain ⟨cs, rfl, hsz⟩ := okWide_array Try.underlying24 hv
  have hc0 : Try.prog.cellsOf 24 = 2 := by kernel_rfl
  rw [hc0] at hsz
  obtain ⟨fuel, hf⟩ := h
  obtain ⟨xs, n, _, _, _, hlen, hx⟩ := DataW.trod_array Try.underlying24 hf
  have hc1 : Try.prog.cellsOf 3 = 1 := by kernel_rfl
  match cs, hsz with
  | ⟨[c0, c1]⟩, _ =>
    match xs, hlen with
    | [x0, x1], _ =>
      have e0 := hx 0 (by omega)
      have e1 := hx 1 (by omega)
      simp [Value.cells, hc1] at e0 e1
      obtain ⟨y0, z0, _, w0⟩ := DataW.trod_int Try.underlying3 e0
      obtain ⟨y1, z1, _, w1⟩ := DataW.trod_int Try.underlying3 e1
      simp at z0 z1
      subst z0 z1
      exact ⟨y0, y1, rfl, w0, w1⟩
end

end Go.Proofs.Ytllloedhlcdbjaa
