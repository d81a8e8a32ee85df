/- Which operation stands ahead in a quiet region: gates that fail at once. No condition. -/
import Derived.Test.YtllloedhlcdbjaaKitE
import Derived.BigQuiet
namespace Go.Proofs.Ytllloedhlcdbjaa.Kit
set_option linter.unusedVariables false
set_option linter.unusedSimpArgs false
open Go Go.RowKit MapKept

variable {P : Program} {ops : Array Oper} {R : Act → Prop} {a : Act} {rest : List Oper} {C : World → Prop}
/-! which operation stands ahead: each fails at once where it is another one -/
theorem qg_move {d ty ps af gg} {x : Operand} (h : wpQuiet P ops C R (Oper.mk d (.move x) ty ps af gg :: rest) a) : wpQuiet P ops C R (Oper.mk d (.move x) ty ps af gg :: rest) a := h
theorem qg_assign {d ty ps af gg} {x : Operand} (h : wpQuiet P ops C R (Oper.mk d (.assign x) ty ps af gg :: rest) a) : wpQuiet P ops C R (Oper.mk d (.assign x) ty ps af gg :: rest) a := h
theorem qg_pick {d ty ps af gg} {c x y : Operand} (h : wpQuiet P ops C R (Oper.mk d (.pick c x y) ty ps af gg :: rest) a) : wpQuiet P ops C R (Oper.mk d (.pick c x y) ty ps af gg :: rest) a := h
theorem qg_load {d ty ps af gg} {T : TypeId} {x : Operand} (h : wpQuiet P ops C R (Oper.mk d (.load T x) ty ps af gg :: rest) a) : wpQuiet P ops C R (Oper.mk d (.load T x) ty ps af gg :: rest) a := h
theorem qg_call {d ty ps af gg c} (h : wpQuiet P ops C R (Oper.mk d (.call c) ty ps af gg :: rest) a) : wpQuiet P ops C R (Oper.mk d (.call c) ty ps af gg :: rest) a := h
theorem qg_binOp {d ty ps af gg b t x y u} (h : wpQuiet P ops C R (Oper.mk d (.binOp b t x y u) ty ps af gg :: rest) a) : wpQuiet P ops C R (Oper.mk d (.binOp b t x y u) ty ps af gg :: rest) a := h
theorem qg_guard {d op ty ps af gg} (h : wpQuiet P ops C R (Oper.mk d op ty ps af (some gg) :: rest) a) : wpQuiet P ops C R (Oper.mk d op ty ps af (some gg) :: rest) a := h

end Go.Proofs.Ytllloedhlcdbjaa.Kit
