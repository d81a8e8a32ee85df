/- Words for the cards' frames: the table out of the row's condition, a world for the witness. No condition. -/
import Derived.Test.YtpkelaklajplnaaDoorCards
import Derived.Test.YtpkelaklajplnaaDoorTie
import Derived.WalkKit
import Derived.ProofKit
import Derived.OpenShut
import Derived.ShutString
import Derived.ChangeOld
import Derived.Below
import Derived.Deep.DeepHandedRow
import Derived.Lib.LaidTab
import Derived.Stop.LaidErr
import Derived.Test.YtpkelaklajplnaaDoorTab
import Derived.Test.YtpkelaklajplnaaDoorKitO
namespace Go.Proofs.YtpkelaklajplnaaDoor
open Go.ChangeShapes Go.WideShapes Go.ChangeAt Go.RowKit
set_option linter.unusedVariables false
set_option linter.unusedSimpArgs false

theorem own : ownKnob Tryd.prog.godebug = none := by kernel_rfl
theorem laidOut : laidOutB Tryd.prog = true := by kernel_rfl
theorem cells_pow : Tryd.prog.cellsOf 49 = 20 := by kernel_rfl
theorem cells_u64 : Tryd.prog.cellsOf 42 = 1 := by kernel_rfl
theorem gPow : Tryd.prog.globalNamed "internal/strconv.uint64pow10" = some 0 := by kernel_rfl
theorem gPowType : (Tryd.prog.globals[0]?).map (·.type) = some 49 := by kernel_rfl

theorem tab_data {H : Type} : (Rows.laid_internal_strconv_uint64pow10 : DataW H) = Lib.tabData .u64 Lib.pow10Tab := rfl
/-- WHAT THE ROWS' LIST GIVES -/
def firstLaid := Rows.numTextsRow.laid
theorem tabOf {W : World} (h : laidMetH Tryd.prog firstLaid W) : Tab W := by
  have h1 : laidMet Tryd.prog firstLaid W := h
  exact Lib.tabIs_of_head (rest := []) gPow gPowType Tryd.underlying49 Tryd.underlying42 cells_u64 cells_pow h1.tail.tail

/-- A WORLD FOR THE WITNESS: the settled one, the tables holding what their initialisers lay. -/
def cellsOfD (d : DataW Unit) : Array Value := match d with
  | .agg l => (l.map fun x => match x with | .lit (.int k z) => Value.int k z | _ => undef).toArray
  | _ => #[]
def layCells (d : DataW Unit) : Obj → Obj
  | .cells _ t frozen => .cells (cellsOfD d) t frozen
  | o => o
noncomputable def laidWorld (os : Os) : World :=
  { World.holding Tryd.prog os ⟨#[], #[], []⟩ with heap := (((World.holding Tryd.prog os ⟨#[], #[], []⟩).heap.modify 0 (layCells Rows.laid_internal_strconv_uint64pow10)).modify 1 (layCells Rows.laid_math_bits_deBruijn32tab)).modify 2 (layCells Rows.laid_math_bits_deBruijn64tab) }

end Go.Proofs.YtpkelaklajplnaaDoor
