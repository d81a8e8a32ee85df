/-
  DERIVED. GIVEN WITH THE SEED: THE CARDS: each row of YtclnanhgcnopdaaDoorRows.lean that lists a variable, with what it lists TIED to the program's text (the seventh form; the later family's looks); each row that meets fmt, with fmt's text TOLD by the authors' own Lean function (tested against real Go, not proved from fmt's source: count such statements apart). THE CARD IS WHAT COUNTS. Prove the row's statement (the work); the ties are given (YtclnanhgcnopdaaDoorTie.lean); close each card by the builder's one call (the guide's Derived/Test/ToyasCard.lean, 'card_holds'). Laid BY PROGRAM, IN A SANDBOX (cutbox-door.mjs). By AI agents, Wed Nov 11 2026. No macro, syntax, notation, axiom, sorry.
-/
import Derived.Test.YtclnanhgcnopdaaDoorRows
import GoSem.ClaimSeven
namespace Go.Proofs.YtclnanhgcnopdaaDoor
namespace Rows

/-- THE TIED CARD OF 'clavierlaw20.CapsAnswers'. -/
def capsAnswersCard : Claim7 := { stood := { row := capsAnswersRow, standIns := [], harness := (true, "ca5e2054a6aa0540a871617fa3f60749cbf5509cc9f0e7578f538f27242598f4"), looks := false }, kinds := [], alts := [], laidByText := true, laidKinds := [.data, .pinned], laidTests := true, laidLooks := .later }
def CapsAnswersCardSaid : Prop := Claim7.holds Tryd.pinned (.plain (OpenSpec.ofChange capsAnswersSpec)) capsAnswersCard

/-- THE TIED CARD OF 'clavierlaw20.CapsSafe'. -/
def capsSafeCard : Claim7 := { stood := { row := capsSafeRow, standIns := [], harness := (true, "ca5e2054a6aa0540a871617fa3f60749cbf5509cc9f0e7578f538f27242598f4"), looks := false }, kinds := [], alts := [], laidByText := true, laidKinds := [.data, .pinned], laidTests := true, laidLooks := .later }
def CapsSafeCardSaid : Prop := Claim7.holds Tryd.pinned (.plain (OpenSpec.ofChange capsSafeSpec)) capsSafeCard

/-- THE TIED CARD OF 'clavierlaw20.CapsBack'. -/
def capsBackCard : Claim7 := { stood := { row := capsBackRow, standIns := [], harness := (true, "ca5e2054a6aa0540a871617fa3f60749cbf5509cc9f0e7578f538f27242598f4"), looks := false }, kinds := [], alts := [], laidByText := true, laidKinds := [.data, .pinned], laidTests := true, laidLooks := .later }
def CapsBackCardSaid : Prop := Claim7.holds Tryd.pinned (.plain (OpenSpec.ofChange capsBackSpec)) capsBackCard

/-- THE TIED CARD OF 'clavierlaw20.CapsLong'. -/
def capsLongCard : Claim7 := { stood := { row := capsLongRow, standIns := [], harness := (true, "ca5e2054a6aa0540a871617fa3f60749cbf5509cc9f0e7578f538f27242598f4"), looks := false }, kinds := [], alts := [], laidByText := true, laidKinds := [.data, .pinned], laidTests := true, laidLooks := .later }
def CapsLongCardSaid : Prop := Claim7.holds Tryd.pinned (.plain (OpenSpec.ofChange capsLongSpec)) capsLongCard

/-- THE TIED CARD OF 'clavierlaw20.CapsNames'. -/
def capsNamesCard : Claim7 := { stood := { row := capsNamesRow, standIns := [], harness := (true, "ca5e2054a6aa0540a871617fa3f60749cbf5509cc9f0e7578f538f27242598f4"), looks := false }, kinds := [], alts := [], laidByText := true, laidKinds := [.data, .pinned], laidTests := true, laidLooks := .later }
def CapsNamesCardSaid : Prop := Claim7.holds Tryd.pinned (.plain (OpenSpec.ofChange capsNamesSpec)) capsNamesCard

/-- THE SECOND FORM's CARD OF 'clavierlaw20.CapsAnswers'. -/
def capsAnswersUptoCard : Claim7 := { stood := { row := capsAnswersUptoRow, standIns := [], harness := (true, "ca5e2054a6aa0540a871617fa3f60749cbf5509cc9f0e7578f538f27242598f4"), looks := false }, kinds := [], alts := [], laidByText := true, laidKinds := [.data, .pinned], laidTests := true, laidLooks := .later }
def CapsAnswersUptoCardSaid : Prop := Claim7.holds Tryd.pinned (.plain (OpenSpec.upto capsAnswersSpec)) capsAnswersUptoCard

/-- THE SECOND FORM's CARD OF 'clavierlaw20.CapsSafe'. -/
def capsSafeUptoCard : Claim7 := { stood := { row := capsSafeUptoRow, standIns := [], harness := (true, "ca5e2054a6aa0540a871617fa3f60749cbf5509cc9f0e7578f538f27242598f4"), looks := false }, kinds := [], alts := [], laidByText := true, laidKinds := [.data, .pinned], laidTests := true, laidLooks := .later }
def CapsSafeUptoCardSaid : Prop := Claim7.holds Tryd.pinned (.plain (OpenSpec.upto capsSafeSpec)) capsSafeUptoCard

/-- THE SECOND FORM's CARD OF 'clavierlaw20.CapsBack'. -/
def capsBackUptoCard : Claim7 := { stood := { row := capsBackUptoRow, standIns := [], harness := (true, "ca5e2054a6aa0540a871617fa3f60749cbf5509cc9f0e7578f538f27242598f4"), looks := false }, kinds := [], alts := [], laidByText := true, laidKinds := [.data, .pinned], laidTests := true, laidLooks := .later }
def CapsBackUptoCardSaid : Prop := Claim7.holds Tryd.pinned (.plain (OpenSpec.upto capsBackSpec)) capsBackUptoCard

/-- THE SECOND FORM's CARD OF 'clavierlaw20.CapsLong'. -/
def capsLongUptoCard : Claim7 := { stood := { row := capsLongUptoRow, standIns := [], harness := (true, "ca5e2054a6aa0540a871617fa3f60749cbf5509cc9f0e7578f538f27242598f4"), looks := false }, kinds := [], alts := [], laidByText := true, laidKinds := [.data, .pinned], laidTests := true, laidLooks := .later }
def CapsLongUptoCardSaid : Prop := Claim7.holds Tryd.pinned (.plain (OpenSpec.upto capsLongSpec)) capsLongUptoCard

/-- THE SECOND FORM's CARD OF 'clavierlaw20.CapsNames'. -/
def capsNamesUptoCard : Claim7 := { stood := { row := capsNamesUptoRow, standIns := [], harness := (true, "ca5e2054a6aa0540a871617fa3f60749cbf5509cc9f0e7578f538f27242598f4"), looks := false }, kinds := [], alts := [], laidByText := true, laidKinds := [.data, .pinned], laidTests := true, laidLooks := .later }
def CapsNamesUptoCardSaid : Prop := Claim7.holds Tryd.pinned (.plain (OpenSpec.upto capsNamesSpec)) capsNamesUptoCard
end Rows
end Go.Proofs.YtclnanhgcnopdaaDoor
