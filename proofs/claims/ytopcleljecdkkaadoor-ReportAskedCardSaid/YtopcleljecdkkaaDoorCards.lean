/-
  DERIVED. GIVEN WITH THE SEED: THE CARDS: each row of YtopcleljecdkkaaDoorRows.lean that lists a variable, with what it lists TIED to the program's text (the seventh form; the later family's looks); each row that meets fmt, with fmt's text TOLD by the authors' own Lean function (tested against real Go, not proved from fmt's source: count such statements apart). THE CARD IS WHAT COUNTS. Prove the row's statement (the work); the ties are given (YtopcleljecdkkaaDoorTie.lean); close each card by the builder's one call (the guide's Derived/Test/ToyasCard.lean, 'card_holds'). Laid BY PROGRAM, IN A SANDBOX (cutbox-door.mjs). By AI agents, Wed Nov 11 2026. No macro, syntax, notation, axiom, sorry.
-/
import Derived.Test.YtopcleljecdkkaaDoorRows
import GoSem.ClaimSeven
namespace Go.Proofs.YtopcleljecdkkaaDoor
namespace Rows

/-- THE TIED CARD OF 'clavierlaw19.ReportTells'. -/
def reportTellsCard : Claim7 := { stood := { row := reportTellsRow, standIns := [], harness := (true, "a9c7db1a3fb54742f8ff205fd36fa872254fa5f5adcdfe2ae767a472de555c40"), looks := false }, kinds := [], alts := [], laidByText := true, laidKinds := [.data, .data, .data], laidTests := true, laidLooks := .later }
def ReportTellsCardSaid : Prop := Claim7.holds Tryd.pinned (.plain (OpenSpec.ofChange reportTellsSpec)) reportTellsCard

/-- THE TIED CARD OF 'clavierlaw19.ReportAsked'. -/
def reportAskedCard : Claim7 := { stood := { row := reportAskedRow, standIns := [], harness := (true, "a9c7db1a3fb54742f8ff205fd36fa872254fa5f5adcdfe2ae767a472de555c40"), looks := false }, kinds := [], alts := [], laidByText := true, laidKinds := [.data, .data, .data], laidTests := true, laidLooks := .later }
def ReportAskedCardSaid : Prop := Claim7.holds Tryd.pinned (.plain (OpenSpec.ofChange reportAskedSpec)) reportAskedCard

/-- THE TIED CARD OF 'clavierlaw19.ReportStyle'. -/
def reportStyleCard : Claim7 := { stood := { row := reportStyleRow, standIns := [], harness := (true, "a9c7db1a3fb54742f8ff205fd36fa872254fa5f5adcdfe2ae767a472de555c40"), looks := false }, kinds := [], alts := [], laidByText := true, laidKinds := [.data, .data, .data], laidTests := true, laidLooks := .later }
def ReportStyleCardSaid : Prop := Claim7.holds Tryd.pinned (.plain (OpenSpec.ofChange reportStyleSpec)) reportStyleCard

/-- THE TIED CARD OF 'clavierlaw19.ReportPlaces'. -/
def reportPlacesCard : Claim7 := { stood := { row := reportPlacesRow, standIns := [], harness := (true, "a9c7db1a3fb54742f8ff205fd36fa872254fa5f5adcdfe2ae767a472de555c40"), looks := false }, kinds := [], alts := [], laidByText := true, laidKinds := [.data, .data, .data], laidTests := true, laidLooks := .later }
def ReportPlacesCardSaid : Prop := Claim7.holds Tryd.pinned (.plain (OpenSpec.ofChange reportPlacesSpec)) reportPlacesCard

/-- THE TIED CARD OF 'clavierlaw19.ReportModes'. -/
def reportModesCard : Claim7 := { stood := { row := reportModesRow, standIns := [], harness := (true, "a9c7db1a3fb54742f8ff205fd36fa872254fa5f5adcdfe2ae767a472de555c40"), looks := false }, kinds := [], alts := [], laidByText := true, laidKinds := [.data, .data, .data], laidTests := true, laidLooks := .later }
def ReportModesCardSaid : Prop := Claim7.holds Tryd.pinned (.plain (OpenSpec.ofChange reportModesSpec)) reportModesCard

/-- THE TIED CARD OF 'clavierlaw19.ReportSafe'. -/
def reportSafeCard : Claim7 := { stood := { row := reportSafeRow, standIns := [], harness := (true, "a9c7db1a3fb54742f8ff205fd36fa872254fa5f5adcdfe2ae767a472de555c40"), looks := false }, kinds := [], alts := [], laidByText := true, laidKinds := [.data, .data, .data], laidTests := true, laidLooks := .later }
def ReportSafeCardSaid : Prop := Claim7.holds Tryd.pinned (.plain (OpenSpec.ofChange reportSafeSpec)) reportSafeCard

/-- THE SECOND FORM's CARD OF 'clavierlaw19.ReportTells'. -/
def reportTellsUptoCard : Claim7 := { stood := { row := reportTellsUptoRow, standIns := [], harness := (true, "a9c7db1a3fb54742f8ff205fd36fa872254fa5f5adcdfe2ae767a472de555c40"), looks := false }, kinds := [], alts := [], laidByText := true, laidKinds := [.data, .data, .data], laidTests := true, laidLooks := .later }
def ReportTellsUptoCardSaid : Prop := Claim7.holds Tryd.pinned (.plain (OpenSpec.upto reportTellsSpec)) reportTellsUptoCard

/-- THE SECOND FORM's CARD OF 'clavierlaw19.ReportAsked'. -/
def reportAskedUptoCard : Claim7 := { stood := { row := reportAskedUptoRow, standIns := [], harness := (true, "a9c7db1a3fb54742f8ff205fd36fa872254fa5f5adcdfe2ae767a472de555c40"), looks := false }, kinds := [], alts := [], laidByText := true, laidKinds := [.data, .data, .data], laidTests := true, laidLooks := .later }
def ReportAskedUptoCardSaid : Prop := Claim7.holds Tryd.pinned (.plain (OpenSpec.upto reportAskedSpec)) reportAskedUptoCard

/-- THE SECOND FORM's CARD OF 'clavierlaw19.ReportStyle'. -/
def reportStyleUptoCard : Claim7 := { stood := { row := reportStyleUptoRow, standIns := [], harness := (true, "a9c7db1a3fb54742f8ff205fd36fa872254fa5f5adcdfe2ae767a472de555c40"), looks := false }, kinds := [], alts := [], laidByText := true, laidKinds := [.data, .data, .data], laidTests := true, laidLooks := .later }
def ReportStyleUptoCardSaid : Prop := Claim7.holds Tryd.pinned (.plain (OpenSpec.upto reportStyleSpec)) reportStyleUptoCard

/-- THE SECOND FORM's CARD OF 'clavierlaw19.ReportPlaces'. -/
def reportPlacesUptoCard : Claim7 := { stood := { row := reportPlacesUptoRow, standIns := [], harness := (true, "a9c7db1a3fb54742f8ff205fd36fa872254fa5f5adcdfe2ae767a472de555c40"), looks := false }, kinds := [], alts := [], laidByText := true, laidKinds := [.data, .data, .data], laidTests := true, laidLooks := .later }
def ReportPlacesUptoCardSaid : Prop := Claim7.holds Tryd.pinned (.plain (OpenSpec.upto reportPlacesSpec)) reportPlacesUptoCard

/-- THE SECOND FORM's CARD OF 'clavierlaw19.ReportModes'. -/
def reportModesUptoCard : Claim7 := { stood := { row := reportModesUptoRow, standIns := [], harness := (true, "a9c7db1a3fb54742f8ff205fd36fa872254fa5f5adcdfe2ae767a472de555c40"), looks := false }, kinds := [], alts := [], laidByText := true, laidKinds := [.data, .data, .data], laidTests := true, laidLooks := .later }
def ReportModesUptoCardSaid : Prop := Claim7.holds Tryd.pinned (.plain (OpenSpec.upto reportModesSpec)) reportModesUptoCard

/-- THE SECOND FORM's CARD OF 'clavierlaw19.ReportSafe'. -/
def reportSafeUptoCard : Claim7 := { stood := { row := reportSafeUptoRow, standIns := [], harness := (true, "a9c7db1a3fb54742f8ff205fd36fa872254fa5f5adcdfe2ae767a472de555c40"), looks := false }, kinds := [], alts := [], laidByText := true, laidKinds := [.data, .data, .data], laidTests := true, laidLooks := .later }
def ReportSafeUptoCardSaid : Prop := Claim7.holds Tryd.pinned (.plain (OpenSpec.upto reportSafeSpec)) reportSafeUptoCard
end Rows
end Go.Proofs.YtopcleljecdkkaaDoor
