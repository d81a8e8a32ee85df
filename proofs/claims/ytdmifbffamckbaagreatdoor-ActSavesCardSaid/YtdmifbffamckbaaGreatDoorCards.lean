/-
  DERIVED. GIVEN WITH THE SEED: THE CARDS: each row of YtdmifbffamckbaaGreatDoorRows.lean that lists a variable, with what it lists TIED to the program's text (the seventh form; the later family's looks); each row that meets fmt, with fmt's text TOLD by the authors' own Lean function (tested against real Go, not proved from fmt's source: count such statements apart). THE CARD IS WHAT COUNTS. Prove the row's statement (the work); the ties are given (YtdmifbffamckbaaGreatDoorTie.lean); close each card by the builder's one call (the guide's Derived/Test/ToyasCard.lean, 'card_holds'). Laid BY PROGRAM, IN A SANDBOX (cutbox-door.mjs). By AI agents, Wed Nov 11 2026. No macro, syntax, notation, axiom, sorry.
-/
import Derived.Test.YtdmifbffamckbaaGreatDoorRows
import GoSem.ClaimSeven
namespace Go.Proofs.YtdmifbffamckbaaGreatDoor
namespace Rows

/-- THE TIED CARD OF 'clavierlaw21.ActDoes'. -/
def actDoesCard : Claim7 := { stood := { row := actDoesRow, standIns := [], harness := (true, "cbffdc5c908d39da8ff18f860ce8b54022d7cc98326e02265fe059e8810ac90e"), looks := false }, kinds := [], alts := [], laidByText := true, laidKinds := [.data, .data, .data, .data, .pinned], laidTests := true, laidLooks := .later }
def ActDoesCardSaid : Prop := Claim7.holds Tryz.pinned (.plain (OpenSpec.ofChange actDoesSpec)) actDoesCard

/-- THE TIED CARD OF 'clavierlaw21.ActOne'. -/
def actOneCard : Claim7 := { stood := { row := actOneRow, standIns := [], harness := (true, "cbffdc5c908d39da8ff18f860ce8b54022d7cc98326e02265fe059e8810ac90e"), looks := false }, kinds := [], alts := [], laidByText := true, laidKinds := [.data, .data, .data, .data, .pinned], laidTests := true, laidLooks := .later }
def ActOneCardSaid : Prop := Claim7.holds Tryz.pinned (.plain (OpenSpec.ofChange actOneSpec)) actOneCard

/-- THE TIED CARD OF 'clavierlaw21.ActModes'. -/
def actModesCard : Claim7 := { stood := { row := actModesRow, standIns := [], harness := (true, "cbffdc5c908d39da8ff18f860ce8b54022d7cc98326e02265fe059e8810ac90e"), looks := false }, kinds := [], alts := [], laidByText := true, laidKinds := [.data, .data, .data, .data, .pinned], laidTests := true, laidLooks := .later }
def ActModesCardSaid : Prop := Claim7.holds Tryz.pinned (.plain (OpenSpec.ofChange actModesSpec)) actModesCard

/-- THE TIED CARD OF 'clavierlaw21.ActSaves'. -/
def actSavesCard : Claim7 := { stood := { row := actSavesRow, standIns := [], harness := (true, "cbffdc5c908d39da8ff18f860ce8b54022d7cc98326e02265fe059e8810ac90e"), looks := false }, kinds := [], alts := [], laidByText := true, laidKinds := [.data, .data, .data, .data, .pinned], laidTests := true, laidLooks := .later }
def ActSavesCardSaid : Prop := Claim7.holds Tryz.pinned (.plain (OpenSpec.ofChange actSavesSpec)) actSavesCard

/-- THE TIED CARD OF 'clavierlaw21.ActFlags'. -/
def actFlagsCard : Claim7 := { stood := { row := actFlagsRow, standIns := [], harness := (true, "cbffdc5c908d39da8ff18f860ce8b54022d7cc98326e02265fe059e8810ac90e"), looks := false }, kinds := [], alts := [], laidByText := true, laidKinds := [.data, .data, .data, .data, .pinned], laidTests := true, laidLooks := .later }
def ActFlagsCardSaid : Prop := Claim7.holds Tryz.pinned (.plain (OpenSpec.ofChange actFlagsSpec)) actFlagsCard

/-- THE TIED CARD OF 'clavierlaw21.ActReset'. -/
def actResetCard : Claim7 := { stood := { row := actResetRow, standIns := [], harness := (true, "cbffdc5c908d39da8ff18f860ce8b54022d7cc98326e02265fe059e8810ac90e"), looks := false }, kinds := [], alts := [], laidByText := true, laidKinds := [.data, .data, .data, .data, .pinned], laidTests := true, laidLooks := .later }
def ActResetCardSaid : Prop := Claim7.holds Tryz.pinned (.plain (OpenSpec.ofChange actResetSpec)) actResetCard

/-- THE SECOND FORM's CARD OF 'clavierlaw21.ActDoes'. -/
def actDoesUptoCard : Claim7 := { stood := { row := actDoesUptoRow, standIns := [], harness := (true, "cbffdc5c908d39da8ff18f860ce8b54022d7cc98326e02265fe059e8810ac90e"), looks := false }, kinds := [], alts := [], laidByText := true, laidKinds := [.data, .data, .data, .data, .pinned], laidTests := true, laidLooks := .later }
def ActDoesUptoCardSaid : Prop := Claim7.holds Tryz.pinned (.plain (OpenSpec.upto actDoesSpec)) actDoesUptoCard

/-- THE SECOND FORM's CARD OF 'clavierlaw21.ActOne'. -/
def actOneUptoCard : Claim7 := { stood := { row := actOneUptoRow, standIns := [], harness := (true, "cbffdc5c908d39da8ff18f860ce8b54022d7cc98326e02265fe059e8810ac90e"), looks := false }, kinds := [], alts := [], laidByText := true, laidKinds := [.data, .data, .data, .data, .pinned], laidTests := true, laidLooks := .later }
def ActOneUptoCardSaid : Prop := Claim7.holds Tryz.pinned (.plain (OpenSpec.upto actOneSpec)) actOneUptoCard

/-- THE SECOND FORM's CARD OF 'clavierlaw21.ActModes'. -/
def actModesUptoCard : Claim7 := { stood := { row := actModesUptoRow, standIns := [], harness := (true, "cbffdc5c908d39da8ff18f860ce8b54022d7cc98326e02265fe059e8810ac90e"), looks := false }, kinds := [], alts := [], laidByText := true, laidKinds := [.data, .data, .data, .data, .pinned], laidTests := true, laidLooks := .later }
def ActModesUptoCardSaid : Prop := Claim7.holds Tryz.pinned (.plain (OpenSpec.upto actModesSpec)) actModesUptoCard

/-- THE SECOND FORM's CARD OF 'clavierlaw21.ActSaves'. -/
def actSavesUptoCard : Claim7 := { stood := { row := actSavesUptoRow, standIns := [], harness := (true, "cbffdc5c908d39da8ff18f860ce8b54022d7cc98326e02265fe059e8810ac90e"), looks := false }, kinds := [], alts := [], laidByText := true, laidKinds := [.data, .data, .data, .data, .pinned], laidTests := true, laidLooks := .later }
def ActSavesUptoCardSaid : Prop := Claim7.holds Tryz.pinned (.plain (OpenSpec.upto actSavesSpec)) actSavesUptoCard

/-- THE SECOND FORM's CARD OF 'clavierlaw21.ActFlags'. -/
def actFlagsUptoCard : Claim7 := { stood := { row := actFlagsUptoRow, standIns := [], harness := (true, "cbffdc5c908d39da8ff18f860ce8b54022d7cc98326e02265fe059e8810ac90e"), looks := false }, kinds := [], alts := [], laidByText := true, laidKinds := [.data, .data, .data, .data, .pinned], laidTests := true, laidLooks := .later }
def ActFlagsUptoCardSaid : Prop := Claim7.holds Tryz.pinned (.plain (OpenSpec.upto actFlagsSpec)) actFlagsUptoCard

/-- THE SECOND FORM's CARD OF 'clavierlaw21.ActReset'. -/
def actResetUptoCard : Claim7 := { stood := { row := actResetUptoRow, standIns := [], harness := (true, "cbffdc5c908d39da8ff18f860ce8b54022d7cc98326e02265fe059e8810ac90e"), looks := false }, kinds := [], alts := [], laidByText := true, laidKinds := [.data, .data, .data, .data, .pinned], laidTests := true, laidLooks := .later }
def ActResetUptoCardSaid : Prop := Claim7.holds Tryz.pinned (.plain (OpenSpec.upto actResetSpec)) actResetUptoCard
end Rows
end Go.Proofs.YtdmifbffamckbaaGreatDoor
