/-
  DERIVED. GIVEN WITH THE SEED: THE CARDS: each row of YtpkelaklajplnaaDoorRows.lean that lists a variable, with what it lists TIED to the program's text (the seventh form; the later family's looks); each row that meets fmt, with fmt's text TOLD by the authors' own Lean function (tested against real Go, not proved from fmt's source: count such statements apart). THE CARD IS WHAT COUNTS. Prove the row's statement (the work); the ties are given (YtpkelaklajplnaaDoorTie.lean); close each card by the builder's one call (the guide's Derived/Test/ToyasCard.lean, 'card_holds'). Laid BY PROGRAM, IN A SANDBOX (cutbox-door.mjs). By AI agents, Wed Nov 11 2026. No macro, syntax, notation, axiom, sorry.
-/
import Derived.Test.YtpkelaklajplnaaDoorRows
import GoSem.ClaimSeven
namespace Go.Proofs.YtpkelaklajplnaaDoor
namespace Rows

/-- THE TIED CARD OF 'clavierlaw01.NumTexts'. -/
def numTextsCard : Claim7 := { stood := { row := numTextsRow, standIns := [], harness := (true, "c5f175cf2947876e6358dc4f75378eb6215a3d02e20e123693430f7d6804c8c8"), looks := false }, kinds := [], alts := [], laidByText := true, laidKinds := [.data, .data, .data], laidTests := true, laidLooks := .later }
def NumTextsCardSaid : Prop := Claim7.holds Tryd.pinned (.plain (OpenSpec.ofChange numTextsSpec)) numTextsCard

/-- THE TIED CARD OF 'clavierlaw01.NumHexes'. -/
def numHexesCard : Claim7 := { stood := { row := numHexesRow, standIns := [], harness := (true, "c5f175cf2947876e6358dc4f75378eb6215a3d02e20e123693430f7d6804c8c8"), looks := false }, kinds := [], alts := [], laidByText := true, laidKinds := [.data, .data, .data], laidTests := true, laidLooks := .later }
def NumHexesCardSaid : Prop := Claim7.holds Tryd.pinned (.plain (OpenSpec.ofChange numHexesSpec)) numHexesCard

/-- THE TIED CARD OF 'clavierlaw01.NumBack'. -/
def numBackCard : Claim7 := { stood := { row := numBackRow, standIns := [], harness := (true, "c5f175cf2947876e6358dc4f75378eb6215a3d02e20e123693430f7d6804c8c8"), looks := false }, kinds := [], alts := [], laidByText := true, laidKinds := [.data, .data, .data], laidTests := true, laidLooks := .later }
def NumBackCardSaid : Prop := Claim7.holds Tryd.pinned (.plain (OpenSpec.ofChange numBackSpec)) numBackCard

/-- THE TIED CARD OF 'clavierlaw01.NumBytes'. -/
def numBytesCard : Claim7 := { stood := { row := numBytesRow, standIns := [], harness := (true, "c5f175cf2947876e6358dc4f75378eb6215a3d02e20e123693430f7d6804c8c8"), looks := false }, kinds := [], alts := [], laidByText := true, laidKinds := [.data, .data, .data], laidTests := true, laidLooks := .later }
def NumBytesCardSaid : Prop := Claim7.holds Tryd.pinned (.plain (OpenSpec.ofChange numBytesSpec)) numBytesCard

/-- THE TIED CARD OF 'clavierlaw01.NumOrder'. -/
def numOrderCard : Claim7 := { stood := { row := numOrderRow, standIns := [], harness := (true, "c5f175cf2947876e6358dc4f75378eb6215a3d02e20e123693430f7d6804c8c8"), looks := false }, kinds := [], alts := [], laidByText := true, laidKinds := [.data, .data, .data], laidTests := true, laidLooks := .later }
def NumOrderCardSaid : Prop := Claim7.holds Tryd.pinned (.plain (OpenSpec.ofChange numOrderSpec)) numOrderCard

/-- THE TIED CARD OF 'clavierlaw01.NumJoins'. -/
def numJoinsCard : Claim7 := { stood := { row := numJoinsRow, standIns := [], harness := (true, "c5f175cf2947876e6358dc4f75378eb6215a3d02e20e123693430f7d6804c8c8"), looks := false }, kinds := [], alts := [], laidByText := true, laidKinds := [.data, .data, .data], laidTests := true, laidLooks := .later }
def NumJoinsCardSaid : Prop := Claim7.holds Tryd.pinned (.plain (OpenSpec.ofChange numJoinsSpec)) numJoinsCard

/-- THE SECOND FORM's CARD OF 'clavierlaw01.NumTexts'. -/
def numTextsUptoCard : Claim7 := { stood := { row := numTextsUptoRow, standIns := [], harness := (true, "c5f175cf2947876e6358dc4f75378eb6215a3d02e20e123693430f7d6804c8c8"), looks := false }, kinds := [], alts := [], laidByText := true, laidKinds := [.data, .data, .data], laidTests := true, laidLooks := .later }
def NumTextsUptoCardSaid : Prop := Claim7.holds Tryd.pinned (.plain (OpenSpec.upto numTextsSpec)) numTextsUptoCard

/-- THE SECOND FORM's CARD OF 'clavierlaw01.NumHexes'. -/
def numHexesUptoCard : Claim7 := { stood := { row := numHexesUptoRow, standIns := [], harness := (true, "c5f175cf2947876e6358dc4f75378eb6215a3d02e20e123693430f7d6804c8c8"), looks := false }, kinds := [], alts := [], laidByText := true, laidKinds := [.data, .data, .data], laidTests := true, laidLooks := .later }
def NumHexesUptoCardSaid : Prop := Claim7.holds Tryd.pinned (.plain (OpenSpec.upto numHexesSpec)) numHexesUptoCard

/-- THE SECOND FORM's CARD OF 'clavierlaw01.NumBack'. -/
def numBackUptoCard : Claim7 := { stood := { row := numBackUptoRow, standIns := [], harness := (true, "c5f175cf2947876e6358dc4f75378eb6215a3d02e20e123693430f7d6804c8c8"), looks := false }, kinds := [], alts := [], laidByText := true, laidKinds := [.data, .data, .data], laidTests := true, laidLooks := .later }
def NumBackUptoCardSaid : Prop := Claim7.holds Tryd.pinned (.plain (OpenSpec.upto numBackSpec)) numBackUptoCard

/-- THE SECOND FORM's CARD OF 'clavierlaw01.NumBytes'. -/
def numBytesUptoCard : Claim7 := { stood := { row := numBytesUptoRow, standIns := [], harness := (true, "c5f175cf2947876e6358dc4f75378eb6215a3d02e20e123693430f7d6804c8c8"), looks := false }, kinds := [], alts := [], laidByText := true, laidKinds := [.data, .data, .data], laidTests := true, laidLooks := .later }
def NumBytesUptoCardSaid : Prop := Claim7.holds Tryd.pinned (.plain (OpenSpec.upto numBytesSpec)) numBytesUptoCard

/-- THE SECOND FORM's CARD OF 'clavierlaw01.NumOrder'. -/
def numOrderUptoCard : Claim7 := { stood := { row := numOrderUptoRow, standIns := [], harness := (true, "c5f175cf2947876e6358dc4f75378eb6215a3d02e20e123693430f7d6804c8c8"), looks := false }, kinds := [], alts := [], laidByText := true, laidKinds := [.data, .data, .data], laidTests := true, laidLooks := .later }
def NumOrderUptoCardSaid : Prop := Claim7.holds Tryd.pinned (.plain (OpenSpec.upto numOrderSpec)) numOrderUptoCard

/-- THE SECOND FORM's CARD OF 'clavierlaw01.NumJoins'. -/
def numJoinsUptoCard : Claim7 := { stood := { row := numJoinsUptoRow, standIns := [], harness := (true, "c5f175cf2947876e6358dc4f75378eb6215a3d02e20e123693430f7d6804c8c8"), looks := false }, kinds := [], alts := [], laidByText := true, laidKinds := [.data, .data, .data], laidTests := true, laidLooks := .later }
def NumJoinsUptoCardSaid : Prop := Claim7.holds Tryd.pinned (.plain (OpenSpec.upto numJoinsSpec)) numJoinsUptoCard
end Rows
end Go.Proofs.YtpkelaklajplnaaDoor
