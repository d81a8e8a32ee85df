/-
  DERIVED. GIVEN WITH THE SEED: THE CARDS: each row of YtbaigfoioiklkaaDoorRows.lean that lists a variable, with what it lists TIED to the program's text (the seventh form; the later family's looks); each row that meets fmt, with fmt's text TOLD by the authors' own Lean function (tested against real Go, not proved from fmt's source: count such statements apart). THE CARD IS WHAT COUNTS. Prove the row's statement (the work); the ties are given (YtbaigfoioiklkaaDoorTie.lean); close each card by the builder's one call (the guide's Derived/Test/ToyasCard.lean, 'card_holds'). Laid BY PROGRAM, IN A SANDBOX (cutbox-door.mjs). By AI agents, Wed Nov 11 2026. No macro, syntax, notation, axiom, sorry.
-/
import Derived.Test.YtbaigfoioiklkaaDoorRows
import GoSem.ClaimSeven
namespace Go.Proofs.YtbaigfoioiklkaaDoor
namespace Rows

/-- THE TIED CARD OF 'clavierlaw18.StyleTells'. -/
def styleTellsCard : Claim7 := { stood := { row := styleTellsRow, standIns := [], harness := (true, "3da75bcaccb7546263eb205cb6769ec63f08b30cfa166eb66676cd92895c1aea"), looks := false }, kinds := [], alts := [], laidByText := true, laidKinds := [.data, .data, .data], laidTests := true, laidLooks := .later }
def StyleTellsCardSaid : Prop := Claim7.holds Tryd.pinned (.plain (OpenSpec.ofChange styleTellsSpec)) styleTellsCard

/-- THE TIED CARD OF 'clavierlaw18.StyleApplies'. -/
def styleAppliesCard : Claim7 := { stood := { row := styleAppliesRow, standIns := [], harness := (true, "3da75bcaccb7546263eb205cb6769ec63f08b30cfa166eb66676cd92895c1aea"), looks := false }, kinds := [], alts := [], laidByText := true, laidKinds := [.data, .data, .data], laidTests := true, laidLooks := .later }
def StyleAppliesCardSaid : Prop := Claim7.holds Tryd.pinned (.plain (OpenSpec.ofChange styleAppliesSpec)) styleAppliesCard

/-- THE TIED CARD OF 'clavierlaw18.StyleBack'. -/
def styleBackCard : Claim7 := { stood := { row := styleBackRow, standIns := [], harness := (true, "3da75bcaccb7546263eb205cb6769ec63f08b30cfa166eb66676cd92895c1aea"), looks := false }, kinds := [], alts := [], laidByText := true, laidKinds := [.data, .data, .data], laidTests := true, laidLooks := .later }
def StyleBackCardSaid : Prop := Claim7.holds Tryd.pinned (.plain (OpenSpec.ofChange styleBackSpec)) styleBackCard

/-- THE TIED CARD OF 'clavierlaw18.StyleJoins'. -/
def styleJoinsCard : Claim7 := { stood := { row := styleJoinsRow, standIns := [], harness := (true, "3da75bcaccb7546263eb205cb6769ec63f08b30cfa166eb66676cd92895c1aea"), looks := false }, kinds := [], alts := [], laidByText := true, laidKinds := [.data, .data, .data], laidTests := true, laidLooks := .later }
def StyleJoinsCardSaid : Prop := Claim7.holds Tryd.pinned (.plain (OpenSpec.ofChange styleJoinsSpec)) styleJoinsCard

/-- THE TIED CARD OF 'clavierlaw18.StylePlain'. -/
def stylePlainCard : Claim7 := { stood := { row := stylePlainRow, standIns := [], harness := (true, "3da75bcaccb7546263eb205cb6769ec63f08b30cfa166eb66676cd92895c1aea"), looks := false }, kinds := [], alts := [], laidByText := true, laidKinds := [.data, .data, .data], laidTests := true, laidLooks := .later }
def StylePlainCardSaid : Prop := Claim7.holds Tryd.pinned (.plain (OpenSpec.ofChange stylePlainSpec)) stylePlainCard

/-- THE TIED CARD OF 'clavierlaw18.StyleNone'. -/
def styleNoneCard : Claim7 := { stood := { row := styleNoneRow, standIns := [], harness := (true, "3da75bcaccb7546263eb205cb6769ec63f08b30cfa166eb66676cd92895c1aea"), looks := false }, kinds := [], alts := [], laidByText := true, laidKinds := [.data, .data, .data], laidTests := true, laidLooks := .later }
def StyleNoneCardSaid : Prop := Claim7.holds Tryd.pinned (.plain (OpenSpec.ofChange styleNoneSpec)) styleNoneCard

/-- THE SECOND FORM's CARD OF 'clavierlaw18.StyleTells'. -/
def styleTellsUptoCard : Claim7 := { stood := { row := styleTellsUptoRow, standIns := [], harness := (true, "3da75bcaccb7546263eb205cb6769ec63f08b30cfa166eb66676cd92895c1aea"), looks := false }, kinds := [], alts := [], laidByText := true, laidKinds := [.data, .data, .data], laidTests := true, laidLooks := .later }
def StyleTellsUptoCardSaid : Prop := Claim7.holds Tryd.pinned (.plain (OpenSpec.upto styleTellsSpec)) styleTellsUptoCard

/-- THE SECOND FORM's CARD OF 'clavierlaw18.StyleApplies'. -/
def styleAppliesUptoCard : Claim7 := { stood := { row := styleAppliesUptoRow, standIns := [], harness := (true, "3da75bcaccb7546263eb205cb6769ec63f08b30cfa166eb66676cd92895c1aea"), looks := false }, kinds := [], alts := [], laidByText := true, laidKinds := [.data, .data, .data], laidTests := true, laidLooks := .later }
def StyleAppliesUptoCardSaid : Prop := Claim7.holds Tryd.pinned (.plain (OpenSpec.upto styleAppliesSpec)) styleAppliesUptoCard

/-- THE SECOND FORM's CARD OF 'clavierlaw18.StyleBack'. -/
def styleBackUptoCard : Claim7 := { stood := { row := styleBackUptoRow, standIns := [], harness := (true, "3da75bcaccb7546263eb205cb6769ec63f08b30cfa166eb66676cd92895c1aea"), looks := false }, kinds := [], alts := [], laidByText := true, laidKinds := [.data, .data, .data], laidTests := true, laidLooks := .later }
def StyleBackUptoCardSaid : Prop := Claim7.holds Tryd.pinned (.plain (OpenSpec.upto styleBackSpec)) styleBackUptoCard

/-- THE SECOND FORM's CARD OF 'clavierlaw18.StyleJoins'. -/
def styleJoinsUptoCard : Claim7 := { stood := { row := styleJoinsUptoRow, standIns := [], harness := (true, "3da75bcaccb7546263eb205cb6769ec63f08b30cfa166eb66676cd92895c1aea"), looks := false }, kinds := [], alts := [], laidByText := true, laidKinds := [.data, .data, .data], laidTests := true, laidLooks := .later }
def StyleJoinsUptoCardSaid : Prop := Claim7.holds Tryd.pinned (.plain (OpenSpec.upto styleJoinsSpec)) styleJoinsUptoCard

/-- THE SECOND FORM's CARD OF 'clavierlaw18.StylePlain'. -/
def stylePlainUptoCard : Claim7 := { stood := { row := stylePlainUptoRow, standIns := [], harness := (true, "3da75bcaccb7546263eb205cb6769ec63f08b30cfa166eb66676cd92895c1aea"), looks := false }, kinds := [], alts := [], laidByText := true, laidKinds := [.data, .data, .data], laidTests := true, laidLooks := .later }
def StylePlainUptoCardSaid : Prop := Claim7.holds Tryd.pinned (.plain (OpenSpec.upto stylePlainSpec)) stylePlainUptoCard

/-- THE SECOND FORM's CARD OF 'clavierlaw18.StyleNone'. -/
def styleNoneUptoCard : Claim7 := { stood := { row := styleNoneUptoRow, standIns := [], harness := (true, "3da75bcaccb7546263eb205cb6769ec63f08b30cfa166eb66676cd92895c1aea"), looks := false }, kinds := [], alts := [], laidByText := true, laidKinds := [.data, .data, .data], laidTests := true, laidLooks := .later }
def StyleNoneUptoCardSaid : Prop := Claim7.holds Tryd.pinned (.plain (OpenSpec.upto styleNoneSpec)) styleNoneUptoCard
end Rows
end Go.Proofs.YtbaigfoioiklkaaDoor
