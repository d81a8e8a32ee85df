/-
  DERIVED. GIVEN WITH THE SEED: THE CARDS: each row of YtcglbfpmcpammaaDoorRows.lean that lists a variable, with what it lists TIED to the program's text (the seventh form; the later family's looks); each row that meets fmt, with fmt's text TOLD by the authors' own Lean function (tested against real Go, not proved from fmt's source: count such statements apart). THE CARD IS WHAT COUNTS. Prove the row's statement (the work); the ties are given (YtcglbfpmcpammaaDoorTie.lean); close each card by the builder's one call (the guide's Derived/Test/ToyasCard.lean, 'card_holds'). Laid BY PROGRAM, IN A SANDBOX (cutbox-door.mjs). By AI agents, Wed Nov 11 2026. No macro, syntax, notation, axiom, sorry.
-/
import Derived.Test.YtcglbfpmcpammaaDoorRows
import GoSem.ClaimSeven
namespace Go.Proofs.YtcglbfpmcpammaaDoor
namespace Rows

/-- THE TIED CARD OF 'clavierlaw17.PasteSends'. -/
def pasteSendsCard : Claim7 := { stood := { row := pasteSendsRow, standIns := [], harness := (true, "fa443a74168de0eae29994f180af2bb403cd5158189b6bccf383d75c21bb9925"), looks := false }, kinds := [], alts := [], laidByText := true, laidKinds := [.data, .data, .data], laidTests := true, laidLooks := .later }
def PasteSendsCardSaid : Prop := Claim7.holds Tryd.pinned (.plain (OpenSpec.ofChange pasteSendsSpec)) pasteSendsCard

/-- THE TIED CARD OF 'clavierlaw17.PasteTakes'. -/
def pasteTakesCard : Claim7 := { stood := { row := pasteTakesRow, standIns := [], harness := (true, "fa443a74168de0eae29994f180af2bb403cd5158189b6bccf383d75c21bb9925"), looks := false }, kinds := [], alts := [], laidByText := true, laidKinds := [.data, .data, .data], laidTests := true, laidLooks := .later }
def PasteTakesCardSaid : Prop := Claim7.holds Tryd.pinned (.plain (OpenSpec.ofChange pasteTakesSpec)) pasteTakesCard

/-- THE TIED CARD OF 'clavierlaw17.PasteSafe'. -/
def pasteSafeCard : Claim7 := { stood := { row := pasteSafeRow, standIns := [], harness := (true, "fa443a74168de0eae29994f180af2bb403cd5158189b6bccf383d75c21bb9925"), looks := false }, kinds := [], alts := [], laidByText := true, laidKinds := [.data, .data, .data], laidTests := true, laidLooks := .later }
def PasteSafeCardSaid : Prop := Claim7.holds Tryd.pinned (.plain (OpenSpec.ofChange pasteSafeSpec)) pasteSafeCard

/-- THE TIED CARD OF 'clavierlaw17.PasteBack'. -/
def pasteBackCard : Claim7 := { stood := { row := pasteBackRow, standIns := [], harness := (true, "fa443a74168de0eae29994f180af2bb403cd5158189b6bccf383d75c21bb9925"), looks := false }, kinds := [], alts := [], laidByText := true, laidKinds := [.data, .data, .data], laidTests := true, laidLooks := .later }
def PasteBackCardSaid : Prop := Claim7.holds Tryd.pinned (.plain (OpenSpec.ofChange pasteBackSpec)) pasteBackCard

/-- THE TIED CARD OF 'clavierlaw17.PasteJoins'. -/
def pasteJoinsCard : Claim7 := { stood := { row := pasteJoinsRow, standIns := [], harness := (true, "fa443a74168de0eae29994f180af2bb403cd5158189b6bccf383d75c21bb9925"), looks := false }, kinds := [], alts := [], laidByText := true, laidKinds := [.data, .data, .data], laidTests := true, laidLooks := .later }
def PasteJoinsCardSaid : Prop := Claim7.holds Tryd.pinned (.plain (OpenSpec.ofChange pasteJoinsSpec)) pasteJoinsCard

/-- THE TIED CARD OF 'clavierlaw17.PasteFocus'. -/
def pasteFocusCard : Claim7 := { stood := { row := pasteFocusRow, standIns := [], harness := (true, "fa443a74168de0eae29994f180af2bb403cd5158189b6bccf383d75c21bb9925"), looks := false }, kinds := [], alts := [], laidByText := true, laidKinds := [.data, .data, .data], laidTests := true, laidLooks := .later }
def PasteFocusCardSaid : Prop := Claim7.holds Tryd.pinned (.plain (OpenSpec.ofChange pasteFocusSpec)) pasteFocusCard

/-- THE SECOND FORM's CARD OF 'clavierlaw17.PasteSends'. -/
def pasteSendsUptoCard : Claim7 := { stood := { row := pasteSendsUptoRow, standIns := [], harness := (true, "fa443a74168de0eae29994f180af2bb403cd5158189b6bccf383d75c21bb9925"), looks := false }, kinds := [], alts := [], laidByText := true, laidKinds := [.data, .data, .data], laidTests := true, laidLooks := .later }
def PasteSendsUptoCardSaid : Prop := Claim7.holds Tryd.pinned (.plain (OpenSpec.upto pasteSendsSpec)) pasteSendsUptoCard

/-- THE SECOND FORM's CARD OF 'clavierlaw17.PasteTakes'. -/
def pasteTakesUptoCard : Claim7 := { stood := { row := pasteTakesUptoRow, standIns := [], harness := (true, "fa443a74168de0eae29994f180af2bb403cd5158189b6bccf383d75c21bb9925"), looks := false }, kinds := [], alts := [], laidByText := true, laidKinds := [.data, .data, .data], laidTests := true, laidLooks := .later }
def PasteTakesUptoCardSaid : Prop := Claim7.holds Tryd.pinned (.plain (OpenSpec.upto pasteTakesSpec)) pasteTakesUptoCard

/-- THE SECOND FORM's CARD OF 'clavierlaw17.PasteSafe'. -/
def pasteSafeUptoCard : Claim7 := { stood := { row := pasteSafeUptoRow, standIns := [], harness := (true, "fa443a74168de0eae29994f180af2bb403cd5158189b6bccf383d75c21bb9925"), looks := false }, kinds := [], alts := [], laidByText := true, laidKinds := [.data, .data, .data], laidTests := true, laidLooks := .later }
def PasteSafeUptoCardSaid : Prop := Claim7.holds Tryd.pinned (.plain (OpenSpec.upto pasteSafeSpec)) pasteSafeUptoCard

/-- THE SECOND FORM's CARD OF 'clavierlaw17.PasteBack'. -/
def pasteBackUptoCard : Claim7 := { stood := { row := pasteBackUptoRow, standIns := [], harness := (true, "fa443a74168de0eae29994f180af2bb403cd5158189b6bccf383d75c21bb9925"), looks := false }, kinds := [], alts := [], laidByText := true, laidKinds := [.data, .data, .data], laidTests := true, laidLooks := .later }
def PasteBackUptoCardSaid : Prop := Claim7.holds Tryd.pinned (.plain (OpenSpec.upto pasteBackSpec)) pasteBackUptoCard

/-- THE SECOND FORM's CARD OF 'clavierlaw17.PasteJoins'. -/
def pasteJoinsUptoCard : Claim7 := { stood := { row := pasteJoinsUptoRow, standIns := [], harness := (true, "fa443a74168de0eae29994f180af2bb403cd5158189b6bccf383d75c21bb9925"), looks := false }, kinds := [], alts := [], laidByText := true, laidKinds := [.data, .data, .data], laidTests := true, laidLooks := .later }
def PasteJoinsUptoCardSaid : Prop := Claim7.holds Tryd.pinned (.plain (OpenSpec.upto pasteJoinsSpec)) pasteJoinsUptoCard

/-- THE SECOND FORM's CARD OF 'clavierlaw17.PasteFocus'. -/
def pasteFocusUptoCard : Claim7 := { stood := { row := pasteFocusUptoRow, standIns := [], harness := (true, "fa443a74168de0eae29994f180af2bb403cd5158189b6bccf383d75c21bb9925"), looks := false }, kinds := [], alts := [], laidByText := true, laidKinds := [.data, .data, .data], laidTests := true, laidLooks := .later }
def PasteFocusUptoCardSaid : Prop := Claim7.holds Tryd.pinned (.plain (OpenSpec.upto pasteFocusSpec)) pasteFocusUptoCard
end Rows
end Go.Proofs.YtcglbfpmcpammaaDoor
