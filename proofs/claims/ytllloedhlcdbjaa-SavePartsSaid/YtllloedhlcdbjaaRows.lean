/-
  No cell of these rows narrows 'for every input' (looked for: loops, veiled, ifaces, maps, wideKeys, modest, calm, conditions, laid).
  DERIVED. THE GIVEN ROWS OF THIS SEAT. 9 by the template 'for every input the law returns true; each argument reads behind the call as it read before'; 0 by the template 'total and deterministic' (their statements: YtllloedhlcdbjaaTotals.lean).
  GIVEN WITH THE SEED: the statements are not yours to turn. If you find one false, say at which input.
  Laid BY PROGRAM, IN A SANDBOX (cutbox-rows.mjs): the forced cells as the released guide's own fill.sh prints them over the translation 84b77ff67b437ca7… (all of the seat's roots in one cut). By AI agents, Wed Nov 11 2026. No macro, syntax, notation, axiom, sorry.
-/
import Derived.Test.YtllloedhlcdbjaaChecked
import GoSem.Claim
import GoSem.ClaimJoined
import GoSem.ClaimMapViews
import Derived.JoinedTies
import Derived.KernelRfl
namespace Go.Proofs.Ytllloedhlcdbjaa
/- THE CELL 'sum', in the pinned program and in every row, IS THE sha256 OF THE DUMP (.gsa) THAT YtllloedhlcdbjaaProg.lean LOADS. Nothing in Lean hashes anything: it is a label: what it is worth is what the hold of that sum in a sandbox is worth. -/
noncomputable def Try.pinned : Pinned := { name := "ytllloedhlcdbjaa", sum := "84b77ff67b437ca7113bd718b4b54026e0799161902db08f45f8d173eb899cd7", checked := Try.checked }
namespace Rows
def none {H : Type} : Left H := { results := [], args := [] }

/-- 'clavierlaw06.ModesOthers': WHATEVER THE INPUT: true; the input reads as it did. -/
def modesOthersSpec : ChangeSpec := { name := "modesOthers", fn := fun _ => fun
  | [d1, d2, d3] => { results := [.lit (.bool true)], args := [d1, d2, d3] }
  | _ => none }
def modesOthersRow : OpenClaim := { program := "ytllloedhlcdbjaa", sum := "84b77ff67b437ca7113bd718b4b54026e0799161902db08f45f8d173eb899cd7", func := "clavier/clavierlaw06.ModesOthers", spec := "modesOthers", unfollowed := true, recurses := true, apart := false }
def ModesOthersSaid : Prop := modesOthersRow.holds Try.pinned (OpenSpec.ofChange modesOthersSpec)

/-- ITS FALSE NEIGHBOUR: 'it returns false'. Refute it at one input. -/
def modesOthersWrong : ChangeSpec := { name := "modesOthers", fn := fun _ => fun
  | [d1, d2, d3] => { results := [.lit (.bool false)], args := [d1, d2, d3] }
  | _ => none }
def ModesOthersWrongFalsely : Prop := modesOthersRow.holds Try.pinned (OpenSpec.ofChange modesOthersWrong)

/-- 'clavierlaw06.ModesOne': WHATEVER THE INPUT: true; the input reads as it did. -/
def modesOneSpec : ChangeSpec := { name := "modesOne", fn := fun _ => fun
  | [d1, d2] => { results := [.lit (.bool true)], args := [d1, d2] }
  | _ => none }
def modesOneRow : OpenClaim := { program := "ytllloedhlcdbjaa", sum := "84b77ff67b437ca7113bd718b4b54026e0799161902db08f45f8d173eb899cd7", func := "clavier/clavierlaw06.ModesOne", spec := "modesOne", unfollowed := true, recurses := true, apart := false }
def ModesOneSaid : Prop := modesOneRow.holds Try.pinned (OpenSpec.ofChange modesOneSpec)

/-- ITS FALSE NEIGHBOUR: 'it returns false'. Refute it at one input. -/
def modesOneWrong : ChangeSpec := { name := "modesOne", fn := fun _ => fun
  | [d1, d2] => { results := [.lit (.bool false)], args := [d1, d2] }
  | _ => none }
def ModesOneWrongFalsely : Prop := modesOneRow.holds Try.pinned (OpenSpec.ofChange modesOneWrong)

/-- 'clavierlaw06.ModesOwn': WHATEVER THE INPUT: true; the input reads as it did. -/
def modesOwnSpec : ChangeSpec := { name := "modesOwn", fn := fun _ => fun
  | [d1, d2] => { results := [.lit (.bool true)], args := [d1, d2] }
  | _ => none }
def modesOwnRow : OpenClaim := { program := "ytllloedhlcdbjaa", sum := "84b77ff67b437ca7113bd718b4b54026e0799161902db08f45f8d173eb899cd7", func := "clavier/clavierlaw06.ModesOwn", spec := "modesOwn", unfollowed := true, recurses := true, apart := false }
def ModesOwnSaid : Prop := modesOwnRow.holds Try.pinned (OpenSpec.ofChange modesOwnSpec)

/-- ITS FALSE NEIGHBOUR: 'it returns false'. Refute it at one input. -/
def modesOwnWrong : ChangeSpec := { name := "modesOwn", fn := fun _ => fun
  | [d1, d2] => { results := [.lit (.bool false)], args := [d1, d2] }
  | _ => none }
def ModesOwnWrongFalsely : Prop := modesOwnRow.holds Try.pinned (OpenSpec.ofChange modesOwnWrong)

/-- 'clavierlaw07.SaveTells': WHATEVER THE INPUT: true; the input reads as it did. -/
def saveTellsSpec : ChangeSpec := { name := "saveTells", fn := fun _ => fun
  | [d1, d2, d3] => { results := [.lit (.bool true)], args := [d1, d2, d3] }
  | _ => none }
def saveTellsRow : OpenClaim := { program := "ytllloedhlcdbjaa", sum := "84b77ff67b437ca7113bd718b4b54026e0799161902db08f45f8d173eb899cd7", func := "clavier/clavierlaw07.SaveTells", spec := "saveTells", unfollowed := true, recurses := true, apart := false }
def SaveTellsSaid : Prop := saveTellsRow.holds Try.pinned (OpenSpec.ofChange saveTellsSpec)

/-- ITS FALSE NEIGHBOUR: 'it returns false'. Refute it at one input. -/
def saveTellsWrong : ChangeSpec := { name := "saveTells", fn := fun _ => fun
  | [d1, d2, d3] => { results := [.lit (.bool false)], args := [d1, d2, d3] }
  | _ => none }
def SaveTellsWrongFalsely : Prop := saveTellsRow.holds Try.pinned (OpenSpec.ofChange saveTellsWrong)

/-- 'clavierlaw07.SaveBack': WHATEVER THE INPUT: true; the input reads as it did. -/
def saveBackSpec : ChangeSpec := { name := "saveBack", fn := fun _ => fun
  | [d1, d2, d3] => { results := [.lit (.bool true)], args := [d1, d2, d3] }
  | _ => none }
def saveBackRow : OpenClaim := { program := "ytllloedhlcdbjaa", sum := "84b77ff67b437ca7113bd718b4b54026e0799161902db08f45f8d173eb899cd7", func := "clavier/clavierlaw07.SaveBack", spec := "saveBack", unfollowed := true, recurses := true, apart := false }
def SaveBackSaid : Prop := saveBackRow.holds Try.pinned (OpenSpec.ofChange saveBackSpec)

/-- ITS FALSE NEIGHBOUR: 'it returns false'. Refute it at one input. -/
def saveBackWrong : ChangeSpec := { name := "saveBack", fn := fun _ => fun
  | [d1, d2, d3] => { results := [.lit (.bool false)], args := [d1, d2, d3] }
  | _ => none }
def SaveBackWrongFalsely : Prop := saveBackRow.holds Try.pinned (OpenSpec.ofChange saveBackWrong)

/-- 'clavierlaw07.SaveAll': WHATEVER THE INPUT: true; the input reads as it did. -/
def saveAllSpec : ChangeSpec := { name := "saveAll", fn := fun _ => fun
  | [d1, d2] => { results := [.lit (.bool true)], args := [d1, d2] }
  | _ => none }
def saveAllRow : OpenClaim := { program := "ytllloedhlcdbjaa", sum := "84b77ff67b437ca7113bd718b4b54026e0799161902db08f45f8d173eb899cd7", func := "clavier/clavierlaw07.SaveAll", spec := "saveAll", unfollowed := true, recurses := true, apart := false }
def SaveAllSaid : Prop := saveAllRow.holds Try.pinned (OpenSpec.ofChange saveAllSpec)

/-- ITS FALSE NEIGHBOUR: 'it returns false'. Refute it at one input. -/
def saveAllWrong : ChangeSpec := { name := "saveAll", fn := fun _ => fun
  | [d1, d2] => { results := [.lit (.bool false)], args := [d1, d2] }
  | _ => none }
def SaveAllWrongFalsely : Prop := saveAllRow.holds Try.pinned (OpenSpec.ofChange saveAllWrong)

/-- 'clavierlaw07.SaveNone': WHATEVER THE INPUT: true; the input reads as it did. -/
def saveNoneSpec : ChangeSpec := { name := "saveNone", fn := fun _ => fun
  | [d1, d2, d3] => { results := [.lit (.bool true)], args := [d1, d2, d3] }
  | _ => none }
def saveNoneRow : OpenClaim := { program := "ytllloedhlcdbjaa", sum := "84b77ff67b437ca7113bd718b4b54026e0799161902db08f45f8d173eb899cd7", func := "clavier/clavierlaw07.SaveNone", spec := "saveNone", unfollowed := true, recurses := true, apart := false }
def SaveNoneSaid : Prop := saveNoneRow.holds Try.pinned (OpenSpec.ofChange saveNoneSpec)

/-- ITS FALSE NEIGHBOUR: 'it returns false'. Refute it at one input. -/
def saveNoneWrong : ChangeSpec := { name := "saveNone", fn := fun _ => fun
  | [d1, d2, d3] => { results := [.lit (.bool false)], args := [d1, d2, d3] }
  | _ => none }
def SaveNoneWrongFalsely : Prop := saveNoneRow.holds Try.pinned (OpenSpec.ofChange saveNoneWrong)

/-- 'clavierlaw07.SaveLast': WHATEVER THE INPUT: true; the input reads as it did. -/
def saveLastSpec : ChangeSpec := { name := "saveLast", fn := fun _ => fun
  | [d1, d2, d3] => { results := [.lit (.bool true)], args := [d1, d2, d3] }
  | _ => none }
def saveLastRow : OpenClaim := { program := "ytllloedhlcdbjaa", sum := "84b77ff67b437ca7113bd718b4b54026e0799161902db08f45f8d173eb899cd7", func := "clavier/clavierlaw07.SaveLast", spec := "saveLast", unfollowed := true, recurses := true, apart := false }
def SaveLastSaid : Prop := saveLastRow.holds Try.pinned (OpenSpec.ofChange saveLastSpec)

/-- ITS FALSE NEIGHBOUR: 'it returns false'. Refute it at one input. -/
def saveLastWrong : ChangeSpec := { name := "saveLast", fn := fun _ => fun
  | [d1, d2, d3] => { results := [.lit (.bool false)], args := [d1, d2, d3] }
  | _ => none }
def SaveLastWrongFalsely : Prop := saveLastRow.holds Try.pinned (OpenSpec.ofChange saveLastWrong)

/-- 'clavierlaw07.SaveParts': WHATEVER THE INPUT: true; the input reads as it did. -/
def savePartsSpec : ChangeSpec := { name := "saveParts", fn := fun _ => fun
  | [d1, d2, d3] => { results := [.lit (.bool true)], args := [d1, d2, d3] }
  | _ => none }
def savePartsRow : OpenClaim := { program := "ytllloedhlcdbjaa", sum := "84b77ff67b437ca7113bd718b4b54026e0799161902db08f45f8d173eb899cd7", func := "clavier/clavierlaw07.SaveParts", spec := "saveParts", unfollowed := true, recurses := true, apart := false }
def SavePartsSaid : Prop := savePartsRow.holds Try.pinned (OpenSpec.ofChange savePartsSpec)

/-- ITS FALSE NEIGHBOUR: 'it returns false'. Refute it at one input. -/
def savePartsWrong : ChangeSpec := { name := "saveParts", fn := fun _ => fun
  | [d1, d2, d3] => { results := [.lit (.bool false)], args := [d1, d2, d3] }
  | _ => none }
def SavePartsWrongFalsely : Prop := savePartsRow.holds Try.pinned (OpenSpec.ofChange savePartsWrong)

/- THE SECOND FORM. 'bulk': how many values and letters a reading holds, each counted each time it is reached (what is shared counts as often as it is met; a slice's spare places count too). A statement '..UptoSaid' is the law's where the arguments, and the package variables that the reading takes, are together of bulk at most 1048576: NARROWER than '..Said'. Prove '..Said' where nothing that the law and all that it calls make is longer than what came in: it says more and counts as full. Else prove '..UptoSaid'. A law counts once. -/
mutual
def uptoBulk {H : Type} : DataW H → Nat
  | .lit (.string bytes) => bytes.length + 1
  | .lit _ => 1
  | .nil => 1
  | .ptr d => uptoBulk d + 1
  | .slice elems spare => uptoBulkAll elems + uptoBulkAll spare + 1
  | .agg parts => uptoBulkAll parts + 1
  | .iface _ d => uptoBulk d + 1
  | .map entries => uptoBulkEntries entries + 1
  | .held _ => 1
def uptoBulkAll {H : Type} : List (DataW H) → Nat
  | [] => 0
  | d :: r => uptoBulk d + uptoBulkAll r
def uptoBulkEntries {H : Type} : List (Lit × DataW H) → Nat
  | [] => 0
  | x :: r => uptoBulkEntry x + uptoBulkEntries r
def uptoBulkEntry {H : Type} : Lit × DataW H → Nat
  | (.string bytes, d) => bytes.length + uptoBulk d + 1
  | (_, d) => uptoBulk d + 1
 end
def uptoSmall : (H : Type) → List (DataW H) → Bool := fun _ ds => decide (uptoBulkAll ds ≤ 1048576)
def OpenSpec.upto (s : _root_.Go.ChangeSpec) : _root_.Go.OpenSpec := { _root_.Go.OpenSpec.ofChange s with cond := some uptoSmall }

/-- 'clavierlaw06.ModesOthers', WHERE WHAT IT READS IS OF BULK AT MOST 1048576: true; the input reads as it did. -/
def modesOthersUptoRow : OpenClaim := { program := "ytllloedhlcdbjaa", sum := "84b77ff67b437ca7113bd718b4b54026e0799161902db08f45f8d173eb899cd7", func := "clavier/clavierlaw06.ModesOthers", spec := "modesOthers", unfollowed := true, recurses := true, apart := false, narrowed := true }
def ModesOthersUptoSaid : Prop := modesOthersUptoRow.holds Try.pinned (OpenSpec.upto modesOthersSpec)

/-- 'clavierlaw06.ModesOne', WHERE WHAT IT READS IS OF BULK AT MOST 1048576: true; the input reads as it did. -/
def modesOneUptoRow : OpenClaim := { program := "ytllloedhlcdbjaa", sum := "84b77ff67b437ca7113bd718b4b54026e0799161902db08f45f8d173eb899cd7", func := "clavier/clavierlaw06.ModesOne", spec := "modesOne", unfollowed := true, recurses := true, apart := false, narrowed := true }
def ModesOneUptoSaid : Prop := modesOneUptoRow.holds Try.pinned (OpenSpec.upto modesOneSpec)

/-- 'clavierlaw06.ModesOwn', WHERE WHAT IT READS IS OF BULK AT MOST 1048576: true; the input reads as it did. -/
def modesOwnUptoRow : OpenClaim := { program := "ytllloedhlcdbjaa", sum := "84b77ff67b437ca7113bd718b4b54026e0799161902db08f45f8d173eb899cd7", func := "clavier/clavierlaw06.ModesOwn", spec := "modesOwn", unfollowed := true, recurses := true, apart := false, narrowed := true }
def ModesOwnUptoSaid : Prop := modesOwnUptoRow.holds Try.pinned (OpenSpec.upto modesOwnSpec)

/-- 'clavierlaw07.SaveTells', WHERE WHAT IT READS IS OF BULK AT MOST 1048576: true; the input reads as it did. -/
def saveTellsUptoRow : OpenClaim := { program := "ytllloedhlcdbjaa", sum := "84b77ff67b437ca7113bd718b4b54026e0799161902db08f45f8d173eb899cd7", func := "clavier/clavierlaw07.SaveTells", spec := "saveTells", unfollowed := true, recurses := true, apart := false, narrowed := true }
def SaveTellsUptoSaid : Prop := saveTellsUptoRow.holds Try.pinned (OpenSpec.upto saveTellsSpec)

/-- 'clavierlaw07.SaveBack', WHERE WHAT IT READS IS OF BULK AT MOST 1048576: true; the input reads as it did. -/
def saveBackUptoRow : OpenClaim := { program := "ytllloedhlcdbjaa", sum := "84b77ff67b437ca7113bd718b4b54026e0799161902db08f45f8d173eb899cd7", func := "clavier/clavierlaw07.SaveBack", spec := "saveBack", unfollowed := true, recurses := true, apart := false, narrowed := true }
def SaveBackUptoSaid : Prop := saveBackUptoRow.holds Try.pinned (OpenSpec.upto saveBackSpec)

/-- 'clavierlaw07.SaveAll', WHERE WHAT IT READS IS OF BULK AT MOST 1048576: true; the input reads as it did. -/
def saveAllUptoRow : OpenClaim := { program := "ytllloedhlcdbjaa", sum := "84b77ff67b437ca7113bd718b4b54026e0799161902db08f45f8d173eb899cd7", func := "clavier/clavierlaw07.SaveAll", spec := "saveAll", unfollowed := true, recurses := true, apart := false, narrowed := true }
def SaveAllUptoSaid : Prop := saveAllUptoRow.holds Try.pinned (OpenSpec.upto saveAllSpec)

/-- 'clavierlaw07.SaveNone', WHERE WHAT IT READS IS OF BULK AT MOST 1048576: true; the input reads as it did. -/
def saveNoneUptoRow : OpenClaim := { program := "ytllloedhlcdbjaa", sum := "84b77ff67b437ca7113bd718b4b54026e0799161902db08f45f8d173eb899cd7", func := "clavier/clavierlaw07.SaveNone", spec := "saveNone", unfollowed := true, recurses := true, apart := false, narrowed := true }
def SaveNoneUptoSaid : Prop := saveNoneUptoRow.holds Try.pinned (OpenSpec.upto saveNoneSpec)

/-- 'clavierlaw07.SaveLast', WHERE WHAT IT READS IS OF BULK AT MOST 1048576: true; the input reads as it did. -/
def saveLastUptoRow : OpenClaim := { program := "ytllloedhlcdbjaa", sum := "84b77ff67b437ca7113bd718b4b54026e0799161902db08f45f8d173eb899cd7", func := "clavier/clavierlaw07.SaveLast", spec := "saveLast", unfollowed := true, recurses := true, apart := false, narrowed := true }
def SaveLastUptoSaid : Prop := saveLastUptoRow.holds Try.pinned (OpenSpec.upto saveLastSpec)

/-- 'clavierlaw07.SaveParts', WHERE WHAT IT READS IS OF BULK AT MOST 1048576: true; the input reads as it did. -/
def savePartsUptoRow : OpenClaim := { program := "ytllloedhlcdbjaa", sum := "84b77ff67b437ca7113bd718b4b54026e0799161902db08f45f8d173eb899cd7", func := "clavier/clavierlaw07.SaveParts", spec := "saveParts", unfollowed := true, recurses := true, apart := false, narrowed := true }
def SavePartsUptoSaid : Prop := savePartsUptoRow.holds Try.pinned (OpenSpec.upto savePartsSpec)

end Rows
end Go.Proofs.Ytllloedhlcdbjaa
