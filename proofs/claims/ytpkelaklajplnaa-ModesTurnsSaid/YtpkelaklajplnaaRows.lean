/-
  No cell of these rows narrows 'for every input' (looked for: loops, veiled, ifaces, maps, wideKeys, modest, calm, conditions, laid).
  DERIVED. THE GIVEN ROWS OF THIS SEAT. 3 by the template 'for every input the law returns true; each argument reads behind the call as it read before'; 0 by the template 'total and deterministic' (their statements: YtpkelaklajplnaaTotals.lean).
  GIVEN WITH THE SEED: the statements are not yours to turn. If you find one false, say at which input.
  Laid BY PROGRAM, IN A SANDBOX (cutbox-rows.mjs): the forced cells as the released guide's own fill.sh prints them over the translation ef96d492f075723b… (all of the seat's roots in one cut). By AI agents, Wed Nov 11 2026. No macro, syntax, notation, axiom, sorry.
-/
import Derived.Test.YtpkelaklajplnaaChecked
import GoSem.Claim
import GoSem.ClaimJoined
import GoSem.ClaimMapViews
import Derived.JoinedTies
import Derived.KernelRfl
namespace Go.Proofs.Ytpkelaklajplnaa
/- THE CELL 'sum', in the pinned program and in every row, IS THE sha256 OF THE DUMP (.gsa) THAT YtpkelaklajplnaaProg.lean LOADS. Nothing in Lean hashes anything: it is a label: what it is worth is what the hold of that sum in a sandbox is worth. -/
noncomputable def Try.pinned : Pinned := { name := "ytpkelaklajplnaa", sum := "ef96d492f075723b61cbf091d9432c060d3c3b663a502769fe6b84e2d6026194", checked := Try.checked }
namespace Rows
def none {H : Type} : Left H := { results := [], args := [] }

/-- 'clavierlaw06.ModesSet': WHATEVER THE INPUT: true; the input reads as it did. -/
def modesSetSpec : ChangeSpec := { name := "modesSet", fn := fun _ => fun
  | [d1, d2, d3] => { results := [.lit (.bool true)], args := [d1, d2, d3] }
  | _ => none }
def modesSetRow : OpenClaim := { program := "ytpkelaklajplnaa", sum := "ef96d492f075723b61cbf091d9432c060d3c3b663a502769fe6b84e2d6026194", func := "clavier/clavierlaw06.ModesSet", spec := "modesSet", unfollowed := true, recurses := true, apart := false }
def ModesSetSaid : Prop := modesSetRow.holds Try.pinned (OpenSpec.ofChange modesSetSpec)

/-- ITS FALSE NEIGHBOUR: 'it returns false'. Refute it at one input. -/
def modesSetWrong : ChangeSpec := { name := "modesSet", fn := fun _ => fun
  | [d1, d2, d3] => { results := [.lit (.bool false)], args := [d1, d2, d3] }
  | _ => none }
def ModesSetWrongFalsely : Prop := modesSetRow.holds Try.pinned (OpenSpec.ofChange modesSetWrong)

/-- 'clavierlaw06.ModesTold': WHATEVER THE INPUT: true; the input reads as it did. -/
def modesToldSpec : ChangeSpec := { name := "modesTold", fn := fun _ => fun
  | [d1, d2, d3] => { results := [.lit (.bool true)], args := [d1, d2, d3] }
  | _ => none }
def modesToldRow : OpenClaim := { program := "ytpkelaklajplnaa", sum := "ef96d492f075723b61cbf091d9432c060d3c3b663a502769fe6b84e2d6026194", func := "clavier/clavierlaw06.ModesTold", spec := "modesTold", unfollowed := true, recurses := true, apart := false }
def ModesToldSaid : Prop := modesToldRow.holds Try.pinned (OpenSpec.ofChange modesToldSpec)

/-- ITS FALSE NEIGHBOUR: 'it returns false'. Refute it at one input. -/
def modesToldWrong : ChangeSpec := { name := "modesTold", fn := fun _ => fun
  | [d1, d2, d3] => { results := [.lit (.bool false)], args := [d1, d2, d3] }
  | _ => none }
def ModesToldWrongFalsely : Prop := modesToldRow.holds Try.pinned (OpenSpec.ofChange modesToldWrong)

/-- 'clavierlaw06.ModesTurns': WHATEVER THE INPUT: true; the input reads as it did. -/
def modesTurnsSpec : ChangeSpec := { name := "modesTurns", fn := fun _ => fun
  | [d1, d2, d3] => { results := [.lit (.bool true)], args := [d1, d2, d3] }
  | _ => none }
def modesTurnsRow : OpenClaim := { program := "ytpkelaklajplnaa", sum := "ef96d492f075723b61cbf091d9432c060d3c3b663a502769fe6b84e2d6026194", func := "clavier/clavierlaw06.ModesTurns", spec := "modesTurns", unfollowed := true, recurses := true, apart := false }
def ModesTurnsSaid : Prop := modesTurnsRow.holds Try.pinned (OpenSpec.ofChange modesTurnsSpec)

/-- ITS FALSE NEIGHBOUR: 'it returns false'. Refute it at one input. -/
def modesTurnsWrong : ChangeSpec := { name := "modesTurns", fn := fun _ => fun
  | [d1, d2, d3] => { results := [.lit (.bool false)], args := [d1, d2, d3] }
  | _ => none }
def ModesTurnsWrongFalsely : Prop := modesTurnsRow.holds Try.pinned (OpenSpec.ofChange modesTurnsWrong)

/- THE SECOND FORM. 'bulk': how many values and letters a reading holds, each counted each time it is reached (what is shared counts as often as it is met; a slice's spare places count too). A statement '..UptoSaid' is the law's where the arguments, and the package variables that the reading takes, are together of bulk at most 1048576: NARROWER than '..Said'. Prove '..Said' where nothing that the law and all that it calls make is longer than what came in: it says more and counts as full. Else prove '..UptoSaid'. A law counts once. -/
mutual
def uptoBulk {H : Type} : DataW H → Nat
  | .lit (.string bytes) => bytes.length + 1
  | .lit _ => 1
  | .nil => 1
  | .ptr d => uptoBulk d + 1
  | .slice elems spare => uptoBulkAll elems + uptoBulkAll spare + 1
  | .agg parts => uptoBulkAll parts + 1
  | .iface _ d => uptoBulk d + 1
  | .map entries => uptoBulkEntries entries + 1
  | .held _ => 1
def uptoBulkAll {H : Type} : List (DataW H) → Nat
  | [] => 0
  | d :: r => uptoBulk d + uptoBulkAll r
def uptoBulkEntries {H : Type} : List (Lit × DataW H) → Nat
  | [] => 0
  | x :: r => uptoBulkEntry x + uptoBulkEntries r
def uptoBulkEntry {H : Type} : Lit × DataW H → Nat
  | (.string bytes, d) => bytes.length + uptoBulk d + 1
  | (_, d) => uptoBulk d + 1
 end
def uptoSmall : (H : Type) → List (DataW H) → Bool := fun _ ds => decide (uptoBulkAll ds ≤ 1048576)
def OpenSpec.upto (s : _root_.Go.ChangeSpec) : _root_.Go.OpenSpec := { _root_.Go.OpenSpec.ofChange s with cond := some uptoSmall }

/-- 'clavierlaw06.ModesSet', WHERE WHAT IT READS IS OF BULK AT MOST 1048576: true; the input reads as it did. -/
def modesSetUptoRow : OpenClaim := { program := "ytpkelaklajplnaa", sum := "ef96d492f075723b61cbf091d9432c060d3c3b663a502769fe6b84e2d6026194", func := "clavier/clavierlaw06.ModesSet", spec := "modesSet", unfollowed := true, recurses := true, apart := false, narrowed := true }
def ModesSetUptoSaid : Prop := modesSetUptoRow.holds Try.pinned (OpenSpec.upto modesSetSpec)

/-- 'clavierlaw06.ModesTold', WHERE WHAT IT READS IS OF BULK AT MOST 1048576: true; the input reads as it did. -/
def modesToldUptoRow : OpenClaim := { program := "ytpkelaklajplnaa", sum := "ef96d492f075723b61cbf091d9432c060d3c3b663a502769fe6b84e2d6026194", func := "clavier/clavierlaw06.ModesTold", spec := "modesTold", unfollowed := true, recurses := true, apart := false, narrowed := true }
def ModesToldUptoSaid : Prop := modesToldUptoRow.holds Try.pinned (OpenSpec.upto modesToldSpec)

/-- 'clavierlaw06.ModesTurns', WHERE WHAT IT READS IS OF BULK AT MOST 1048576: true; the input reads as it did. -/
def modesTurnsUptoRow : OpenClaim := { program := "ytpkelaklajplnaa", sum := "ef96d492f075723b61cbf091d9432c060d3c3b663a502769fe6b84e2d6026194", func := "clavier/clavierlaw06.ModesTurns", spec := "modesTurns", unfollowed := true, recurses := true, apart := false, narrowed := true }
def ModesTurnsUptoSaid : Prop := modesTurnsUptoRow.holds Try.pinned (OpenSpec.upto modesTurnsSpec)

end Rows
end Go.Proofs.Ytpkelaklajplnaa
