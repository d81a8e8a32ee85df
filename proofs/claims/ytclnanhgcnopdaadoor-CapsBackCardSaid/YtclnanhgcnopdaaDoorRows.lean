/-
  NARROWER THAN 'FOR EVERY INPUT', by the rows' own cells (each row's printed sentence says how): CapsAnswers: laid · CapsSafe: laid · CapsBack: laid · CapsLong: laid · CapsNames: laid.
  DERIVED. THE GIVEN ROWS OF THIS SEAT. 5 by the template 'for every input the law returns true; each argument reads behind the call as it read before'; 0 by the template 'total and deterministic' (their statements: YtclnanhgcnopdaaDoorTotals.lean).
  GIVEN WITH THE SEED: the statements are not yours to turn. If you find one false, say at which input.
  Laid BY PROGRAM, IN A SANDBOX (cutbox-rows.mjs): the forced cells as the released guide's own fill.sh prints them over the translation 8acc98d605214433… (all of the seat's roots in one cut). By AI agents, Wed Nov 11 2026. No macro, syntax, notation, axiom, sorry.
-/
import Derived.Test.YtclnanhgcnopdaaDoorChecked
import GoSem.PinnedTables
import GoSem.Claim
import GoSem.ClaimJoined
import GoSem.ClaimMapViews
import Derived.JoinedTies
import Derived.KernelRfl
namespace Go.Proofs.YtclnanhgcnopdaaDoor
/- THE CELL 'sum', in the pinned program and in every row, IS THE sha256 OF THE DUMP (.gsa) THAT YtclnanhgcnopdaaDoorProg.lean LOADS. Nothing in Lean hashes anything: it is a label: what it is worth is what the hold of that sum in a sandbox is worth. -/
noncomputable def Tryd.pinned : Pinned := { name := "ytclnanhgcnopdaadoor", sum := "8acc98d60521443317d580b5c77725f00746b2dd89884b75a3319ea96ad71a53", checked := Tryd.checked }
namespace Rows
def none {H : Type} : Left H := { results := [], args := [] }

/- WHAT THE LISTED PACKAGE-LEVEL VARIABLES READ AS WHEN THE CALL BEGINS. Each datum BY PROGRAM (the guide's laid-datum.mjs) off the statement by which the dump's own 'gosem.cut.vars' lays the variable. In a bare row this is a premise. The card (YtclnanhgcnopdaaDoorCards.lean) ties it to the program's text. -/
def laid_unicode_utf8_acceptRanges {H : Type} : DataW H := .agg [.agg [.lit (.int .u8 128), .lit (.int .u8 191)], .agg [.lit (.int .u8 160), .lit (.int .u8 191)], .agg [.lit (.int .u8 128), .lit (.int .u8 159)], .agg [.lit (.int .u8 144), .lit (.int .u8 191)], .agg [.lit (.int .u8 128), .lit (.int .u8 143)], .agg [.lit (.int .u8 0), .lit (.int .u8 0)], .agg [.lit (.int .u8 0), .lit (.int .u8 0)], .agg [.lit (.int .u8 0), .lit (.int .u8 0)], .agg [.lit (.int .u8 0), .lit (.int .u8 0)], .agg [.lit (.int .u8 0), .lit (.int .u8 0)], .agg [.lit (.int .u8 0), .lit (.int .u8 0)], .agg [.lit (.int .u8 0), .lit (.int .u8 0)], .agg [.lit (.int .u8 0), .lit (.int .u8 0)], .agg [.lit (.int .u8 0), .lit (.int .u8 0)], .agg [.lit (.int .u8 0), .lit (.int .u8 0)], .agg [.lit (.int .u8 0), .lit (.int .u8 0)]]
/-- One of Go's own tables, pinned by name: the form's constant. -/
def laid_unicode_utf8_first : DataW Unit := Go.Pinned.utf8First

/-- 'clavierlaw20.CapsAnswers': WHATEVER THE INPUT: true; the input reads as it did. -/
def capsAnswersSpec : ChangeSpec := { name := "capsAnswers", fn := fun _ => fun
  | [d1, d2] => { results := [.lit (.bool true)], args := [d1, d2] }
  | _ => none }
def capsAnswersRow : OpenClaim := { program := "ytclnanhgcnopdaadoor", sum := "8acc98d60521443317d580b5c77725f00746b2dd89884b75a3319ea96ad71a53", func := "clavier/clavierlaw20.CapsAnswers", spec := "capsAnswers", inPlace := ["internal/bytealg.IndexByteString", "internal/bytealg.IndexString", "internal/abi.NoEscape", "internal/bytealg.MakeNoZero"], unfollowed := true, recurses := true, named := ["unicode/utf8.first", "unicode/utf8.acceptRanges", "internal/bytealg.MaxLen"], apart := false, laid := [("unicode/utf8.acceptRanges", laid_unicode_utf8_acceptRanges), ("unicode/utf8.first", laid_unicode_utf8_first)] }
def CapsAnswersSaid : Prop := capsAnswersRow.holds Tryd.pinned (OpenSpec.ofChange capsAnswersSpec)

/-- ITS FALSE NEIGHBOUR: 'it returns false'. Refute it at one input. -/
def capsAnswersWrong : ChangeSpec := { name := "capsAnswers", fn := fun _ => fun
  | [d1, d2] => { results := [.lit (.bool false)], args := [d1, d2] }
  | _ => none }
def CapsAnswersWrongFalsely : Prop := capsAnswersRow.holds Tryd.pinned (OpenSpec.ofChange capsAnswersWrong)

/-- 'clavierlaw20.CapsSafe': WHATEVER THE INPUT: true; the input reads as it did. -/
def capsSafeSpec : ChangeSpec := { name := "capsSafe", fn := fun _ => fun
  | [d] => { results := [.lit (.bool true)], args := [d] }
  | _ => none }
def capsSafeRow : OpenClaim := { program := "ytclnanhgcnopdaadoor", sum := "8acc98d60521443317d580b5c77725f00746b2dd89884b75a3319ea96ad71a53", func := "clavier/clavierlaw20.CapsSafe", spec := "capsSafe", inPlace := ["internal/bytealg.IndexByteString", "internal/bytealg.IndexString", "internal/abi.NoEscape", "internal/bytealg.MakeNoZero"], unfollowed := true, recurses := true, named := ["unicode/utf8.first", "unicode/utf8.acceptRanges", "internal/bytealg.MaxLen"], apart := false, laid := [("unicode/utf8.acceptRanges", laid_unicode_utf8_acceptRanges), ("unicode/utf8.first", laid_unicode_utf8_first)] }
def CapsSafeSaid : Prop := capsSafeRow.holds Tryd.pinned (OpenSpec.ofChange capsSafeSpec)

/-- ITS FALSE NEIGHBOUR: 'it returns false'. Refute it at one input. -/
def capsSafeWrong : ChangeSpec := { name := "capsSafe", fn := fun _ => fun
  | [d] => { results := [.lit (.bool false)], args := [d] }
  | _ => none }
def CapsSafeWrongFalsely : Prop := capsSafeRow.holds Tryd.pinned (OpenSpec.ofChange capsSafeWrong)

/-- 'clavierlaw20.CapsBack': WHATEVER THE INPUT: true; the input reads as it did. -/
def capsBackSpec : ChangeSpec := { name := "capsBack", fn := fun _ => fun
  | [d1, d2] => { results := [.lit (.bool true)], args := [d1, d2] }
  | _ => none }
def capsBackRow : OpenClaim := { program := "ytclnanhgcnopdaadoor", sum := "8acc98d60521443317d580b5c77725f00746b2dd89884b75a3319ea96ad71a53", func := "clavier/clavierlaw20.CapsBack", spec := "capsBack", inPlace := ["internal/bytealg.IndexByteString", "internal/bytealg.IndexString", "internal/abi.NoEscape", "internal/bytealg.MakeNoZero"], unfollowed := true, recurses := true, named := ["unicode/utf8.first", "unicode/utf8.acceptRanges", "internal/bytealg.MaxLen"], apart := false, laid := [("unicode/utf8.acceptRanges", laid_unicode_utf8_acceptRanges), ("unicode/utf8.first", laid_unicode_utf8_first)] }
def CapsBackSaid : Prop := capsBackRow.holds Tryd.pinned (OpenSpec.ofChange capsBackSpec)

/-- ITS FALSE NEIGHBOUR: 'it returns false'. Refute it at one input. -/
def capsBackWrong : ChangeSpec := { name := "capsBack", fn := fun _ => fun
  | [d1, d2] => { results := [.lit (.bool false)], args := [d1, d2] }
  | _ => none }
def CapsBackWrongFalsely : Prop := capsBackRow.holds Tryd.pinned (OpenSpec.ofChange capsBackWrong)

/-- 'clavierlaw20.CapsLong': WHATEVER THE INPUT: true; the input reads as it did. -/
def capsLongSpec : ChangeSpec := { name := "capsLong", fn := fun _ => fun
  | [d1, d2] => { results := [.lit (.bool true)], args := [d1, d2] }
  | _ => none }
def capsLongRow : OpenClaim := { program := "ytclnanhgcnopdaadoor", sum := "8acc98d60521443317d580b5c77725f00746b2dd89884b75a3319ea96ad71a53", func := "clavier/clavierlaw20.CapsLong", spec := "capsLong", inPlace := ["internal/bytealg.IndexByteString", "internal/bytealg.IndexString", "internal/abi.NoEscape", "internal/bytealg.MakeNoZero"], unfollowed := true, recurses := true, named := ["unicode/utf8.first", "unicode/utf8.acceptRanges", "internal/bytealg.MaxLen"], apart := false, laid := [("unicode/utf8.acceptRanges", laid_unicode_utf8_acceptRanges), ("unicode/utf8.first", laid_unicode_utf8_first)] }
def CapsLongSaid : Prop := capsLongRow.holds Tryd.pinned (OpenSpec.ofChange capsLongSpec)

/-- ITS FALSE NEIGHBOUR: 'it returns false'. Refute it at one input. -/
def capsLongWrong : ChangeSpec := { name := "capsLong", fn := fun _ => fun
  | [d1, d2] => { results := [.lit (.bool false)], args := [d1, d2] }
  | _ => none }
def CapsLongWrongFalsely : Prop := capsLongRow.holds Tryd.pinned (OpenSpec.ofChange capsLongWrong)

/-- 'clavierlaw20.CapsNames': WHATEVER THE INPUT: true; the input reads as it did. -/
def capsNamesSpec : ChangeSpec := { name := "capsNames", fn := fun _ => fun
  | [d] => { results := [.lit (.bool true)], args := [d] }
  | _ => none }
def capsNamesRow : OpenClaim := { program := "ytclnanhgcnopdaadoor", sum := "8acc98d60521443317d580b5c77725f00746b2dd89884b75a3319ea96ad71a53", func := "clavier/clavierlaw20.CapsNames", spec := "capsNames", inPlace := ["internal/bytealg.IndexByteString", "internal/bytealg.IndexString", "internal/abi.NoEscape", "internal/bytealg.MakeNoZero"], unfollowed := true, recurses := true, named := ["unicode/utf8.first", "unicode/utf8.acceptRanges", "internal/bytealg.MaxLen"], apart := false, laid := [("unicode/utf8.acceptRanges", laid_unicode_utf8_acceptRanges), ("unicode/utf8.first", laid_unicode_utf8_first)] }
def CapsNamesSaid : Prop := capsNamesRow.holds Tryd.pinned (OpenSpec.ofChange capsNamesSpec)

/-- ITS FALSE NEIGHBOUR: 'it returns false'. Refute it at one input. -/
def capsNamesWrong : ChangeSpec := { name := "capsNames", fn := fun _ => fun
  | [d] => { results := [.lit (.bool false)], args := [d] }
  | _ => none }
def CapsNamesWrongFalsely : Prop := capsNamesRow.holds Tryd.pinned (OpenSpec.ofChange capsNamesWrong)

/- THE SECOND FORM. 'bulk': how many values and letters a reading holds, each counted each time it is reached (what is shared counts as often as it is met; a slice's spare places count too). A statement '..UptoSaid' is the law's where the arguments, and the package variables that the reading takes, are together of bulk at most 1048576: NARROWER than '..Said'. Prove '..Said' where nothing that the law and all that it calls make is longer than what came in: it says more and counts as full. Else prove '..UptoSaid'. A law counts once. -/
mutual
def uptoBulk {H : Type} : DataW H → Nat
  | .lit (.string bytes) => bytes.length + 1
  | .lit _ => 1
  | .nil => 1
  | .ptr d => uptoBulk d + 1
  | .slice elems spare => uptoBulkAll elems + uptoBulkAll spare + 1
  | .agg parts => uptoBulkAll parts + 1
  | .iface _ d => uptoBulk d + 1
  | .map entries => uptoBulkEntries entries + 1
  | .held _ => 1
def uptoBulkAll {H : Type} : List (DataW H) → Nat
  | [] => 0
  | d :: r => uptoBulk d + uptoBulkAll r
def uptoBulkEntries {H : Type} : List (Lit × DataW H) → Nat
  | [] => 0
  | x :: r => uptoBulkEntry x + uptoBulkEntries r
def uptoBulkEntry {H : Type} : Lit × DataW H → Nat
  | (.string bytes, d) => bytes.length + uptoBulk d + 1
  | (_, d) => uptoBulk d + 1
 end
def uptoSmall : (H : Type) → List (DataW H) → Bool := fun _ ds => decide (uptoBulkAll ds ≤ 1048576)
def OpenSpec.upto (s : _root_.Go.ChangeSpec) : _root_.Go.OpenSpec := { _root_.Go.OpenSpec.ofChange s with cond := some uptoSmall }

/-- 'clavierlaw20.CapsAnswers', WHERE WHAT IT READS IS OF BULK AT MOST 1048576: true; the input reads as it did. -/
def capsAnswersUptoRow : OpenClaim := { program := "ytclnanhgcnopdaadoor", sum := "8acc98d60521443317d580b5c77725f00746b2dd89884b75a3319ea96ad71a53", func := "clavier/clavierlaw20.CapsAnswers", spec := "capsAnswers", inPlace := ["internal/bytealg.IndexByteString", "internal/bytealg.IndexString", "internal/abi.NoEscape", "internal/bytealg.MakeNoZero"], unfollowed := true, recurses := true, named := ["unicode/utf8.first", "unicode/utf8.acceptRanges", "internal/bytealg.MaxLen"], apart := false, laid := [("unicode/utf8.acceptRanges", laid_unicode_utf8_acceptRanges), ("unicode/utf8.first", laid_unicode_utf8_first)], narrowed := true }
def CapsAnswersUptoSaid : Prop := capsAnswersUptoRow.holds Tryd.pinned (OpenSpec.upto capsAnswersSpec)

/-- 'clavierlaw20.CapsSafe', WHERE WHAT IT READS IS OF BULK AT MOST 1048576: true; the input reads as it did. -/
def capsSafeUptoRow : OpenClaim := { program := "ytclnanhgcnopdaadoor", sum := "8acc98d60521443317d580b5c77725f00746b2dd89884b75a3319ea96ad71a53", func := "clavier/clavierlaw20.CapsSafe", spec := "capsSafe", inPlace := ["internal/bytealg.IndexByteString", "internal/bytealg.IndexString", "internal/abi.NoEscape", "internal/bytealg.MakeNoZero"], unfollowed := true, recurses := true, named := ["unicode/utf8.first", "unicode/utf8.acceptRanges", "internal/bytealg.MaxLen"], apart := false, laid := [("unicode/utf8.acceptRanges", laid_unicode_utf8_acceptRanges), ("unicode/utf8.first", laid_unicode_utf8_first)], narrowed := true }
def CapsSafeUptoSaid : Prop := capsSafeUptoRow.holds Tryd.pinned (OpenSpec.upto capsSafeSpec)

/-- 'clavierlaw20.CapsBack', WHERE WHAT IT READS IS OF BULK AT MOST 1048576: true; the input reads as it did. -/
def capsBackUptoRow : OpenClaim := { program := "ytclnanhgcnopdaadoor", sum := "8acc98d60521443317d580b5c77725f00746b2dd89884b75a3319ea96ad71a53", func := "clavier/clavierlaw20.CapsBack", spec := "capsBack", inPlace := ["internal/bytealg.IndexByteString", "internal/bytealg.IndexString", "internal/abi.NoEscape", "internal/bytealg.MakeNoZero"], unfollowed := true, recurses := true, named := ["unicode/utf8.first", "unicode/utf8.acceptRanges", "internal/bytealg.MaxLen"], apart := false, laid := [("unicode/utf8.acceptRanges", laid_unicode_utf8_acceptRanges), ("unicode/utf8.first", laid_unicode_utf8_first)], narrowed := true }
def CapsBackUptoSaid : Prop := capsBackUptoRow.holds Tryd.pinned (OpenSpec.upto capsBackSpec)

/-- 'clavierlaw20.CapsLong', WHERE WHAT IT READS IS OF BULK AT MOST 1048576: true; the input reads as it did. -/
def capsLongUptoRow : OpenClaim := { program := "ytclnanhgcnopdaadoor", sum := "8acc98d60521443317d580b5c77725f00746b2dd89884b75a3319ea96ad71a53", func := "clavier/clavierlaw20.CapsLong", spec := "capsLong", inPlace := ["internal/bytealg.IndexByteString", "internal/bytealg.IndexString", "internal/abi.NoEscape", "internal/bytealg.MakeNoZero"], unfollowed := true, recurses := true, named := ["unicode/utf8.first", "unicode/utf8.acceptRanges", "internal/bytealg.MaxLen"], apart := false, laid := [("unicode/utf8.acceptRanges", laid_unicode_utf8_acceptRanges), ("unicode/utf8.first", laid_unicode_utf8_first)], narrowed := true }
def CapsLongUptoSaid : Prop := capsLongUptoRow.holds Tryd.pinned (OpenSpec.upto capsLongSpec)

/-- 'clavierlaw20.CapsNames', WHERE WHAT IT READS IS OF BULK AT MOST 1048576: true; the input reads as it did. -/
def capsNamesUptoRow : OpenClaim := { program := "ytclnanhgcnopdaadoor", sum := "8acc98d60521443317d580b5c77725f00746b2dd89884b75a3319ea96ad71a53", func := "clavier/clavierlaw20.CapsNames", spec := "capsNames", inPlace := ["internal/bytealg.IndexByteString", "internal/bytealg.IndexString", "internal/abi.NoEscape", "internal/bytealg.MakeNoZero"], unfollowed := true, recurses := true, named := ["unicode/utf8.first", "unicode/utf8.acceptRanges", "internal/bytealg.MaxLen"], apart := false, laid := [("unicode/utf8.acceptRanges", laid_unicode_utf8_acceptRanges), ("unicode/utf8.first", laid_unicode_utf8_first)], narrowed := true }
def CapsNamesUptoSaid : Prop := capsNamesUptoRow.holds Tryd.pinned (OpenSpec.upto capsNamesSpec)

end Rows
end Go.Proofs.YtclnanhgcnopdaaDoor
