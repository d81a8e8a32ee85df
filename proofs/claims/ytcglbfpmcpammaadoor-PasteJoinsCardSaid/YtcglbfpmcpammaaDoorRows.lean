/-
  NARROWER THAN 'FOR EVERY INPUT', by the rows' own cells (each row's printed sentence says how): PasteSends: laid · PasteTakes: laid · PasteSafe: laid · PasteBack: laid · PasteJoins: laid · PasteFocus: laid.
  DERIVED. THE GIVEN ROWS OF THIS SEAT. 6 by the template 'for every input the law returns true; each argument reads behind the call as it read before'; 0 by the template 'total and deterministic' (their statements: YtcglbfpmcpammaaDoorTotals.lean).
  GIVEN WITH THE SEED: the statements are not yours to turn. If you find one false, say at which input.
  Laid BY PROGRAM, IN A SANDBOX (cutbox-rows.mjs): the forced cells as the released guide's own fill.sh prints them over the translation f08b19cb7b2d87c5… (all of the seat's roots in one cut). By AI agents, Wed Nov 11 2026. No macro, syntax, notation, axiom, sorry.
-/
import Derived.Test.YtcglbfpmcpammaaDoorChecked
import GoSem.Claim
import GoSem.ClaimJoined
import GoSem.ClaimMapViews
import Derived.JoinedTies
import Derived.KernelRfl
namespace Go.Proofs.YtcglbfpmcpammaaDoor
/- THE CELL 'sum', in the pinned program and in every row, IS THE sha256 OF THE DUMP (.gsa) THAT YtcglbfpmcpammaaDoorProg.lean LOADS. Nothing in Lean hashes anything: it is a label: what it is worth is what the hold of that sum in a sandbox is worth. -/
noncomputable def Tryd.pinned : Pinned := { name := "ytcglbfpmcpammaadoor", sum := "f08b19cb7b2d87c5d1f39e4cde4c78c52759eaa90c52753d49d6625e9db4791f", checked := Tryd.checked }
namespace Rows
def none {H : Type} : Left H := { results := [], args := [] }

/- WHAT THE LISTED PACKAGE-LEVEL VARIABLES READ AS WHEN THE CALL BEGINS. Each datum BY PROGRAM (the guide's laid-datum.mjs) off the statement by which the dump's own 'gosem.cut.vars' lays the variable. In a bare row this is a premise. The card (YtcglbfpmcpammaaDoorCards.lean) ties it to the program's text. -/
def laid_math_bits_deBruijn32tab {H : Type} : DataW H := .agg [.lit (.int .u8 0), .lit (.int .u8 1), .lit (.int .u8 28), .lit (.int .u8 2), .lit (.int .u8 29), .lit (.int .u8 14), .lit (.int .u8 24), .lit (.int .u8 3), .lit (.int .u8 30), .lit (.int .u8 22), .lit (.int .u8 20), .lit (.int .u8 15), .lit (.int .u8 25), .lit (.int .u8 17), .lit (.int .u8 4), .lit (.int .u8 8), .lit (.int .u8 31), .lit (.int .u8 27), .lit (.int .u8 13), .lit (.int .u8 23), .lit (.int .u8 21), .lit (.int .u8 19), .lit (.int .u8 16), .lit (.int .u8 7), .lit (.int .u8 26), .lit (.int .u8 12), .lit (.int .u8 18), .lit (.int .u8 6), .lit (.int .u8 11), .lit (.int .u8 5), .lit (.int .u8 10), .lit (.int .u8 9)]
def laid_math_bits_deBruijn64tab {H : Type} : DataW H := .agg [.lit (.int .u8 0), .lit (.int .u8 1), .lit (.int .u8 56), .lit (.int .u8 2), .lit (.int .u8 57), .lit (.int .u8 49), .lit (.int .u8 28), .lit (.int .u8 3), .lit (.int .u8 61), .lit (.int .u8 58), .lit (.int .u8 42), .lit (.int .u8 50), .lit (.int .u8 38), .lit (.int .u8 29), .lit (.int .u8 17), .lit (.int .u8 4), .lit (.int .u8 62), .lit (.int .u8 47), .lit (.int .u8 59), .lit (.int .u8 36), .lit (.int .u8 45), .lit (.int .u8 43), .lit (.int .u8 51), .lit (.int .u8 22), .lit (.int .u8 53), .lit (.int .u8 39), .lit (.int .u8 33), .lit (.int .u8 30), .lit (.int .u8 24), .lit (.int .u8 18), .lit (.int .u8 12), .lit (.int .u8 5), .lit (.int .u8 63), .lit (.int .u8 55), .lit (.int .u8 48), .lit (.int .u8 27), .lit (.int .u8 60), .lit (.int .u8 41), .lit (.int .u8 37), .lit (.int .u8 16), .lit (.int .u8 46), .lit (.int .u8 35), .lit (.int .u8 44), .lit (.int .u8 21), .lit (.int .u8 52), .lit (.int .u8 32), .lit (.int .u8 23), .lit (.int .u8 11), .lit (.int .u8 54), .lit (.int .u8 26), .lit (.int .u8 40), .lit (.int .u8 15), .lit (.int .u8 34), .lit (.int .u8 20), .lit (.int .u8 31), .lit (.int .u8 10), .lit (.int .u8 25), .lit (.int .u8 14), .lit (.int .u8 19), .lit (.int .u8 9), .lit (.int .u8 13), .lit (.int .u8 8), .lit (.int .u8 7), .lit (.int .u8 6)]
def laid_internal_strconv_uint64pow10 {H : Type} : DataW H := .agg [.lit (.int .u64 1), .lit (.int .u64 10), .lit (.int .u64 100), .lit (.int .u64 1000), .lit (.int .u64 10000), .lit (.int .u64 100000), .lit (.int .u64 1000000), .lit (.int .u64 10000000), .lit (.int .u64 100000000), .lit (.int .u64 1000000000), .lit (.int .u64 10000000000), .lit (.int .u64 100000000000), .lit (.int .u64 1000000000000), .lit (.int .u64 10000000000000), .lit (.int .u64 100000000000000), .lit (.int .u64 1000000000000000), .lit (.int .u64 10000000000000000), .lit (.int .u64 100000000000000000), .lit (.int .u64 1000000000000000000), .lit (.int .u64 10000000000000000000)]

/-- 'clavierlaw17.PasteSends': WHATEVER THE INPUT: true; the input reads as it did. -/
def pasteSendsSpec : ChangeSpec := { name := "pasteSends", fn := fun _ => fun
  | [d1, d2, d3] => { results := [.lit (.bool true)], args := [d1, d2, d3] }
  | _ => none }
def pasteSendsRow : OpenClaim := { program := "ytcglbfpmcpammaadoor", sum := "f08b19cb7b2d87c5d1f39e4cde4c78c52759eaa90c52753d49d6625e9db4791f", func := "clavier/clavierlaw17.PasteSends", spec := "pasteSends", inPlace := ["internal/bytealg.IndexByteString", "internal/bytealg.IndexString", "internal/abi.NoEscape", "internal/bytealg.MakeNoZero"], unfollowed := true, recurses := true, named := ["internal/strconv.uint64pow10", "math/bits.deBruijn32tab", "math/bits.deBruijn64tab", "internal/bytealg.MaxLen"], apart := false, laid := [("math/bits.deBruijn32tab", laid_math_bits_deBruijn32tab), ("math/bits.deBruijn64tab", laid_math_bits_deBruijn64tab), ("internal/strconv.uint64pow10", laid_internal_strconv_uint64pow10)] }
def PasteSendsSaid : Prop := pasteSendsRow.holds Tryd.pinned (OpenSpec.ofChange pasteSendsSpec)

/-- ITS FALSE NEIGHBOUR: 'it returns false'. Refute it at one input. -/
def pasteSendsWrong : ChangeSpec := { name := "pasteSends", fn := fun _ => fun
  | [d1, d2, d3] => { results := [.lit (.bool false)], args := [d1, d2, d3] }
  | _ => none }
def PasteSendsWrongFalsely : Prop := pasteSendsRow.holds Tryd.pinned (OpenSpec.ofChange pasteSendsWrong)

/-- 'clavierlaw17.PasteTakes': WHATEVER THE INPUT: true; the input reads as it did. -/
def pasteTakesSpec : ChangeSpec := { name := "pasteTakes", fn := fun _ => fun
  | [d] => { results := [.lit (.bool true)], args := [d] }
  | _ => none }
def pasteTakesRow : OpenClaim := { program := "ytcglbfpmcpammaadoor", sum := "f08b19cb7b2d87c5d1f39e4cde4c78c52759eaa90c52753d49d6625e9db4791f", func := "clavier/clavierlaw17.PasteTakes", spec := "pasteTakes", inPlace := ["internal/bytealg.IndexByteString", "internal/bytealg.IndexString", "internal/abi.NoEscape", "internal/bytealg.MakeNoZero"], unfollowed := true, recurses := true, named := ["internal/strconv.uint64pow10", "math/bits.deBruijn32tab", "math/bits.deBruijn64tab", "internal/bytealg.MaxLen"], apart := false, laid := [("math/bits.deBruijn32tab", laid_math_bits_deBruijn32tab), ("math/bits.deBruijn64tab", laid_math_bits_deBruijn64tab), ("internal/strconv.uint64pow10", laid_internal_strconv_uint64pow10)] }
def PasteTakesSaid : Prop := pasteTakesRow.holds Tryd.pinned (OpenSpec.ofChange pasteTakesSpec)

/-- ITS FALSE NEIGHBOUR: 'it returns false'. Refute it at one input. -/
def pasteTakesWrong : ChangeSpec := { name := "pasteTakes", fn := fun _ => fun
  | [d] => { results := [.lit (.bool false)], args := [d] }
  | _ => none }
def PasteTakesWrongFalsely : Prop := pasteTakesRow.holds Tryd.pinned (OpenSpec.ofChange pasteTakesWrong)

/-- 'clavierlaw17.PasteSafe': WHATEVER THE INPUT: true; the input reads as it did. -/
def pasteSafeSpec : ChangeSpec := { name := "pasteSafe", fn := fun _ => fun
  | [d] => { results := [.lit (.bool true)], args := [d] }
  | _ => none }
def pasteSafeRow : OpenClaim := { program := "ytcglbfpmcpammaadoor", sum := "f08b19cb7b2d87c5d1f39e4cde4c78c52759eaa90c52753d49d6625e9db4791f", func := "clavier/clavierlaw17.PasteSafe", spec := "pasteSafe", inPlace := ["internal/bytealg.IndexByteString", "internal/bytealg.IndexString", "internal/abi.NoEscape", "internal/bytealg.MakeNoZero"], unfollowed := true, recurses := true, named := ["internal/strconv.uint64pow10", "math/bits.deBruijn32tab", "math/bits.deBruijn64tab", "internal/bytealg.MaxLen"], apart := false, laid := [("math/bits.deBruijn32tab", laid_math_bits_deBruijn32tab), ("math/bits.deBruijn64tab", laid_math_bits_deBruijn64tab), ("internal/strconv.uint64pow10", laid_internal_strconv_uint64pow10)] }
def PasteSafeSaid : Prop := pasteSafeRow.holds Tryd.pinned (OpenSpec.ofChange pasteSafeSpec)

/-- ITS FALSE NEIGHBOUR: 'it returns false'. Refute it at one input. -/
def pasteSafeWrong : ChangeSpec := { name := "pasteSafe", fn := fun _ => fun
  | [d] => { results := [.lit (.bool false)], args := [d] }
  | _ => none }
def PasteSafeWrongFalsely : Prop := pasteSafeRow.holds Tryd.pinned (OpenSpec.ofChange pasteSafeWrong)

/-- 'clavierlaw17.PasteBack': WHATEVER THE INPUT: true; the input reads as it did. -/
def pasteBackSpec : ChangeSpec := { name := "pasteBack", fn := fun _ => fun
  | [d1, d2, d3] => { results := [.lit (.bool true)], args := [d1, d2, d3] }
  | _ => none }
def pasteBackRow : OpenClaim := { program := "ytcglbfpmcpammaadoor", sum := "f08b19cb7b2d87c5d1f39e4cde4c78c52759eaa90c52753d49d6625e9db4791f", func := "clavier/clavierlaw17.PasteBack", spec := "pasteBack", inPlace := ["internal/bytealg.IndexByteString", "internal/bytealg.IndexString", "internal/abi.NoEscape", "internal/bytealg.MakeNoZero"], unfollowed := true, recurses := true, named := ["internal/strconv.uint64pow10", "math/bits.deBruijn32tab", "math/bits.deBruijn64tab", "internal/bytealg.MaxLen"], apart := false, laid := [("math/bits.deBruijn32tab", laid_math_bits_deBruijn32tab), ("math/bits.deBruijn64tab", laid_math_bits_deBruijn64tab), ("internal/strconv.uint64pow10", laid_internal_strconv_uint64pow10)] }
def PasteBackSaid : Prop := pasteBackRow.holds Tryd.pinned (OpenSpec.ofChange pasteBackSpec)

/-- ITS FALSE NEIGHBOUR: 'it returns false'. Refute it at one input. -/
def pasteBackWrong : ChangeSpec := { name := "pasteBack", fn := fun _ => fun
  | [d1, d2, d3] => { results := [.lit (.bool false)], args := [d1, d2, d3] }
  | _ => none }
def PasteBackWrongFalsely : Prop := pasteBackRow.holds Tryd.pinned (OpenSpec.ofChange pasteBackWrong)

/-- 'clavierlaw17.PasteJoins': WHATEVER THE INPUT: true; the input reads as it did. -/
def pasteJoinsSpec : ChangeSpec := { name := "pasteJoins", fn := fun _ => fun
  | [d1, d2] => { results := [.lit (.bool true)], args := [d1, d2] }
  | _ => none }
def pasteJoinsRow : OpenClaim := { program := "ytcglbfpmcpammaadoor", sum := "f08b19cb7b2d87c5d1f39e4cde4c78c52759eaa90c52753d49d6625e9db4791f", func := "clavier/clavierlaw17.PasteJoins", spec := "pasteJoins", inPlace := ["internal/bytealg.IndexByteString", "internal/bytealg.IndexString", "internal/abi.NoEscape", "internal/bytealg.MakeNoZero"], unfollowed := true, recurses := true, named := ["internal/strconv.uint64pow10", "math/bits.deBruijn32tab", "math/bits.deBruijn64tab", "internal/bytealg.MaxLen"], apart := false, laid := [("math/bits.deBruijn32tab", laid_math_bits_deBruijn32tab), ("math/bits.deBruijn64tab", laid_math_bits_deBruijn64tab), ("internal/strconv.uint64pow10", laid_internal_strconv_uint64pow10)] }
def PasteJoinsSaid : Prop := pasteJoinsRow.holds Tryd.pinned (OpenSpec.ofChange pasteJoinsSpec)

/-- ITS FALSE NEIGHBOUR: 'it returns false'. Refute it at one input. -/
def pasteJoinsWrong : ChangeSpec := { name := "pasteJoins", fn := fun _ => fun
  | [d1, d2] => { results := [.lit (.bool false)], args := [d1, d2] }
  | _ => none }
def PasteJoinsWrongFalsely : Prop := pasteJoinsRow.holds Tryd.pinned (OpenSpec.ofChange pasteJoinsWrong)

/-- 'clavierlaw17.PasteFocus': WHATEVER THE INPUT: true; the input reads as it did. -/
def pasteFocusSpec : ChangeSpec := { name := "pasteFocus", fn := fun _ => fun
  | [d1, d2, d3] => { results := [.lit (.bool true)], args := [d1, d2, d3] }
  | _ => none }
def pasteFocusRow : OpenClaim := { program := "ytcglbfpmcpammaadoor", sum := "f08b19cb7b2d87c5d1f39e4cde4c78c52759eaa90c52753d49d6625e9db4791f", func := "clavier/clavierlaw17.PasteFocus", spec := "pasteFocus", inPlace := ["internal/bytealg.IndexByteString", "internal/bytealg.IndexString", "internal/abi.NoEscape", "internal/bytealg.MakeNoZero"], unfollowed := true, recurses := true, named := ["internal/strconv.uint64pow10", "math/bits.deBruijn32tab", "math/bits.deBruijn64tab", "internal/bytealg.MaxLen"], apart := false, laid := [("math/bits.deBruijn32tab", laid_math_bits_deBruijn32tab), ("math/bits.deBruijn64tab", laid_math_bits_deBruijn64tab), ("internal/strconv.uint64pow10", laid_internal_strconv_uint64pow10)] }
def PasteFocusSaid : Prop := pasteFocusRow.holds Tryd.pinned (OpenSpec.ofChange pasteFocusSpec)

/-- ITS FALSE NEIGHBOUR: 'it returns false'. Refute it at one input. -/
def pasteFocusWrong : ChangeSpec := { name := "pasteFocus", fn := fun _ => fun
  | [d1, d2, d3] => { results := [.lit (.bool false)], args := [d1, d2, d3] }
  | _ => none }
def PasteFocusWrongFalsely : Prop := pasteFocusRow.holds Tryd.pinned (OpenSpec.ofChange pasteFocusWrong)

/- THE SECOND FORM. 'bulk': how many values and letters a reading holds, each counted each time it is reached (what is shared counts as often as it is met; a slice's spare places count too). A statement '..UptoSaid' is the law's where the arguments, and the package variables that the reading takes, are together of bulk at most 1048576: NARROWER than '..Said'. Prove '..Said' where nothing that the law and all that it calls make is longer than what came in: it says more and counts as full. Else prove '..UptoSaid'. A law counts once. -/
mutual
def uptoBulk {H : Type} : DataW H → Nat
  | .lit (.string bytes) => bytes.length + 1
  | .lit _ => 1
  | .nil => 1
  | .ptr d => uptoBulk d + 1
  | .slice elems spare => uptoBulkAll elems + uptoBulkAll spare + 1
  | .agg parts => uptoBulkAll parts + 1
  | .iface _ d => uptoBulk d + 1
  | .map entries => uptoBulkEntries entries + 1
  | .held _ => 1
def uptoBulkAll {H : Type} : List (DataW H) → Nat
  | [] => 0
  | d :: r => uptoBulk d + uptoBulkAll r
def uptoBulkEntries {H : Type} : List (Lit × DataW H) → Nat
  | [] => 0
  | x :: r => uptoBulkEntry x + uptoBulkEntries r
def uptoBulkEntry {H : Type} : Lit × DataW H → Nat
  | (.string bytes, d) => bytes.length + uptoBulk d + 1
  | (_, d) => uptoBulk d + 1
 end
def uptoSmall : (H : Type) → List (DataW H) → Bool := fun _ ds => decide (uptoBulkAll ds ≤ 1048576)
def OpenSpec.upto (s : _root_.Go.ChangeSpec) : _root_.Go.OpenSpec := { _root_.Go.OpenSpec.ofChange s with cond := some uptoSmall }

/-- 'clavierlaw17.PasteSends', WHERE WHAT IT READS IS OF BULK AT MOST 1048576: true; the input reads as it did. -/
def pasteSendsUptoRow : OpenClaim := { program := "ytcglbfpmcpammaadoor", sum := "f08b19cb7b2d87c5d1f39e4cde4c78c52759eaa90c52753d49d6625e9db4791f", func := "clavier/clavierlaw17.PasteSends", spec := "pasteSends", inPlace := ["internal/bytealg.IndexByteString", "internal/bytealg.IndexString", "internal/abi.NoEscape", "internal/bytealg.MakeNoZero"], unfollowed := true, recurses := true, named := ["internal/strconv.uint64pow10", "math/bits.deBruijn32tab", "math/bits.deBruijn64tab", "internal/bytealg.MaxLen"], apart := false, laid := [("math/bits.deBruijn32tab", laid_math_bits_deBruijn32tab), ("math/bits.deBruijn64tab", laid_math_bits_deBruijn64tab), ("internal/strconv.uint64pow10", laid_internal_strconv_uint64pow10)], narrowed := true }
def PasteSendsUptoSaid : Prop := pasteSendsUptoRow.holds Tryd.pinned (OpenSpec.upto pasteSendsSpec)

/-- 'clavierlaw17.PasteTakes', WHERE WHAT IT READS IS OF BULK AT MOST 1048576: true; the input reads as it did. -/
def pasteTakesUptoRow : OpenClaim := { program := "ytcglbfpmcpammaadoor", sum := "f08b19cb7b2d87c5d1f39e4cde4c78c52759eaa90c52753d49d6625e9db4791f", func := "clavier/clavierlaw17.PasteTakes", spec := "pasteTakes", inPlace := ["internal/bytealg.IndexByteString", "internal/bytealg.IndexString", "internal/abi.NoEscape", "internal/bytealg.MakeNoZero"], unfollowed := true, recurses := true, named := ["internal/strconv.uint64pow10", "math/bits.deBruijn32tab", "math/bits.deBruijn64tab", "internal/bytealg.MaxLen"], apart := false, laid := [("math/bits.deBruijn32tab", laid_math_bits_deBruijn32tab), ("math/bits.deBruijn64tab", laid_math_bits_deBruijn64tab), ("internal/strconv.uint64pow10", laid_internal_strconv_uint64pow10)], narrowed := true }
def PasteTakesUptoSaid : Prop := pasteTakesUptoRow.holds Tryd.pinned (OpenSpec.upto pasteTakesSpec)

/-- 'clavierlaw17.PasteSafe', WHERE WHAT IT READS IS OF BULK AT MOST 1048576: true; the input reads as it did. -/
def pasteSafeUptoRow : OpenClaim := { program := "ytcglbfpmcpammaadoor", sum := "f08b19cb7b2d87c5d1f39e4cde4c78c52759eaa90c52753d49d6625e9db4791f", func := "clavier/clavierlaw17.PasteSafe", spec := "pasteSafe", inPlace := ["internal/bytealg.IndexByteString", "internal/bytealg.IndexString", "internal/abi.NoEscape", "internal/bytealg.MakeNoZero"], unfollowed := true, recurses := true, named := ["internal/strconv.uint64pow10", "math/bits.deBruijn32tab", "math/bits.deBruijn64tab", "internal/bytealg.MaxLen"], apart := false, laid := [("math/bits.deBruijn32tab", laid_math_bits_deBruijn32tab), ("math/bits.deBruijn64tab", laid_math_bits_deBruijn64tab), ("internal/strconv.uint64pow10", laid_internal_strconv_uint64pow10)], narrowed := true }
def PasteSafeUptoSaid : Prop := pasteSafeUptoRow.holds Tryd.pinned (OpenSpec.upto pasteSafeSpec)

/-- 'clavierlaw17.PasteBack', WHERE WHAT IT READS IS OF BULK AT MOST 1048576: true; the input reads as it did. -/
def pasteBackUptoRow : OpenClaim := { program := "ytcglbfpmcpammaadoor", sum := "f08b19cb7b2d87c5d1f39e4cde4c78c52759eaa90c52753d49d6625e9db4791f", func := "clavier/clavierlaw17.PasteBack", spec := "pasteBack", inPlace := ["internal/bytealg.IndexByteString", "internal/bytealg.IndexString", "internal/abi.NoEscape", "internal/bytealg.MakeNoZero"], unfollowed := true, recurses := true, named := ["internal/strconv.uint64pow10", "math/bits.deBruijn32tab", "math/bits.deBruijn64tab", "internal/bytealg.MaxLen"], apart := false, laid := [("math/bits.deBruijn32tab", laid_math_bits_deBruijn32tab), ("math/bits.deBruijn64tab", laid_math_bits_deBruijn64tab), ("internal/strconv.uint64pow10", laid_internal_strconv_uint64pow10)], narrowed := true }
def PasteBackUptoSaid : Prop := pasteBackUptoRow.holds Tryd.pinned (OpenSpec.upto pasteBackSpec)

/-- 'clavierlaw17.PasteJoins', WHERE WHAT IT READS IS OF BULK AT MOST 1048576: true; the input reads as it did. -/
def pasteJoinsUptoRow : OpenClaim := { program := "ytcglbfpmcpammaadoor", sum := "f08b19cb7b2d87c5d1f39e4cde4c78c52759eaa90c52753d49d6625e9db4791f", func := "clavier/clavierlaw17.PasteJoins", spec := "pasteJoins", inPlace := ["internal/bytealg.IndexByteString", "internal/bytealg.IndexString", "internal/abi.NoEscape", "internal/bytealg.MakeNoZero"], unfollowed := true, recurses := true, named := ["internal/strconv.uint64pow10", "math/bits.deBruijn32tab", "math/bits.deBruijn64tab", "internal/bytealg.MaxLen"], apart := false, laid := [("math/bits.deBruijn32tab", laid_math_bits_deBruijn32tab), ("math/bits.deBruijn64tab", laid_math_bits_deBruijn64tab), ("internal/strconv.uint64pow10", laid_internal_strconv_uint64pow10)], narrowed := true }
def PasteJoinsUptoSaid : Prop := pasteJoinsUptoRow.holds Tryd.pinned (OpenSpec.upto pasteJoinsSpec)

/-- 'clavierlaw17.PasteFocus', WHERE WHAT IT READS IS OF BULK AT MOST 1048576: true; the input reads as it did. -/
def pasteFocusUptoRow : OpenClaim := { program := "ytcglbfpmcpammaadoor", sum := "f08b19cb7b2d87c5d1f39e4cde4c78c52759eaa90c52753d49d6625e9db4791f", func := "clavier/clavierlaw17.PasteFocus", spec := "pasteFocus", inPlace := ["internal/bytealg.IndexByteString", "internal/bytealg.IndexString", "internal/abi.NoEscape", "internal/bytealg.MakeNoZero"], unfollowed := true, recurses := true, named := ["internal/strconv.uint64pow10", "math/bits.deBruijn32tab", "math/bits.deBruijn64tab", "internal/bytealg.MaxLen"], apart := false, laid := [("math/bits.deBruijn32tab", laid_math_bits_deBruijn32tab), ("math/bits.deBruijn64tab", laid_math_bits_deBruijn64tab), ("internal/strconv.uint64pow10", laid_internal_strconv_uint64pow10)], narrowed := true }
def PasteFocusUptoSaid : Prop := pasteFocusUptoRow.holds Tryd.pinned (OpenSpec.upto pasteFocusSpec)

end Rows
end Go.Proofs.YtcglbfpmcpammaaDoor
