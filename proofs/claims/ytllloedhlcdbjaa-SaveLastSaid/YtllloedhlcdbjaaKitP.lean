/- A pointer to a field of a block. No condition. -/
import Derived.Test.YtllloedhlcdbjaaProg
namespace Go.Proofs.Ytllloedhlcdbjaa
/-- a pointer to field i of the block b -/
def ptrAt (b : Nat) (i : Option Nat) : Value := .pointer (i.map fun i => ⟨b, i, none⟩)
end Go.Proofs.Ytllloedhlcdbjaa
