/- The modes as plain data, and what the functions of layer 6 compute: plain Lean, no program. No condition. -/
import Derived.WalkKit
namespace Go.Proofs.Ytllloedhlcdbjaa
set_option linter.unusedVariables false
set_option linter.unusedSimpArgs false
open Go

structure Md where
  cursor : Bool
  keypad : Bool
  back : Bool
  focus : Bool
  paste : Bool
  lock : Bool
  line : Bool
  mouse : Int
  coding : Int
  other : Int
deriving DecidableEq

abbrev Md.v (m : Md) : Value := .agg #[.bool m.cursor, .bool m.keypad, .bool m.back, .bool m.focus, .bool m.paste, .bool m.lock, .bool m.line, .int .i64 m.mouse, .int .i64 m.coding, .int .i64 m.other]

abbrev Md.cs (m : Md) : Array Value := #[.bool m.cursor, .bool m.keypad, .bool m.back, .bool m.focus, .bool m.paste, .bool m.lock, .bool m.line, .int .i64 m.mouse, .int .i64 m.coding, .int .i64 m.other]
def Md.zero : Md := ⟨false, false, false, false, false, false, false, 0, 0, 0⟩
def isMouse (n : Int) : Bool := n == 9 || (n == 1000 || (n == 1002 || n == 1003))
def isCoding (n : Int) : Bool := n == 1005 || (n == 1006 || n == 1015)
def mayM (m : Md) : Bool := (m.mouse == 0 || isMouse m.mouse) && ((m.coding == 0 || isCoding m.coding) && (m.other == 0 || (m.other == 1 || m.other == 2)))

def oneM (was n : Int) (on : Bool) : Int := if on then n else if was = n then 0 else was

/-- the place of a field that is true or false -/
def flagIx (p : Bool) (n : Int) : Option Nat :=
  if p then (if n = 1 then some 0 else if n = 66 then some 1 else if n = 67 then some 2 else if n = 1004 then some 3 else if n = 2004 then some 4 else none)
  else (if n = 2 then some 5 else if n = 20 then some 6 else none)
/-- the place of a field that is a number -/
def choiceIx (p : Bool) (n : Int) : Option Nat :=
  if p then (if isMouse n then some 7 else if isCoding n then some 8 else none) else none

def setFlag (m : Md) (i : Nat) (on : Bool) : Md :=
  match i with
  | 0 => { m with cursor := on }
  | 1 => { m with keypad := on }
  | 2 => { m with back := on }
  | 3 => { m with focus := on }
  | 4 => { m with paste := on }
  | 5 => { m with lock := on }
  | 6 => { m with line := on }
  | _ => m
def setChoice (m : Md) (i : Nat) (n : Int) (on : Bool) : Md :=
  match i with
  | 7 => { m with mouse := oneM m.mouse n on }
  | 8 => { m with coding := oneM m.coding n on }
  | _ => m

def setM (m : Md) (p : Bool) (n : Int) (on : Bool) : Md × Bool :=
  match flagIx p n with
  | some i => (setFlag m i on, true)
  | none => match choiceIx p n with
    | some i => (setChoice m i n on, true)
    | none => (m, false)

def fixedM (p : Bool) (n : Int) : Int := if p then (if n = 7 then 3 else if n = 25 then 3 else 0) else (if n = 4 then 4 else if n = 12 then 4 else 0)
def getM (m : Md) (p : Bool) (n : Int) : Int :=
  if (setM m p n true).2 then (if (setM m p n true).1 = m then 1 else 2) else fixedM p n

end Go.Proofs.Ytllloedhlcdbjaa
