/-
  The shapes of types, and the values of a shape.
-/
import Derived.Below
import Derived.Deep.Quiet
import Derived.KernelRfl
set_option linter.unusedSimpArgs false
set_option linter.unusedVariables false
namespace Go.Sh
open Go

/-- The shapes of types. -/
inductive TD where
  | int (k : IntKind)
  | bool
  | str
  | st (l : List TD)
  | ints (n : Nat) (k : IntKind)
  | sl (e : TD)

mutual
def TD.size : TD → Nat
  | .int _ => 1
  | .bool => 1
  | .str => 1
  | .st l => tdSizes l
  | .ints n _ => n
  | .sl _ => 1
def tdSizes : List TD → Nat
  | [] => 0
  | d :: l => d.size + tdSizes l
end

mutual
/-- The values of a shape. -/
def TD.Val : TD → Type
  | .int _ => Int
  | .bool => Bool
  | .str => ByteArray
  | .st l => tdVals l
  | .ints _ _ => Nat → Int
  | .sl e => Bool × Addr × Nat × Nat × (Nat → e.Val)
def tdVals : List TD → Type
  | [] => Unit
  | d :: l => d.Val × tdVals l
end
mutual
def TD.dflt : (d : TD) → d.Val
  | .int _ => (0 : Int)
  | .bool => false
  | .str => ByteArray.empty
  | .st l => tdDflt l
  | .ints _ _ => fun _ => (0 : Int)
  | .sl e => (true, ⟨0, 0, none⟩, 0, 0, fun _ => e.dflt)
def tdDflt : (l : List TD) → tdVals l
  | [] => ()
  | d :: l => (d.dflt, tdDflt l)
end
end Go.Sh
