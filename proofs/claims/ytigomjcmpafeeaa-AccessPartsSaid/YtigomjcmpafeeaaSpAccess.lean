/-
  What the functions of Access come to, told without the program.
-/
import Derived.Test.YtigomjcmpafeeaaSpTwo
set_option linter.unusedSimpArgs false
set_option linter.unusedVariables false
namespace Go.Sh
open Go
set_option linter.unusedSimpArgs false
def causeF {α : Type} : FP α := fun args k => match args with
  | [.int .i64 kind, .ints .u64 3 cs] => k (.int .u64 (cs (k2 kind)))
  | _ => none
def alignS (at_ n kind : Int) (v : Bool) : Fault × Bool :=
  bif (n != 1) && ((n != 2) && ((n != 4) && (n != 8))) then (accessS at_ kind v, false) else
  bif at_.tmod (IntKind.u64.wrap n) != 0 then (⟨c3 0 4 6 kind, at_, 0, v⟩, false) else (noFault, true)
def alignF {α : Type} : FP α := fun args k => match args with
  | [.int .u64 at_, .int .i64 n, .int .i64 kind, .bool v] => k (.tuple [(alignS at_ n kind v).1.sv, .bool (alignS at_ n kind v).2])
  | _ => none
def accessF2 {α : Type} : FP α := fun args k => match args with
  | [.int .u64 at_, .int .i64 kind, .bool v] => k (accessS at_ kind v).sv
  | _ => none
end Go.Sh
