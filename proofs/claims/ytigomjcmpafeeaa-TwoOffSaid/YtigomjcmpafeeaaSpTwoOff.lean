/-
  What the functions of TwoOff come to, told without the program.
-/
import Derived.Test.YtigomjcmpafeeaaSpTwo
namespace Go.Sh
open Go
set_option linter.unusedSimpArgs false
def twoOffF {α : Type} : FP α := fun args k => match args with
  | [.agg [.ints .u64 32 _, .int .u64 _, .int .i64 _, .bool _, .ints .u64 29 _, .int .u64 _], .int .u64 _, .int .u8 _] => k (.bool true)
  | _ => none
end Go.Sh
