/-
  What makes an entry of a table.
-/
import Derived.Test.YtodnffhcbhlifaaGreatSpPte
set_option linter.unusedSimpArgs false
set_option linter.unusedVariables false
namespace Go.Sh
open Go
def makeS (frame b:Int):Int:=setS (zextS (IntKind.u64.wrap b) 8) 8 8 (IntKind.u64.wrap frame)
def makeF {α:Type}:FP α:=fun args k=>match args with
  | [.int .i64 frame,.int .i64 b]=>k (.int .u64 (makeS frame b))
  | _=>none
end Go.Sh
