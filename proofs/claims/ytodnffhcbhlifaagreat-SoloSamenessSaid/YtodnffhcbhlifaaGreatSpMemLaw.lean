/-
  Memory, plainly: what is written is read; the rest stays. Parts of words as numbers.
-/
import Derived.Test.YtodnffhcbhlifaaGreatSpMem
set_option linter.unusedSimpArgs false
set_option linter.unusedVariables false
namespace Go.Sh
open Go
def le (g:Nat→Int):Nat→Int
  | 0=>0
  | n+ 1=>le g n+ g n * 256 ^ n
end Go.Sh
