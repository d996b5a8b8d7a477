/-
  sync.Once.Do, as the contracts want it.
-/
import Derived.Test.YtodnffhcbhlifaaGreatVnOnceA
import Derived.Test.YtodnffhcbhlifaaGreatSkC
set_option linter.unusedSimpArgs false
set_option linter.unusedVariables false
namespace Go.Proofs.YtodnffhcbhlifaaGreat
open Go Go.Sh Go.Proofs
theorem on_do_raw : OnceDo Tryz.prog 183 184:=fun b off pl w R=>on_do b off pl w R
end Go.Proofs.YtodnffhcbhlifaaGreat
