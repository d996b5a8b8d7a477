/-
  sync.Once.Do, as the contracts want it.
-/
import Derived.Test.YtepdlgehceipjaaGreatInOnceA
import Derived.Test.YtepdlgehceipjaaGreatSkC
set_option linter.unusedSimpArgs false
set_option linter.unusedVariables false
namespace Go.Proofs.YtepdlgehceipjaaGreat
open Go Go.Sh Go.Proofs
theorem on_do_raw : OnceDo Tryz.prog 254 255:=fun b off pl w R=>on_do b off pl w R
end Go.Proofs.YtepdlgehceipjaaGreat
