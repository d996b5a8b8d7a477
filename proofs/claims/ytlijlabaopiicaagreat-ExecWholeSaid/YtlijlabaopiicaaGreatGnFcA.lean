/-
  What a row asks of the program alone.
-/
import Derived.Test.YtlijlabaopiicaaGreatRows
import Derived.JoinedOf
import Derived.KernelRfl
set_option linter.unusedSimpArgs false
set_option linter.unusedVariables false
namespace Go.Proofs.YtlijlabaopiicaaGreat
open Go
theorem fc_25 : (Tryz.prog.mayEnter : Bool) = true := by kernel_rfl
end Go.Proofs.YtlijlabaopiicaaGreat
