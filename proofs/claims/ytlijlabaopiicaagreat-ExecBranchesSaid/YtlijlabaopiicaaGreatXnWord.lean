/-
  Contracts: Word.
-/
import Derived.Test.YtlijlabaopiicaaGreatProg
import Derived.Test.YtlijlabaopiicaaGreatSpWord
set_option linter.unusedSimpArgs false
set_option linter.unusedVariables false
namespace Go.Proofs.YtlijlabaopiicaaGreat
open Go Go.Sh Go.Proofs
set_option linter.unusedSimpArgs false
end Go.Proofs.YtlijlabaopiicaaGreat
