/-
  The law IsaBegins (printed by wip/pr/pr.py): what the functions come to, told without the program.
-/
import Derived.Test.YtepdlgehceipjaaGreatSpW19
set_option linter.unusedSimpArgs false
set_option linter.unusedVariables false
namespace Go.Sh
open Go
set_option linter.unusedVariables false
end Go.Sh
