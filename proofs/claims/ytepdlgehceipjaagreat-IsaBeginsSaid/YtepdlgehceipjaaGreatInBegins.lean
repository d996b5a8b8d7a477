/-
  IsaBegins: the contract.
-/
import Derived.Test.YtepdlgehceipjaaGreatInS19
import Derived.Test.YtepdlgehceipjaaGreatSpI19a
set_option linter.unusedSimpArgs false
set_option linter.unusedVariables false
namespace Go.Proofs.YtepdlgehceipjaaGreat
open Go Go.Sh Go.Proofs
def sBegins {α:Type}:Sg_z2s α:=fun _ k=>k true
theorem c_z6j {α:Type} {I:Imm}:OrcOk (α:=α) Tryz.prog I 3 (.pure (ad_z2s sBegins)):=orc_le d_z2s fun args k r hk=>le_z2s (fun x0 k r h=>by rw [begins]; exact h) hk
end Go.Proofs.YtepdlgehceipjaaGreat
