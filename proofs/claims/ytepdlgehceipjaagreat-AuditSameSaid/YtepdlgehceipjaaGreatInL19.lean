/-
  The law IsaBegins (printed by wip/pr/pr.py): the functions come to just that.
-/
import Derived.Test.YtepdlgehceipjaaGreatInW19
import Derived.Test.YtepdlgehceipjaaGreatSpL19
namespace Go.Proofs.YtepdlgehceipjaaGreat
open Go Go.Sh Go.Proofs
set_option linter.unusedVariables false
set_option linter.unusedSimpArgs false
theorem pe_41 : TyOk Tryz.prog 41 ⟨.nils,1,24,.sc (.slice 47),none⟩:=⟨fun _=>by kernel_rfl,⟨rfl,rfl,fun _ _=>by simp [Wf,Wfs]⟩,⟨Tryz.underlying41,rfl⟩,fun _ h=>by cases h⟩
end Go.Proofs.YtepdlgehceipjaaGreat
