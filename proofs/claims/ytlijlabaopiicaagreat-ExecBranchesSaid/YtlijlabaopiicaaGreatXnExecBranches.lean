/-
  ExecBranches: the contract.
-/
import Derived.Test.YtlijlabaopiicaaGreatXnS18
import Derived.Test.YtlijlabaopiicaaGreatXnL18
import Derived.Test.YtlijlabaopiicaaGreatSpE18h
set_option linter.unusedSimpArgs false
set_option linter.unusedVariables false
namespace Go.Proofs.YtlijlabaopiicaaGreat
open Go Go.Sh Go.Proofs
set_option linter.unusedVariables false
theorem c_z8d {α : Type} {I : Imm} : OrcOk (α := α) Tryz.prog I 5 (.pure (ad_z2a sBranches)) := by
  refine orc_le (mk_z2a (h_z19 := d_z19) (h_z14 := d_z14) (h_z1a := c_z1a) (h_z3 := d_z3)) fun args k r hk => le_z2a (fun x0 x1 x2 x3 k r h => ?_) hk
  unfold sBranches at h
  obtain ⟨h1, h2⟩ := gX_some h
  rw [branches_eq h1]
  exact h2
end Go.Proofs.YtlijlabaopiicaaGreat
