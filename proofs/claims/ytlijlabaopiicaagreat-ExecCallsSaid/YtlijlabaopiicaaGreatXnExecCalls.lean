/-
  ExecCalls: the contract.
-/
import Derived.Test.YtlijlabaopiicaaGreatXnS18
import Derived.Test.YtlijlabaopiicaaGreatXnL18
import Derived.Test.YtlijlabaopiicaaGreatSpE18g
set_option linter.unusedSimpArgs false
set_option linter.unusedVariables false
namespace Go.Proofs.YtlijlabaopiicaaGreat
open Go Go.Sh Go.Proofs
set_option linter.unusedVariables false
theorem c_z62 {α : Type} {I : Imm} : OrcOk (α := α) Tryz.prog I 4 (.pure (ad_z25 sCalls)) := by
  refine orc_le (mk_z25 (h_z13 := d_z13) (h_z12 := d_z12) (h_z14 := c_z14) (h_z3 := d_z3)) fun args k r hk => le_z25 (fun x0 x1 x2 x3 k r h => ?_) hk
  unfold sCalls at h
  obtain ⟨h1, h2⟩ := gX_some h
  rw [calls_eq h1]
  exact h2
end Go.Proofs.YtlijlabaopiicaaGreat
