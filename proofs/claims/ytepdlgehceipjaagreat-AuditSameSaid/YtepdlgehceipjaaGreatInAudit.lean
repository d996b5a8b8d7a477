/-
  AuditSame: the contract.
-/
import Derived.Test.YtepdlgehceipjaaGreatInL23
import Derived.Test.YtepdlgehceipjaaGreatInK23
import Derived.Test.YtepdlgehceipjaaGreatSpL23b
set_option linter.unusedSimpArgs false
set_option linter.unusedVariables false
namespace Go.Proofs.YtepdlgehceipjaaGreat
open Go Go.Sh Go.Proofs
theorem d_z1g {α:Type} {I:Imm}:OrcOk (α:=α) Tryz.prog I 25 (.pure (ad_z1g (fun k=>k true))):=orc_le K23.c_z33 fun args k r hk=>by
  unfold ad_z1g at hk
  split at hk<;>try (cases hk; done)
  exact hk
theorem d_zs {α:Type} {I:Imm}:OrcOk (α:=α) Tryz.prog I 26 (.pure (ad_zs (p_zs sLS))):=mk_zs (h_L_audit_Same_3:=snd_z8 lokS)
theorem d_z1f {α:Type} {I:Imm}:OrcOk (α:=α) Tryz.prog I 7 (.pure (ad_z1f (p_z1f (fun k=>k true) (p_zs sLS) sLA))):=
  mk_z1f (h_z1g:=d_z1g) (h_zs:=d_zs) (h_L_law23_AuditSame_7:=snd_za lokA)
def sAudit {α:Type}:Sg_z1f α:=fun _ _ k=>k true
theorem c_z5q {α:Type} {I:Imm}:OrcOk (α:=α) Tryz.prog I 7 (.pure (ad_z1f sAudit)):=orc_le d_z1f fun args k r hk=>le_z1f (fun x0 x1 k r h=>by
  rw [audit_eq]; exact h) hk
end Go.Proofs.YtepdlgehceipjaaGreat
