/-
  The document's words: the contracts.
-/
import Derived.Test.YtepdlgehceipjaaGreatInS19
import Derived.Test.YtepdlgehceipjaaGreatInT19
import Derived.Test.YtepdlgehceipjaaGreatSpS19t
set_option linter.unusedSimpArgs false
set_option linter.unusedVariables false
namespace Go.Proofs.YtepdlgehceipjaaGreat
open Go Go.Sh Go.Proofs
set_option linter.unusedVariables false
theorem d_z1p {α:Type} {I:Imm}:OrcOk (α:=α) Tryz.prog I 115 (.pure (ad_z1p s_ref3_Parts)):=mk_z1p 
theorem d_z1m {α:Type} {I:Imm}:OrcOk (α:=α) Tryz.prog I 116 (.pure (ad_z1m s_ref3_reg)):=mk_z1m 
theorem d_z10 {α:Type} {I:Imm}:OrcOk (α:=α) Tryz.prog I 178 (.pure (ad_z10 s_ref3_within)):=mk_z10 
theorem d_z1n {α:Type} {I:Imm}:OrcOk (α:=α) Tryz.prog I 117 (.pure (ad_z1n s_ref3_number)):=mk_z1n (h_z10:=d_z10)
theorem d_z22 {α:Type} {I:Imm}:OrcOk (α:=α) Tryz.prog I 71 (.pure (ad_z22 s_ref3_Is)):=mk_z22 (h_z1p:=d_z1p) (h_z1m:=d_z1m) (h_z1n:=d_z1n)
theorem d_z1z {α:Type} {I:Imm}:OrcOk (α:=α) Tryz.prog I 72 (.pure (ad_z1z s_ref3_fixed)):=mk_z1z 
theorem d_zn {α:Type} {I:Imm}:OrcOk (α:=α) Tryz.prog I 73 (.pure (ad_zn s_ref3_Code)):=mk_zn 
theorem d_zf {α:Type} {I:Imm}:OrcOk (α:=α) Tryz.prog I 37 (.pure (ad_zf s_ref3_Encode)):=mk_zf (h_z22:=d_z22) (h_z1z:=d_z1z) (h_zn:=d_zn)
theorem d_zc {α:Type} {I:Imm}:OrcOk (α:=α) Tryz.prog I 36 (.full (ad_zc s_ref1_Mem_Write)):=mk_zc 
end Go.Proofs.YtepdlgehceipjaaGreat
