/-
  The document's words: the contracts.
-/
import Derived.Test.YtepdlgehceipjaaGreatInS19
import Derived.Test.YtepdlgehceipjaaGreatInT19
import Derived.Test.YtepdlgehceipjaaGreatSpS19t
set_option linter.unusedSimpArgs false
set_option linter.unusedVariables false
namespace Go.Proofs.YtepdlgehceipjaaGreat
open Go Go.Sh Go.Proofs
set_option linter.unusedVariables false
theorem d_z1o {α:Type} {I:Imm}:OrcOk (α:=α) Tryz.prog I 115 (.pure (ad_z1o s_ref3_Parts)):=mk_z1o 
theorem d_z1l {α:Type} {I:Imm}:OrcOk (α:=α) Tryz.prog I 116 (.pure (ad_z1l s_ref3_reg)):=mk_z1l 
theorem d_zy {α:Type} {I:Imm}:OrcOk (α:=α) Tryz.prog I 178 (.pure (ad_zy s_ref3_within)):=mk_zy 
theorem d_z1m {α:Type} {I:Imm}:OrcOk (α:=α) Tryz.prog I 117 (.pure (ad_z1m s_ref3_number)):=mk_z1m (h_zy:=d_zy)
theorem d_z21 {α:Type} {I:Imm}:OrcOk (α:=α) Tryz.prog I 71 (.pure (ad_z21 s_ref3_Is)):=mk_z21 (h_z1o:=d_z1o) (h_z1l:=d_z1l) (h_z1m:=d_z1m)
theorem d_z1y {α:Type} {I:Imm}:OrcOk (α:=α) Tryz.prog I 72 (.pure (ad_z1y s_ref3_fixed)):=mk_z1y 
theorem d_zl {α:Type} {I:Imm}:OrcOk (α:=α) Tryz.prog I 73 (.pure (ad_zl s_ref3_Code)):=mk_zl 
theorem d_zc {α:Type} {I:Imm}:OrcOk (α:=α) Tryz.prog I 37 (.pure (ad_zc s_ref3_Encode)):=mk_zc (h_z21:=d_z21) (h_z1y:=d_z1y) (h_zl:=d_zl)
theorem d_za {α:Type} {I:Imm}:OrcOk (α:=α) Tryz.prog I 36 (.full (ad_za s_ref1_Mem_Write)):=mk_za 
end Go.Proofs.YtepdlgehceipjaaGreat
