/-
  IsaTimes: the contract.
-/
import Derived.Test.YtepdlgehceipjaaGreatInS19t
import Derived.Test.YtepdlgehceipjaaGreatSpT19b
set_option linter.unusedSimpArgs false
set_option linter.unusedVariables false
namespace Go.Proofs.YtepdlgehceipjaaGreat
open Go Go.Sh Go.Proofs
theorem d_z33 {α:Type} {I:Imm}:OrcOk (α:=α) Tryz.prog I 5 (.pure (ad_z33 (p_z33 s_law19_known s_ref3_Encode sMWr s_ref1_Mem_Write s_isa_Clean s_ref18_Clean sBWr s_isa_Machine_Step sLT))):=
  mk_z33 (h_z26:=c_z26) (h_ref1_New:=c_z3n) (h_zg:=d_zg) (h_zf:=d_zf) (h_z8:=d_z8) (h_zc:=d_zc) (h_z6:=d_z6) (h_ze:=d_ze) (h_z7:=d_z7) (h_z4:=d_z4) (h_L_law19_IsaTimes_11:=snd_za (h_z4:=d_z4) lokT)
def sTimes {α:Type}:Sg_z33 α:=fun n _ k=>cond (decide (0≤n) && decide (n < 256)) (k true) none
theorem timesT (n:Int) (b:Bool) (h1:0≤n∧n≤255):(ad_z33 sTimes) [.int .u8 n,.bool b] (fun x=>some x)=some (.bool true):=by
  have h2:(decide (0≤n) && decide (n < 256))=true:=by
    simp only [Bool.and_eq_true,decide_eq_true_eq]; omega
  show cond (decide (0≤n) && decide (n < 256)) (some (SV.bool true)) none=_
  rw [h2]; rfl
theorem c_z9b {α:Type} {I:Imm}:OrcOk (α:=α) Tryz.prog I 5 (.pure (ad_z33 sTimes)):=orc_le d_z33 fun args k r hk=>le_z33 (fun x0 x1 k r h=>by
  unfold sTimes at h
  obtain ⟨h1,h2⟩:=bif_some h
  simp only [Bool.and_eq_true,decide_eq_true_eq] at h1
  rw [times_eq x0 h1]; exact h2) hk
end Go.Proofs.YtepdlgehceipjaaGreat
