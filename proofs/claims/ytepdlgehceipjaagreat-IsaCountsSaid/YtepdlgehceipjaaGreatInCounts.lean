/-
  IsaCounts: the contract.
-/
import Derived.Test.YtepdlgehceipjaaGreatInS19t
import Derived.Test.YtepdlgehceipjaaGreatInC19
import Derived.Test.YtepdlgehceipjaaGreatSpC19c
set_option linter.unusedSimpArgs false
set_option linter.unusedVariables false
namespace Go.Proofs.YtepdlgehceipjaaGreat
open Go Go.Sh Go.Proofs
theorem d_z32 {α:Type} {I:Imm}:OrcOk (α:=α) Tryz.prog I 4 (.pure (ad_z32 (p_z32 s_law19_known s_ref3_Encode sMWr s_ref1_Mem_Write s_isa_Clean s_ref18_Clean s_isa_Machine_Step))):=
  mk_z32 (h_ze:=d_ze) (h_z25:=c_z25) (h_ref1_New:=c_z3m) (h_zc:=d_zc) (h_z7:=d_z7) (h_za:=d_za) (h_z6:=d_z6) (h_zd:=d_zd) (h_z1:=d_z1)
def sCounts {α:Type}:Sg_z32 α:=fun n k=>cond (decide (0≤n) && decide (n < 256)) (k true) none
theorem countsT (n:Int) (h1:0≤n∧n≤255):(ad_z32 sCounts) [.int .u8 n] (fun x=>some x)=some (.bool true):=by
  have h2:(decide (0≤n) && decide (n < 256))=true:=by
    simp only [Bool.and_eq_true,decide_eq_true_eq]; omega
  show cond (decide (0≤n) && decide (n < 256)) (some (SV.bool true)) none=_
  rw [h2]; rfl
theorem c_z98 {α:Type} {I:Imm}:OrcOk (α:=α) Tryz.prog I 4 (.pure (ad_z32 sCounts)):=orc_le d_z32 fun args k r hk=>le_z32 (fun x0 k r h=>by
  unfold sCounts at h
  obtain ⟨h1,h2⟩:=bif_some h
  simp only [Bool.and_eq_true,decide_eq_true_eq] at h1
  rw [counts_eq x0 h1]; exact h2) hk
end Go.Proofs.YtepdlgehceipjaaGreat
