/-
  ExecWhole: the contract.
-/
import Derived.Test.YtlijlabaopiicaaGreatXnS18w
import Derived.Test.YtlijlabaopiicaaGreatXnWL18
import Derived.Test.YtlijlabaopiicaaGreatSpT18c
set_option linter.unusedSimpArgs false
set_option linter.unusedVariables false
namespace Go.Proofs.YtlijlabaopiicaaGreat
open Go Go.Sh Go.Proofs
set_option linter.unusedVariables false
theorem d_ref1_CodeB {α : Type} {I : Imm} : OrcOk (α := α) Tryz.prog I 35 (.full (ad_z1y sRCodeB)) := by
  refine orc_leF mk_z1y fun args σ k r hk => le_z1y (fun f a n k r h => ?_) hk
  unfold sRCodeB at h
  obtain ⟨h1, h2⟩ := bif_some h
  simp only [Bool.and_eq_true, decide_eq_true_eq] at h1
  rw [rCode_eq h1]; exact h2
theorem d_ref1_WriteB {α : Type} {I : Imm} : OrcOk (α := α) Tryz.prog I 37 (.full (ad_z1p sRWriteB)) := by
  refine orc_leF mk_z1p fun args σ k r hk => le_z1p (fun f a n v k r h => ?_) hk
  unfold sRWriteB at h
  obtain ⟨h1, h2⟩ := bif_some h
  simp only [Bool.and_eq_true, decide_eq_true_eq] at h1
  rw [rWrite_eq h1.1 ⟨h1.2.1, h1.2.2.1⟩ h1.2.2.2]; exact h2
theorem d_z1q {α : Type} {I : Imm} : OrcOk (α := α) Tryz.prog I 15 (.full (ad_z1q sBoth18)) := by
  refine mk_z1q (h_z1n := c_z1n) (h_ref1_New := c_z3w) (h_L_law18_both_3 := (snd_z9 d_ref1_CodeB d_z1m d_ref1_WriteB loopOk_both)) (F := sBoth18) fun x0 k r h => ?_
  unfold sBoth18 at h
  obtain ⟨h1, h2⟩ := grd_some h
  rw [both18_eq h1.1 h1.2]
  exact h2
theorem d_z2z {α : Type} {I : Imm} : OrcOk (α := α) Tryz.prog I 6 (.pure (ad_z2z sWhole18)) := by
  refine orc_le (mk_z2z (h_z2y := d_z2y) (h_z2x := d_z2x) (h_z1q := d_z1q) (h_z2u := d_z2u) (h_z2g := d_z2g) (h_z5 := d_z5) (h_L_law18_ExecWhole_14 := (snd_zj loopOk_w))) fun args k r hk => le_z2z (fun x0 x1 x2 k r h => ?_) hk
  unfold sWhole18 at h
  obtain ⟨h1, h2⟩ := gX_some h
  rw [whole_eq h1]
  exact h2
theorem w64_le {a : Int} (h : 0 ≤ a ∧ a ≤ 18446744073709551615) : W64 a := ⟨h.1, by omega⟩
theorem c_zbr {α : Type} {I : Imm} : OrcOk (α := α) Tryz.prog I 6 (.pure (ad_z2z sWhole18)) := d_z2z
end Go.Proofs.YtlijlabaopiicaaGreat
