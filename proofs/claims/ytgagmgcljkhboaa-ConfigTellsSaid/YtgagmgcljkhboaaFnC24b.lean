/-
  Partitions: the contracts.
-/
import Derived.Test.YtgagmgcljkhboaaFnC24
import Derived.Test.YtgagmgcljkhboaaFnKnown24
import Derived.Test.YtgagmgcljkhboaaSpC24e
set_option linter.unusedSimpArgs false
set_option linter.unusedVariables false
namespace Go.Proofs.Ytgagmgcljkhboaa
open Go Go.Sh Go.Proofs
theorem d_law24_known {α : Type} {I : Imm} : OrcOk (α := α) Try.prog I 7 (.pure (ad_law24_known sKnown24)) := by
  refine orc_le c_sallyportlaw24_known fun args k r hk => ?_
  unfold ad_law24_known at hk
  split at hk <;> try (cases hk; done)
  unfold sKnown24 at hk
  unfold trueF
  exact hk
theorem d_slices_IndexInts {α : Type} {I : Imm} : OrcOk (α := α) Try.prog I 27 (.pure (ad_slices_IndexInts sIx)) := mk_slices_IndexInts (L_slices_IndexInts_2 := sLIx) (h_L_slices_IndexInts_2 := snd_slices_IndexInts_2 lokIx)
theorem d_slices_ContainsInts {α : Type} {I : Imm} : OrcOk (α := α) Try.prog I 23 (.pure (ad_slices_ContainsInts sHas)) := by
  refine orc_le (mk_slices_ContainsInts d_slices_IndexInts) fun args k r hk => le_slices_ContainsInts (fun T x k r h => ?_) hk
  unfold sHas at h
  split at h
  · rename_i hT
    rw [contains_eq hT]; exact h
  · cases h
theorem d_config_within {α : Type} {I : Imm} : OrcOk (α := α) Try.prog I 15 (.pure (ad_config_within sWithin)) := by
  refine orc_le mk_config_within fun args k r hk => le_config_within (fun a lo hi k r h => ?_) hk
  rw [within_eq]; exact h
theorem d_config_Window {α : Type} {I : Imm} : OrcOk (α := α) Try.prog I 11 (.pure (ad_config_Window sWin)) := mk_config_Window
theorem d_config_frames {α : Type} {I : Imm} : OrcOk (α := α) Try.prog I 16 (.pure (ad_config_frames sFrames)) := by
  refine orc_le (mk_config_frames (L_config_frames_4 := sL4) (L_config_frames_15 := sL15) (h_L_config_frames_4 := snd_config_frames_4 (h_L_config_frames_7 := snd_config_frames_7 d_slices_ContainsInts d_config_within lok7) lok4) (h_L_config_frames_15 := snd_config_frames_15 d_config_within lok15)) fun args k r hk => le_config_frames (fun c k r h => ?_) hk
  unfold sFrames at h
  split at h
  · rename_i hc
    rw [frames_eq hc]; exact h
  · cases h
theorem d_config_Check {α : Type} {I : Imm} : OrcOk (α := α) Try.prog I 9 (.pure (ad_config_Check sCheck)) := by
  refine orc_le (mk_config_Check (h_config_within := d_config_within) (h_config_frames := d_config_frames) (L_config_Check_4 := sLC4) (L_config_Check_15 := sLC15) (h_L_config_Check_4 := snd_config_Check_4 d_config_within lokC4) (h_L_config_Check_15 := snd_config_Check_15 d_config_Window lokC15)) fun args k r hk => le_config_Check (fun c k r h => ?_) hk
  unfold sCheck at h
  split at h
  · rename_i hc
    rw [check_eq hc]; exact h
  · cases h
theorem d_law24_few {α : Type} {I : Imm} : OrcOk (α := α) Try.prog I 8 (.pure (ad_law24_few sFew24)) := by
  refine orc_le (mk_law24_few (L_law24_few_2 := sLF) (h_L_law24_few_2 := snd_law24_few_2 lokF)) fun args k r hk => le_law24_few (fun c k r h => ?_) hk
  unfold sFew24 at h
  split at h
  · rename_i hc
    rw [few_eq hc]; exact h
  · cases h
theorem c_sallyportlaw24_ConfigApart {α : Type} {I : Imm} : OrcOk (α := α) Try.prog I 4 (.pure (ad_law24_ConfigApart sApart)) := by
  refine orc_le (mk_law24_ConfigApart (h_law24_known := d_law24_known) (h_law24_few := d_law24_few) (h_config_Check := d_config_Check) (L_law24_ConfigApart_10 := sLA10) (L_law24_ConfigApart_22 := sLA22) (h_L_law24_ConfigApart_10 := snd_law24_ConfigApart_10 (h_config_Window := d_config_Window) (h_L_law24_ConfigApart_13 := snd_law24_ConfigApart_13 lokA13) lokA10) (h_L_law24_ConfigApart_22 := snd_law24_ConfigApart_22 lokA22)) fun args k r hk => le_law24_ConfigApart (fun c k r h => ?_) hk
  unfold sApart at h
  split at h
  · rename_i hc
    rw [apart_eq hc]; exact h
  · cases h
end Go.Proofs.Ytgagmgcljkhboaa
