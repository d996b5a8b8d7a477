/-
  Partitions: ConfigTells' contracts.
-/
import Derived.Test.YtgagmgcljkhboaaFnC24b
import Derived.Test.YtgagmgcljkhboaaFnC24t
import Derived.Test.YtgagmgcljkhboaaSpC24g
set_option linter.unusedSimpArgs false
set_option linter.unusedVariables false
namespace Go.Proofs.Ytgagmgcljkhboaa
open Go Go.Sh Go.Proofs
theorem d_ref26_isFrame {α : Type} {I : Imm} : OrcOk (α := α) Try.prog I 18 (.pure (ad_ref26_isFrame sIsF)) := by
  refine orc_le mk_ref26_isFrame fun args k r hk => le_ref26_isFrame (fun a k r h => ?_) hk
  rw [isF_eq]; exact h
theorem d_ref26_in {α : Type} {I : Imm} : OrcOk (α := α) Try.prog I 19 (.pure (ad_ref26_in sIn)) := by
  refine orc_le (mk_ref26_in (L_ref26_in_2 := sLIn) (h_L_ref26_in_2 := snd_ref26_in_2 lokIn)) fun args k r hk => le_ref26_in (fun T x k r h => ?_) hk
  unfold sIn at h
  split at h
  · rename_i hT
    rw [in_eq hT]; exact h
  · cases h
theorem d_ref26_frames {α : Type} {I : Imm} : OrcOk (α := α) Try.prog I 17 (.pure (ad_ref26_frames sFr26)) := by
  refine orc_le (mk_ref26_frames (L_ref26_frames_3 := sLF3) (h_L_ref26_frames_3 := snd_ref26_frames_3 (h_ref26_isFrame := d_ref26_isFrame) (h_ref26_in := d_ref26_in) (h_L_ref26_frames_8 := snd_ref26_frames_8 d_ref26_in lokF8) lokF3)) fun args k r hk => le_ref26_frames (fun c i k r h => ?_) hk
  unfold sFr26 at h
  split at h
  · rename_i hc
    obtain ⟨hc, n, rfl, hn⟩ := hc
    rw [Int.toNat_natCast] at h
    rw [fr26_eq hc hn]; exact h
  · cases h
theorem d_ref26_Window {α : Type} {I : Imm} : OrcOk (α := α) Try.prog I 20 (.pure (ad_ref26_Window sWin26)) := by
  refine orc_le mk_ref26_Window fun args k r hk => le_ref26_Window (fun g k r h => ?_) hk
  rw [win26_eq]; exact h
theorem d_ref26_Check {α : Type} {I : Imm} : OrcOk (α := α) Try.prog I 10 (.pure (ad_ref26_Check sCheck26)) := by
  refine orc_le (mk_ref26_Check (L_ref26_Check_5 := sLK5) (L_ref26_Check_12 := sLK12) (L_ref26_Check_17 := sLK17) (L_ref26_Check_22 := sLK22) (h_L_ref26_Check_5 := snd_ref26_Check_5 lokK5) (h_L_ref26_Check_12 := snd_ref26_Check_12 d_ref26_frames lokK12) (h_L_ref26_Check_17 := snd_ref26_Check_17 (h_ref26_isFrame := d_ref26_isFrame) (h_ref26_in := d_ref26_in) lokK17) (h_L_ref26_Check_22 := snd_ref26_Check_22 d_ref26_Window lokK22)) fun args k r hk => le_ref26_Check (fun c k r h => ?_) hk
  unfold sCheck26 at h
  split at h
  · rename_i hc
    rw [check26_eq hc]; exact h
  · cases h
theorem d_slices_IndexFuncGuests {α : Type} {I : Imm} : OrcOk (α := α) Try.prog I 21 (.full (ad_slices_IndexFuncGuests sIxF)) := by
  refine orc_leF (mk_slices_IndexFuncGuests (L_slices_IndexFuncGuests_2 := sLOw) (h_L_slices_IndexFuncGuests_2 := snd_slices_IndexFuncGuests_2 d_slices_ContainsInts lokOw)) fun args σ k r hk => le_slices_IndexFuncGuests (fun G x k r h => ?_) hk
  unfold sIxF at h
  split at h
  · rename_i hc
    rw [ixF_eq hc]; exact h
  · cases h
theorem d_config_Owner {α : Type} {I : Imm} : OrcOk (α := α) Try.prog I 12 (.pure (ad_config_Owner sOwner)) := by
  refine orc_le (mk_config_Owner d_slices_IndexFuncGuests) fun args k r hk => le_config_Owner (fun c x k r h => ?_) hk
  unfold sOwner at h
  split at h
  · rename_i hc
    rw [owner_eq hc]; exact h
  · cases h
theorem c_sallyportlaw24_ConfigTells {α : Type} {I : Imm} : OrcOk (α := α) Try.prog I 3 (.pure (ad_law24_ConfigTells sTellsC)) := by
  refine orc_le (mk_law24_ConfigTells (h_law24_known := d_law24_known) (h_law24_few := d_law24_few) (h_config_Check := d_config_Check) (h_ref26_Check := d_ref26_Check) (h_config_Owner := d_config_Owner) (L_law24_ConfigTells_9 := sLT9) (h_L_law24_ConfigTells_9 := snd_law24_ConfigTells_9 (h_config_Window := d_config_Window) (h_L_law24_ConfigTells_12 := snd_law24_ConfigTells_12 lokT12) lokT9)) fun args k r hk => le_law24_ConfigTells (fun c x k r h => ?_) hk
  unfold sTellsC at h
  split at h
  · rename_i hc
    rw [tellsC_eq hc]; exact h
  · cases h
end Go.Proofs.Ytgagmgcljkhboaa
