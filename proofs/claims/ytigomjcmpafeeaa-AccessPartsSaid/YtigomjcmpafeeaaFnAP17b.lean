/-
  The law AccessParts: the contracts.
-/
import Derived.Test.YtigomjcmpafeeaaFnAP17
import Derived.Test.YtigomjcmpafeeaaSpAP17d
import Derived.Test.YtigomjcmpafeeaaFnAccess
set_option linter.unusedSimpArgs false
set_option linter.unusedVariables false
namespace Go.Proofs.Ytigomjcmpafeeaa
open Go Go.Sh Go.Proofs
theorem d_access_Aligned_yes {α : Type} {I : Imm} : OrcOk (α := α) Try.prog I 78 (.pure (ad_access_Aligned_yes sAlY)) := by
  refine orc_le c_access_Aligned fun args k r hk => ?_
  unfold ad_access_Aligned_yes at hk
  split at hk <;> try (cases hk; done)
  obtain ⟨x0, rfl, hk0⟩ := decI_spec hk
  obtain ⟨x1, rfl, hk1⟩ := decI_spec hk0
  obtain ⟨x2, rfl, hk2⟩ := decI_spec hk1
  obtain ⟨x3, rfl, hk3⟩ := decB_spec hk2
  unfold sAlY at hk3
  obtain ⟨h1, h2⟩ := grd_some hk3
  unfold alignF
  dsimp only
  rw [h1]
  exact h2
theorem d_two_Translate_yes {α : Type} {I : Imm} : OrcOk (α := α) Try.prog I 19 (.full (ad_two_Translate_yes sTrY)) := by
  refine orc_leF c_two_Translate fun args σ k r hk => ?_
  unfold ad_two_Translate_yes at hk
  split at hk <;> try (cases hk; done)
  obtain ⟨b, b1, g0, g1, x0, rfl, h0, h1, hne, hk0⟩ := withMem_spec hk
  obtain ⟨x1, rfl, hk1⟩ := GState.dec_spec hk0
  obtain ⟨x2, rfl, hk2⟩ := decI_spec hk1
  obtain ⟨x3, rfl, hk3⟩ := decI_spec hk2
  obtain ⟨x4, rfl, hk4⟩ := decI_spec hk3
  obtain ⟨x5, rfl, hk5⟩ := decB_spec hk4
  unfold sTrY at hk5
  obtain ⟨q1, q2⟩ := grd_some hk5
  unfold transF
  refine (withMem_eq h0 h1 hne _).trans ?_
  unfold Trans.sv
  rw [q1]
  exact q2
theorem d_mem_Read17 {α : Type} {I : Imm} : OrcOk (α := α) Try.prog I 124 (.full (ad_mem_Memory_Read sMR)) := by
  refine orc_leF c_mem_Memory_Read fun args σ k r hk => ?_
  unfold ad_mem_Memory_Read at hk
  split at hk <;> try (cases hk; done)
  obtain ⟨b, b1, g0, g1, x0, rfl, h0, h1, hne, hk0⟩ := withMem_spec hk
  obtain ⟨x1, rfl, hk1⟩ := decI_spec hk0
  obtain ⟨x2, rfl, hk2⟩ := decI_spec hk1
  unfold sMR at hk2
  unfold readF
  exact (withMem_eq h0 h1 hne _).trans hk2
theorem d_mem_Write17 {α : Type} {I : Imm} : OrcOk (α := α) Try.prog I 31 (.full (ad_mem_Memory_Write sWriteM)) := by
  refine orc_leF c_mem_Memory_Write fun args σ k r hk => ?_
  unfold ad_mem_Memory_Write at hk
  split at hk <;> try (cases hk; done)
  obtain ⟨b, b1, g0, g1, x0, rfl, h0, h1, hne, hk0⟩ := withMem_spec hk
  obtain ⟨x1, rfl, hk1⟩ := decI_spec hk0
  obtain ⟨x2, rfl, hk2⟩ := decI_spec hk1
  obtain ⟨x3, rfl, hk3⟩ := decI_spec hk2
  unfold sWriteM at hk3
  unfold writeF
  exact (withMem_eq h0 h1 hne _).trans hk3
theorem d_bus_console {α : Type} {I : Imm} : OrcOk (α := α) Try.prog I 122 (.full (ad_bus_Bus_console_nil sConNil)) := by
  refine orc_leF mk_bus_Bus_console_nil fun args σ k r hk => le_bus_Bus_console_nil (fun f tm al x1 x2 k r h => ?_) hk
  unfold sConNil at h
  obtain ⟨h1, h2⟩ := grd_some h
  rw [con_eq h1]; exact h2
theorem d_bus_Read {α : Type} {I : Imm} : OrcOk (α := α) Try.prog I 107 (.full (ad_bus_Bus_Read_ok sBR)) := by
  refine orc_leF (mk_bus_Bus_Read_ok (h_sync_atomic_Uint64_Load := ⟨enters_of Try.func123 (by kernel_rfl) (by kernel_rfl), fun _ _ _ h => by cases h⟩) (h_bus_Bus_console_nil := d_bus_console) (h_mem_Memory_Read := d_mem_Read17)) fun args σ k r hk => le_bus_Bus_Read_ok (fun f tm al x1 x2 k r h => ?_) hk
  unfold sBR at h
  obtain ⟨h1, h2⟩ := grd_some h
  rw [bread_eq h1.1 h1.2]; exact h2
theorem d_bus_Write {α : Type} {I : Imm} : OrcOk (α := α) Try.prog I 106 (.full (ad_bus_Bus_Write_ok sBW)) := by
  refine orc_leF (mk_bus_Bus_Write_ok (h_bus_Bus_console_nil := d_bus_console) (h_mem_Memory_Write := d_mem_Write17)) fun args σ k r hk => le_bus_Bus_Write_ok (fun f tm al x1 x2 x3 k r h => ?_) hk
  unfold sBW at h
  obtain ⟨h1, h2⟩ := grd_some h
  rw [bwrite_eq h1.1 h1.2]; exact h2
theorem d_word_Sext {α : Type} {I : Imm} : OrcOk (α := α) Try.prog I 111 (.pure (ad_word_Sext sSx)) := by
  refine orc_le c_word_Sext fun args k r hk => ?_
  unfold ad_word_Sext at hk
  split at hk <;> try (cases hk; done)
  obtain ⟨x0, rfl, hk0⟩ := decI_spec hk
  obtain ⟨x1, rfl, hk1⟩ := decI_spec hk0
  exact hk1
theorem d_word_Zext {α : Type} {I : Imm} : OrcOk (α := α) Try.prog I 89 (.pure (ad_word_Zext sZx)) := by
  refine orc_le c_word_Zext fun args k r hk => ?_
  unfold ad_word_Zext at hk
  split at hk <;> try (cases hk; done)
  obtain ⟨x0, rfl, hk0⟩ := decI_spec hk
  obtain ⟨x1, rfl, hk1⟩ := decI_spec hk0
  exact hk1
def yesD {α : Type} (x : R α) : SV → Heap → R α := fun v _ => match v with | .bool true => x | _ => none
set_option maxRecDepth 100000 in
set_option maxHeartbeats 4000000 in
theorem d_insn_Is_yes {α : Type} {I : Imm} : OrcOk (α := α) Try.prog I 82 (.pure (ad_insn_Is_yes sIsY)) := by
  refine orc_pureK T_insn_Is_ok (O := O_insn_Is) O_insn_Is_ok (L := []) ⟨20, []⟩ Try.func82 (by kernel_rfl) (by kernel_rfl) (by kernel_rfl) FLOk.nil ?_
  intro args k r hk
  unfold ad_insn_Is_yes at hk
  split at hk <;> try (cases hk; done)
  obtain ⟨i, rfl, hk0⟩ := GInsn.dec_spec hk
  unfold sIsY at hk0
  obtain ⟨h1, h2⟩ := grd_some hk0
  refine ⟨by simp [Ids, Idss], fun v => yesD (k (.bool true)) v ⟨0, []⟩, ?_, fun v hv => ?_⟩
  · have key : ∀ (D : R α), bodyL T_insn_Is O_insn_Is [] ⟨20, []⟩ Try.f82 [i.sv] emp (fun v _ => yesD D v ⟨0, []⟩) = D := by
      intro D
      clear hk hk0
      rcases h1 with rfl | rfl | ⟨y, he, rfl⟩ | ⟨y, he, rfl⟩ | ⟨y, he, rfl⟩
      · kernel_rfl
      · kernel_rfl
      · rcases he with rfl | rfl | rfl | rfl | rfl | rfl | rfl | rfl <;> kernel_rfl
      · rcases he with rfl | rfl | rfl | rfl <;> kernel_rfl
      · rcases he with rfl | rfl <;> kernel_rfl
    exact (key _).trans h2
  · unfold yesD at hv
    dsimp only at hv
    split at hv <;> try (cases hv; done)
    exact ⟨hv, by simp [Ids]⟩
theorem c_sallyportlaw17_AccessParts {α : Type} {I : Imm} : OrcOk (α := α) Try.prog I 11 (.pure (ad_law17_AccessParts sParts)) := by
  refine orc_le (mk_law17_AccessParts (h_law17_known := d_law17_known) (h_mem_New := c_mem_New) (h_insn_Is_yes := d_insn_Is_yes) (h_access_Aligned_yes := d_access_Aligned_yes) (h_two_Translate_yes := d_two_Translate_yes) (h_bus_Bus_Write_ok := d_bus_Write) (h_bus_Bus_Read_ok := d_bus_Read) (h_word_Sext := d_word_Sext) (h_word_Zext := d_word_Zext) (h_ref1_Sext := mk_ref1_Sext)) fun args k r hk => le_law17_AccessParts (fun x0 x1 x2 k r h => ?_) hk
  unfold sParts at h
  obtain ⟨⟨h1, h3, h4⟩, h2⟩ := grd_some h
  rw [parts_eq h1 h3 h4]
  exact h2
end Go.Proofs.Ytigomjcmpafeeaa
