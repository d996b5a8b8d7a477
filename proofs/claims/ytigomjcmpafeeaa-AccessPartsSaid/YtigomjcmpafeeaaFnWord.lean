/-
  Contracts: Word.
-/
import Derived.Test.YtigomjcmpafeeaaProg
import Derived.Test.YtigomjcmpafeeaaSpWord
set_option linter.unusedSimpArgs false
set_option linter.unusedVariables false
namespace Go.Proofs.Ytigomjcmpafeeaa
open Go Go.Sh Go.Proofs
set_option linter.unusedSimpArgs false
theorem te_3 : TyOk Try.prog 3 ⟨.int .i64 0, 1, 8, .sc (.int .i64), none⟩ := ⟨fun _ => by kernel_rfl, ⟨rfl, rfl, fun _ _ => by simp [Wf, Wfs]⟩, ⟨Try.underlying3, rfl⟩, fun _ h => by cases h⟩
theorem te_33 : TyOk Try.prog 33 ⟨.int .u64 0, 1, 8, .sc (.int .u64), none⟩ := ⟨fun _ => by kernel_rfl, ⟨rfl, rfl, fun _ _ => by simp [Wf, Wfs]⟩, ⟨Try.underlying33, rfl⟩, fun _ h => by cases h⟩
abbrev T_word_mask : TE := [(3, ⟨.int .i64 0, 1, 8, .sc (.int .i64), none⟩), (33, ⟨.int .u64 0, 1, 8, .sc (.int .u64), none⟩)]
theorem T_word_mask_ok : Prg Try.prog T_word_mask := ⟨(.cons te_3 (.cons te_33 (TEok.nil _))), by kernel_rfl⟩
noncomputable abbrev O_word_mask {α : Type} : ORC α := []
theorem O_word_mask_ok {α : Type} {I : Imm} : OOk (α := α) Try.prog I O_word_mask := OOk.nil
set_option maxHeartbeats 4000000 in
set_option maxRecDepth 100000 in
theorem c_word_mask {α : Type} {I : Imm} : OrcOk (α := α) Try.prog I 113 (.pure maskF) := by
  refine orc_pure T_word_mask_ok (O := O_word_mask) O_word_mask_ok (L := []) ⟨1, []⟩ Try.func113 (by kernel_rfl) (by kernel_rfl) (by kernel_rfl) FLOk.nil ?_
  intro args k r hk
  unfold maskF at hk
  split at hk <;> try (simp at hk; done)
  rename_i b
  cases hg : decide (b < 0) <;> rw [hg] at hk <;> simp only [cond_true, cond_false] at hk <;> try (simp at hk; done)
  refine ⟨_, hk, by simp [Ids, Idss], by simp [Ids, Idss], ?_⟩
  clear hk
  repeat' ((conv => arg 1; whnf); split)
  all_goals (try (conv => arg 1; whnf))
  all_goals first | refine ends_int ?_ | (exfalso; simp [ltB_true, ltB_false, leB_true, leB_false] at *; omega)
  all_goals (simp [maskS, ltB_true, ltB_false, leB_true, leB_false] at *; try omega)
abbrev T_word_Zext : TE := [(3, ⟨.int .i64 0, 1, 8, .sc (.int .i64), none⟩), (33, ⟨.int .u64 0, 1, 8, .sc (.int .u64), none⟩)]
theorem T_word_Zext_ok : Prg Try.prog T_word_Zext := ⟨(.cons te_3 (.cons te_33 (TEok.nil _))), by kernel_rfl⟩
noncomputable abbrev O_word_Zext {α : Type} : ORC α := [(113, .pure maskF)]
theorem O_word_Zext_ok {α : Type} {I : Imm} : OOk (α := α) Try.prog I O_word_Zext := OOk.cons c_word_mask (OOk.nil)
set_option maxHeartbeats 4000000 in
set_option maxRecDepth 100000 in
theorem c_word_Zext {α : Type} {I : Imm} : OrcOk (α := α) Try.prog I 89 (.pure zextF) := by
  refine orc_pure T_word_Zext_ok (O := O_word_Zext) O_word_Zext_ok (L := []) ⟨1, []⟩ Try.func89 (by kernel_rfl) (by kernel_rfl) (by kernel_rfl) FLOk.nil ?_
  intro args k r hk
  unfold zextF at hk
  split at hk <;> try (simp at hk; done)
  rename_i v b
  refine ⟨_, hk, by simp [Ids, Idss], by simp [Ids, Idss], ?_⟩
  clear hk
  have hc : 1 ≤ pickmx false (pickmx true b 1) 64 ∧ pickmx false (pickmx true b 1) 64 ≤ 64 := clamp_bd b
  repeat' ((conv => arg 1; whnf); split)
  all_goals (try (conv => arg 1; whnf))
  all_goals first | refine ends_int ?_ | (exfalso; simp [ltB_true, ltB_false, leB_true, leB_false] at *; omega)
  all_goals rfl
theorem te_2 : TyOk Try.prog 2 ⟨.int .i64 0, 1, 8, .sc (.int .i64), none⟩ := ⟨fun _ => by kernel_rfl, ⟨rfl, rfl, fun _ _ => by simp [Wf, Wfs]⟩, ⟨Try.underlying2, rfl⟩, fun _ h => by cases h⟩
abbrev T_word_Sext : TE := [(2, ⟨.int .i64 0, 1, 8, .sc (.int .i64), none⟩), (3, ⟨.int .i64 0, 1, 8, .sc (.int .i64), none⟩), (33, ⟨.int .u64 0, 1, 8, .sc (.int .u64), none⟩)]
theorem T_word_Sext_ok : Prg Try.prog T_word_Sext := ⟨(.cons te_2 (.cons te_3 (.cons te_33 (TEok.nil _)))), by kernel_rfl⟩
noncomputable abbrev O_word_Sext {α : Type} : ORC α := []
theorem O_word_Sext_ok {α : Type} {I : Imm} : OOk (α := α) Try.prog I O_word_Sext := OOk.nil
set_option maxHeartbeats 4000000 in
set_option maxRecDepth 100000 in
theorem c_word_Sext {α : Type} {I : Imm} : OrcOk (α := α) Try.prog I 111 (.pure sextF) := by
  refine orc_pure T_word_Sext_ok (O := O_word_Sext) O_word_Sext_ok (L := []) ⟨1, []⟩ Try.func111 (by kernel_rfl) (by kernel_rfl) (by kernel_rfl) FLOk.nil ?_
  intro args k r hk
  unfold sextF at hk
  split at hk <;> try (simp at hk; done)
  rename_i v b
  refine ⟨_, hk, by simp [Ids, Idss], by simp [Ids, Idss], ?_⟩
  clear hk
  have hc : 1 ≤ pickmx false (pickmx true b 1) 64 ∧ pickmx false (pickmx true b 1) 64 ≤ 64 := clamp_bd b
  have hw : IntKind.i64.wrap (64 - pickmx false (pickmx true b 1) 64) = 64 - pickmx false (pickmx true b 1) 64 := wrap_i64 (by omega) (by omega)
  repeat' ((conv => arg 1; whnf); split)
  all_goals (try (conv => arg 1; whnf))
  all_goals first | refine ends_int ?_ | (exfalso; simp [hw, ltB_true, ltB_false, leB_true, leB_false] at *; omega)
  all_goals rfl
abbrev T_word_part : TE := [(3, ⟨.int .i64 0, 1, 8, .sc (.int .i64), none⟩)]
theorem T_word_part_ok : Prg Try.prog T_word_part := ⟨(.cons te_3 (TEok.nil _)), by kernel_rfl⟩
noncomputable abbrev O_word_part {α : Type} : ORC α := []
theorem O_word_part_ok {α : Type} {I : Imm} : OOk (α := α) Try.prog I O_word_part := OOk.nil
set_option maxHeartbeats 4000000 in
set_option maxRecDepth 100000 in
theorem c_word_part {α : Type} {I : Imm} : OrcOk (α := α) Try.prog I 112 (.pure partF) := by
  refine orc_pure T_word_part_ok (O := O_word_part) O_word_part_ok (L := []) ⟨1, []⟩ Try.func112 (by kernel_rfl) (by kernel_rfl) (by kernel_rfl) FLOk.nil ?_
  intro args k r hk
  unfold partF at hk
  split at hk <;> try (simp at hk; done)
  rename_i lo n
  refine ⟨_, hk, by simp [Ids, Idss], by simp [Ids, Idss], ?_⟩
  clear hk
  all_goals (try (conv => arg 1; whnf))
  exact ends_any rfl
abbrev T_word_Bits : TE := [(33, ⟨.int .u64 0, 1, 8, .sc (.int .u64), none⟩)]
theorem T_word_Bits_ok : Prg Try.prog T_word_Bits := ⟨(.cons te_33 (TEok.nil _)), by kernel_rfl⟩
noncomputable abbrev O_word_Bits {α : Type} : ORC α := [(112, .pure partF), (113, .pure maskF)]
theorem O_word_Bits_ok {α : Type} {I : Imm} : OOk (α := α) Try.prog I O_word_Bits := OOk.cons c_word_part (OOk.cons c_word_mask (OOk.nil))
set_option maxHeartbeats 4000000 in
set_option maxRecDepth 100000 in
theorem c_word_Bits {α : Type} {I : Imm} : OrcOk (α := α) Try.prog I 96 (.pure bitsF) := by
  refine orc_pure T_word_Bits_ok (O := O_word_Bits) O_word_Bits_ok (L := []) ⟨1, []⟩ Try.func96 (by kernel_rfl) (by kernel_rfl) (by kernel_rfl) FLOk.nil ?_
  intro args k r hk
  unfold bitsF at hk
  split at hk <;> try (simp at hk; done)
  rename_i v lo n
  refine ⟨_, hk, by simp [Ids, Idss], by simp [Ids, Idss], ?_⟩
  clear hk
  have h1 := loS_bd lo
  have h2 := nS_bd lo n
  repeat' ((conv => arg 1; whnf); split)
  all_goals (try (conv => arg 1; whnf))
  all_goals first | refine ends_int ?_ | (exfalso; simp [ltB_true, ltB_false, leB_true, leB_false] at *; omega)
  all_goals rfl
abbrev T_word_Set : TE := [(33, ⟨.int .u64 0, 1, 8, .sc (.int .u64), none⟩)]
theorem T_word_Set_ok : Prg Try.prog T_word_Set := ⟨(.cons te_33 (TEok.nil _)), by kernel_rfl⟩
noncomputable abbrev O_word_Set {α : Type} : ORC α := [(112, .pure partF), (113, .pure maskF)]
theorem O_word_Set_ok {α : Type} {I : Imm} : OOk (α := α) Try.prog I O_word_Set := OOk.cons c_word_part (OOk.cons c_word_mask (OOk.nil))
set_option maxHeartbeats 4000000 in
set_option maxRecDepth 100000 in
theorem c_word_Set {α : Type} {I : Imm} : OrcOk (α := α) Try.prog I 86 (.pure setF) := by
  refine orc_pure T_word_Set_ok (O := O_word_Set) O_word_Set_ok (L := []) ⟨1, []⟩ Try.func86 (by kernel_rfl) (by kernel_rfl) (by kernel_rfl) FLOk.nil ?_
  intro args k r hk
  unfold setF at hk
  split at hk <;> try (simp at hk; done)
  rename_i v lo n x
  refine ⟨_, hk, by simp [Ids, Idss], by simp [Ids, Idss], ?_⟩
  clear hk
  have h1 := loS_bd lo
  have h2 := nS_bd lo n
  repeat' ((conv => arg 1; whnf); split)
  all_goals (try (conv => arg 1; whnf))
  all_goals first | refine ends_int ?_ | (exfalso; simp [ltB_true, ltB_false, leB_true, leB_false] at *; omega)
  all_goals rfl
theorem te_40 : TyOk Try.prog 40 ⟨.ints .u64 29 (fun _ => 0), 29, 232, .ar 29 33 1 false, some (.ar 29 1 (.it .u64))⟩ := ⟨fun _ => by kernel_rfl, ⟨rfl, rfl, fun _ _ => by simp [Wf, Wfs]⟩, ⟨Try.underlying40, by kernel_rfl, by kernel_rfl⟩, fun _ h => by cases h; exact ⟨by kernel_rfl, by kernel_rfl⟩⟩
theorem te_42 : TyOk Try.prog 42 ⟨.agg [.ints .u64 32 (fun _ => 0), .int .u64 0, .int .i64 0, .bool false, .ints .u64 29 (fun _ => 0), .int .u64 0], 65, 520, .st [(0, 32, true), (32, 1, false), (33, 1, false), (34, 1, false), (35, 29, true), (64, 1, false)], some (.st [(0, 32, true, .ar 32 1 (.it .u64)), (32, 1, false, .it .u64), (33, 1, false, .it .i64), (34, 1, false, .bl), (35, 29, true, .ar 29 1 (.it .u64)), (64, 1, false, .it .u64)])⟩ := ⟨fun _ => by kernel_rfl, ⟨rfl, rfl, fun _ _ => by simp [Wf, Wfs]⟩, ⟨_, Try.underlying42, by kernel_rfl⟩, fun _ h => by cases h; exact ⟨by kernel_rfl, by kernel_rfl⟩⟩
abbrev T_csr_Bit : TE := [(33, ⟨.int .u64 0, 1, 8, .sc (.int .u64), none⟩), (40, ⟨.ints .u64 29 (fun _ => 0), 29, 232, .ar 29 33 1 false, some (.ar 29 1 (.it .u64))⟩), (42, ⟨.agg [.ints .u64 32 (fun _ => 0), .int .u64 0, .int .i64 0, .bool false, .ints .u64 29 (fun _ => 0), .int .u64 0], 65, 520, .st [(0, 32, true), (32, 1, false), (33, 1, false), (34, 1, false), (35, 29, true), (64, 1, false)], some (.st [(0, 32, true, .ar 32 1 (.it .u64)), (32, 1, false, .it .u64), (33, 1, false, .it .i64), (34, 1, false, .bl), (35, 29, true, .ar 29 1 (.it .u64)), (64, 1, false, .it .u64)])⟩)]
theorem T_csr_Bit_ok : Prg Try.prog T_csr_Bit := ⟨(.cons te_33 (.cons te_40 (.cons te_42 (TEok.nil _)))), by kernel_rfl⟩
noncomputable abbrev O_csr_Bit {α : Type} : ORC α := [(96, .pure bitsF)]
theorem O_csr_Bit_ok {α : Type} {I : Imm} : OOk (α := α) Try.prog I O_csr_Bit := OOk.cons c_word_Bits (OOk.nil)
set_option maxHeartbeats 4000000 in
set_option maxRecDepth 100000 in
theorem c_csr_Bit {α : Type} {I : Imm} : OrcOk (α := α) Try.prog I 56 (.pure bitF) := by
  refine orc_pure T_csr_Bit_ok (O := O_csr_Bit) O_csr_Bit_ok (L := []) ⟨1, []⟩ Try.func56 (by kernel_rfl) (by kernel_rfl) (by kernel_rfl) FLOk.nil ?_
  intro args k r hk
  unfold bitF at hk
  split at hk <;> try (simp at hk; done)
  rename_i x pc lv vv c dn i b
  cases hg : (decide (0 ≤ i) && decide (i < 29)) <;> rw [hg] at hk <;> simp only [cond_true, cond_false] at hk <;> try (simp at hk; done)
  refine ⟨_, hk, by simp [Ids, Idss], by simp [Ids, Idss], ?_⟩
  clear hk
  simp only [Bool.and_eq_true, decide_eq_true_eq] at hg
  repeat' ((conv => arg 1; whnf); split)
  all_goals (try (conv => arg 1; whnf))
  all_goals first | refine ends_bool ?_ | (exfalso; simp [ltB_true, ltB_false, leB_true, leB_false] at *; omega)
  all_goals rfl
end Go.Proofs.Ytigomjcmpafeeaa
