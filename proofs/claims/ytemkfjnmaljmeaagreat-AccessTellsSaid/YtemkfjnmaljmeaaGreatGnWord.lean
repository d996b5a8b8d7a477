/-
  Contracts: Word.
-/
import Derived.Test.YtemkfjnmaljmeaaGreatProg
import Derived.Test.YtemkfjnmaljmeaaGreatSpWord
set_option linter.unusedSimpArgs false
set_option linter.unusedVariables false
namespace Go.Proofs.YtemkfjnmaljmeaaGreat
open Go Go.Sh Go.Proofs
set_option linter.unusedSimpArgs false
theorem te_3 : TyOk Tryz.prog 3 ⟨.int .i64 0, 1, 8, .sc (.int .i64), none⟩ := ⟨fun _ => by kernel_rfl, ⟨rfl, rfl, fun _ _ => by simp [Wf, Wfs]⟩, ⟨Tryz.underlying3, rfl⟩, fun _ h => by cases h⟩
theorem te_23 : TyOk Tryz.prog 23 ⟨.int .u64 0, 1, 8, .sc (.int .u64), none⟩ := ⟨fun _ => by kernel_rfl, ⟨rfl, rfl, fun _ _ => by simp [Wf, Wfs]⟩, ⟨Tryz.underlying23, rfl⟩, fun _ h => by cases h⟩
abbrev T_zo : TE := [(3, ⟨.int .i64 0, 1, 8, .sc (.int .i64), none⟩), (23, ⟨.int .u64 0, 1, 8, .sc (.int .u64), none⟩)]
theorem T_z35 : Prg Tryz.prog T_zo := ⟨(.cons te_3 (.cons te_23 (TEok.nil _))), by kernel_rfl⟩
noncomputable abbrev O_zo {α : Type} : ORC α := []
theorem O_z35 {α : Type} {I : Imm} : OOk (α := α) Tryz.prog I O_zo := OOk.nil
set_option maxHeartbeats 4000000 in
set_option maxRecDepth 100000 in
theorem c_zo {α : Type} {I : Imm} : OrcOk (α := α) Tryz.prog I 279 (.pure maskF) := by
  refine orc_pure T_z35 (O := O_zo) O_z35 (L := []) ⟨1, []⟩ Tryz.func279 (by kernel_rfl) (by kernel_rfl) (by kernel_rfl) FLOk.nil ?_
  intro args k r hk
  unfold maskF at hk
  split at hk <;> try (simp at hk; done)
  rename_i b
  cases hg : decide (b < 0) <;> rw [hg] at hk <;> simp only [cond_true, cond_false] at hk <;> try (simp at hk; done)
  refine ⟨_, hk, by simp [Ids, Idss], by simp [Ids, Idss], ?_⟩
  clear hk
  repeat' ((conv => arg 1; whnf); split)
  all_goals (try (conv => arg 1; whnf))
  all_goals first | refine ends_int ?_ | (exfalso; simp [ltB_true, ltB_false, leB_true, leB_false] at *; omega)
  all_goals (simp [maskS, ltB_true, ltB_false, leB_true, leB_false] at *; try omega)
abbrev T_z10 : TE := [(3, ⟨.int .i64 0, 1, 8, .sc (.int .i64), none⟩), (23, ⟨.int .u64 0, 1, 8, .sc (.int .u64), none⟩)]
theorem T_z36 : Prg Tryz.prog T_z10 := ⟨(.cons te_3 (.cons te_23 (TEok.nil _))), by kernel_rfl⟩
noncomputable abbrev O_z10 {α : Type} : ORC α := [(279, .pure maskF)]
theorem O_z36 {α : Type} {I : Imm} : OOk (α := α) Tryz.prog I O_z10 := OOk.cons c_zo (OOk.nil)
set_option maxHeartbeats 4000000 in
set_option maxRecDepth 100000 in
theorem c_z10 {α : Type} {I : Imm} : OrcOk (α := α) Tryz.prog I 235 (.pure zextF) := by
  refine orc_pure T_z36 (O := O_z10) O_z36 (L := []) ⟨1, []⟩ Tryz.func235 (by kernel_rfl) (by kernel_rfl) (by kernel_rfl) FLOk.nil ?_
  intro args k r hk
  unfold zextF at hk
  split at hk <;> try (simp at hk; done)
  rename_i v b
  refine ⟨_, hk, by simp [Ids, Idss], by simp [Ids, Idss], ?_⟩
  clear hk
  have hc : 1 ≤ pickmx false (pickmx true b 1) 64 ∧ pickmx false (pickmx true b 1) 64 ≤ 64 := clamp_bd b
  repeat' ((conv => arg 1; whnf); split)
  all_goals (try (conv => arg 1; whnf))
  all_goals first | refine ends_int ?_ | (exfalso; simp [ltB_true, ltB_false, leB_true, leB_false] at *; omega)
  all_goals rfl
abbrev T_z1a : TE := [(3, ⟨.int .i64 0, 1, 8, .sc (.int .i64), none⟩)]
theorem T_z37 : Prg Tryz.prog T_z1a := ⟨(.cons te_3 (TEok.nil _)), by kernel_rfl⟩
noncomputable abbrev O_z1a {α : Type} : ORC α := []
theorem O_z37 {α : Type} {I : Imm} : OOk (α := α) Tryz.prog I O_z1a := OOk.nil
set_option maxHeartbeats 4000000 in
set_option maxRecDepth 100000 in
theorem c_z1a {α : Type} {I : Imm} : OrcOk (α := α) Tryz.prog I 278 (.pure partF) := by
  refine orc_pure T_z37 (O := O_z1a) O_z37 (L := []) ⟨1, []⟩ Tryz.func278 (by kernel_rfl) (by kernel_rfl) (by kernel_rfl) FLOk.nil ?_
  intro args k r hk
  unfold partF at hk
  split at hk <;> try (simp at hk; done)
  rename_i lo n
  refine ⟨_, hk, by simp [Ids, Idss], by simp [Ids, Idss], ?_⟩
  clear hk
  all_goals (try (conv => arg 1; whnf))
  exact ends_any rfl
abbrev T_z18 : TE := [(23, ⟨.int .u64 0, 1, 8, .sc (.int .u64), none⟩)]
theorem T_z38 : Prg Tryz.prog T_z18 := ⟨(.cons te_23 (TEok.nil _)), by kernel_rfl⟩
noncomputable abbrev O_z18 {α : Type} : ORC α := [(278, .pure partF), (279, .pure maskF)]
theorem O_z38 {α : Type} {I : Imm} : OOk (α := α) Tryz.prog I O_z18 := OOk.cons c_z1a (OOk.cons c_zo (OOk.nil))
set_option maxHeartbeats 4000000 in
set_option maxRecDepth 100000 in
theorem c_z18 {α : Type} {I : Imm} : OrcOk (α := α) Tryz.prog I 217 (.pure bitsF) := by
  refine orc_pure T_z38 (O := O_z18) O_z38 (L := []) ⟨1, []⟩ Tryz.func217 (by kernel_rfl) (by kernel_rfl) (by kernel_rfl) FLOk.nil ?_
  intro args k r hk
  unfold bitsF at hk
  split at hk <;> try (simp at hk; done)
  rename_i v lo n
  refine ⟨_, hk, by simp [Ids, Idss], by simp [Ids, Idss], ?_⟩
  clear hk
  have h1 := loS_bd lo
  have h2 := nS_bd lo n
  repeat' ((conv => arg 1; whnf); split)
  all_goals (try (conv => arg 1; whnf))
  all_goals first | refine ends_int ?_ | (exfalso; simp [ltB_true, ltB_false, leB_true, leB_false] at *; omega)
  all_goals rfl
abbrev T_z23 : TE := [(23, ⟨.int .u64 0, 1, 8, .sc (.int .u64), none⟩)]
theorem T_z3v : Prg Tryz.prog T_z23 := ⟨(.cons te_23 (TEok.nil _)), by kernel_rfl⟩
noncomputable abbrev O_z23 {α : Type} : ORC α := [(278, .pure partF), (279, .pure maskF)]
theorem O_z3v {α : Type} {I : Imm} : OOk (α := α) Tryz.prog I O_z23 := OOk.cons c_z1a (OOk.cons c_zo (OOk.nil))
set_option maxHeartbeats 4000000 in
set_option maxRecDepth 100000 in
theorem c_z23 {α : Type} {I : Imm} : OrcOk (α := α) Tryz.prog I 204 (.pure setF) := by
  refine orc_pure T_z3v (O := O_z23) O_z3v (L := []) ⟨1, []⟩ Tryz.func204 (by kernel_rfl) (by kernel_rfl) (by kernel_rfl) FLOk.nil ?_
  intro args k r hk
  unfold setF at hk
  split at hk <;> try (simp at hk; done)
  rename_i v lo n x
  refine ⟨_, hk, by simp [Ids, Idss], by simp [Ids, Idss], ?_⟩
  clear hk
  have h1 := loS_bd lo
  have h2 := nS_bd lo n
  repeat' ((conv => arg 1; whnf); split)
  all_goals (try (conv => arg 1; whnf))
  all_goals first | refine ends_int ?_ | (exfalso; simp [ltB_true, ltB_false, leB_true, leB_false] at *; omega)
  all_goals rfl
theorem te_25 : TyOk Tryz.prog 25 ⟨.ints .u64 29 (fun _ => 0), 29, 232, .ar 29 23 1 false, some (.ar 29 1 (.it .u64))⟩ := ⟨fun _ => by kernel_rfl, ⟨rfl, rfl, fun _ _ => by simp [Wf, Wfs]⟩, ⟨Tryz.underlying25, by kernel_rfl, by kernel_rfl⟩, fun _ h => by cases h; exact ⟨by kernel_rfl, by kernel_rfl⟩⟩
theorem te_27 : TyOk Tryz.prog 27 ⟨.agg [.ints .u64 32 (fun _ => 0), .int .u64 0, .int .i64 0, .bool false, .ints .u64 29 (fun _ => 0), .int .u64 0], 65, 520, .st [(0, 32, true), (32, 1, false), (33, 1, false), (34, 1, false), (35, 29, true), (64, 1, false)], some (.st [(0, 32, true, .ar 32 1 (.it .u64)), (32, 1, false, .it .u64), (33, 1, false, .it .i64), (34, 1, false, .bl), (35, 29, true, .ar 29 1 (.it .u64)), (64, 1, false, .it .u64)])⟩ := ⟨fun _ => by kernel_rfl, ⟨rfl, rfl, fun _ _ => by simp [Wf, Wfs]⟩, ⟨_, Tryz.underlying27, by kernel_rfl⟩, fun _ h => by cases h; exact ⟨by kernel_rfl, by kernel_rfl⟩⟩
abbrev T_z11 : TE := [(23, ⟨.int .u64 0, 1, 8, .sc (.int .u64), none⟩), (25, ⟨.ints .u64 29 (fun _ => 0), 29, 232, .ar 29 23 1 false, some (.ar 29 1 (.it .u64))⟩), (27, ⟨.agg [.ints .u64 32 (fun _ => 0), .int .u64 0, .int .i64 0, .bool false, .ints .u64 29 (fun _ => 0), .int .u64 0], 65, 520, .st [(0, 32, true), (32, 1, false), (33, 1, false), (34, 1, false), (35, 29, true), (64, 1, false)], some (.st [(0, 32, true, .ar 32 1 (.it .u64)), (32, 1, false, .it .u64), (33, 1, false, .it .i64), (34, 1, false, .bl), (35, 29, true, .ar 29 1 (.it .u64)), (64, 1, false, .it .u64)])⟩)]
theorem T_z39 : Prg Tryz.prog T_z11 := ⟨(.cons te_23 (.cons te_25 (.cons te_27 (TEok.nil _)))), by kernel_rfl⟩
noncomputable abbrev O_z11 {α : Type} : ORC α := [(217, .pure bitsF)]
theorem O_z39 {α : Type} {I : Imm} : OOk (α := α) Tryz.prog I O_z11 := OOk.cons c_z18 (OOk.nil)
set_option maxHeartbeats 4000000 in
set_option maxRecDepth 100000 in
theorem c_z11 {α : Type} {I : Imm} : OrcOk (α := α) Tryz.prog I 138 (.pure bitF) := by
  refine orc_pure T_z39 (O := O_z11) O_z39 (L := []) ⟨1, []⟩ Tryz.func138 (by kernel_rfl) (by kernel_rfl) (by kernel_rfl) FLOk.nil ?_
  intro args k r hk
  unfold bitF at hk
  split at hk <;> try (simp at hk; done)
  rename_i x pc lv vv c dn i b
  cases hg : (decide (0 ≤ i) && decide (i < 29)) <;> rw [hg] at hk <;> simp only [cond_true, cond_false] at hk <;> try (simp at hk; done)
  refine ⟨_, hk, by simp [Ids, Idss], by simp [Ids, Idss], ?_⟩
  clear hk
  simp only [Bool.and_eq_true, decide_eq_true_eq] at hg
  repeat' ((conv => arg 1; whnf); split)
  all_goals (try (conv => arg 1; whnf))
  all_goals first | refine ends_bool ?_ | (exfalso; simp [ltB_true, ltB_false, leB_true, leB_false] at *; omega)
  all_goals rfl
end Go.Proofs.YtemkfjnmaljmeaaGreat
