/-
  Contracts: Word.
-/
import Derived.Test.YtlijlabaopiicaaGreatProg
import Derived.Test.YtlijlabaopiicaaGreatSpWord
set_option linter.unusedSimpArgs false
set_option linter.unusedVariables false
namespace Go.Proofs.YtlijlabaopiicaaGreat
open Go Go.Sh Go.Proofs
set_option linter.unusedSimpArgs false
theorem te_3 : TyOk Tryz.prog 3 ⟨.int .i64 0, 1, 8, .sc (.int .i64), none⟩ := ⟨fun _ => by kernel_rfl, ⟨rfl, rfl, fun _ _ => by simp [Wf, Wfs]⟩, ⟨Tryz.underlying3, rfl⟩, fun _ h => by cases h⟩
theorem te_22 : TyOk Tryz.prog 22 ⟨.int .u64 0, 1, 8, .sc (.int .u64), none⟩ := ⟨fun _ => by kernel_rfl, ⟨rfl, rfl, fun _ _ => by simp [Wf, Wfs]⟩, ⟨Tryz.underlying22, rfl⟩, fun _ h => by cases h⟩
abbrev T_zn : TE := [(3, ⟨.int .i64 0, 1, 8, .sc (.int .i64), none⟩), (22, ⟨.int .u64 0, 1, 8, .sc (.int .u64), none⟩)]
theorem T_z49 : Prg Tryz.prog T_zn := ⟨(.cons te_3 (.cons te_22 (TEok.nil _))), by kernel_rfl⟩
noncomputable abbrev O_zn {α : Type} : ORC α := []
theorem O_z49 {α : Type} {I : Imm} : OOk (α := α) Tryz.prog I O_zn := OOk.nil
set_option maxHeartbeats 4000000 in
set_option maxRecDepth 100000 in
theorem c_zn {α : Type} {I : Imm} : OrcOk (α := α) Tryz.prog I 156 (.pure maskF) := by
  refine orc_pure T_z49 (O := O_zn) O_z49 (L := []) ⟨1, []⟩ Tryz.func156 (by kernel_rfl) (by kernel_rfl) (by kernel_rfl) FLOk.nil ?_
  intro args k r hk
  unfold maskF at hk
  split at hk <;> try (simp at hk; done)
  rename_i b
  cases hg : decide (b < 0) <;> rw [hg] at hk <;> simp only [cond_true, cond_false] at hk <;> try (simp at hk; done)
  refine ⟨_, hk, by simp [Ids, Idss], by simp [Ids, Idss], ?_⟩
  clear hk
  repeat' ((conv => arg 1; whnf); split)
  all_goals (try (conv => arg 1; whnf))
  all_goals first | refine ends_int ?_ | (exfalso; simp [ltB_true, ltB_false, leB_true, leB_false] at *; omega)
  all_goals (simp [maskS, ltB_true, ltB_false, leB_true, leB_false] at *; try omega)
abbrev T_zy : TE := [(3, ⟨.int .i64 0, 1, 8, .sc (.int .i64), none⟩), (22, ⟨.int .u64 0, 1, 8, .sc (.int .u64), none⟩)]
theorem T_z4a : Prg Tryz.prog T_zy := ⟨(.cons te_3 (.cons te_22 (TEok.nil _))), by kernel_rfl⟩
noncomputable abbrev O_zy {α : Type} : ORC α := [(156, .pure maskF)]
theorem O_z4a {α : Type} {I : Imm} : OOk (α := α) Tryz.prog I O_zy := OOk.cons c_zn (OOk.nil)
set_option maxHeartbeats 4000000 in
set_option maxRecDepth 100000 in
theorem c_zy {α : Type} {I : Imm} : OrcOk (α := α) Tryz.prog I 138 (.pure zextF) := by
  refine orc_pure T_z4a (O := O_zy) O_z4a (L := []) ⟨1, []⟩ Tryz.func138 (by kernel_rfl) (by kernel_rfl) (by kernel_rfl) FLOk.nil ?_
  intro args k r hk
  unfold zextF at hk
  split at hk <;> try (simp at hk; done)
  rename_i v b
  refine ⟨_, hk, by simp [Ids, Idss], by simp [Ids, Idss], ?_⟩
  clear hk
  have hc : 1 ≤ pickmx false (pickmx true b 1) 64 ∧ pickmx false (pickmx true b 1) 64 ≤ 64 := clamp_bd b
  repeat' ((conv => arg 1; whnf); split)
  all_goals (try (conv => arg 1; whnf))
  all_goals first | refine ends_int ?_ | (exfalso; simp [ltB_true, ltB_false, leB_true, leB_false] at *; omega)
  all_goals rfl
abbrev T_z19 : TE := [(3, ⟨.int .i64 0, 1, 8, .sc (.int .i64), none⟩)]
theorem T_z4b : Prg Tryz.prog T_z19 := ⟨(.cons te_3 (TEok.nil _)), by kernel_rfl⟩
noncomputable abbrev O_z19 {α : Type} : ORC α := []
theorem O_z4b {α : Type} {I : Imm} : OOk (α := α) Tryz.prog I O_z19 := OOk.nil
set_option maxHeartbeats 4000000 in
set_option maxRecDepth 100000 in
theorem c_z19 {α : Type} {I : Imm} : OrcOk (α := α) Tryz.prog I 155 (.pure partF) := by
  refine orc_pure T_z4b (O := O_z19) O_z4b (L := []) ⟨1, []⟩ Tryz.func155 (by kernel_rfl) (by kernel_rfl) (by kernel_rfl) FLOk.nil ?_
  intro args k r hk
  unfold partF at hk
  split at hk <;> try (simp at hk; done)
  rename_i lo n
  refine ⟨_, hk, by simp [Ids, Idss], by simp [Ids, Idss], ?_⟩
  clear hk
  all_goals (try (conv => arg 1; whnf))
  exact ends_any rfl
abbrev T_z2 : TE := [(22, ⟨.int .u64 0, 1, 8, .sc (.int .u64), none⟩)]
theorem T_z4c : Prg Tryz.prog T_z2 := ⟨(.cons te_22 (TEok.nil _)), by kernel_rfl⟩
noncomputable abbrev O_z2 {α : Type} : ORC α := [(155, .pure partF), (156, .pure maskF)]
theorem O_z4c {α : Type} {I : Imm} : OOk (α := α) Tryz.prog I O_z2 := OOk.cons c_z19 (OOk.cons c_zn (OOk.nil))
set_option maxHeartbeats 4000000 in
set_option maxRecDepth 100000 in
theorem c_z2 {α : Type} {I : Imm} : OrcOk (α := α) Tryz.prog I 118 (.pure bitsF) := by
  refine orc_pure T_z4c (O := O_z2) O_z4c (L := []) ⟨1, []⟩ Tryz.func118 (by kernel_rfl) (by kernel_rfl) (by kernel_rfl) FLOk.nil ?_
  intro args k r hk
  unfold bitsF at hk
  split at hk <;> try (simp at hk; done)
  rename_i v lo n
  refine ⟨_, hk, by simp [Ids, Idss], by simp [Ids, Idss], ?_⟩
  clear hk
  have h1 := loS_bd lo
  have h2 := nS_bd lo n
  repeat' ((conv => arg 1; whnf); split)
  all_goals (try (conv => arg 1; whnf))
  all_goals first | refine ends_int ?_ | (exfalso; simp [ltB_true, ltB_false, leB_true, leB_false] at *; omega)
  all_goals rfl
abbrev T_zg : TE := [(22, ⟨.int .u64 0, 1, 8, .sc (.int .u64), none⟩)]
theorem T_z4d : Prg Tryz.prog T_zg := ⟨(.cons te_22 (TEok.nil _)), by kernel_rfl⟩
noncomputable abbrev O_zg {α : Type} : ORC α := [(155, .pure partF), (156, .pure maskF)]
theorem O_z4d {α : Type} {I : Imm} : OOk (α := α) Tryz.prog I O_zg := OOk.cons c_z19 (OOk.cons c_zn (OOk.nil))
set_option maxHeartbeats 4000000 in
set_option maxRecDepth 100000 in
theorem c_zg {α : Type} {I : Imm} : OrcOk (α := α) Tryz.prog I 108 (.pure setF) := by
  refine orc_pure T_z4d (O := O_zg) O_z4d (L := []) ⟨1, []⟩ Tryz.func108 (by kernel_rfl) (by kernel_rfl) (by kernel_rfl) FLOk.nil ?_
  intro args k r hk
  unfold setF at hk
  split at hk <;> try (simp at hk; done)
  rename_i v lo n x
  refine ⟨_, hk, by simp [Ids, Idss], by simp [Ids, Idss], ?_⟩
  clear hk
  have h1 := loS_bd lo
  have h2 := nS_bd lo n
  repeat' ((conv => arg 1; whnf); split)
  all_goals (try (conv => arg 1; whnf))
  all_goals first | refine ends_int ?_ | (exfalso; simp [ltB_true, ltB_false, leB_true, leB_false] at *; omega)
  all_goals rfl
theorem te_28 : TyOk Tryz.prog 28 ⟨.ints .u64 29 (fun _ => 0), 29, 232, .ar 29 22 1 false, some (.ar 29 1 (.it .u64))⟩ := ⟨fun _ => by kernel_rfl, ⟨rfl, rfl, fun _ _ => by simp [Wf, Wfs]⟩, ⟨Tryz.underlying28, by kernel_rfl, by kernel_rfl⟩, fun _ h => by cases h; exact ⟨by kernel_rfl, by kernel_rfl⟩⟩
theorem te_30 : TyOk Tryz.prog 30 ⟨.agg [.ints .u64 32 (fun _ => 0), .int .u64 0, .int .i64 0, .bool false, .ints .u64 29 (fun _ => 0), .int .u64 0], 65, 520, .st [(0, 32, true), (32, 1, false), (33, 1, false), (34, 1, false), (35, 29, true), (64, 1, false)], some (.st [(0, 32, true, .ar 32 1 (.it .u64)), (32, 1, false, .it .u64), (33, 1, false, .it .i64), (34, 1, false, .bl), (35, 29, true, .ar 29 1 (.it .u64)), (64, 1, false, .it .u64)])⟩ := ⟨fun _ => by kernel_rfl, ⟨rfl, rfl, fun _ _ => by simp [Wf, Wfs]⟩, ⟨_, Tryz.underlying30, by kernel_rfl⟩, fun _ h => by cases h; exact ⟨by kernel_rfl, by kernel_rfl⟩⟩
abbrev T_z3 : TE := [(22, ⟨.int .u64 0, 1, 8, .sc (.int .u64), none⟩), (28, ⟨.ints .u64 29 (fun _ => 0), 29, 232, .ar 29 22 1 false, some (.ar 29 1 (.it .u64))⟩), (30, ⟨.agg [.ints .u64 32 (fun _ => 0), .int .u64 0, .int .i64 0, .bool false, .ints .u64 29 (fun _ => 0), .int .u64 0], 65, 520, .st [(0, 32, true), (32, 1, false), (33, 1, false), (34, 1, false), (35, 29, true), (64, 1, false)], some (.st [(0, 32, true, .ar 32 1 (.it .u64)), (32, 1, false, .it .u64), (33, 1, false, .it .i64), (34, 1, false, .bl), (35, 29, true, .ar 29 1 (.it .u64)), (64, 1, false, .it .u64)])⟩)]
theorem T_z4e : Prg Tryz.prog T_z3 := ⟨(.cons te_22 (.cons te_28 (.cons te_30 (TEok.nil _)))), by kernel_rfl⟩
noncomputable abbrev O_z3 {α : Type} : ORC α := [(118, .pure bitsF)]
theorem O_z4e {α : Type} {I : Imm} : OOk (α := α) Tryz.prog I O_z3 := OOk.cons c_z2 (OOk.nil)
set_option maxHeartbeats 4000000 in
set_option maxRecDepth 100000 in
theorem c_z3 {α : Type} {I : Imm} : OrcOk (α := α) Tryz.prog I 128 (.pure bitF) := by
  refine orc_pure T_z4e (O := O_z3) O_z4e (L := []) ⟨1, []⟩ Tryz.func128 (by kernel_rfl) (by kernel_rfl) (by kernel_rfl) FLOk.nil ?_
  intro args k r hk
  unfold bitF at hk
  split at hk <;> try (simp at hk; done)
  rename_i x pc lv vv c dn i b
  cases hg : (decide (0 ≤ i) && decide (i < 29)) <;> rw [hg] at hk <;> simp only [cond_true, cond_false] at hk <;> try (simp at hk; done)
  refine ⟨_, hk, by simp [Ids, Idss], by simp [Ids, Idss], ?_⟩
  clear hk
  simp only [Bool.and_eq_true, decide_eq_true_eq] at hg
  repeat' ((conv => arg 1; whnf); split)
  all_goals (try (conv => arg 1; whnf))
  all_goals first | refine ends_bool ?_ | (exfalso; simp [ltB_true, ltB_false, leB_true, leB_false] at *; omega)
  all_goals rfl
end Go.Proofs.YtlijlabaopiicaaGreat
