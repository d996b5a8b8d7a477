/-
  Contracts: Word.
-/
import Derived.Test.YthcpbmgbehidlaaProg
import Derived.Test.YthcpbmgbehidlaaSpWord
set_option linter.unusedSimpArgs false
set_option linter.unusedVariables false
namespace Go.Proofs.Ythcpbmgbehidlaa
open Go Go.Sh Go.Proofs
set_option linter.unusedSimpArgs false
theorem te_3 : TyOk Try.prog 3 ⟨.int .i64 0, 1, 8, .sc (.int .i64), none⟩ := ⟨fun _ => by kernel_rfl, ⟨rfl, rfl, fun _ _ => by simp [Wf, Wfs]⟩, ⟨Try.underlying3, rfl⟩, fun _ h => by cases h⟩
theorem te_33 : TyOk Try.prog 33 ⟨.int .u64 0, 1, 8, .sc (.int .u64), none⟩ := ⟨fun _ => by kernel_rfl, ⟨rfl, rfl, fun _ _ => by simp [Wf, Wfs]⟩, ⟨Try.underlying33, rfl⟩, fun _ h => by cases h⟩
abbrev T_z8 : TE := [(3, ⟨.int .i64 0, 1, 8, .sc (.int .i64), none⟩), (33, ⟨.int .u64 0, 1, 8, .sc (.int .u64), none⟩)]
theorem T_z1u : Prg Try.prog T_z8 := ⟨(.cons te_3 (.cons te_33 (TEok.nil _))), by kernel_rfl⟩
noncomputable abbrev O_z8 {α : Type} : ORC α := []
theorem O_z1u {α : Type} {I : Imm} : OOk (α := α) Try.prog I O_z8 := OOk.nil
set_option maxHeartbeats 4000000 in
set_option maxRecDepth 100000 in
theorem c_z8 {α : Type} {I : Imm} : OrcOk (α := α) Try.prog I 71 (.pure maskF) := by
  refine orc_pure T_z1u (O := O_z8) O_z1u (L := []) ⟨1, []⟩ Try.func71 (by kernel_rfl) (by kernel_rfl) (by kernel_rfl) FLOk.nil ?_
  intro args k r hk
  unfold maskF at hk
  split at hk <;> try (simp at hk; done)
  rename_i b
  cases hg : decide (b < 0) <;> rw [hg] at hk <;> simp only [cond_true, cond_false] at hk <;> try (simp at hk; done)
  refine ⟨_, hk, by simp [Ids, Idss], by simp [Ids, Idss], ?_⟩
  clear hk
  repeat' ((conv => arg 1; whnf); split)
  all_goals (try (conv => arg 1; whnf))
  all_goals first | refine ends_int ?_ | (exfalso; simp [ltB_true, ltB_false, leB_true, leB_false] at *; omega)
  all_goals (simp [maskS, ltB_true, ltB_false, leB_true, leB_false] at *; try omega)
abbrev T_zj : TE := [(3, ⟨.int .i64 0, 1, 8, .sc (.int .i64), none⟩), (33, ⟨.int .u64 0, 1, 8, .sc (.int .u64), none⟩)]
theorem T_z1v : Prg Try.prog T_zj := ⟨(.cons te_3 (.cons te_33 (TEok.nil _))), by kernel_rfl⟩
noncomputable abbrev O_zj {α : Type} : ORC α := [(71, .pure maskF)]
theorem O_z1v {α : Type} {I : Imm} : OOk (α := α) Try.prog I O_zj := OOk.cons c_z8 (OOk.nil)
set_option maxHeartbeats 4000000 in
set_option maxRecDepth 100000 in
theorem c_zj {α : Type} {I : Imm} : OrcOk (α := α) Try.prog I 49 (.pure zextF) := by
  refine orc_pure T_z1v (O := O_zj) O_z1v (L := []) ⟨1, []⟩ Try.func49 (by kernel_rfl) (by kernel_rfl) (by kernel_rfl) FLOk.nil ?_
  intro args k r hk
  unfold zextF at hk
  split at hk <;> try (simp at hk; done)
  rename_i v b
  refine ⟨_, hk, by simp [Ids, Idss], by simp [Ids, Idss], ?_⟩
  clear hk
  have hc : 1 ≤ pickmx false (pickmx true b 1) 64 ∧ pickmx false (pickmx true b 1) 64 ≤ 64 := clamp_bd b
  repeat' ((conv => arg 1; whnf); split)
  all_goals (try (conv => arg 1; whnf))
  all_goals first | refine ends_int ?_ | (exfalso; simp [ltB_true, ltB_false, leB_true, leB_false] at *; omega)
  all_goals rfl
abbrev T_zo : TE := [(3, ⟨.int .i64 0, 1, 8, .sc (.int .i64), none⟩)]
theorem T_z1w : Prg Try.prog T_zo := ⟨(.cons te_3 (TEok.nil _)), by kernel_rfl⟩
noncomputable abbrev O_zo {α : Type} : ORC α := []
theorem O_z1w {α : Type} {I : Imm} : OOk (α := α) Try.prog I O_zo := OOk.nil
set_option maxHeartbeats 4000000 in
set_option maxRecDepth 100000 in
theorem c_zo {α : Type} {I : Imm} : OrcOk (α := α) Try.prog I 70 (.pure partF) := by
  refine orc_pure T_z1w (O := O_zo) O_z1w (L := []) ⟨1, []⟩ Try.func70 (by kernel_rfl) (by kernel_rfl) (by kernel_rfl) FLOk.nil ?_
  intro args k r hk
  unfold partF at hk
  split at hk <;> try (simp at hk; done)
  rename_i lo n
  refine ⟨_, hk, by simp [Ids, Idss], by simp [Ids, Idss], ?_⟩
  clear hk
  all_goals (try (conv => arg 1; whnf))
  exact ends_any rfl
abbrev T_zm : TE := [(33, ⟨.int .u64 0, 1, 8, .sc (.int .u64), none⟩)]
theorem T_z1x : Prg Try.prog T_zm := ⟨(.cons te_33 (TEok.nil _)), by kernel_rfl⟩
noncomputable abbrev O_zm {α : Type} : ORC α := [(70, .pure partF), (71, .pure maskF)]
theorem O_z1x {α : Type} {I : Imm} : OOk (α := α) Try.prog I O_zm := OOk.cons c_zo (OOk.cons c_z8 (OOk.nil))
set_option maxHeartbeats 4000000 in
set_option maxRecDepth 100000 in
theorem c_zm {α : Type} {I : Imm} : OrcOk (α := α) Try.prog I 78 (.pure bitsF) := by
  refine orc_pure T_z1x (O := O_zm) O_z1x (L := []) ⟨1, []⟩ Try.func78 (by kernel_rfl) (by kernel_rfl) (by kernel_rfl) FLOk.nil ?_
  intro args k r hk
  unfold bitsF at hk
  split at hk <;> try (simp at hk; done)
  rename_i v lo n
  refine ⟨_, hk, by simp [Ids, Idss], by simp [Ids, Idss], ?_⟩
  clear hk
  have h1 := loS_bd lo
  have h2 := nS_bd lo n
  repeat' ((conv => arg 1; whnf); split)
  all_goals (try (conv => arg 1; whnf))
  all_goals first | refine ends_int ?_ | (exfalso; simp [ltB_true, ltB_false, leB_true, leB_false] at *; omega)
  all_goals rfl
abbrev T_z15 : TE := [(33, ⟨.int .u64 0, 1, 8, .sc (.int .u64), none⟩)]
theorem T_z27 : Prg Try.prog T_z15 := ⟨(.cons te_33 (TEok.nil _)), by kernel_rfl⟩
noncomputable abbrev O_z15 {α : Type} : ORC α := [(70, .pure partF), (71, .pure maskF)]
theorem O_z27 {α : Type} {I : Imm} : OOk (α := α) Try.prog I O_z15 := OOk.cons c_zo (OOk.cons c_z8 (OOk.nil))
set_option maxHeartbeats 4000000 in
set_option maxRecDepth 100000 in
theorem c_z15 {α : Type} {I : Imm} : OrcOk (α := α) Try.prog I 45 (.pure setF) := by
  refine orc_pure T_z27 (O := O_z15) O_z27 (L := []) ⟨1, []⟩ Try.func45 (by kernel_rfl) (by kernel_rfl) (by kernel_rfl) FLOk.nil ?_
  intro args k r hk
  unfold setF at hk
  split at hk <;> try (simp at hk; done)
  rename_i v lo n x
  refine ⟨_, hk, by simp [Ids, Idss], by simp [Ids, Idss], ?_⟩
  clear hk
  have h1 := loS_bd lo
  have h2 := nS_bd lo n
  repeat' ((conv => arg 1; whnf); split)
  all_goals (try (conv => arg 1; whnf))
  all_goals first | refine ends_int ?_ | (exfalso; simp [ltB_true, ltB_false, leB_true, leB_false] at *; omega)
  all_goals rfl
theorem te_40 : TyOk Try.prog 40 ⟨.ints .u64 29 (fun _ => 0), 29, 232, .ar 29 33 1 false, some (.ar 29 1 (.it .u64))⟩ := ⟨fun _ => by kernel_rfl, ⟨rfl, rfl, fun _ _ => by simp [Wf, Wfs]⟩, ⟨Try.underlying40, by kernel_rfl, by kernel_rfl⟩, fun _ h => by cases h; exact ⟨by kernel_rfl, by kernel_rfl⟩⟩
theorem te_42 : TyOk Try.prog 42 ⟨.agg [.ints .u64 32 (fun _ => 0), .int .u64 0, .int .i64 0, .bool false, .ints .u64 29 (fun _ => 0), .int .u64 0], 65, 520, .st [(0, 32, true), (32, 1, false), (33, 1, false), (34, 1, false), (35, 29, true), (64, 1, false)], some (.st [(0, 32, true, .ar 32 1 (.it .u64)), (32, 1, false, .it .u64), (33, 1, false, .it .i64), (34, 1, false, .bl), (35, 29, true, .ar 29 1 (.it .u64)), (64, 1, false, .it .u64)])⟩ := ⟨fun _ => by kernel_rfl, ⟨rfl, rfl, fun _ _ => by simp [Wf, Wfs]⟩, ⟨_, Try.underlying42, by kernel_rfl⟩, fun _ h => by cases h; exact ⟨by kernel_rfl, by kernel_rfl⟩⟩
abbrev T_zk : TE := [(33, ⟨.int .u64 0, 1, 8, .sc (.int .u64), none⟩), (40, ⟨.ints .u64 29 (fun _ => 0), 29, 232, .ar 29 33 1 false, some (.ar 29 1 (.it .u64))⟩), (42, ⟨.agg [.ints .u64 32 (fun _ => 0), .int .u64 0, .int .i64 0, .bool false, .ints .u64 29 (fun _ => 0), .int .u64 0], 65, 520, .st [(0, 32, true), (32, 1, false), (33, 1, false), (34, 1, false), (35, 29, true), (64, 1, false)], some (.st [(0, 32, true, .ar 32 1 (.it .u64)), (32, 1, false, .it .u64), (33, 1, false, .it .i64), (34, 1, false, .bl), (35, 29, true, .ar 29 1 (.it .u64)), (64, 1, false, .it .u64)])⟩)]
theorem T_z1y : Prg Try.prog T_zk := ⟨(.cons te_33 (.cons te_40 (.cons te_42 (TEok.nil _)))), by kernel_rfl⟩
noncomputable abbrev O_zk {α : Type} : ORC α := [(78, .pure bitsF)]
theorem O_z1y {α : Type} {I : Imm} : OOk (α := α) Try.prog I O_zk := OOk.cons c_zm (OOk.nil)
set_option maxHeartbeats 4000000 in
set_option maxRecDepth 100000 in
theorem c_zk {α : Type} {I : Imm} : OrcOk (α := α) Try.prog I 52 (.pure bitF) := by
  refine orc_pure T_z1y (O := O_zk) O_z1y (L := []) ⟨1, []⟩ Try.func52 (by kernel_rfl) (by kernel_rfl) (by kernel_rfl) FLOk.nil ?_
  intro args k r hk
  unfold bitF at hk
  split at hk <;> try (simp at hk; done)
  rename_i x pc lv vv c dn i b
  cases hg : (decide (0 ≤ i) && decide (i < 29)) <;> rw [hg] at hk <;> simp only [cond_true, cond_false] at hk <;> try (simp at hk; done)
  refine ⟨_, hk, by simp [Ids, Idss], by simp [Ids, Idss], ?_⟩
  clear hk
  simp only [Bool.and_eq_true, decide_eq_true_eq] at hg
  repeat' ((conv => arg 1; whnf); split)
  all_goals (try (conv => arg 1; whnf))
  all_goals first | refine ends_bool ?_ | (exfalso; simp [ltB_true, ltB_false, leB_true, leB_false] at *; omega)
  all_goals rfl
end Go.Proofs.Ythcpbmgbehidlaa
