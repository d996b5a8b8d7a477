/-
  Contracts: Pte.
-/
import Derived.Test.YtemkfjnmaljmeaaGreatGnMem
import Derived.Test.YtemkfjnmaljmeaaGreatSpPte
set_option linter.unusedSimpArgs false
set_option linter.unusedVariables false
namespace Go.Proofs.YtemkfjnmaljmeaaGreat
open Go Go.Sh Go.Proofs
set_option linter.unusedSimpArgs false
abbrev T_z1w : TE := [(3, ⟨.int .i64 0, 1, 8, .sc (.int .i64), none⟩)]
theorem T_z43 : Prg Tryz.prog T_z1w := ⟨(.cons te_3 (TEok.nil _)), by kernel_rfl⟩
noncomputable abbrev O_z1w {α : Type} : ORC α := []
theorem O_z43 {α : Type} {I : Imm} : OOk (α := α) Tryz.prog I O_z1w := OOk.nil
noncomputable abbrev B_z1w {α : Type} : FF α := byBody T_z1w O_z1w ⟨1, []⟩ Tryz.f300
theorem c_z1w {α : Type} {I : Imm} : OrcOk (α := α) Tryz.prog I 300 (.full B_z1w) := orc_body T_z43 O_z43 ⟨1, []⟩ Tryz.func300 (by kernel_rfl) (by kernel_rfl) (by kernel_rfl)
theorem te_383 : TyOk Tryz.prog 383 ⟨.bools 3 (fun _ => false), 3, 3, .ar 3 4 1 false, none⟩ := ⟨fun _ => by kernel_rfl, ⟨rfl, rfl, fun _ _ => by simp [Wf, Wfs]⟩, ⟨Tryz.underlying383, by kernel_rfl, by kernel_rfl⟩, fun _ h => by cases h⟩
abbrev T_z27 : TE := [(3, ⟨.int .i64 0, 1, 8, .sc (.int .i64), none⟩), (383, ⟨.bools 3 (fun _ => false), 3, 3, .ar 3 4 1 false, none⟩)]
theorem T_z44 : Prg Tryz.prog T_z27 := ⟨(.cons te_3 (.cons te_383 (TEok.nil _))), by kernel_rfl⟩
noncomputable abbrev O_z27 {α : Type} : ORC α := [(300, .full B_z1w)]
theorem O_z44 {α : Type} {I : Imm} : OOk (α := α) Tryz.prog I O_z27 := OOk.cons c_z1w (OOk.nil)
set_option maxHeartbeats 4000000 in
set_option maxRecDepth 100000 in
theorem c_z27 {α : Type} {I : Imm} : OrcOk (α := α) Tryz.prog I 241 (.pure mayF) := by
  refine orc_pure T_z44 (O := O_z27) O_z44 (L := []) ⟨1, []⟩ Tryz.func241 (by kernel_rfl) (by kernel_rfl) (by kernel_rfl) FLOk.nil ?_
  intro args k r hk
  unfold mayF at hk
  split at hk <;> try (simp at hk; done)
  rename_i b kind user sum mxr
  refine ⟨_, hk, by simp [Ids, Idss], by simp [Ids, Idss], ?_⟩
  clear hk
  rcases kinds kind with hk | rfl | rfl | rfl | hk <;> cases user <;> cases sum <;> cases mxr
  all_goals repeat' ((conv => arg 1; whnf); split <;> try (exfalso; (try simp only [ltB_true, ltB_false, leB_true, leB_false, decide_eq_true_eq, decide_eq_false_iff_not, Bool.and_eq_true, Bool.and_eq_false_iff, Bool.or_eq_true, Bool.or_eq_false_iff, Bool.not_eq_true', Bool.not_eq_false', bne_iff_ne, ne_eq, bne_eq_false_iff_eq, beq_iff_eq, beq_eq_false_iff_ne, Decidable.not_not, eq_self, decide_true, Bool.true_and, true_and, not_true_eq_false, false_or, Nat.beq_refl, Bool.true_eq_false, Int.toNat_zero, nbeq, and_true, strOf_size] at *) <;> omega))
  all_goals (try (conv => arg 1; whnf))
  all_goals clear k r
  all_goals refine ends_bool ?_
  all_goals try simp only [ltB_true, ltB_false, leB_true, leB_false, decide_eq_true_eq, decide_eq_false_iff_not] at *
  all_goals first | (simp_all [mayS, whoS, hasS, upd3_0, upd3_1, upd3_2]; done) | (simp_all [mayS, whoS, hasS, upd3_0, upd3_1, upd3_2]; omega) | (cases h8 : (bitop BinOp.and IntKind.i64 b 8 == 8) <;> simp_all [mayS, whoS, hasS, upd3_0, upd3_1, upd3_2])
abbrev T_z21 : TE := [(23, ⟨.int .u64 0, 1, 8, .sc (.int .u64), none⟩)]
theorem T_z45 : Prg Tryz.prog T_z21 := ⟨(.cons te_23 (TEok.nil _)), by kernel_rfl⟩
noncomputable abbrev O_z21 {α : Type} : ORC α := []
theorem O_z45 {α : Type} {I : Imm} : OOk (α := α) Tryz.prog I O_z21 := OOk.nil
set_option maxHeartbeats 4000000 in
set_option maxRecDepth 100000 in
theorem c_z21 {α : Type} {I : Imm} : OrcOk (α := α) Tryz.prog I 297 (.pure isF) := by
  refine orc_pure T_z45 (O := O_z21) O_z45 (L := []) ⟨1, []⟩ Tryz.func297 (by kernel_rfl) (by kernel_rfl) (by kernel_rfl) FLOk.nil ?_
  intro args k r hk
  unfold isF at hk
  split at hk <;> try (simp at hk; done)
  rename_i e
  refine ⟨_, hk, by simp [Ids, Idss], by simp [Ids, Idss], ?_⟩
  clear hk
  repeat' ((conv => arg 1; whnf); split <;> try (exfalso; (try simp only [ltB_true, ltB_false, leB_true, leB_false, decide_eq_true_eq, decide_eq_false_iff_not, Bool.and_eq_true, Bool.and_eq_false_iff, Bool.or_eq_true, Bool.or_eq_false_iff, Bool.not_eq_true', Bool.not_eq_false', bne_iff_ne, ne_eq, bne_eq_false_iff_eq, beq_iff_eq, beq_eq_false_iff_ne, Decidable.not_not, eq_self, decide_true, Bool.true_and, true_and, not_true_eq_false, false_or, Nat.beq_refl, Bool.true_eq_false, Int.toNat_zero, nbeq, and_true, strOf_size] at *) <;> omega))
  all_goals (try (conv => arg 1; whnf))
  all_goals refine ends_bool ?_
  all_goals (simp only [isS, *, Bool.and_true, Bool.true_and, Bool.false_and, Bool.and_false, Bool.or_true, Bool.true_or, Bool.or_false, Bool.false_or, Bool.not_true, Bool.not_false, Bool.and_self, Bool.or_self])
abbrev T_z28 : TE := [(23, ⟨.int .u64 0, 1, 8, .sc (.int .u64), none⟩)]
theorem T_z46 : Prg Tryz.prog T_z28 := ⟨(.cons te_23 (TEok.nil _)), by kernel_rfl⟩
noncomputable abbrev O_z28 {α : Type} : ORC α := [(297, .pure isF)]
theorem O_z46 {α : Type} {I : Imm} : OOk (α := α) Tryz.prog I O_z28 := OOk.cons c_z21 (OOk.nil)
set_option maxHeartbeats 4000000 in
set_option maxRecDepth 100000 in
theorem c_z28 {α : Type} {I : Imm} : OrcOk (α := α) Tryz.prog I 298 (.pure leafF) := by
  refine orc_pure T_z46 (O := O_z28) O_z46 (L := []) ⟨1, []⟩ Tryz.func298 (by kernel_rfl) (by kernel_rfl) (by kernel_rfl) FLOk.nil ?_
  intro args k r hk
  unfold leafF at hk
  split at hk <;> try (simp at hk; done)
  rename_i e
  refine ⟨_, hk, by simp [Ids, Idss], by simp [Ids, Idss], ?_⟩
  clear hk
  repeat' ((conv => arg 1; whnf); split <;> try (exfalso; (try simp only [ltB_true, ltB_false, leB_true, leB_false, decide_eq_true_eq, decide_eq_false_iff_not, Bool.and_eq_true, Bool.and_eq_false_iff, Bool.or_eq_true, Bool.or_eq_false_iff, Bool.not_eq_true', Bool.not_eq_false', bne_iff_ne, ne_eq, bne_eq_false_iff_eq, beq_iff_eq, beq_eq_false_iff_ne, Decidable.not_not, eq_self, decide_true, Bool.true_and, true_and, not_true_eq_false, false_or, Nat.beq_refl, Bool.true_eq_false, Int.toNat_zero, nbeq, and_true, strOf_size] at *) <;> omega))
  all_goals (try (conv => arg 1; whnf))
  all_goals refine ends_bool ?_
  all_goals (simp only [leafS, *, Bool.and_true, Bool.true_and, Bool.false_and, Bool.and_false, Bool.or_true, Bool.true_or, Bool.or_false, Bool.false_or, Bool.not_true, Bool.not_false, Bool.and_self, Bool.or_self])
abbrev T_z1z : TE := [(3, ⟨.int .i64 0, 1, 8, .sc (.int .i64), none⟩), (23, ⟨.int .u64 0, 1, 8, .sc (.int .u64), none⟩)]
theorem T_z47 : Prg Tryz.prog T_z1z := ⟨(.cons te_3 (.cons te_23 (TEok.nil _))), by kernel_rfl⟩
noncomputable abbrev O_z1z {α : Type} : ORC α := [(217, .pure bitsF)]
theorem O_z47 {α : Type} {I : Imm} : OOk (α := α) Tryz.prog I O_z1z := OOk.cons c_z18 (OOk.nil)
set_option maxHeartbeats 4000000 in
set_option maxRecDepth 100000 in
theorem c_z1z {α : Type} {I : Imm} : OrcOk (α := α) Tryz.prog I 243 (.pure frameF) := by
  refine orc_pure T_z47 (O := O_z1z) O_z47 (L := []) ⟨1, []⟩ Tryz.func243 (by kernel_rfl) (by kernel_rfl) (by kernel_rfl) FLOk.nil ?_
  intro args k r hk
  unfold frameF at hk
  split at hk <;> try (simp at hk; done)
  rename_i e
  refine ⟨_, hk, by simp [Ids, Idss], by simp [Ids, Idss], ?_⟩
  clear hk
  repeat' ((conv => arg 1; whnf); split <;> try (exfalso; (try simp only [ltB_true, ltB_false, leB_true, leB_false, decide_eq_true_eq, decide_eq_false_iff_not, Bool.and_eq_true, Bool.and_eq_false_iff, Bool.or_eq_true, Bool.or_eq_false_iff, Bool.not_eq_true', Bool.not_eq_false', bne_iff_ne, ne_eq, bne_eq_false_iff_eq, beq_iff_eq, beq_eq_false_iff_ne, Decidable.not_not, eq_self, decide_true, Bool.true_and, true_and, not_true_eq_false, false_or, Nat.beq_refl, Bool.true_eq_false, Int.toNat_zero, nbeq, and_true, strOf_size] at *) <;> omega))
  all_goals (try (conv => arg 1; whnf))
  exact ends_int rfl
end Go.Proofs.YtemkfjnmaljmeaaGreat
