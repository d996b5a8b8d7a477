/-
  Contracts: Pte.
-/
import Derived.Test.YthcpbmgbehidlaaTnMem
import Derived.Test.YthcpbmgbehidlaaSpPte
set_option linter.unusedSimpArgs false
set_option linter.unusedVariables false
namespace Go.Proofs.Ythcpbmgbehidlaa
open Go Go.Sh Go.Proofs
set_option linter.unusedSimpArgs false
abbrev T_zz : TE := [(3, ⟨.int .i64 0, 1, 8, .sc (.int .i64), none⟩)]
theorem T_z2e : Prg Try.prog T_zz := ⟨(.cons te_3 (TEok.nil _)), by kernel_rfl⟩
noncomputable abbrev O_zz {α : Type} : ORC α := []
theorem O_z2e {α : Type} {I : Imm} : OOk (α := α) Try.prog I O_zz := OOk.nil
noncomputable abbrev B_zz {α : Type} : FF α := byBody T_zz O_zz ⟨1, []⟩ Try.f82
theorem c_zz {α : Type} {I : Imm} : OrcOk (α := α) Try.prog I 82 (.full B_zz) := orc_body T_z2e O_z2e ⟨1, []⟩ Try.func82 (by kernel_rfl) (by kernel_rfl) (by kernel_rfl)
theorem te_151 : TyOk Try.prog 151 ⟨.bools 3 (fun _ => false), 3, 3, .ar 3 4 1 false, none⟩ := ⟨fun _ => by kernel_rfl, ⟨rfl, rfl, fun _ _ => by simp [Wf, Wfs]⟩, ⟨Try.underlying151, by kernel_rfl, by kernel_rfl⟩, fun _ h => by cases h⟩
abbrev T_z17 : TE := [(3, ⟨.int .i64 0, 1, 8, .sc (.int .i64), none⟩), (151, ⟨.bools 3 (fun _ => false), 3, 3, .ar 3 4 1 false, none⟩)]
theorem T_z2f : Prg Try.prog T_z17 := ⟨(.cons te_3 (.cons te_151 (TEok.nil _))), by kernel_rfl⟩
noncomputable abbrev O_z17 {α : Type} : ORC α := [(82, .full B_zz)]
theorem O_z2f {α : Type} {I : Imm} : OOk (α := α) Try.prog I O_z17 := OOk.cons c_zz (OOk.nil)
set_option maxHeartbeats 4000000 in
set_option maxRecDepth 100000 in
theorem c_z17 {α : Type} {I : Imm} : OrcOk (α := α) Try.prog I 56 (.pure mayF) := by
  refine orc_pure T_z2f (O := O_z17) O_z2f (L := []) ⟨1, []⟩ Try.func56 (by kernel_rfl) (by kernel_rfl) (by kernel_rfl) FLOk.nil ?_
  intro args k r hk
  unfold mayF at hk
  split at hk <;> try (simp at hk; done)
  rename_i b kind user sum mxr
  refine ⟨_, hk, by simp [Ids, Idss], by simp [Ids, Idss], ?_⟩
  clear hk
  rcases kinds kind with hk | rfl | rfl | rfl | hk <;> cases user <;> cases sum <;> cases mxr
  all_goals repeat' ((conv => arg 1; whnf); split <;> try (exfalso; (try simp only [ltB_true, ltB_false, leB_true, leB_false, decide_eq_true_eq, decide_eq_false_iff_not, Bool.and_eq_true, Bool.and_eq_false_iff, Bool.or_eq_true, Bool.or_eq_false_iff, Bool.not_eq_true', Bool.not_eq_false', bne_iff_ne, ne_eq, bne_eq_false_iff_eq, beq_iff_eq, beq_eq_false_iff_ne, Decidable.not_not, eq_self, decide_true, Bool.true_and, true_and, not_true_eq_false, false_or, Nat.beq_refl, Bool.true_eq_false, Int.toNat_zero, nbeq, and_true, strOf_size] at *) <;> omega))
  all_goals (try (conv => arg 1; whnf))
  all_goals clear k r
  all_goals refine ends_bool ?_
  all_goals try simp only [ltB_true, ltB_false, leB_true, leB_false, decide_eq_true_eq, decide_eq_false_iff_not] at *
  all_goals first | (simp_all [mayS, whoS, hasS, upd3_0, upd3_1, upd3_2]; done) | (simp_all [mayS, whoS, hasS, upd3_0, upd3_1, upd3_2]; omega) | (cases h8 : (bitop BinOp.and IntKind.i64 b 8 == 8) <;> simp_all [mayS, whoS, hasS, upd3_0, upd3_1, upd3_2])
abbrev T_z13 : TE := [(33, ⟨.int .u64 0, 1, 8, .sc (.int .u64), none⟩)]
theorem T_z2g : Prg Try.prog T_z13 := ⟨(.cons te_33 (TEok.nil _)), by kernel_rfl⟩
noncomputable abbrev O_z13 {α : Type} : ORC α := []
theorem O_z2g {α : Type} {I : Imm} : OOk (α := α) Try.prog I O_z13 := OOk.nil
set_option maxHeartbeats 4000000 in
set_option maxRecDepth 100000 in
theorem c_z13 {α : Type} {I : Imm} : OrcOk (α := α) Try.prog I 79 (.pure isF) := by
  refine orc_pure T_z2g (O := O_z13) O_z2g (L := []) ⟨1, []⟩ Try.func79 (by kernel_rfl) (by kernel_rfl) (by kernel_rfl) FLOk.nil ?_
  intro args k r hk
  unfold isF at hk
  split at hk <;> try (simp at hk; done)
  rename_i e
  refine ⟨_, hk, by simp [Ids, Idss], by simp [Ids, Idss], ?_⟩
  clear hk
  repeat' ((conv => arg 1; whnf); split <;> try (exfalso; (try simp only [ltB_true, ltB_false, leB_true, leB_false, decide_eq_true_eq, decide_eq_false_iff_not, Bool.and_eq_true, Bool.and_eq_false_iff, Bool.or_eq_true, Bool.or_eq_false_iff, Bool.not_eq_true', Bool.not_eq_false', bne_iff_ne, ne_eq, bne_eq_false_iff_eq, beq_iff_eq, beq_eq_false_iff_ne, Decidable.not_not, eq_self, decide_true, Bool.true_and, true_and, not_true_eq_false, false_or, Nat.beq_refl, Bool.true_eq_false, Int.toNat_zero, nbeq, and_true, strOf_size] at *) <;> omega))
  all_goals (try (conv => arg 1; whnf))
  all_goals refine ends_bool ?_
  all_goals (simp only [isS, *, Bool.and_true, Bool.true_and, Bool.false_and, Bool.and_false, Bool.or_true, Bool.true_or, Bool.or_false, Bool.false_or, Bool.not_true, Bool.not_false, Bool.and_self, Bool.or_self])
abbrev T_z18 : TE := [(33, ⟨.int .u64 0, 1, 8, .sc (.int .u64), none⟩)]
theorem T_z2h : Prg Try.prog T_z18 := ⟨(.cons te_33 (TEok.nil _)), by kernel_rfl⟩
noncomputable abbrev O_z18 {α : Type} : ORC α := [(79, .pure isF)]
theorem O_z2h {α : Type} {I : Imm} : OOk (α := α) Try.prog I O_z18 := OOk.cons c_z13 (OOk.nil)
set_option maxHeartbeats 4000000 in
set_option maxRecDepth 100000 in
theorem c_z18 {α : Type} {I : Imm} : OrcOk (α := α) Try.prog I 80 (.pure leafF) := by
  refine orc_pure T_z2h (O := O_z18) O_z2h (L := []) ⟨1, []⟩ Try.func80 (by kernel_rfl) (by kernel_rfl) (by kernel_rfl) FLOk.nil ?_
  intro args k r hk
  unfold leafF at hk
  split at hk <;> try (simp at hk; done)
  rename_i e
  refine ⟨_, hk, by simp [Ids, Idss], by simp [Ids, Idss], ?_⟩
  clear hk
  repeat' ((conv => arg 1; whnf); split <;> try (exfalso; (try simp only [ltB_true, ltB_false, leB_true, leB_false, decide_eq_true_eq, decide_eq_false_iff_not, Bool.and_eq_true, Bool.and_eq_false_iff, Bool.or_eq_true, Bool.or_eq_false_iff, Bool.not_eq_true', Bool.not_eq_false', bne_iff_ne, ne_eq, bne_eq_false_iff_eq, beq_iff_eq, beq_eq_false_iff_ne, Decidable.not_not, eq_self, decide_true, Bool.true_and, true_and, not_true_eq_false, false_or, Nat.beq_refl, Bool.true_eq_false, Int.toNat_zero, nbeq, and_true, strOf_size] at *) <;> omega))
  all_goals (try (conv => arg 1; whnf))
  all_goals refine ends_bool ?_
  all_goals (simp only [leafS, *, Bool.and_true, Bool.true_and, Bool.false_and, Bool.and_false, Bool.or_true, Bool.true_or, Bool.or_false, Bool.false_or, Bool.not_true, Bool.not_false, Bool.and_self, Bool.or_self])
abbrev T_z12 : TE := [(3, ⟨.int .i64 0, 1, 8, .sc (.int .i64), none⟩), (33, ⟨.int .u64 0, 1, 8, .sc (.int .u64), none⟩)]
theorem T_z2i : Prg Try.prog T_z12 := ⟨(.cons te_3 (.cons te_33 (TEok.nil _))), by kernel_rfl⟩
noncomputable abbrev O_z12 {α : Type} : ORC α := [(78, .pure bitsF)]
theorem O_z2i {α : Type} {I : Imm} : OOk (α := α) Try.prog I O_z12 := OOk.cons c_zm (OOk.nil)
set_option maxHeartbeats 4000000 in
set_option maxRecDepth 100000 in
theorem c_z12 {α : Type} {I : Imm} : OrcOk (α := α) Try.prog I 58 (.pure frameF) := by
  refine orc_pure T_z2i (O := O_z12) O_z2i (L := []) ⟨1, []⟩ Try.func58 (by kernel_rfl) (by kernel_rfl) (by kernel_rfl) FLOk.nil ?_
  intro args k r hk
  unfold frameF at hk
  split at hk <;> try (simp at hk; done)
  rename_i e
  refine ⟨_, hk, by simp [Ids, Idss], by simp [Ids, Idss], ?_⟩
  clear hk
  repeat' ((conv => arg 1; whnf); split <;> try (exfalso; (try simp only [ltB_true, ltB_false, leB_true, leB_false, decide_eq_true_eq, decide_eq_false_iff_not, Bool.and_eq_true, Bool.and_eq_false_iff, Bool.or_eq_true, Bool.or_eq_false_iff, Bool.not_eq_true', Bool.not_eq_false', bne_iff_ne, ne_eq, bne_eq_false_iff_eq, beq_iff_eq, beq_eq_false_iff_ne, Decidable.not_not, eq_self, decide_true, Bool.true_and, true_and, not_true_eq_false, false_or, Nat.beq_refl, Bool.true_eq_false, Int.toNat_zero, nbeq, and_true, strOf_size] at *) <;> omega))
  all_goals (try (conv => arg 1; whnf))
  exact ends_int rfl
end Go.Proofs.Ythcpbmgbehidlaa
