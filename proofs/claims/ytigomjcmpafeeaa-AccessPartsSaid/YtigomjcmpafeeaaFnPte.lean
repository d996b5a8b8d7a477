/-
  Contracts: Pte.
-/
import Derived.Test.YtigomjcmpafeeaaFnMem
import Derived.Test.YtigomjcmpafeeaaSpPte
set_option linter.unusedSimpArgs false
set_option linter.unusedVariables false
namespace Go.Proofs.Ytigomjcmpafeeaa
open Go Go.Sh Go.Proofs
set_option linter.unusedSimpArgs false
abbrev T_pte_May_1 : TE := [(3, ⟨.int .i64 0, 1, 8, .sc (.int .i64), none⟩)]
theorem T_pte_May_1_ok : Prg Try.prog T_pte_May_1 := ⟨(.cons te_3 (TEok.nil _)), by kernel_rfl⟩
noncomputable abbrev O_pte_May_1 {α : Type} : ORC α := []
theorem O_pte_May_1_ok {α : Type} {I : Imm} : OOk (α := α) Try.prog I O_pte_May_1 := OOk.nil
noncomputable abbrev B_pte_May_1 {α : Type} : FF α := byBody T_pte_May_1 O_pte_May_1 ⟨1, []⟩ Try.f102
theorem c_pte_May_1 {α : Type} {I : Imm} : OrcOk (α := α) Try.prog I 102 (.full B_pte_May_1) := orc_body T_pte_May_1_ok O_pte_May_1_ok ⟨1, []⟩ Try.func102 (by kernel_rfl) (by kernel_rfl) (by kernel_rfl)
theorem te_171 : TyOk Try.prog 171 ⟨.bools 3 (fun _ => false), 3, 3, .ar 3 4 1 false, none⟩ := ⟨fun _ => by kernel_rfl, ⟨rfl, rfl, fun _ _ => by simp [Wf, Wfs]⟩, ⟨Try.underlying171, by kernel_rfl, by kernel_rfl⟩, fun _ h => by cases h⟩
abbrev T_pte_May : TE := [(3, ⟨.int .i64 0, 1, 8, .sc (.int .i64), none⟩), (171, ⟨.bools 3 (fun _ => false), 3, 3, .ar 3 4 1 false, none⟩)]
theorem T_pte_May_ok : Prg Try.prog T_pte_May := ⟨(.cons te_3 (.cons te_171 (TEok.nil _))), by kernel_rfl⟩
noncomputable abbrev O_pte_May {α : Type} : ORC α := [(102, .full B_pte_May_1)]
theorem O_pte_May_ok {α : Type} {I : Imm} : OOk (α := α) Try.prog I O_pte_May := OOk.cons c_pte_May_1 (OOk.nil)
set_option maxHeartbeats 4000000 in
set_option maxRecDepth 100000 in
theorem c_pte_May {α : Type} {I : Imm} : OrcOk (α := α) Try.prog I 68 (.pure mayF) := by
  refine orc_pure T_pte_May_ok (O := O_pte_May) O_pte_May_ok (L := []) ⟨1, []⟩ Try.func68 (by kernel_rfl) (by kernel_rfl) (by kernel_rfl) FLOk.nil ?_
  intro args k r hk
  unfold mayF at hk
  split at hk <;> try (simp at hk; done)
  rename_i b kind user sum mxr
  refine ⟨_, hk, by simp [Ids, Idss], by simp [Ids, Idss], ?_⟩
  clear hk
  rcases kinds kind with hk | rfl | rfl | rfl | hk <;> cases user <;> cases sum <;> cases mxr
  all_goals repeat' ((conv => arg 1; whnf); split <;> try (exfalso; (try simp only [ltB_true, ltB_false, leB_true, leB_false, decide_eq_true_eq, decide_eq_false_iff_not, Bool.and_eq_true, Bool.and_eq_false_iff, Bool.or_eq_true, Bool.or_eq_false_iff, Bool.not_eq_true', Bool.not_eq_false', bne_iff_ne, ne_eq, bne_eq_false_iff_eq, beq_iff_eq, beq_eq_false_iff_ne, Decidable.not_not, eq_self, decide_true, Bool.true_and, true_and, not_true_eq_false, false_or, Nat.beq_refl, Bool.true_eq_false, Int.toNat_zero, nbeq, and_true, strOf_size] at *) <;> omega))
  all_goals (try (conv => arg 1; whnf))
  all_goals clear k r
  all_goals refine ends_bool ?_
  all_goals try simp only [ltB_true, ltB_false, leB_true, leB_false, decide_eq_true_eq, decide_eq_false_iff_not] at *
  all_goals first | (simp_all [mayS, whoS, hasS, upd3_0, upd3_1, upd3_2]; done) | (simp_all [mayS, whoS, hasS, upd3_0, upd3_1, upd3_2]; omega) | (cases h8 : (bitop BinOp.and IntKind.i64 b 8 == 8) <;> simp_all [mayS, whoS, hasS, upd3_0, upd3_1, upd3_2])
abbrev T_pte_Is : TE := [(33, ⟨.int .u64 0, 1, 8, .sc (.int .u64), none⟩)]
theorem T_pte_Is_ok : Prg Try.prog T_pte_Is := ⟨(.cons te_33 (TEok.nil _)), by kernel_rfl⟩
noncomputable abbrev O_pte_Is {α : Type} : ORC α := []
theorem O_pte_Is_ok {α : Type} {I : Imm} : OOk (α := α) Try.prog I O_pte_Is := OOk.nil
set_option maxHeartbeats 4000000 in
set_option maxRecDepth 100000 in
theorem c_pte_Is {α : Type} {I : Imm} : OrcOk (α := α) Try.prog I 116 (.pure isF) := by
  refine orc_pure T_pte_Is_ok (O := O_pte_Is) O_pte_Is_ok (L := []) ⟨1, []⟩ Try.func116 (by kernel_rfl) (by kernel_rfl) (by kernel_rfl) FLOk.nil ?_
  intro args k r hk
  unfold isF at hk
  split at hk <;> try (simp at hk; done)
  rename_i e
  refine ⟨_, hk, by simp [Ids, Idss], by simp [Ids, Idss], ?_⟩
  clear hk
  repeat' ((conv => arg 1; whnf); split <;> try (exfalso; (try simp only [ltB_true, ltB_false, leB_true, leB_false, decide_eq_true_eq, decide_eq_false_iff_not, Bool.and_eq_true, Bool.and_eq_false_iff, Bool.or_eq_true, Bool.or_eq_false_iff, Bool.not_eq_true', Bool.not_eq_false', bne_iff_ne, ne_eq, bne_eq_false_iff_eq, beq_iff_eq, beq_eq_false_iff_ne, Decidable.not_not, eq_self, decide_true, Bool.true_and, true_and, not_true_eq_false, false_or, Nat.beq_refl, Bool.true_eq_false, Int.toNat_zero, nbeq, and_true, strOf_size] at *) <;> omega))
  all_goals (try (conv => arg 1; whnf))
  all_goals refine ends_bool ?_
  all_goals (simp only [isS, *, Bool.and_true, Bool.true_and, Bool.false_and, Bool.and_false, Bool.or_true, Bool.true_or, Bool.or_false, Bool.false_or, Bool.not_true, Bool.not_false, Bool.and_self, Bool.or_self])
abbrev T_pte_Leaf : TE := [(33, ⟨.int .u64 0, 1, 8, .sc (.int .u64), none⟩)]
theorem T_pte_Leaf_ok : Prg Try.prog T_pte_Leaf := ⟨(.cons te_33 (TEok.nil _)), by kernel_rfl⟩
noncomputable abbrev O_pte_Leaf {α : Type} : ORC α := [(116, .pure isF)]
theorem O_pte_Leaf_ok {α : Type} {I : Imm} : OOk (α := α) Try.prog I O_pte_Leaf := OOk.cons c_pte_Is (OOk.nil)
set_option maxHeartbeats 4000000 in
set_option maxRecDepth 100000 in
theorem c_pte_Leaf {α : Type} {I : Imm} : OrcOk (α := α) Try.prog I 117 (.pure leafF) := by
  refine orc_pure T_pte_Leaf_ok (O := O_pte_Leaf) O_pte_Leaf_ok (L := []) ⟨1, []⟩ Try.func117 (by kernel_rfl) (by kernel_rfl) (by kernel_rfl) FLOk.nil ?_
  intro args k r hk
  unfold leafF at hk
  split at hk <;> try (simp at hk; done)
  rename_i e
  refine ⟨_, hk, by simp [Ids, Idss], by simp [Ids, Idss], ?_⟩
  clear hk
  repeat' ((conv => arg 1; whnf); split <;> try (exfalso; (try simp only [ltB_true, ltB_false, leB_true, leB_false, decide_eq_true_eq, decide_eq_false_iff_not, Bool.and_eq_true, Bool.and_eq_false_iff, Bool.or_eq_true, Bool.or_eq_false_iff, Bool.not_eq_true', Bool.not_eq_false', bne_iff_ne, ne_eq, bne_eq_false_iff_eq, beq_iff_eq, beq_eq_false_iff_ne, Decidable.not_not, eq_self, decide_true, Bool.true_and, true_and, not_true_eq_false, false_or, Nat.beq_refl, Bool.true_eq_false, Int.toNat_zero, nbeq, and_true, strOf_size] at *) <;> omega))
  all_goals (try (conv => arg 1; whnf))
  all_goals refine ends_bool ?_
  all_goals (simp only [leafS, *, Bool.and_true, Bool.true_and, Bool.false_and, Bool.and_false, Bool.or_true, Bool.true_or, Bool.or_false, Bool.false_or, Bool.not_true, Bool.not_false, Bool.and_self, Bool.or_self])
abbrev T_pte_Frame : TE := [(3, ⟨.int .i64 0, 1, 8, .sc (.int .i64), none⟩), (33, ⟨.int .u64 0, 1, 8, .sc (.int .u64), none⟩)]
theorem T_pte_Frame_ok : Prg Try.prog T_pte_Frame := ⟨(.cons te_3 (.cons te_33 (TEok.nil _))), by kernel_rfl⟩
noncomputable abbrev O_pte_Frame {α : Type} : ORC α := [(96, .pure bitsF)]
theorem O_pte_Frame_ok {α : Type} {I : Imm} : OOk (α := α) Try.prog I O_pte_Frame := OOk.cons c_word_Bits (OOk.nil)
set_option maxHeartbeats 4000000 in
set_option maxRecDepth 100000 in
theorem c_pte_Frame {α : Type} {I : Imm} : OrcOk (α := α) Try.prog I 93 (.pure frameF) := by
  refine orc_pure T_pte_Frame_ok (O := O_pte_Frame) O_pte_Frame_ok (L := []) ⟨1, []⟩ Try.func93 (by kernel_rfl) (by kernel_rfl) (by kernel_rfl) FLOk.nil ?_
  intro args k r hk
  unfold frameF at hk
  split at hk <;> try (simp at hk; done)
  rename_i e
  refine ⟨_, hk, by simp [Ids, Idss], by simp [Ids, Idss], ?_⟩
  clear hk
  repeat' ((conv => arg 1; whnf); split <;> try (exfalso; (try simp only [ltB_true, ltB_false, leB_true, leB_false, decide_eq_true_eq, decide_eq_false_iff_not, Bool.and_eq_true, Bool.and_eq_false_iff, Bool.or_eq_true, Bool.or_eq_false_iff, Bool.not_eq_true', Bool.not_eq_false', bne_iff_ne, ne_eq, bne_eq_false_iff_eq, beq_iff_eq, beq_eq_false_iff_ne, Decidable.not_not, eq_self, decide_true, Bool.true_and, true_and, not_true_eq_false, false_or, Nat.beq_refl, Bool.true_eq_false, Int.toNat_zero, nbeq, and_true, strOf_size] at *) <;> omega))
  all_goals (try (conv => arg 1; whnf))
  exact ends_int rfl
abbrev T_pte_Make : TE := [(3, ⟨.int .i64 0, 1, 8, .sc (.int .i64), none⟩), (33, ⟨.int .u64 0, 1, 8, .sc (.int .u64), none⟩)]
theorem T_pte_Make_ok : Prg Try.prog T_pte_Make := ⟨(.cons te_3 (.cons te_33 (TEok.nil _))), by kernel_rfl⟩
noncomputable abbrev O_pte_Make {α : Type} : ORC α := [(89, .pure zextF), (86, .pure setF)]
theorem O_pte_Make_ok {α : Type} {I : Imm} : OOk (α := α) Try.prog I O_pte_Make := OOk.cons c_word_Zext (OOk.cons c_word_Set (OOk.nil))
set_option maxHeartbeats 4000000 in
set_option maxRecDepth 100000 in
theorem c_pte_Make {α : Type} {I : Imm} : OrcOk (α := α) Try.prog I 49 (.pure makeF) := by
  refine orc_pure T_pte_Make_ok (O := O_pte_Make) O_pte_Make_ok (L := []) ⟨1, []⟩ Try.func49 (by kernel_rfl) (by kernel_rfl) (by kernel_rfl) FLOk.nil ?_
  intro args k r hk
  unfold makeF at hk
  split at hk <;> try (simp at hk; done)
  rename_i frame b
  refine ⟨_, hk, by simp [Ids, Idss], by simp [Ids, Idss], ?_⟩
  clear hk
  repeat' ((conv => arg 1; whnf); split <;> try (exfalso; (try simp only [ltB_true, ltB_false, leB_true, leB_false, decide_eq_true_eq, decide_eq_false_iff_not, Bool.and_eq_true, Bool.and_eq_false_iff, Bool.or_eq_true, Bool.or_eq_false_iff, Bool.not_eq_true', Bool.not_eq_false', bne_iff_ne, ne_eq, bne_eq_false_iff_eq, beq_iff_eq, beq_eq_false_iff_ne, Decidable.not_not, eq_self, decide_true, Bool.true_and, true_and, not_true_eq_false, false_or, Nat.beq_refl, Bool.true_eq_false, Int.toNat_zero, nbeq, and_true, strOf_size] at *) <;> omega))
  all_goals (try (conv => arg 1; whnf))
  exact ends_int rfl
end Go.Proofs.Ytigomjcmpafeeaa
