/-
  Contracts: Walk.
-/
import Derived.Test.YtigomjcmpafeeaaFnPte
import Derived.Test.YtigomjcmpafeeaaSpWalk
set_option linter.unusedSimpArgs false
set_option linter.unusedVariables false
namespace Go.Proofs.Ytigomjcmpafeeaa
open Go Go.Sh Go.Proofs
set_option linter.unusedSimpArgs false
theorem te_28 : TyOk Try.prog 28 ⟨.nilp, 1, 8, .sc (.pointer 102), none⟩ := ⟨fun _ => by kernel_rfl, ⟨rfl, rfl, fun _ _ => by simp [Wf, Wfs]⟩, ⟨Try.underlying28, rfl⟩, fun _ h => by cases h⟩
abbrev T_walk_Entry : TE := [(3, ⟨.int .i64 0, 1, 8, .sc (.int .i64), none⟩), (28, ⟨.nilp, 1, 8, .sc (.pointer 102), none⟩), (33, ⟨.int .u64 0, 1, 8, .sc (.int .u64), none⟩)]
theorem T_walk_Entry_ok : Prg Try.prog T_walk_Entry := ⟨(.cons te_3 (.cons te_28 (.cons te_33 (TEok.nil _)))), by kernel_rfl⟩
noncomputable abbrev O_walk_Entry {α : Type} : ORC α := [(124, .full readF)]
theorem O_walk_Entry_ok {α : Type} {I : Imm} : OOk (α := α) Try.prog I O_walk_Entry := OOk.cons c_mem_Memory_Read (OOk.nil)
set_option maxHeartbeats 4000000 in
set_option maxRecDepth 100000 in
theorem c_walk_Entry {α : Type} {I : Imm} : OrcOk (α := α) Try.prog I 118 (.full entryF) := by
  refine orc_canon T_walk_Entry_ok (O := O_walk_Entry) O_walk_Entry_ok (L := []) ⟨1, []⟩ Try.func118 (by kernel_rfl) (by kernel_rfl) (by kernel_rfl) FLOk.nil ?_
  intro args σ k r hk
  unfold entryF at hk
  split at hk <;> try (simp at hk; done)
  rename_i p frame index
  obtain ⟨b, b1, g0, g1, f, rfl, h0, h1, hne, hk'⟩ := withMem_spec hk
  clear hk; have hk := hk'; clear hk'
  refine ⟨[b, b1], [memO 1 g0, byO g1 f], [.ptr 0 [], .int .i64 frame, .int .i64 index], lay_mk rfl (nodup2 hne) rfl ⟨h0, h1, trivial⟩ (by simp [AllL, Ids, Idss]) (by simp [AllL, OIds, Ids, Idss]), ?_⟩
  refine ends_keep (v := .tuple [.int .u64 (entryV f frame index), .bool (entryOk frame index)]) (bl := []) ?_ (by simp [Ids, Idss]) trivial hk
  clear hk
  cases hc : entryOk frame index
  · have hc2 : ¬ (0 ≤ frame ∧ frame < 128 ∧ 0 ≤ index ∧ index < 16) := fun ⟨a1, a2, a3, a4⟩ => by simp [entryOk, a1, a2, a3, a4] at hc
    repeat' ((conv => arg 1; whnf); split <;> try (exfalso; (try simp only [ltB_true, ltB_false, leB_true, leB_false, decide_eq_true_eq, decide_eq_false_iff_not, Bool.and_eq_true, Bool.and_eq_false_iff, Bool.or_eq_true, Bool.or_eq_false_iff, Bool.not_eq_true', Bool.not_eq_false', bne_iff_ne, ne_eq, bne_eq_false_iff_eq, beq_iff_eq, beq_eq_false_iff_ne, Decidable.not_not, eq_self, decide_true, Bool.true_and, true_and, not_true_eq_false, false_or, Nat.beq_refl, Bool.true_eq_false, Int.toNat_zero, nbeq, and_true, strOf_size] at *) <;> omega))
    all_goals (try (conv => arg 1; whnf))
    
    all_goals exact ⟨_, _, rfl, by simp [entryV, hc], trivial, .inr rfl, .inr rfl, trivial⟩
  · obtain ⟨q1, q2, q3, q4, q5, q6⟩ := entry_facts hc
    have q7 := wrap_u64_bd (IntKind.i64.wrap (IntKind.i64.wrap (frame * 256) + IntKind.i64.wrap (index * 8)))
    repeat' ((conv => arg 1; whnf); split <;> try (exfalso; (try simp only [ltB_true, ltB_false, leB_true, leB_false, decide_eq_true_eq, decide_eq_false_iff_not, Bool.and_eq_true, Bool.and_eq_false_iff, Bool.or_eq_true, Bool.or_eq_false_iff, Bool.not_eq_true', Bool.not_eq_false', bne_iff_ne, ne_eq, bne_eq_false_iff_eq, beq_iff_eq, beq_eq_false_iff_ne, Decidable.not_not, eq_self, decide_true, Bool.true_and, true_and, not_true_eq_false, false_or, Nat.beq_refl, Bool.true_eq_false, Int.toNat_zero, nbeq, and_true, strOf_size] at *) <;> omega))
    all_goals (try (conv => arg 1; whnf))
    
    all_goals exact ⟨_, _, rfl, by simp [entryV, hc, q5, q6], trivial, .inr rfl, .inr rfl, trivial⟩
abbrev T_walk_Walk_1 : TE := [(28, ⟨.nilp, 1, 8, .sc (.pointer 102), none⟩)]
theorem T_walk_Walk_1_ok : Prg Try.prog T_walk_Walk_1 := ⟨(.cons te_28 (TEok.nil _)), by kernel_rfl⟩
noncomputable abbrev O_walk_Walk_1 {α : Type} : ORC α := [(118, .full entryF)]
theorem O_walk_Walk_1_ok {α : Type} {I : Imm} : OOk (α := α) Try.prog I O_walk_Walk_1 := OOk.cons c_walk_Entry (OOk.nil)
noncomputable abbrev B_walk_Walk_1 {α : Type} : FF α := byBody T_walk_Walk_1 O_walk_Walk_1 ⟨1, []⟩ Try.f119
theorem c_walk_Walk_1 {α : Type} {I : Imm} : OrcOk (α := α) Try.prog I 119 (.full B_walk_Walk_1) := orc_body T_walk_Walk_1_ok O_walk_Walk_1_ok ⟨1, []⟩ Try.func119 (by kernel_rfl) (by kernel_rfl) (by kernel_rfl)
theorem te_189 : TyOk Try.prog 189 ⟨.ints .u64 2 (fun _ => 0), 2, 16, .ar 2 33 1 false, some (.ar 2 1 (.it .u64))⟩ := ⟨fun _ => by kernel_rfl, ⟨rfl, rfl, fun _ _ => by simp [Wf, Wfs]⟩, ⟨Try.underlying189, by kernel_rfl, by kernel_rfl⟩, fun _ h => by cases h; exact ⟨by kernel_rfl, by kernel_rfl⟩⟩
abbrev T_walk_Through : TE := [(3, ⟨.int .i64 0, 1, 8, .sc (.int .i64), none⟩), (33, ⟨.int .u64 0, 1, 8, .sc (.int .u64), none⟩), (189, ⟨.ints .u64 2 (fun _ => 0), 2, 16, .ar 2 33 1 false, some (.ar 2 1 (.it .u64))⟩)]
theorem T_walk_Through_ok : Prg Try.prog T_walk_Through := ⟨(.cons te_3 (.cons te_33 (.cons te_189 (TEok.nil _)))), by kernel_rfl⟩
noncomputable abbrev O_walk_Through {α : Type} : ORC α := [(96, .pure bitsF), (116, .pure isF), (117, .pure leafF), (93, .pure frameF), (86, .pure setF), (119, .full B_walk_Walk_1)]
theorem O_walk_Through_ok {α : Type} {I : Imm} : OOk (α := α) Try.prog I O_walk_Through := OOk.cons c_word_Bits (OOk.cons c_pte_Is (OOk.cons c_pte_Leaf (OOk.cons c_pte_Frame (OOk.cons c_word_Set (OOk.cons c_walk_Walk_1 (OOk.nil))))))
noncomputable abbrev B_walk_Through {α : Type} : FF α := byBody T_walk_Through O_walk_Through ⟨3, []⟩ Try.f91
theorem c_walk_Through {α : Type} {I : Imm} : OrcOk (α := α) Try.prog I 91 (.full B_walk_Through) := orc_body T_walk_Through_ok O_walk_Through_ok ⟨3, []⟩ Try.func91 (by kernel_rfl) (by kernel_rfl) (by kernel_rfl)
abbrev T_walk_Walk : TE := [(28, ⟨.nilp, 1, 8, .sc (.pointer 102), none⟩)]
theorem T_walk_Walk_ok : Prg Try.prog T_walk_Walk := ⟨(.cons te_28 (TEok.nil _)), by kernel_rfl⟩
noncomputable abbrev O_walk_Walk {α : Type} : ORC α := [(119, .full B_walk_Walk_1), (91, .full B_walk_Through)]
theorem O_walk_Walk_ok {α : Type} {I : Imm} : OOk (α := α) Try.prog I O_walk_Walk := OOk.cons c_walk_Walk_1 (OOk.cons c_walk_Through (OOk.nil))
set_option maxHeartbeats 4000000 in
set_option maxRecDepth 100000 in
theorem c_walk_Walk {α : Type} {I : Imm} : OrcOk (α := α) Try.prog I 94 (.full walkF) := by
  refine orc_canon T_walk_Walk_ok (O := O_walk_Walk) O_walk_Walk_ok (L := []) ⟨1, []⟩ Try.func94 (by kernel_rfl) (by kernel_rfl) (by kernel_rfl) FLOk.nil ?_
  intro args σ k r hk
  unfold walkF at hk
  split at hk <;> try (simp at hk; done)
  rename_i p root at_
  obtain ⟨b, b1, g0, g1, f, rfl, h0, h1, hne, hk'⟩ := withMem_spec hk
  clear hk; have hk := hk'; clear hk'
  refine ⟨[b, b1], [memO 1 g0, byO g1 f], [.ptr 0 [], .int .i64 root, .int .u64 at_], lay_mk rfl (nodup2 hne) rfl ⟨h0, h1, trivial⟩ (by simp [AllL, Ids, Idss]) (by simp [AllL, OIds, Ids, Idss]), ?_⟩
  refine ends_keep (v := .tuple [.int .u64 (walkS f root at_).1, .int .i64 (walkS f root at_).2]) (bl := []) ?_ (by simp [Ids, Idss]) trivial hk
  clear hk
  repeat' ((conv => arg 1; whnf); split <;> try (exfalso; (try simp only [ltB_true, ltB_false, leB_true, leB_false, decide_eq_true_eq, decide_eq_false_iff_not, Bool.and_eq_true, Bool.and_eq_false_iff, Bool.or_eq_true, Bool.or_eq_false_iff, Bool.not_eq_true', Bool.not_eq_false', bne_iff_ne, ne_eq, bne_eq_false_iff_eq, beq_iff_eq, beq_eq_false_iff_ne, Decidable.not_not, eq_self, decide_true, Bool.true_and, true_and, not_true_eq_false, false_or, Nat.beq_refl, Bool.true_eq_false, Int.toNat_zero, nbeq, and_true, strOf_size] at *) <;> omega))
  all_goals (try (conv => arg 1; whnf))
  all_goals (try simp only [Bool.not_eq_true', Bool.not_eq_false', u2_0, u2_1] at *)
  all_goals exact ⟨_, _, rfl, by simp only [walkS, thr, wrd, cond_true, cond_false, *, Bool.and_true, Bool.true_and, Bool.false_and, Bool.and_false, Bool.or_true, Bool.true_or, Bool.or_false, Bool.false_or, Bool.not_true, Bool.not_false, Bool.and_self, Bool.or_self] <;> rfl, trivial, .inr rfl, .inr rfl, trivial⟩
end Go.Proofs.Ytigomjcmpafeeaa
