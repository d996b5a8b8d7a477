/-
  Contracts: Walk.
-/
import Derived.Test.YtemkfjnmaljmeaaGreatGnPte
import Derived.Test.YtemkfjnmaljmeaaGreatSpWalk
set_option linter.unusedSimpArgs false
set_option linter.unusedVariables false
namespace Go.Proofs.YtemkfjnmaljmeaaGreat
open Go Go.Sh Go.Proofs
set_option linter.unusedSimpArgs false
theorem te_92 : TyOk Tryz.prog 92 ⟨.nilp, 1, 8, .sc (.pointer 201), none⟩ := ⟨fun _ => by kernel_rfl, ⟨rfl, rfl, fun _ _ => by simp [Wf, Wfs]⟩, ⟨Tryz.underlying92, rfl⟩, fun _ h => by cases h⟩
abbrev T_z29 : TE := [(3, ⟨.int .i64 0, 1, 8, .sc (.int .i64), none⟩), (23, ⟨.int .u64 0, 1, 8, .sc (.int .u64), none⟩), (92, ⟨.nilp, 1, 8, .sc (.pointer 201), none⟩)]
theorem T_z48 : Prg Tryz.prog T_z29 := ⟨(.cons te_3 (.cons te_23 (.cons te_92 (TEok.nil _)))), by kernel_rfl⟩
noncomputable abbrev O_z29 {α : Type} : ORC α := [(246, .full readF)]
theorem O_z48 {α : Type} {I : Imm} : OOk (α := α) Tryz.prog I O_z29 := OOk.cons c_z1k (OOk.nil)
set_option maxHeartbeats 4000000 in
set_option maxRecDepth 100000 in
theorem c_z29 {α : Type} {I : Imm} : OrcOk (α := α) Tryz.prog I 299 (.full entryF) := by
  refine orc_canon T_z48 (O := O_z29) O_z48 (L := []) ⟨1, []⟩ Tryz.func299 (by kernel_rfl) (by kernel_rfl) (by kernel_rfl) FLOk.nil ?_
  intro args σ k r hk
  unfold entryF at hk
  split at hk <;> try (simp at hk; done)
  rename_i p frame index
  obtain ⟨b, b1, g0, g1, f, rfl, h0, h1, hne, hk'⟩ := withMem_spec hk
  clear hk; have hk := hk'; clear hk'
  refine ⟨[b, b1], [memO 1 g0, byO g1 f], [.ptr 0 [], .int .i64 frame, .int .i64 index], lay_mk rfl (nodup2 hne) rfl ⟨h0, h1, trivial⟩ (by simp [AllL, Ids, Idss]) (by simp [AllL, OIds, Ids, Idss]), ?_⟩
  refine ends_keep (v := .tuple [.int .u64 (entryV f frame index), .bool (entryOk frame index)]) (bl := []) ?_ (by simp [Ids, Idss]) trivial hk
  clear hk
  cases hc : entryOk frame index
  · have hc2 : ¬ (0 ≤ frame ∧ frame < 128 ∧ 0 ≤ index ∧ index < 16) := fun ⟨a1, a2, a3, a4⟩ => by simp [entryOk, a1, a2, a3, a4] at hc
    repeat' ((conv => arg 1; whnf); split <;> try (exfalso; (try simp only [ltB_true, ltB_false, leB_true, leB_false, decide_eq_true_eq, decide_eq_false_iff_not, Bool.and_eq_true, Bool.and_eq_false_iff, Bool.or_eq_true, Bool.or_eq_false_iff, Bool.not_eq_true', Bool.not_eq_false', bne_iff_ne, ne_eq, bne_eq_false_iff_eq, beq_iff_eq, beq_eq_false_iff_ne, Decidable.not_not, eq_self, decide_true, Bool.true_and, true_and, not_true_eq_false, false_or, Nat.beq_refl, Bool.true_eq_false, Int.toNat_zero, nbeq, and_true, strOf_size] at *) <;> omega))
    all_goals (try (conv => arg 1; whnf))
    
    all_goals exact ⟨_, _, rfl, by simp [entryV, hc], trivial, .inr rfl, .inr rfl, trivial⟩
  · obtain ⟨q1, q2, q3, q4, q5, q6⟩ := entry_facts hc
    have q7 := wrap_u64_bd (IntKind.i64.wrap (IntKind.i64.wrap (frame * 256) + IntKind.i64.wrap (index * 8)))
    repeat' ((conv => arg 1; whnf); split <;> try (exfalso; (try simp only [ltB_true, ltB_false, leB_true, leB_false, decide_eq_true_eq, decide_eq_false_iff_not, Bool.and_eq_true, Bool.and_eq_false_iff, Bool.or_eq_true, Bool.or_eq_false_iff, Bool.not_eq_true', Bool.not_eq_false', bne_iff_ne, ne_eq, bne_eq_false_iff_eq, beq_iff_eq, beq_eq_false_iff_ne, Decidable.not_not, eq_self, decide_true, Bool.true_and, true_and, not_true_eq_false, false_or, Nat.beq_refl, Bool.true_eq_false, Int.toNat_zero, nbeq, and_true, strOf_size] at *) <;> omega))
    all_goals (try (conv => arg 1; whnf))
    
    all_goals exact ⟨_, _, rfl, by simp [entryV, hc, q5, q6], trivial, .inr rfl, .inr rfl, trivial⟩
abbrev T_z1v : TE := [(92, ⟨.nilp, 1, 8, .sc (.pointer 201), none⟩)]
theorem T_z49 : Prg Tryz.prog T_z1v := ⟨(.cons te_92 (TEok.nil _)), by kernel_rfl⟩
noncomputable abbrev O_z1v {α : Type} : ORC α := [(299, .full entryF)]
theorem O_z49 {α : Type} {I : Imm} : OOk (α := α) Tryz.prog I O_z1v := OOk.cons c_z29 (OOk.nil)
noncomputable abbrev B_z1v {α : Type} : FF α := byBody T_z1v O_z1v ⟨1, []⟩ Tryz.f301
theorem c_z1v {α : Type} {I : Imm} : OrcOk (α := α) Tryz.prog I 301 (.full B_z1v) := orc_body T_z49 O_z49 ⟨1, []⟩ Tryz.func301 (by kernel_rfl) (by kernel_rfl) (by kernel_rfl)
theorem te_381 : TyOk Tryz.prog 381 ⟨.ints .u64 2 (fun _ => 0), 2, 16, .ar 2 23 1 false, some (.ar 2 1 (.it .u64))⟩ := ⟨fun _ => by kernel_rfl, ⟨rfl, rfl, fun _ _ => by simp [Wf, Wfs]⟩, ⟨Tryz.underlying381, by kernel_rfl, by kernel_rfl⟩, fun _ h => by cases h; exact ⟨by kernel_rfl, by kernel_rfl⟩⟩
abbrev T_z1x : TE := [(3, ⟨.int .i64 0, 1, 8, .sc (.int .i64), none⟩), (23, ⟨.int .u64 0, 1, 8, .sc (.int .u64), none⟩), (381, ⟨.ints .u64 2 (fun _ => 0), 2, 16, .ar 2 23 1 false, some (.ar 2 1 (.it .u64))⟩)]
theorem T_z4a : Prg Tryz.prog T_z1x := ⟨(.cons te_3 (.cons te_23 (.cons te_381 (TEok.nil _)))), by kernel_rfl⟩
noncomputable abbrev O_z1x {α : Type} : ORC α := [(217, .pure bitsF), (297, .pure isF), (298, .pure leafF), (243, .pure frameF), (204, .pure setF), (301, .full B_z1v)]
theorem O_z4a {α : Type} {I : Imm} : OOk (α := α) Tryz.prog I O_z1x := OOk.cons c_z18 (OOk.cons c_z21 (OOk.cons c_z28 (OOk.cons c_z1z (OOk.cons c_z23 (OOk.cons c_z1v (OOk.nil))))))
noncomputable abbrev B_z1x {α : Type} : FF α := byBody T_z1x O_z1x ⟨3, []⟩ Tryz.f239
theorem c_z1x {α : Type} {I : Imm} : OrcOk (α := α) Tryz.prog I 239 (.full B_z1x) := orc_body T_z4a O_z4a ⟨3, []⟩ Tryz.func239 (by kernel_rfl) (by kernel_rfl) (by kernel_rfl)
abbrev T_z30 : TE := [(92, ⟨.nilp, 1, 8, .sc (.pointer 201), none⟩)]
theorem T_z4b : Prg Tryz.prog T_z30 := ⟨(.cons te_92 (TEok.nil _)), by kernel_rfl⟩
noncomputable abbrev O_z30 {α : Type} : ORC α := [(301, .full B_z1v), (239, .full B_z1x)]
theorem O_z4b {α : Type} {I : Imm} : OOk (α := α) Tryz.prog I O_z30 := OOk.cons c_z1v (OOk.cons c_z1x (OOk.nil))
set_option maxHeartbeats 4000000 in
set_option maxRecDepth 100000 in
theorem c_z30 {α : Type} {I : Imm} : OrcOk (α := α) Tryz.prog I 244 (.full walkF) := by
  refine orc_canon T_z4b (O := O_z30) O_z4b (L := []) ⟨1, []⟩ Tryz.func244 (by kernel_rfl) (by kernel_rfl) (by kernel_rfl) FLOk.nil ?_
  intro args σ k r hk
  unfold walkF at hk
  split at hk <;> try (simp at hk; done)
  rename_i p root at_
  obtain ⟨b, b1, g0, g1, f, rfl, h0, h1, hne, hk'⟩ := withMem_spec hk
  clear hk; have hk := hk'; clear hk'
  refine ⟨[b, b1], [memO 1 g0, byO g1 f], [.ptr 0 [], .int .i64 root, .int .u64 at_], lay_mk rfl (nodup2 hne) rfl ⟨h0, h1, trivial⟩ (by simp [AllL, Ids, Idss]) (by simp [AllL, OIds, Ids, Idss]), ?_⟩
  refine ends_keep (v := .tuple [.int .u64 (walkS f root at_).1, .int .i64 (walkS f root at_).2]) (bl := []) ?_ (by simp [Ids, Idss]) trivial hk
  clear hk
  repeat' ((conv => arg 1; whnf); split <;> try (exfalso; (try simp only [ltB_true, ltB_false, leB_true, leB_false, decide_eq_true_eq, decide_eq_false_iff_not, Bool.and_eq_true, Bool.and_eq_false_iff, Bool.or_eq_true, Bool.or_eq_false_iff, Bool.not_eq_true', Bool.not_eq_false', bne_iff_ne, ne_eq, bne_eq_false_iff_eq, beq_iff_eq, beq_eq_false_iff_ne, Decidable.not_not, eq_self, decide_true, Bool.true_and, true_and, not_true_eq_false, false_or, Nat.beq_refl, Bool.true_eq_false, Int.toNat_zero, nbeq, and_true, strOf_size] at *) <;> omega))
  all_goals (try (conv => arg 1; whnf))
  all_goals (try simp only [Bool.not_eq_true', Bool.not_eq_false', u2_0, u2_1] at *)
  all_goals exact ⟨_, _, rfl, by simp only [walkS, thr, wrd, cond_true, cond_false, *, Bool.and_true, Bool.true_and, Bool.false_and, Bool.and_false, Bool.or_true, Bool.true_or, Bool.or_false, Bool.false_or, Bool.not_true, Bool.not_false, Bool.and_self, Bool.or_self] <;> rfl, trivial, .inr rfl, .inr rfl, trivial⟩
end Go.Proofs.YtemkfjnmaljmeaaGreat
