/-
  Contracts: Walk.
-/
import Derived.Test.YtlijlabaopiicaaGreatXnPte
import Derived.Test.YtlijlabaopiicaaGreatSpWalk
set_option linter.unusedSimpArgs false
set_option linter.unusedVariables false
namespace Go.Proofs.YtlijlabaopiicaaGreat
open Go Go.Sh Go.Proofs
set_option linter.unusedSimpArgs false
theorem te_67 : TyOk Tryz.prog 67 ⟨.nilp, 1, 8, .sc (.pointer 123), none⟩ := ⟨fun _ => by kernel_rfl, ⟨rfl, rfl, fun _ _ => by simp [Wf, Wfs]⟩, ⟨Tryz.underlying67, rfl⟩, fun _ h => by cases h⟩
abbrev T_z3f : TE := [(3, ⟨.int .i64 0, 1, 8, .sc (.int .i64), none⟩), (22, ⟨.int .u64 0, 1, 8, .sc (.int .u64), none⟩), (67, ⟨.nilp, 1, 8, .sc (.pointer 123), none⟩)]
theorem T_z8o : Prg Tryz.prog T_z3f := ⟨(.cons te_3 (.cons te_22 (.cons te_67 (TEok.nil _)))), by kernel_rfl⟩
noncomputable abbrev O_z3f {α : Type} : ORC α := [(214, .full readF)]
theorem O_z8o {α : Type} {I : Imm} : OOk (α := α) Tryz.prog I O_z3f := OOk.cons c_z1z (OOk.nil)
set_option maxHeartbeats 4000000 in
set_option maxRecDepth 100000 in
theorem c_z3f {α : Type} {I : Imm} : OrcOk (α := α) Tryz.prog I 222 (.full entryF) := by
  refine orc_canon T_z8o (O := O_z3f) O_z8o (L := []) ⟨1, []⟩ Tryz.func222 (by kernel_rfl) (by kernel_rfl) (by kernel_rfl) FLOk.nil ?_
  intro args σ k r hk
  unfold entryF at hk
  split at hk <;> try (simp at hk; done)
  rename_i p frame index
  obtain ⟨b, b1, g0, g1, f, rfl, h0, h1, hne, hk'⟩ := withMem_spec hk
  clear hk; have hk := hk'; clear hk'
  refine ⟨[b, b1], [memO 1 g0, byO g1 f], [.ptr 0 [], .int .i64 frame, .int .i64 index], lay_mk rfl (nodup2 hne) rfl ⟨h0, h1, trivial⟩ (by simp [AllL, Ids, Idss]) (by simp [AllL, OIds, Ids, Idss]), ?_⟩
  refine ends_keep (v := .tuple [.int .u64 (entryV f frame index), .bool (entryOk frame index)]) (bl := []) ?_ (by simp [Ids, Idss]) trivial hk
  clear hk
  cases hc : entryOk frame index
  · have hc2 : ¬ (0 ≤ frame ∧ frame < 128 ∧ 0 ≤ index ∧ index < 16) := fun ⟨a1, a2, a3, a4⟩ => by simp [entryOk, a1, a2, a3, a4] at hc
    repeat' ((conv => arg 1; whnf); split <;> try (exfalso; (try simp only [ltB_true, ltB_false, leB_true, leB_false, decide_eq_true_eq, decide_eq_false_iff_not, Bool.and_eq_true, Bool.and_eq_false_iff, Bool.or_eq_true, Bool.or_eq_false_iff, Bool.not_eq_true', Bool.not_eq_false', bne_iff_ne, ne_eq, bne_eq_false_iff_eq, beq_iff_eq, beq_eq_false_iff_ne, Decidable.not_not, eq_self, decide_true, Bool.true_and, true_and, not_true_eq_false, false_or, Nat.beq_refl, Bool.true_eq_false, Int.toNat_zero, nbeq, and_true, strOf_size] at *) <;> omega))
    all_goals (try (conv => arg 1; whnf))
    
    all_goals exact ⟨_, _, rfl, by simp [entryV, hc], trivial, .inr rfl, .inr rfl, trivial⟩
  · obtain ⟨q1, q2, q3, q4, q5, q6⟩ := entry_facts hc
    have q7 := wrap_u64_bd (IntKind.i64.wrap (IntKind.i64.wrap (frame * 256) + IntKind.i64.wrap (index * 8)))
    repeat' ((conv => arg 1; whnf); split <;> try (exfalso; (try simp only [ltB_true, ltB_false, leB_true, leB_false, decide_eq_true_eq, decide_eq_false_iff_not, Bool.and_eq_true, Bool.and_eq_false_iff, Bool.or_eq_true, Bool.or_eq_false_iff, Bool.not_eq_true', Bool.not_eq_false', bne_iff_ne, ne_eq, bne_eq_false_iff_eq, beq_iff_eq, beq_eq_false_iff_ne, Decidable.not_not, eq_self, decide_true, Bool.true_and, true_and, not_true_eq_false, false_or, Nat.beq_refl, Bool.true_eq_false, Int.toNat_zero, nbeq, and_true, strOf_size] at *) <;> omega))
    all_goals (try (conv => arg 1; whnf))
    
    all_goals exact ⟨_, _, rfl, by simp [entryV, hc, q5, q6], trivial, .inr rfl, .inr rfl, trivial⟩
abbrev T_z33 : TE := [(67, ⟨.nilp, 1, 8, .sc (.pointer 123), none⟩)]
theorem T_z8p : Prg Tryz.prog T_z33 := ⟨(.cons te_67 (TEok.nil _)), by kernel_rfl⟩
noncomputable abbrev O_z33 {α : Type} : ORC α := [(222, .full entryF)]
theorem O_z8p {α : Type} {I : Imm} : OOk (α := α) Tryz.prog I O_z33 := OOk.cons c_z3f (OOk.nil)
noncomputable abbrev B_z33 {α : Type} : FF α := byBody T_z33 O_z33 ⟨1, []⟩ Tryz.f224
theorem c_z33 {α : Type} {I : Imm} : OrcOk (α := α) Tryz.prog I 224 (.full B_z33) := orc_body T_z8p O_z8p ⟨1, []⟩ Tryz.func224 (by kernel_rfl) (by kernel_rfl) (by kernel_rfl)
theorem te_291 : TyOk Tryz.prog 291 ⟨.ints .u64 2 (fun _ => 0), 2, 16, .ar 2 22 1 false, some (.ar 2 1 (.it .u64))⟩ := ⟨fun _ => by kernel_rfl, ⟨rfl, rfl, fun _ _ => by simp [Wf, Wfs]⟩, ⟨Tryz.underlying291, by kernel_rfl, by kernel_rfl⟩, fun _ h => by cases h; exact ⟨by kernel_rfl, by kernel_rfl⟩⟩
abbrev T_z35 : TE := [(3, ⟨.int .i64 0, 1, 8, .sc (.int .i64), none⟩), (22, ⟨.int .u64 0, 1, 8, .sc (.int .u64), none⟩), (291, ⟨.ints .u64 2 (fun _ => 0), 2, 16, .ar 2 22 1 false, some (.ar 2 1 (.it .u64))⟩)]
theorem T_z8q : Prg Tryz.prog T_z35 := ⟨(.cons te_3 (.cons te_22 (.cons te_291 (TEok.nil _)))), by kernel_rfl⟩
noncomputable abbrev O_z35 {α : Type} : ORC α := [(118, .pure bitsF), (220, .pure isF), (221, .pure leafF), (210, .pure frameF), (108, .pure setF), (224, .full B_z33)]
theorem O_z8q {α : Type} {I : Imm} : OOk (α := α) Tryz.prog I O_z35 := OOk.cons c_z2 (OOk.cons c_z3a (OOk.cons c_z3e (OOk.cons c_z38 (OOk.cons c_zg (OOk.cons c_z33 (OOk.nil))))))
noncomputable abbrev B_z35 {α : Type} : FF α := byBody T_z35 O_z35 ⟨3, []⟩ Tryz.f206
theorem c_z35 {α : Type} {I : Imm} : OrcOk (α := α) Tryz.prog I 206 (.full B_z35) := orc_body T_z8q O_z8q ⟨3, []⟩ Tryz.func206 (by kernel_rfl) (by kernel_rfl) (by kernel_rfl)
abbrev T_z3x : TE := [(67, ⟨.nilp, 1, 8, .sc (.pointer 123), none⟩)]
theorem T_z8r : Prg Tryz.prog T_z3x := ⟨(.cons te_67 (TEok.nil _)), by kernel_rfl⟩
noncomputable abbrev O_z3x {α : Type} : ORC α := [(224, .full B_z33), (206, .full B_z35)]
theorem O_z8r {α : Type} {I : Imm} : OOk (α := α) Tryz.prog I O_z3x := OOk.cons c_z33 (OOk.cons c_z35 (OOk.nil))
set_option maxHeartbeats 4000000 in
set_option maxRecDepth 100000 in
theorem c_z3x {α : Type} {I : Imm} : OrcOk (α := α) Tryz.prog I 211 (.full walkF) := by
  refine orc_canon T_z8r (O := O_z3x) O_z8r (L := []) ⟨1, []⟩ Tryz.func211 (by kernel_rfl) (by kernel_rfl) (by kernel_rfl) FLOk.nil ?_
  intro args σ k r hk
  unfold walkF at hk
  split at hk <;> try (simp at hk; done)
  rename_i p root at_
  obtain ⟨b, b1, g0, g1, f, rfl, h0, h1, hne, hk'⟩ := withMem_spec hk
  clear hk; have hk := hk'; clear hk'
  refine ⟨[b, b1], [memO 1 g0, byO g1 f], [.ptr 0 [], .int .i64 root, .int .u64 at_], lay_mk rfl (nodup2 hne) rfl ⟨h0, h1, trivial⟩ (by simp [AllL, Ids, Idss]) (by simp [AllL, OIds, Ids, Idss]), ?_⟩
  refine ends_keep (v := .tuple [.int .u64 (walkS f root at_).1, .int .i64 (walkS f root at_).2]) (bl := []) ?_ (by simp [Ids, Idss]) trivial hk
  clear hk
  repeat' ((conv => arg 1; whnf); split <;> try (exfalso; (try simp only [ltB_true, ltB_false, leB_true, leB_false, decide_eq_true_eq, decide_eq_false_iff_not, Bool.and_eq_true, Bool.and_eq_false_iff, Bool.or_eq_true, Bool.or_eq_false_iff, Bool.not_eq_true', Bool.not_eq_false', bne_iff_ne, ne_eq, bne_eq_false_iff_eq, beq_iff_eq, beq_eq_false_iff_ne, Decidable.not_not, eq_self, decide_true, Bool.true_and, true_and, not_true_eq_false, false_or, Nat.beq_refl, Bool.true_eq_false, Int.toNat_zero, nbeq, and_true, strOf_size] at *) <;> omega))
  all_goals (try (conv => arg 1; whnf))
  all_goals (try simp only [Bool.not_eq_true', Bool.not_eq_false', u2_0, u2_1] at *)
  all_goals exact ⟨_, _, rfl, by simp only [walkS, thr, wrd, cond_true, cond_false, *, Bool.and_true, Bool.true_and, Bool.false_and, Bool.and_false, Bool.or_true, Bool.true_or, Bool.or_false, Bool.false_or, Bool.not_true, Bool.not_false, Bool.and_self, Bool.or_self] <;> rfl, trivial, .inr rfl, .inr rfl, trivial⟩
end Go.Proofs.YtlijlabaopiicaaGreat
