/-
  Contracts: Walk.
-/
import Derived.Test.YthcpbmgbehidlaaTnPte
import Derived.Test.YthcpbmgbehidlaaSpWalk
set_option linter.unusedSimpArgs false
set_option linter.unusedVariables false
namespace Go.Proofs.Ythcpbmgbehidlaa
open Go Go.Sh Go.Proofs
set_option linter.unusedSimpArgs false
theorem te_28 : TyOk Try.prog 28 ⟨.nilp, 1, 8, .sc (.pointer 72), none⟩ := ⟨fun _ => by kernel_rfl, ⟨rfl, rfl, fun _ _ => by simp [Wf, Wfs]⟩, ⟨Try.underlying28, rfl⟩, fun _ h => by cases h⟩
abbrev T_z19 : TE := [(3, ⟨.int .i64 0, 1, 8, .sc (.int .i64), none⟩), (28, ⟨.nilp, 1, 8, .sc (.pointer 72), none⟩), (33, ⟨.int .u64 0, 1, 8, .sc (.int .u64), none⟩)]
theorem T_z2j : Prg Try.prog T_z19 := ⟨(.cons te_3 (.cons te_28 (.cons te_33 (TEok.nil _)))), by kernel_rfl⟩
noncomputable abbrev O_z19 {α : Type} : ORC α := [(90, .full readF)]
theorem O_z2j {α : Type} {I : Imm} : OOk (α := α) Try.prog I O_z19 := OOk.cons c_zq (OOk.nil)
set_option maxHeartbeats 4000000 in
set_option maxRecDepth 100000 in
theorem c_z19 {α : Type} {I : Imm} : OrcOk (α := α) Try.prog I 81 (.full entryF) := by
  refine orc_canon T_z2j (O := O_z19) O_z2j (L := []) ⟨1, []⟩ Try.func81 (by kernel_rfl) (by kernel_rfl) (by kernel_rfl) FLOk.nil ?_
  intro args σ k r hk
  unfold entryF at hk
  split at hk <;> try (simp at hk; done)
  rename_i p frame index
  obtain ⟨b, b1, g0, g1, f, rfl, h0, h1, hne, hk'⟩ := withMem_spec hk
  clear hk; have hk := hk'; clear hk'
  refine ⟨[b, b1], [memO 1 g0, byO g1 f], [.ptr 0 [], .int .i64 frame, .int .i64 index], lay_mk rfl (nodup2 hne) rfl ⟨h0, h1, trivial⟩ (by simp [AllL, Ids, Idss]) (by simp [AllL, OIds, Ids, Idss]), ?_⟩
  refine ends_keep (v := .tuple [.int .u64 (entryV f frame index), .bool (entryOk frame index)]) (bl := []) ?_ (by simp [Ids, Idss]) trivial hk
  clear hk
  cases hc : entryOk frame index
  · have hc2 : ¬ (0 ≤ frame ∧ frame < 128 ∧ 0 ≤ index ∧ index < 16) := fun ⟨a1, a2, a3, a4⟩ => by simp [entryOk, a1, a2, a3, a4] at hc
    repeat' ((conv => arg 1; whnf); split <;> try (exfalso; (try simp only [ltB_true, ltB_false, leB_true, leB_false, decide_eq_true_eq, decide_eq_false_iff_not, Bool.and_eq_true, Bool.and_eq_false_iff, Bool.or_eq_true, Bool.or_eq_false_iff, Bool.not_eq_true', Bool.not_eq_false', bne_iff_ne, ne_eq, bne_eq_false_iff_eq, beq_iff_eq, beq_eq_false_iff_ne, Decidable.not_not, eq_self, decide_true, Bool.true_and, true_and, not_true_eq_false, false_or, Nat.beq_refl, Bool.true_eq_false, Int.toNat_zero, nbeq, and_true, strOf_size] at *) <;> omega))
    all_goals (try (conv => arg 1; whnf))
    
    all_goals exact ⟨_, _, rfl, by simp [entryV, hc], trivial, .inr rfl, .inr rfl, trivial⟩
  · obtain ⟨q1, q2, q3, q4, q5, q6⟩ := entry_facts hc
    have q7 := wrap_u64_bd (IntKind.i64.wrap (IntKind.i64.wrap (frame * 256) + IntKind.i64.wrap (index * 8)))
    repeat' ((conv => arg 1; whnf); split <;> try (exfalso; (try simp only [ltB_true, ltB_false, leB_true, leB_false, decide_eq_true_eq, decide_eq_false_iff_not, Bool.and_eq_true, Bool.and_eq_false_iff, Bool.or_eq_true, Bool.or_eq_false_iff, Bool.not_eq_true', Bool.not_eq_false', bne_iff_ne, ne_eq, bne_eq_false_iff_eq, beq_iff_eq, beq_eq_false_iff_ne, Decidable.not_not, eq_self, decide_true, Bool.true_and, true_and, not_true_eq_false, false_or, Nat.beq_refl, Bool.true_eq_false, Int.toNat_zero, nbeq, and_true, strOf_size] at *) <;> omega))
    all_goals (try (conv => arg 1; whnf))
    
    all_goals exact ⟨_, _, rfl, by simp [entryV, hc, q5, q6], trivial, .inr rfl, .inr rfl, trivial⟩
abbrev T_zy : TE := [(28, ⟨.nilp, 1, 8, .sc (.pointer 72), none⟩)]
theorem T_z2k : Prg Try.prog T_zy := ⟨(.cons te_28 (TEok.nil _)), by kernel_rfl⟩
noncomputable abbrev O_zy {α : Type} : ORC α := [(81, .full entryF)]
theorem O_z2k {α : Type} {I : Imm} : OOk (α := α) Try.prog I O_zy := OOk.cons c_z19 (OOk.nil)
noncomputable abbrev B_zy {α : Type} : FF α := byBody T_zy O_zy ⟨1, []⟩ Try.f83
theorem c_zy {α : Type} {I : Imm} : OrcOk (α := α) Try.prog I 83 (.full B_zy) := orc_body T_z2k O_z2k ⟨1, []⟩ Try.func83 (by kernel_rfl) (by kernel_rfl) (by kernel_rfl)
theorem te_149 : TyOk Try.prog 149 ⟨.ints .u64 2 (fun _ => 0), 2, 16, .ar 2 33 1 false, some (.ar 2 1 (.it .u64))⟩ := ⟨fun _ => by kernel_rfl, ⟨rfl, rfl, fun _ _ => by simp [Wf, Wfs]⟩, ⟨Try.underlying149, by kernel_rfl, by kernel_rfl⟩, fun _ h => by cases h; exact ⟨by kernel_rfl, by kernel_rfl⟩⟩
abbrev T_z10 : TE := [(3, ⟨.int .i64 0, 1, 8, .sc (.int .i64), none⟩), (33, ⟨.int .u64 0, 1, 8, .sc (.int .u64), none⟩), (149, ⟨.ints .u64 2 (fun _ => 0), 2, 16, .ar 2 33 1 false, some (.ar 2 1 (.it .u64))⟩)]
theorem T_z2l : Prg Try.prog T_z10 := ⟨(.cons te_3 (.cons te_33 (.cons te_149 (TEok.nil _)))), by kernel_rfl⟩
noncomputable abbrev O_z10 {α : Type} : ORC α := [(78, .pure bitsF), (79, .pure isF), (80, .pure leafF), (58, .pure frameF), (45, .pure setF), (83, .full B_zy)]
theorem O_z2l {α : Type} {I : Imm} : OOk (α := α) Try.prog I O_z10 := OOk.cons c_zm (OOk.cons c_z13 (OOk.cons c_z18 (OOk.cons c_z12 (OOk.cons c_z15 (OOk.cons c_zy (OOk.nil))))))
noncomputable abbrev B_z10 {α : Type} : FF α := byBody T_z10 O_z10 ⟨3, []⟩ Try.f54
theorem c_z10 {α : Type} {I : Imm} : OrcOk (α := α) Try.prog I 54 (.full B_z10) := orc_body T_z2l O_z2l ⟨3, []⟩ Try.func54 (by kernel_rfl) (by kernel_rfl) (by kernel_rfl)
abbrev T_z1p : TE := [(28, ⟨.nilp, 1, 8, .sc (.pointer 72), none⟩)]
theorem T_z2m : Prg Try.prog T_z1p := ⟨(.cons te_28 (TEok.nil _)), by kernel_rfl⟩
noncomputable abbrev O_z1p {α : Type} : ORC α := [(83, .full B_zy), (54, .full B_z10)]
theorem O_z2m {α : Type} {I : Imm} : OOk (α := α) Try.prog I O_z1p := OOk.cons c_zy (OOk.cons c_z10 (OOk.nil))
set_option maxHeartbeats 4000000 in
set_option maxRecDepth 100000 in
theorem c_z1p {α : Type} {I : Imm} : OrcOk (α := α) Try.prog I 59 (.full walkF) := by
  refine orc_canon T_z2m (O := O_z1p) O_z2m (L := []) ⟨1, []⟩ Try.func59 (by kernel_rfl) (by kernel_rfl) (by kernel_rfl) FLOk.nil ?_
  intro args σ k r hk
  unfold walkF at hk
  split at hk <;> try (simp at hk; done)
  rename_i p root at_
  obtain ⟨b, b1, g0, g1, f, rfl, h0, h1, hne, hk'⟩ := withMem_spec hk
  clear hk; have hk := hk'; clear hk'
  refine ⟨[b, b1], [memO 1 g0, byO g1 f], [.ptr 0 [], .int .i64 root, .int .u64 at_], lay_mk rfl (nodup2 hne) rfl ⟨h0, h1, trivial⟩ (by simp [AllL, Ids, Idss]) (by simp [AllL, OIds, Ids, Idss]), ?_⟩
  refine ends_keep (v := .tuple [.int .u64 (walkS f root at_).1, .int .i64 (walkS f root at_).2]) (bl := []) ?_ (by simp [Ids, Idss]) trivial hk
  clear hk
  repeat' ((conv => arg 1; whnf); split <;> try (exfalso; (try simp only [ltB_true, ltB_false, leB_true, leB_false, decide_eq_true_eq, decide_eq_false_iff_not, Bool.and_eq_true, Bool.and_eq_false_iff, Bool.or_eq_true, Bool.or_eq_false_iff, Bool.not_eq_true', Bool.not_eq_false', bne_iff_ne, ne_eq, bne_eq_false_iff_eq, beq_iff_eq, beq_eq_false_iff_ne, Decidable.not_not, eq_self, decide_true, Bool.true_and, true_and, not_true_eq_false, false_or, Nat.beq_refl, Bool.true_eq_false, Int.toNat_zero, nbeq, and_true, strOf_size] at *) <;> omega))
  all_goals (try (conv => arg 1; whnf))
  all_goals (try simp only [Bool.not_eq_true', Bool.not_eq_false', u2_0, u2_1] at *)
  all_goals exact ⟨_, _, rfl, by simp only [walkS, thr, wrd, cond_true, cond_false, *, Bool.and_true, Bool.true_and, Bool.false_and, Bool.and_false, Bool.or_true, Bool.true_or, Bool.or_false, Bool.false_or, Bool.not_true, Bool.not_false, Bool.and_self, Bool.or_self] <;> rfl, trivial, .inr rfl, .inr rfl, trivial⟩
end Go.Proofs.Ythcpbmgbehidlaa
