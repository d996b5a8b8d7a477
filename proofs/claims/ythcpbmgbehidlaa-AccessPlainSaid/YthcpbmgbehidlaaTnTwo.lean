/-
  Contracts: Two.
-/
import Derived.Test.YthcpbmgbehidlaaTnWalk
import Derived.Test.YthcpbmgbehidlaaSpTwo
set_option linter.unusedSimpArgs false
set_option linter.unusedVariables false
namespace Go.Proofs.Ythcpbmgbehidlaa
open Go Go.Sh Go.Proofs
set_option linter.unusedSimpArgs false
abbrev T_z1a : TE := [(3, ⟨.int .i64 0, 1, 8, .sc (.int .i64), none⟩), (33, ⟨.int .u64 0, 1, 8, .sc (.int .u64), none⟩)]
theorem T_z2n : Prg Try.prog T_z1a := ⟨(.cons te_3 (.cons te_33 (TEok.nil _))), by kernel_rfl⟩
noncomputable abbrev O_z1a {α : Type} : ORC α := [(49, .pure zextF)]
theorem O_z2n {α : Type} {I : Imm} : OOk (α := α) Try.prog I O_z1a := OOk.cons c_zj (OOk.nil)
set_option maxHeartbeats 4000000 in
set_option maxRecDepth 100000 in
theorem c_z1a {α : Type} {I : Imm} : OrcOk (α := α) Try.prog I 57 (.pure joinF) := by
  refine orc_pure T_z2n (O := O_z1a) O_z2n (L := []) ⟨1, []⟩ Try.func57 (by kernel_rfl) (by kernel_rfl) (by kernel_rfl) FLOk.nil ?_
  intro args k r hk
  unfold joinF at hk
  split at hk <;> try (simp at hk; done)
  rename_i frame at_
  refine ⟨_, hk, by simp [Ids, Idss], by simp [Ids, Idss], ?_⟩
  clear hk
  repeat' ((conv => arg 1; whnf); split <;> try (exfalso; (try simp only [ltB_true, ltB_false, leB_true, leB_false, decide_eq_true_eq, decide_eq_false_iff_not, Bool.and_eq_true, Bool.and_eq_false_iff, Bool.or_eq_true, Bool.or_eq_false_iff, Bool.not_eq_true', Bool.not_eq_false', bne_iff_ne, ne_eq, bne_eq_false_iff_eq, beq_iff_eq, beq_eq_false_iff_ne, Decidable.not_not, eq_self, decide_true, Bool.true_and, true_and, not_true_eq_false, false_or, Nat.beq_refl, Bool.true_eq_false, Int.toNat_zero, nbeq, and_true, strOf_size] at *) <;> omega))
  all_goals (try (conv => arg 1; whnf))
  exact ends_int rfl
theorem te_4 : TyOk Try.prog 4 ⟨.bool false, 1, 1, .sc (.bool), none⟩ := ⟨fun _ => by kernel_rfl, ⟨rfl, rfl, fun _ _ => by simp [Wf, Wfs]⟩, ⟨Try.underlying4, rfl⟩, fun _ h => by cases h⟩
theorem te_77 : TyOk Try.prog 77 ⟨.agg [.bool false, .bool false, .bool false, .bool false, .int .i64 0, .int .i64 0, .int .i64 0, .int .i64 0], 8, 40, .st [(0, 1, false), (1, 1, false), (2, 1, false), (3, 1, false), (4, 1, false), (5, 1, false), (6, 1, false), (7, 1, false)], some (.st [(0, 1, false, .bl), (1, 1, false, .bl), (2, 1, false, .bl), (3, 1, false, .bl), (4, 1, false, .it .i64), (5, 1, false, .it .i64), (6, 1, false, .it .i64), (7, 1, false, .it .i64)])⟩ := ⟨fun _ => by kernel_rfl, ⟨rfl, rfl, fun _ _ => by simp [Wf, Wfs]⟩, ⟨_, Try.underlying77, by kernel_rfl⟩, fun _ h => by cases h; exact ⟨by kernel_rfl, by kernel_rfl⟩⟩
abbrev T_z1b : TE := [(3, ⟨.int .i64 0, 1, 8, .sc (.int .i64), none⟩), (4, ⟨.bool false, 1, 1, .sc (.bool), none⟩), (33, ⟨.int .u64 0, 1, 8, .sc (.int .u64), none⟩), (77, ⟨.agg [.bool false, .bool false, .bool false, .bool false, .int .i64 0, .int .i64 0, .int .i64 0, .int .i64 0], 8, 40, .st [(0, 1, false), (1, 1, false), (2, 1, false), (3, 1, false), (4, 1, false), (5, 1, false), (6, 1, false), (7, 1, false)], some (.st [(0, 1, false, .bl), (1, 1, false, .bl), (2, 1, false, .bl), (3, 1, false, .bl), (4, 1, false, .it .i64), (5, 1, false, .it .i64), (6, 1, false, .it .i64), (7, 1, false, .it .i64)])⟩)]
theorem T_z2o : Prg Try.prog T_z1b := ⟨(.cons te_3 (.cons te_4 (.cons te_33 (.cons te_77 (TEok.nil _))))), by kernel_rfl⟩
noncomputable abbrev O_z1b {α : Type} : ORC α := [(59, .full walkF), (49, .pure zextF), (56, .pure mayF), (58, .pure frameF), (57, .pure joinF)]
theorem O_z2o {α : Type} {I : Imm} : OOk (α := α) Try.prog I O_z1b := OOk.cons c_z1p (OOk.cons c_zj (OOk.cons c_z17 (OOk.cons c_z12 (OOk.cons c_z1a (OOk.nil)))))
set_option maxHeartbeats 4000000 in
set_option maxRecDepth 100000 in
theorem c_z1b {α : Type} {I : Imm} : OrcOk (α := α) Try.prog I 36 (.full secondF) := by
  refine orc_canon T_z2o (O := O_z1b) O_z2o (L := []) ⟨1, []⟩ Try.func36 (by kernel_rfl) (by kernel_rfl) (by kernel_rfl) FLOk.nil ?_
  intro args σ k r hk
  unfold secondF at hk
  split at hk <;> try (simp at hk; done)
  rename_i p a1 a2 a3 a4 a5 a6 a7 a8 place kind
  obtain ⟨b, b1, g0, g1, f, rfl, h0, h1, hne, hk'⟩ := withMem_spec hk
  clear hk; have hk := hk'; clear hk'
  refine ⟨[b, b1], [memO 1 g0, byO g1 f], [.ptr 0 [], .agg [.bool a1, .bool a2, .bool a3, .bool a4, .int .i64 a5, .int .i64 a6, .int .i64 a7, .int .i64 a8], .int .u64 place, .int .i64 kind], lay_mk rfl (nodup2 hne) rfl ⟨h0, h1, trivial⟩ (by simp [AllL, Ids, Idss]) (by simp [AllL, OIds, Ids, Idss]), ?_⟩
  refine ends_keep (v := secondV (secondS f a2 a8 place kind)) (bl := []) ?_ (by simp [secondV, Ids, Idss]) trivial hk
  clear hk
  repeat' ((conv => arg 1; whnf); split <;> try (exfalso; (try simp only [ltB_true, ltB_false, leB_true, leB_false, decide_eq_true_eq, decide_eq_false_iff_not, Bool.and_eq_true, Bool.and_eq_false_iff, Bool.or_eq_true, Bool.or_eq_false_iff, Bool.not_eq_true', Bool.not_eq_false', bne_iff_ne, ne_eq, bne_eq_false_iff_eq, beq_iff_eq, beq_eq_false_iff_ne, Decidable.not_not, eq_self, decide_true, Bool.true_and, true_and, not_true_eq_false, false_or, Nat.beq_refl, Bool.true_eq_false, Int.toNat_zero, nbeq, and_true, strOf_size] at *) <;> omega))
  all_goals (try (conv => arg 1; whnf))
  all_goals (try simp only [Bool.not_eq_true', Bool.not_eq_false', u2_0, u2_1] at *)
  all_goals exact ⟨_, _, rfl, by simp only [secondV, secondS, leafBits, cond_true, cond_false, *, Bool.and_true, Bool.true_and, Bool.false_and, Bool.and_false, Bool.or_true, Bool.true_or, Bool.or_false, Bool.false_or, Bool.not_true, Bool.not_false, Bool.and_self, Bool.or_self] <;> rfl, trivial, .inr rfl, .inr rfl, trivial⟩
theorem te_47 : TyOk Try.prog 47 ⟨.agg [.int .u64 0, .int .u64 0, .int .u64 0, .bool false], 4, 32, .st [(0, 1, false), (1, 1, false), (2, 1, false), (3, 1, false)], some (.st [(0, 1, false, .it .u64), (1, 1, false, .it .u64), (2, 1, false, .it .u64), (3, 1, false, .bl)])⟩ := ⟨fun _ => by kernel_rfl, ⟨rfl, rfl, fun _ _ => by simp [Wf, Wfs]⟩, ⟨_, Try.underlying47, by kernel_rfl⟩, fun _ h => by cases h; exact ⟨by kernel_rfl, by kernel_rfl⟩⟩
theorem te_80 : TyOk Try.prog 80 ⟨.agg [.int .u64 0, .int .i64 0, .bool false], 3, 24, .st [(0, 1, false), (1, 1, false), (2, 1, false)], some (.st [(0, 1, false, .it .u64), (1, 1, false, .it .i64), (2, 1, false, .bl)])⟩ := ⟨fun _ => by kernel_rfl, ⟨rfl, rfl, fun _ _ => by simp [Wf, Wfs]⟩, ⟨_, Try.underlying80, by kernel_rfl⟩, fun _ h => by cases h; exact ⟨by kernel_rfl, by kernel_rfl⟩⟩
theorem te_122 : TyOk Try.prog 122 ⟨.ints .u64 3 (fun _ => 0), 3, 24, .ar 3 33 1 false, some (.ar 3 1 (.it .u64))⟩ := ⟨fun _ => by kernel_rfl, ⟨rfl, rfl, fun _ _ => by simp [Wf, Wfs]⟩, ⟨Try.underlying122, by kernel_rfl, by kernel_rfl⟩, fun _ h => by cases h; exact ⟨by kernel_rfl, by kernel_rfl⟩⟩
abbrev T_z14 : TE := [(3, ⟨.int .i64 0, 1, 8, .sc (.int .i64), none⟩), (4, ⟨.bool false, 1, 1, .sc (.bool), none⟩), (33, ⟨.int .u64 0, 1, 8, .sc (.int .u64), none⟩), (47, ⟨.agg [.int .u64 0, .int .u64 0, .int .u64 0, .bool false], 4, 32, .st [(0, 1, false), (1, 1, false), (2, 1, false), (3, 1, false)], some (.st [(0, 1, false, .it .u64), (1, 1, false, .it .u64), (2, 1, false, .it .u64), (3, 1, false, .bl)])⟩), (80, ⟨.agg [.int .u64 0, .int .i64 0, .bool false], 3, 24, .st [(0, 1, false), (1, 1, false), (2, 1, false)], some (.st [(0, 1, false, .it .u64), (1, 1, false, .it .i64), (2, 1, false, .bl)])⟩), (122, ⟨.ints .u64 3 (fun _ => 0), 3, 24, .ar 3 33 1 false, some (.ar 3 1 (.it .u64))⟩)]
theorem T_z2p : Prg Try.prog T_z14 := ⟨(.cons te_3 (.cons te_4 (.cons te_33 (.cons te_47 (.cons te_80 (.cons te_122 (TEok.nil _))))))), by kernel_rfl⟩
noncomputable abbrev O_z14 {α : Type} : ORC α := []
theorem O_z2p {α : Type} {I : Imm} : OOk (α := α) Try.prog I O_z14 := OOk.nil
set_option maxHeartbeats 4000000 in
set_option maxRecDepth 100000 in
theorem c_z14 {α : Type} {I : Imm} : OrcOk (α := α) Try.prog I 53 (.pure faultF) := by
  refine orc_pure T_z2p (O := O_z14) O_z2p (L := []) ⟨1, []⟩ Try.func53 (by kernel_rfl) (by kernel_rfl) (by kernel_rfl) FLOk.nil ?_
  intro args k r hk
  unfold faultF at hk
  split at hk <;> try (simp at hk; done)
  rename_i at_ kind v place cs
  refine ⟨_, hk, by simp [Ids, Idss], by simp [Ids, Idss], ?_⟩
  clear hk
  have hk2 := k2_bd kind
  repeat' ((conv => arg 1; whnf); split <;> try (exfalso; (try simp only [ltB_true, ltB_false, leB_true, leB_false, decide_eq_true_eq, decide_eq_false_iff_not, Bool.and_eq_true, Bool.and_eq_false_iff, Bool.or_eq_true, Bool.or_eq_false_iff, Bool.not_eq_true', Bool.not_eq_false', bne_iff_ne, ne_eq, bne_eq_false_iff_eq, beq_iff_eq, beq_eq_false_iff_ne, Decidable.not_not, eq_self, decide_true, Bool.true_and, true_and, not_true_eq_false, false_or, Nat.beq_refl, Bool.true_eq_false, Int.toNat_zero, nbeq, and_true, strOf_size] at *) <;> omega))
  all_goals (try (conv => arg 1; whnf))
  exact ends_any rfl
abbrev T_z1c : TE := [(47, ⟨.agg [.int .u64 0, .int .u64 0, .int .u64 0, .bool false], 4, 32, .st [(0, 1, false), (1, 1, false), (2, 1, false), (3, 1, false)], some (.st [(0, 1, false, .it .u64), (1, 1, false, .it .u64), (2, 1, false, .it .u64), (3, 1, false, .bl)])⟩), (80, ⟨.agg [.int .u64 0, .int .i64 0, .bool false], 3, 24, .st [(0, 1, false), (1, 1, false), (2, 1, false)], some (.st [(0, 1, false, .it .u64), (1, 1, false, .it .i64), (2, 1, false, .bl)])⟩), (122, ⟨.ints .u64 3 (fun _ => 0), 3, 24, .ar 3 33 1 false, some (.ar 3 1 (.it .u64))⟩)]
theorem T_z2q : Prg Try.prog T_z1c := ⟨(.cons te_47 (.cons te_80 (.cons te_122 (TEok.nil _)))), by kernel_rfl⟩
noncomputable abbrev O_z1c {α : Type} : ORC α := [(53, .pure faultF)]
theorem O_z2q {α : Type} {I : Imm} : OOk (α := α) Try.prog I O_z1c := OOk.cons c_z14 (OOk.nil)
set_option maxHeartbeats 4000000 in
set_option maxRecDepth 100000 in
theorem c_z1c {α : Type} {I : Imm} : OrcOk (α := α) Try.prog I 33 (.pure pageF) := by
  refine orc_pure T_z2q (O := O_z1c) O_z2q (L := []) ⟨1, []⟩ Try.func33 (by kernel_rfl) (by kernel_rfl) (by kernel_rfl) FLOk.nil ?_
  intro args k r hk
  unfold pageF at hk
  split at hk <;> try (simp at hk; done)
  rename_i at_ kind v
  refine ⟨_, hk, by simp [Ids, Idss], by simp [Ids, Idss], ?_⟩
  clear hk
  repeat' ((conv => arg 1; whnf); split <;> try (exfalso; (try simp only [ltB_true, ltB_false, leB_true, leB_false, decide_eq_true_eq, decide_eq_false_iff_not, Bool.and_eq_true, Bool.and_eq_false_iff, Bool.or_eq_true, Bool.or_eq_false_iff, Bool.not_eq_true', Bool.not_eq_false', bne_iff_ne, ne_eq, bne_eq_false_iff_eq, beq_iff_eq, beq_eq_false_iff_ne, Decidable.not_not, eq_self, decide_true, Bool.true_and, true_and, not_true_eq_false, false_or, Nat.beq_refl, Bool.true_eq_false, Int.toNat_zero, nbeq, and_true, strOf_size] at *) <;> omega))
  all_goals (try (conv => arg 1; whnf))
  refine ends_any ?_
  simp only [faultS, pageS, c3_upd]
  rfl
abbrev T_z1q : TE := [(47, ⟨.agg [.int .u64 0, .int .u64 0, .int .u64 0, .bool false], 4, 32, .st [(0, 1, false), (1, 1, false), (2, 1, false), (3, 1, false)], some (.st [(0, 1, false, .it .u64), (1, 1, false, .it .u64), (2, 1, false, .it .u64), (3, 1, false, .bl)])⟩), (80, ⟨.agg [.int .u64 0, .int .i64 0, .bool false], 3, 24, .st [(0, 1, false), (1, 1, false), (2, 1, false)], some (.st [(0, 1, false, .it .u64), (1, 1, false, .it .i64), (2, 1, false, .bl)])⟩), (122, ⟨.ints .u64 3 (fun _ => 0), 3, 24, .ar 3 33 1 false, some (.ar 3 1 (.it .u64))⟩)]
theorem T_z2r : Prg Try.prog T_z1q := ⟨(.cons te_47 (.cons te_80 (.cons te_122 (TEok.nil _)))), by kernel_rfl⟩
noncomputable abbrev O_z1q {α : Type} : ORC α := [(53, .pure faultF)]
theorem O_z2r {α : Type} {I : Imm} : OOk (α := α) Try.prog I O_z1q := OOk.cons c_z14 (OOk.nil)
set_option maxHeartbeats 4000000 in
set_option maxRecDepth 100000 in
theorem c_z1q {α : Type} {I : Imm} : OrcOk (α := α) Try.prog I 60 (.pure accessF) := by
  refine orc_pure T_z2r (O := O_z1q) O_z2r (L := []) ⟨1, []⟩ Try.func60 (by kernel_rfl) (by kernel_rfl) (by kernel_rfl) FLOk.nil ?_
  intro args k r hk
  unfold accessF at hk
  split at hk <;> try (simp at hk; done)
  rename_i at_ kind v
  refine ⟨_, hk, by simp [Ids, Idss], by simp [Ids, Idss], ?_⟩
  clear hk
  repeat' ((conv => arg 1; whnf); split <;> try (exfalso; (try simp only [ltB_true, ltB_false, leB_true, leB_false, decide_eq_true_eq, decide_eq_false_iff_not, Bool.and_eq_true, Bool.and_eq_false_iff, Bool.or_eq_true, Bool.or_eq_false_iff, Bool.not_eq_true', Bool.not_eq_false', bne_iff_ne, ne_eq, bne_eq_false_iff_eq, beq_iff_eq, beq_eq_false_iff_ne, Decidable.not_not, eq_self, decide_true, Bool.true_and, true_and, not_true_eq_false, false_or, Nat.beq_refl, Bool.true_eq_false, Int.toNat_zero, nbeq, and_true, strOf_size] at *) <;> omega))
  all_goals (try (conv => arg 1; whnf))
  refine ends_any ?_
  simp only [faultS, accessS, c3_upd]
  rfl
abbrev T_z1d : TE := [(47, ⟨.agg [.int .u64 0, .int .u64 0, .int .u64 0, .bool false], 4, 32, .st [(0, 1, false), (1, 1, false), (2, 1, false), (3, 1, false)], some (.st [(0, 1, false, .it .u64), (1, 1, false, .it .u64), (2, 1, false, .it .u64), (3, 1, false, .bl)])⟩), (80, ⟨.agg [.int .u64 0, .int .i64 0, .bool false], 3, 24, .st [(0, 1, false), (1, 1, false), (2, 1, false)], some (.st [(0, 1, false, .it .u64), (1, 1, false, .it .i64), (2, 1, false, .bl)])⟩), (122, ⟨.ints .u64 3 (fun _ => 0), 3, 24, .ar 3 33 1 false, some (.ar 3 1 (.it .u64))⟩)]
theorem T_z2s : Prg Try.prog T_z1d := ⟨(.cons te_47 (.cons te_80 (.cons te_122 (TEok.nil _)))), by kernel_rfl⟩
noncomputable abbrev O_z1d {α : Type} : ORC α := [(53, .pure faultF)]
theorem O_z2s {α : Type} {I : Imm} : OOk (α := α) Try.prog I O_z1d := OOk.cons c_z14 (OOk.nil)
set_option maxHeartbeats 4000000 in
set_option maxRecDepth 100000 in
theorem c_z1d {α : Type} {I : Imm} : OrcOk (α := α) Try.prog I 34 (.pure guestF) := by
  refine orc_pure T_z2s (O := O_z1d) O_z2s (L := []) ⟨1, []⟩ Try.func34 (by kernel_rfl) (by kernel_rfl) (by kernel_rfl) FLOk.nil ?_
  intro args k r hk
  unfold guestF at hk
  split at hk <;> try (simp at hk; done)
  rename_i at_ kind v place
  refine ⟨_, hk, by simp [Ids, Idss], by simp [Ids, Idss], ?_⟩
  clear hk
  repeat' ((conv => arg 1; whnf); split <;> try (exfalso; (try simp only [ltB_true, ltB_false, leB_true, leB_false, decide_eq_true_eq, decide_eq_false_iff_not, Bool.and_eq_true, Bool.and_eq_false_iff, Bool.or_eq_true, Bool.or_eq_false_iff, Bool.not_eq_true', Bool.not_eq_false', bne_iff_ne, ne_eq, bne_eq_false_iff_eq, beq_iff_eq, beq_eq_false_iff_ne, Decidable.not_not, eq_self, decide_true, Bool.true_and, true_and, not_true_eq_false, false_or, Nat.beq_refl, Bool.true_eq_false, Int.toNat_zero, nbeq, and_true, strOf_size] at *) <;> omega))
  all_goals (try (conv => arg 1; whnf))
  refine ends_any ?_
  simp only [faultS, guestS, c3_upd]
abbrev T_z1e : TE := [(3, ⟨.int .i64 0, 1, 8, .sc (.int .i64), none⟩), (47, ⟨.agg [.int .u64 0, .int .u64 0, .int .u64 0, .bool false], 4, 32, .st [(0, 1, false), (1, 1, false), (2, 1, false), (3, 1, false)], some (.st [(0, 1, false, .it .u64), (1, 1, false, .it .u64), (2, 1, false, .it .u64), (3, 1, false, .bl)])⟩), (80, ⟨.agg [.int .u64 0, .int .i64 0, .bool false], 3, 24, .st [(0, 1, false), (1, 1, false), (2, 1, false)], some (.st [(0, 1, false, .it .u64), (1, 1, false, .it .i64), (2, 1, false, .bl)])⟩)]
theorem T_z2t : Prg Try.prog T_z1e := ⟨(.cons te_3 (.cons te_47 (.cons te_80 (TEok.nil _)))), by kernel_rfl⟩
noncomputable abbrev O_z1e {α : Type} : ORC α := [(34, .pure guestF), (60, .pure accessF)]
theorem O_z2t {α : Type} {I : Imm} : OOk (α := α) Try.prog I O_z1e := OOk.cons c_z1d (OOk.cons c_z1q (OOk.nil))
set_option maxHeartbeats 4000000 in
set_option maxRecDepth 100000 in
theorem c_z1e {α : Type} {I : Imm} : OrcOk (α := α) Try.prog I 37 (.pure ofF) := by
  refine orc_pure T_z2t (O := O_z1e) O_z2t (L := []) ⟨1, []⟩ Try.func37 (by kernel_rfl) (by kernel_rfl) (by kernel_rfl) FLOk.nil ?_
  intro args k r hk
  unfold ofF at hk
  split at hk <;> try (simp at hk; done)
  rename_i at_ kind v code place
  refine ⟨_, hk, by simp [Ids, Idss], by simp [Ids, Idss], ?_⟩
  clear hk
  repeat' ((conv => arg 1; whnf); split <;> try (exfalso; (try simp only [ltB_true, ltB_false, leB_true, leB_false, decide_eq_true_eq, decide_eq_false_iff_not, Bool.and_eq_true, Bool.and_eq_false_iff, Bool.or_eq_true, Bool.or_eq_false_iff, Bool.not_eq_true', Bool.not_eq_false', bne_iff_ne, ne_eq, bne_eq_false_iff_eq, beq_iff_eq, beq_eq_false_iff_ne, Decidable.not_not, eq_self, decide_true, Bool.true_and, true_and, not_true_eq_false, false_or, Nat.beq_refl, Bool.true_eq_false, Int.toNat_zero, nbeq, and_true, strOf_size] at *) <;> omega))
  all_goals (try (conv => arg 1; whnf))
  all_goals (refine ends_any ?_; simp only [ofS, cond_true, cond_false, *, Bool.and_true, Bool.true_and, Bool.false_and, Bool.and_false, Bool.or_true, Bool.true_or, Bool.or_false, Bool.false_or, Bool.not_true, Bool.not_false, Bool.and_self, Bool.or_self])
theorem te_125 : TyOk Try.prog 125 ⟨.agg [.nilp, .agg [.bool false, .bool false, .bool false, .bool false, .int .i64 0, .int .i64 0, .int .i64 0, .int .i64 0], .int .u64 0], 10, 56, .st [(0, 1, false), (1, 8, true), (9, 1, false)], none⟩ := ⟨fun _ => by kernel_rfl, ⟨rfl, rfl, fun _ _ => by simp [Wf, Wfs]⟩, ⟨_, Try.underlying125, by kernel_rfl⟩, fun _ h => by cases h⟩
abbrev T_z1f : TE := [(3, ⟨.int .i64 0, 1, 8, .sc (.int .i64), none⟩), (28, ⟨.nilp, 1, 8, .sc (.pointer 72), none⟩), (33, ⟨.int .u64 0, 1, 8, .sc (.int .u64), none⟩), (77, ⟨.agg [.bool false, .bool false, .bool false, .bool false, .int .i64 0, .int .i64 0, .int .i64 0, .int .i64 0], 8, 40, .st [(0, 1, false), (1, 1, false), (2, 1, false), (3, 1, false), (4, 1, false), (5, 1, false), (6, 1, false), (7, 1, false)], some (.st [(0, 1, false, .bl), (1, 1, false, .bl), (2, 1, false, .bl), (3, 1, false, .bl), (4, 1, false, .it .i64), (5, 1, false, .it .i64), (6, 1, false, .it .i64), (7, 1, false, .it .i64)])⟩), (125, ⟨.agg [.nilp, .agg [.bool false, .bool false, .bool false, .bool false, .int .i64 0, .int .i64 0, .int .i64 0, .int .i64 0], .int .u64 0], 10, 56, .st [(0, 1, false), (1, 8, true), (9, 1, false)], none⟩)]
theorem T_z2u : Prg Try.prog T_z1f := ⟨(.cons te_3 (.cons te_28 (.cons te_33 (.cons te_77 (.cons te_125 (TEok.nil _)))))), by kernel_rfl⟩
noncomputable abbrev O_z1f {α : Type} : ORC α := [(36, .full secondF), (81, .full entryF)]
theorem O_z2u {α : Type} {I : Imm} : OOk (α := α) Try.prog I O_z1f := OOk.cons c_z1b (OOk.cons c_z19 (OOk.nil))
set_option maxHeartbeats 4000000 in
set_option maxRecDepth 100000 in
theorem c_z1f {α : Type} {I : Imm} : OrcOk (α := α) Try.prog I 55 (.full rdrF) := by
  refine orc_canon T_z2u (O := O_z1f) O_z2u (L := []) ⟨1, []⟩ Try.func55 (by kernel_rfl) (by kernel_rfl) (by kernel_rfl) FLOk.nil ?_
  intro args σ k r hk
  unfold rdrF at hk
  split at hk <;> try (simp at hk; done)
  rename_i rb frame index
  split at hk <;> try (simp at hk; done)
  rename_i g p a1 a2 a3 a4 a5 a6 a7 a8 la hr
  obtain ⟨b, b1, g0, g1, f, rfl, h0, h1, hne, hk'⟩ := withMem_spec hk
  clear hk; have hk := hk'; clear hk'
  cases hg : (Nat.beq rb b || Nat.beq rb b1) <;> rw [hg] at hk <;> simp only [cond_true, cond_false] at hk <;> try (simp at hk; done)
  simp only [nbeq, Bool.or_eq_false_iff, decide_eq_false_iff_not] at hg
  refine ⟨[rb, b, b1], [.cells g (.agg [.ptr 1 [], .agg [.bool a1, .bool a2, .bool a3, .bool a4, .int .i64 a5, .int .i64 a6, .int .i64 a7, .int .i64 a8], .int .u64 la]), memO 2 g0, byO g1 f], [.ptr 0 [], .int .i64 frame, .int .i64 index], lay_mk rfl (by simp [hg.1, hg.2, hne]) rfl ⟨hr, h0, h1, trivial⟩ (by simp [AllL, Ids]) (by simp [AllL, OIds, Ids, Idss]), ?_⟩
  refine ends_keep (v := .tuple [.int .u64 (rdr f a2 a8 frame index).1, .int .i64 (rdr f a2 a8 frame index).2]) (bl := [(0, .cells g (.agg [.ptr 1 [], .agg [.bool a1, .bool a2, .bool a3, .bool a4, .int .i64 a5, .int .i64 a6, .int .i64 a7, .int .i64 a8], .int .u64 (placeS frame index)]))]) ?_ (by simp [Ids, Idss]) (by simp [AllL, OIds, Ids, Idss]) hk
  clear hk
  repeat' ((conv => arg 1; whnf); split <;> try (exfalso; (try simp only [ltB_true, ltB_false, leB_true, leB_false, decide_eq_true_eq, decide_eq_false_iff_not, Bool.and_eq_true, Bool.and_eq_false_iff, Bool.or_eq_true, Bool.or_eq_false_iff, Bool.not_eq_true', Bool.not_eq_false', bne_iff_ne, ne_eq, bne_eq_false_iff_eq, beq_iff_eq, beq_eq_false_iff_ne, Decidable.not_not, eq_self, decide_true, Bool.true_and, true_and, not_true_eq_false, false_or, Nat.beq_refl, Bool.true_eq_false, Int.toNat_zero, nbeq, and_true, strOf_size] at *) <;> omega))
  all_goals (try (conv => arg 1; whnf))
  all_goals (try simp only [Bool.not_eq_true', Bool.not_eq_false', u2_0, u2_1] at *)
  all_goals exact ⟨_, _, rfl, by simp only [rdr, placeS, cond_true, cond_false, *, Bool.and_true, Bool.true_and, Bool.false_and, Bool.and_false, Bool.or_true, Bool.true_or, Bool.or_false, Bool.false_or, Bool.not_true, Bool.not_false, Bool.and_self, Bool.or_self] <;> rfl, ⟨rfl, trivial⟩, .inl rfl, .inr rfl, .inr rfl, trivial⟩
abbrev T_z11 : TE := [(3, ⟨.int .i64 0, 1, 8, .sc (.int .i64), none⟩), (33, ⟨.int .u64 0, 1, 8, .sc (.int .u64), none⟩), (149, ⟨.ints .u64 2 (fun _ => 0), 2, 16, .ar 2 33 1 false, some (.ar 2 1 (.it .u64))⟩)]
theorem T_z2v : Prg Try.prog T_z11 := ⟨(.cons te_3 (.cons te_33 (.cons te_149 (TEok.nil _)))), by kernel_rfl⟩
noncomputable abbrev O_z11 {α : Type} : ORC α := [(55, .full rdrF), (79, .pure isF), (80, .pure leafF), (58, .pure frameF), (78, .pure bitsF), (45, .pure setF)]
theorem O_z2v {α : Type} {I : Imm} : OOk (α := α) Try.prog I O_z11 := OOk.cons c_z1f (OOk.cons c_z13 (OOk.cons c_z18 (OOk.cons c_z12 (OOk.cons c_zm (OOk.cons c_z15 (OOk.nil))))))
noncomputable abbrev B_z11 {α : Type} : FF α := byBody T_z11 O_z11 ⟨3, []⟩ Try.f54
theorem c_z11 {α : Type} {I : Imm} : OrcOk (α := α) Try.prog I 54 (.full B_z11) := orc_body T_z2v O_z2v ⟨3, []⟩ Try.func54 (by kernel_rfl) (by kernel_rfl) (by kernel_rfl)
abbrev T_z1r : TE := [(3, ⟨.int .i64 0, 1, 8, .sc (.int .i64), none⟩), (4, ⟨.bool false, 1, 1, .sc (.bool), none⟩), (33, ⟨.int .u64 0, 1, 8, .sc (.int .u64), none⟩), (47, ⟨.agg [.int .u64 0, .int .u64 0, .int .u64 0, .bool false], 4, 32, .st [(0, 1, false), (1, 1, false), (2, 1, false), (3, 1, false)], some (.st [(0, 1, false, .it .u64), (1, 1, false, .it .u64), (2, 1, false, .it .u64), (3, 1, false, .bl)])⟩), (77, ⟨.agg [.bool false, .bool false, .bool false, .bool false, .int .i64 0, .int .i64 0, .int .i64 0, .int .i64 0], 8, 40, .st [(0, 1, false), (1, 1, false), (2, 1, false), (3, 1, false), (4, 1, false), (5, 1, false), (6, 1, false), (7, 1, false)], some (.st [(0, 1, false, .bl), (1, 1, false, .bl), (2, 1, false, .bl), (3, 1, false, .bl), (4, 1, false, .it .i64), (5, 1, false, .it .i64), (6, 1, false, .it .i64), (7, 1, false, .it .i64)])⟩), (80, ⟨.agg [.int .u64 0, .int .i64 0, .bool false], 3, 24, .st [(0, 1, false), (1, 1, false), (2, 1, false)], some (.st [(0, 1, false, .it .u64), (1, 1, false, .it .i64), (2, 1, false, .bl)])⟩), (125, ⟨.agg [.nilp, .agg [.bool false, .bool false, .bool false, .bool false, .int .i64 0, .int .i64 0, .int .i64 0, .int .i64 0], .int .u64 0], 10, 56, .st [(0, 1, false), (1, 8, true), (9, 1, false)], none⟩)]
theorem T_z2w : Prg Try.prog T_z1r := ⟨(.cons te_3 (.cons te_4 (.cons te_33 (.cons te_47 (.cons te_77 (.cons te_80 (.cons te_125 (TEok.nil _)))))))), by kernel_rfl⟩
noncomputable abbrev O_z1r {α : Type} : ORC α := [(54, .full B_z11), (55, .full rdrF), (49, .pure zextF), (37, .pure ofF), (33, .pure pageF), (56, .pure mayF), (58, .pure frameF), (57, .pure joinF)]
theorem O_z2w {α : Type} {I : Imm} : OOk (α := α) Try.prog I O_z1r := OOk.cons c_z11 (OOk.cons c_z1f (OOk.cons c_zj (OOk.cons c_z1e (OOk.cons c_z1c (OOk.cons c_z17 (OOk.cons c_z12 (OOk.cons c_z1a (OOk.nil))))))))
set_option maxHeartbeats 4000000 in
set_option maxRecDepth 100000 in
theorem c_z1r {α : Type} {I : Imm} : OrcOk (α := α) Try.prog I 35 (.full firstF) := by
  refine orc_canon T_z2w (O := O_z1r) O_z2w (L := []) ⟨1, []⟩ Try.func35 (by kernel_rfl) (by kernel_rfl) (by kernel_rfl) FLOk.nil ?_
  intro args σ k r hk
  unfold firstF at hk
  split at hk <;> try (simp at hk; done)
  rename_i p a1 a2 a3 a4 a5 a6 a7 a8 at_ kind v user
  obtain ⟨b, b1, g0, g1, f, rfl, h0, h1, hne, hk'⟩ := withMem_spec hk
  clear hk; have hk := hk'; clear hk'
  cases hg0 : decide (at_ < 65536) <;> rw [hg0] at hk <;> simp only [cond_true, cond_false] at hk <;> try (simp at hk; done)
  refine ⟨[b, b1], [memO 1 g0, byO g1 f], [.ptr 0 [], .agg [.bool a1, .bool a2, .bool a3, .bool a4, .int .i64 a5, .int .i64 a6, .int .i64 a7, .int .i64 a8], .agg [.int .u64 at_, .int .i64 kind, .bool v], .bool user], lay_mk rfl (nodup2 hne) rfl ⟨h0, h1, trivial⟩ (by simp [AllL, Ids, Idss]) (by simp [AllL, OIds, Ids, Idss]), ?_⟩
  refine ends_keep (v := (firstS f a1 a2 a3 a4 a7 a8 at_ kind v user).sv) (bl := []) ?_ (by simp [Ids, Idss]) trivial hk
  clear hk
  repeat' ((conv => arg 1; whnf); split <;> try (exfalso; (try simp only [ltB_true, ltB_false, leB_true, leB_false, decide_eq_true_eq, decide_eq_false_iff_not, Bool.and_eq_true, Bool.and_eq_false_iff, Bool.or_eq_true, Bool.or_eq_false_iff, Bool.not_eq_true', Bool.not_eq_false', bne_iff_ne, ne_eq, bne_eq_false_iff_eq, beq_iff_eq, beq_eq_false_iff_ne, Decidable.not_not, eq_self, decide_true, Bool.true_and, true_and, not_true_eq_false, false_or, Nat.beq_refl, Bool.true_eq_false, Int.toNat_zero, nbeq, and_true, strOf_size] at *) <;> omega))
  all_goals (try (conv => arg 1; whnf))
  all_goals (try simp only [Bool.not_eq_true', Bool.not_eq_false', u2_0, u2_1] at *)
  all_goals exact ⟨_, _, rfl, by simp only [firstS, thr, lastR, leafBits, Firsts.sv, cond_true, cond_false, *, Bool.and_true, Bool.true_and, Bool.false_and, Bool.and_false, Bool.or_true, Bool.true_or, Bool.or_false, Bool.false_or, Bool.not_true, Bool.not_false, Bool.and_self, Bool.or_self] <;> rfl, trivial, .inr rfl, .inr rfl, trivial⟩
abbrev T_z1s : TE := [(3, ⟨.int .i64 0, 1, 8, .sc (.int .i64), none⟩), (33, ⟨.int .u64 0, 1, 8, .sc (.int .u64), none⟩), (40, ⟨.ints .u64 29 (fun _ => 0), 29, 232, .ar 29 33 1 false, some (.ar 29 1 (.it .u64))⟩), (42, ⟨.agg [.ints .u64 32 (fun _ => 0), .int .u64 0, .int .i64 0, .bool false, .ints .u64 29 (fun _ => 0), .int .u64 0], 65, 520, .st [(0, 32, true), (32, 1, false), (33, 1, false), (34, 1, false), (35, 29, true), (64, 1, false)], some (.st [(0, 32, true, .ar 32 1 (.it .u64)), (32, 1, false, .it .u64), (33, 1, false, .it .i64), (34, 1, false, .bl), (35, 29, true, .ar 29 1 (.it .u64)), (64, 1, false, .it .u64)])⟩)]
theorem T_z2x : Prg Try.prog T_z1s := ⟨(.cons te_3 (.cons te_33 (.cons te_40 (.cons te_42 (TEok.nil _))))), by kernel_rfl⟩
noncomputable abbrev O_z1s {α : Type} : ORC α := [(52, .pure bitF), (78, .pure bitsF)]
theorem O_z2x {α : Type} {I : Imm} : OOk (α := α) Try.prog I O_z1s := OOk.cons c_zk (OOk.cons c_zm (OOk.nil))
set_option maxHeartbeats 4000000 in
set_option maxRecDepth 100000 in
theorem c_z1s {α : Type} {I : Imm} : OrcOk (α := α) Try.prog I 51 (.pure onF) := by
  refine orc_pure T_z2x (O := O_z1s) O_z2x (L := []) ⟨1, []⟩ Try.func51 (by kernel_rfl) (by kernel_rfl) (by kernel_rfl) FLOk.nil ?_
  intro args k r hk
  unfold onF at hk
  split at hk <;> try (simp at hk; done)
  rename_i x pc lv vv c dn i
  cases hg : (decide (0 ≤ i) && decide (i < 29)) <;> rw [hg] at hk <;> simp only [cond_true, cond_false] at hk <;> try (simp at hk; done)
  refine ⟨_, hk, by simp [Ids, Idss], by simp [Ids, Idss], ?_⟩
  clear hk
  repeat' ((conv => arg 1; whnf); split <;> try (exfalso; (try simp only [ltB_true, ltB_false, leB_true, leB_false, decide_eq_true_eq, decide_eq_false_iff_not, Bool.and_eq_true, Bool.and_eq_false_iff, Bool.or_eq_true, Bool.or_eq_false_iff, Bool.not_eq_true', Bool.not_eq_false', bne_iff_ne, ne_eq, bne_eq_false_iff_eq, beq_iff_eq, beq_eq_false_iff_ne, Decidable.not_not, eq_self, decide_true, Bool.true_and, true_and, not_true_eq_false, false_or, Nat.beq_refl, Bool.true_eq_false, Int.toNat_zero, nbeq, and_true, strOf_size] at *) <;> omega))
  all_goals (try (conv => arg 1; whnf))
  all_goals (try simp only [Bool.not_eq_true', Bool.not_eq_false', u2_0, u2_1] at *)
  all_goals (refine ends_any ?_; simp only [onA, onR, cond_true, cond_false, *, Bool.and_true, Bool.true_and, Bool.false_and, Bool.and_false, Bool.or_true, Bool.true_or, Bool.or_false, Bool.false_or, Bool.not_true, Bool.not_false, Bool.and_self, Bool.or_self])
abbrev T_z1t : TE := [(3, ⟨.int .i64 0, 1, 8, .sc (.int .i64), none⟩), (4, ⟨.bool false, 1, 1, .sc (.bool), none⟩), (42, ⟨.agg [.ints .u64 32 (fun _ => 0), .int .u64 0, .int .i64 0, .bool false, .ints .u64 29 (fun _ => 0), .int .u64 0], 65, 520, .st [(0, 32, true), (32, 1, false), (33, 1, false), (34, 1, false), (35, 29, true), (64, 1, false)], some (.st [(0, 32, true, .ar 32 1 (.it .u64)), (32, 1, false, .it .u64), (33, 1, false, .it .i64), (34, 1, false, .bl), (35, 29, true, .ar 29 1 (.it .u64)), (64, 1, false, .it .u64)])⟩), (77, ⟨.agg [.bool false, .bool false, .bool false, .bool false, .int .i64 0, .int .i64 0, .int .i64 0, .int .i64 0], 8, 40, .st [(0, 1, false), (1, 1, false), (2, 1, false), (3, 1, false), (4, 1, false), (5, 1, false), (6, 1, false), (7, 1, false)], some (.st [(0, 1, false, .bl), (1, 1, false, .bl), (2, 1, false, .bl), (3, 1, false, .bl), (4, 1, false, .it .i64), (5, 1, false, .it .i64), (6, 1, false, .it .i64), (7, 1, false, .it .i64)])⟩)]
theorem T_z2y : Prg Try.prog T_z1t := ⟨(.cons te_3 (.cons te_4 (.cons te_42 (.cons te_77 (TEok.nil _))))), by kernel_rfl⟩
noncomputable abbrev O_z1t {α : Type} : ORC α := [(51, .pure onF), (52, .pure bitF)]
theorem O_z2y {α : Type} {I : Imm} : OOk (α := α) Try.prog I O_z1t := OOk.cons c_z1s (OOk.cons c_zk (OOk.nil))
set_option maxHeartbeats 4000000 in
set_option maxRecDepth 100000 in
theorem c_z1t {α : Type} {I : Imm} : OrcOk (α := α) Try.prog I 32 (.pure askF) := by
  refine orc_pure T_z2y (O := O_z1t) O_z2y (L := []) ⟨1, []⟩ Try.func32 (by kernel_rfl) (by kernel_rfl) (by kernel_rfl) FLOk.nil ?_
  intro args k r hk
  unfold askF at hk
  split at hk <;> try (simp at hk; done)
  rename_i x pc lv vv c dn level v
  refine ⟨_, hk, by simp [Ids, Idss], by simp [Ids, Idss], ?_⟩
  clear hk
  repeat' ((conv => arg 1; whnf); split <;> try (exfalso; (try simp only [ltB_true, ltB_false, leB_true, leB_false, decide_eq_true_eq, decide_eq_false_iff_not, Bool.and_eq_true, Bool.and_eq_false_iff, Bool.or_eq_true, Bool.or_eq_false_iff, Bool.not_eq_true', Bool.not_eq_false', bne_iff_ne, ne_eq, bne_eq_false_iff_eq, beq_iff_eq, beq_eq_false_iff_ne, Decidable.not_not, eq_self, decide_true, Bool.true_and, true_and, not_true_eq_false, false_or, Nat.beq_refl, Bool.true_eq_false, Int.toNat_zero, nbeq, and_true, strOf_size] at *) <;> omega))
  all_goals (try (conv => arg 1; whnf))
  all_goals (try simp only [Bool.not_eq_true', Bool.not_eq_false', u2_0, u2_1] at *)
  all_goals (refine ends_any ?_; simp only [askS, Asking.sv, cond_true, cond_false, *, Bool.and_true, Bool.true_and, Bool.false_and, Bool.and_false, Bool.or_true, Bool.true_or, Bool.or_false, Bool.false_or, Bool.not_true, Bool.not_false, Bool.and_self, Bool.or_self])
theorem te_45 : TyOk Try.prog 45 ⟨.agg [.bool false, .bool false, .int .i64 0, .int .i64 0, .int .i64 0, .int .i64 0, .int .i64 0, .int .i64 0, .int .i64 0], 9, 64, .st [(0, 1, false), (1, 1, false), (2, 1, false), (3, 1, false), (4, 1, false), (5, 1, false), (6, 1, false), (7, 1, false), (8, 1, false)], some (.st [(0, 1, false, .bl), (1, 1, false, .bl), (2, 1, false, .it .i64), (3, 1, false, .it .i64), (4, 1, false, .it .i64), (5, 1, false, .it .i64), (6, 1, false, .it .i64), (7, 1, false, .it .i64), (8, 1, false, .it .i64)])⟩ := ⟨fun _ => by kernel_rfl, ⟨rfl, rfl, fun _ _ => by simp [Wf, Wfs]⟩, ⟨_, Try.underlying45, by kernel_rfl⟩, fun _ h => by cases h; exact ⟨by kernel_rfl, by kernel_rfl⟩⟩
abbrev T_za : TE := [(3, ⟨.int .i64 0, 1, 8, .sc (.int .i64), none⟩), (4, ⟨.bool false, 1, 1, .sc (.bool), none⟩), (33, ⟨.int .u64 0, 1, 8, .sc (.int .u64), none⟩), (42, ⟨.agg [.ints .u64 32 (fun _ => 0), .int .u64 0, .int .i64 0, .bool false, .ints .u64 29 (fun _ => 0), .int .u64 0], 65, 520, .st [(0, 32, true), (32, 1, false), (33, 1, false), (34, 1, false), (35, 29, true), (64, 1, false)], some (.st [(0, 32, true, .ar 32 1 (.it .u64)), (32, 1, false, .it .u64), (33, 1, false, .it .i64), (34, 1, false, .bl), (35, 29, true, .ar 29 1 (.it .u64)), (64, 1, false, .it .u64)])⟩), (45, ⟨.agg [.bool false, .bool false, .int .i64 0, .int .i64 0, .int .i64 0, .int .i64 0, .int .i64 0, .int .i64 0, .int .i64 0], 9, 64, .st [(0, 1, false), (1, 1, false), (2, 1, false), (3, 1, false), (4, 1, false), (5, 1, false), (6, 1, false), (7, 1, false), (8, 1, false)], some (.st [(0, 1, false, .bl), (1, 1, false, .bl), (2, 1, false, .it .i64), (3, 1, false, .it .i64), (4, 1, false, .it .i64), (5, 1, false, .it .i64), (6, 1, false, .it .i64), (7, 1, false, .it .i64), (8, 1, false, .it .i64)])⟩), (47, ⟨.agg [.int .u64 0, .int .u64 0, .int .u64 0, .bool false], 4, 32, .st [(0, 1, false), (1, 1, false), (2, 1, false), (3, 1, false)], some (.st [(0, 1, false, .it .u64), (1, 1, false, .it .u64), (2, 1, false, .it .u64), (3, 1, false, .bl)])⟩), (77, ⟨.agg [.bool false, .bool false, .bool false, .bool false, .int .i64 0, .int .i64 0, .int .i64 0, .int .i64 0], 8, 40, .st [(0, 1, false), (1, 1, false), (2, 1, false), (3, 1, false), (4, 1, false), (5, 1, false), (6, 1, false), (7, 1, false)], some (.st [(0, 1, false, .bl), (1, 1, false, .bl), (2, 1, false, .bl), (3, 1, false, .bl), (4, 1, false, .it .i64), (5, 1, false, .it .i64), (6, 1, false, .it .i64), (7, 1, false, .it .i64)])⟩), (80, ⟨.agg [.int .u64 0, .int .i64 0, .bool false], 3, 24, .st [(0, 1, false), (1, 1, false), (2, 1, false)], some (.st [(0, 1, false, .it .u64), (1, 1, false, .it .i64), (2, 1, false, .bl)])⟩)]
theorem T_z2z : Prg Try.prog T_za := ⟨(.cons te_3 (.cons te_4 (.cons te_33 (.cons te_42 (.cons te_45 (.cons te_47 (.cons te_77 (.cons te_80 (TEok.nil _))))))))), by kernel_rfl⟩
noncomputable abbrev O_za {α : Type} : ORC α := [(32, .pure askF), (33, .pure pageF), (34, .pure guestF), (35, .full firstF), (36, .full secondF), (37, .pure ofF)]
theorem O_z2z {α : Type} {I : Imm} : OOk (α := α) Try.prog I O_za := OOk.cons c_z1t (OOk.cons c_z1c (OOk.cons c_z1d (OOk.cons c_z1r (OOk.cons c_z1b (OOk.cons c_z1e (OOk.nil))))))
set_option maxHeartbeats 4000000 in
set_option maxRecDepth 100000 in
theorem c_za {α : Type} {I : Imm} : OrcOk (α := α) Try.prog I 12 (.full transF) := by
  refine orc_canon T_z2z (O := O_za) O_z2z (L := []) ⟨1, []⟩ Try.func12 (by kernel_rfl) (by kernel_rfl) (by kernel_rfl) FLOk.nil ?_
  intro args σ k r hk
  unfold transF at hk
  split at hk <;> try (simp at hk; done)
  rename_i p x pc lv vv c dn at_ kind level v
  obtain ⟨b, b1, g0, g1, f, rfl, h0, h1, hne, hk'⟩ := withMem_spec hk
  clear hk; have hk := hk'; clear hk'
  refine ⟨[b, b1], [memO 1 g0, byO g1 f], [.ptr 0 [], .agg [.ints .u64 32 x, .int .u64 pc, .int .i64 lv, .bool vv, .ints .u64 29 c, .int .u64 dn], .int .u64 at_, .int .i64 kind, .int .i64 level, .bool v], lay_mk rfl (nodup2 hne) rfl ⟨h0, h1, trivial⟩ (by simp [AllL, Ids, Idss]) (by simp [AllL, OIds, Ids, Idss]), ?_⟩
  refine ends_keep (v := (transA f (askS c level v) at_ kind (level == 0) v).sv) (bl := []) ?_ (by simp [Ids, Idss]) trivial hk
  clear hk
  repeat' ((conv => arg 1; whnf); split <;> try (exfalso; (try simp only [ltB_true, ltB_false, leB_true, leB_false, decide_eq_true_eq, decide_eq_false_iff_not, Bool.and_eq_true, Bool.and_eq_false_iff, Bool.or_eq_true, Bool.or_eq_false_iff, Bool.not_eq_true', Bool.not_eq_false', bne_iff_ne, ne_eq, bne_eq_false_iff_eq, beq_iff_eq, beq_eq_false_iff_ne, Decidable.not_not, eq_self, decide_true, Bool.true_and, true_and, not_true_eq_false, false_or, Nat.beq_refl, Bool.true_eq_false, Int.toNat_zero, nbeq, and_true, strOf_size] at *) <;> omega))
  all_goals (try (conv => arg 1; whnf))
  all_goals (try simp only [Bool.not_eq_true', Bool.not_eq_false', u2_0, u2_1] at *)
  all_goals refine ⟨_, _, rfl, ?_, trivial, .inr rfl, .inr rfl, trivial⟩
  all_goals try simp only [offA_eq] at *
  all_goals simp only [transA, Trans.sv, Entry.sv, pageOf, Firsts.sv, cond_true, cond_false, *, Bool.and_true, Bool.true_and, Bool.false_and, Bool.and_false, Bool.or_true, Bool.true_or, Bool.or_false, Bool.false_or, Bool.not_true, Bool.not_false, Bool.and_self, Bool.or_self]
  all_goals first | done | rfl | trace_state
end Go.Proofs.Ythcpbmgbehidlaa
