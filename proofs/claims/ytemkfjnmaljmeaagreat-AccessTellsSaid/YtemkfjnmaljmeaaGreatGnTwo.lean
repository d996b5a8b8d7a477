/-
  Contracts: Two.
-/
import Derived.Test.YtemkfjnmaljmeaaGreatGnWalk
import Derived.Test.YtemkfjnmaljmeaaGreatSpTwo
set_option linter.unusedSimpArgs false
set_option linter.unusedVariables false
namespace Go.Proofs.YtemkfjnmaljmeaaGreat
open Go Go.Sh Go.Proofs
set_option linter.unusedSimpArgs false
abbrev T_z2a : TE := [(3, ⟨.int .i64 0, 1, 8, .sc (.int .i64), none⟩), (23, ⟨.int .u64 0, 1, 8, .sc (.int .u64), none⟩)]
theorem T_z4c : Prg Tryz.prog T_z2a := ⟨(.cons te_3 (.cons te_23 (TEok.nil _))), by kernel_rfl⟩
noncomputable abbrev O_z2a {α : Type} : ORC α := [(235, .pure zextF)]
theorem O_z4c {α : Type} {I : Imm} : OOk (α := α) Tryz.prog I O_z2a := OOk.cons c_z10 (OOk.nil)
set_option maxHeartbeats 4000000 in
set_option maxRecDepth 100000 in
theorem c_z2a {α : Type} {I : Imm} : OrcOk (α := α) Tryz.prog I 242 (.pure joinF) := by
  refine orc_pure T_z4c (O := O_z2a) O_z4c (L := []) ⟨1, []⟩ Tryz.func242 (by kernel_rfl) (by kernel_rfl) (by kernel_rfl) FLOk.nil ?_
  intro args k r hk
  unfold joinF at hk
  split at hk <;> try (simp at hk; done)
  rename_i frame at_
  refine ⟨_, hk, by simp [Ids, Idss], by simp [Ids, Idss], ?_⟩
  clear hk
  repeat' ((conv => arg 1; whnf); split <;> try (exfalso; (try simp only [ltB_true, ltB_false, leB_true, leB_false, decide_eq_true_eq, decide_eq_false_iff_not, Bool.and_eq_true, Bool.and_eq_false_iff, Bool.or_eq_true, Bool.or_eq_false_iff, Bool.not_eq_true', Bool.not_eq_false', bne_iff_ne, ne_eq, bne_eq_false_iff_eq, beq_iff_eq, beq_eq_false_iff_ne, Decidable.not_not, eq_self, decide_true, Bool.true_and, true_and, not_true_eq_false, false_or, Nat.beq_refl, Bool.true_eq_false, Int.toNat_zero, nbeq, and_true, strOf_size] at *) <;> omega))
  all_goals (try (conv => arg 1; whnf))
  exact ends_int rfl
theorem te_4 : TyOk Tryz.prog 4 ⟨.bool false, 1, 1, .sc (.bool), none⟩ := ⟨fun _ => by kernel_rfl, ⟨rfl, rfl, fun _ _ => by simp [Wf, Wfs]⟩, ⟨Tryz.underlying4, rfl⟩, fun _ h => by cases h⟩
theorem te_239 : TyOk Tryz.prog 239 ⟨.agg [.bool false, .bool false, .bool false, .bool false, .int .i64 0, .int .i64 0, .int .i64 0, .int .i64 0], 8, 40, .st [(0, 1, false), (1, 1, false), (2, 1, false), (3, 1, false), (4, 1, false), (5, 1, false), (6, 1, false), (7, 1, false)], some (.st [(0, 1, false, .bl), (1, 1, false, .bl), (2, 1, false, .bl), (3, 1, false, .bl), (4, 1, false, .it .i64), (5, 1, false, .it .i64), (6, 1, false, .it .i64), (7, 1, false, .it .i64)])⟩ := ⟨fun _ => by kernel_rfl, ⟨rfl, rfl, fun _ _ => by simp [Wf, Wfs]⟩, ⟨_, Tryz.underlying239, by kernel_rfl⟩, fun _ h => by cases h; exact ⟨by kernel_rfl, by kernel_rfl⟩⟩
abbrev T_z2b : TE := [(3, ⟨.int .i64 0, 1, 8, .sc (.int .i64), none⟩), (4, ⟨.bool false, 1, 1, .sc (.bool), none⟩), (23, ⟨.int .u64 0, 1, 8, .sc (.int .u64), none⟩), (239, ⟨.agg [.bool false, .bool false, .bool false, .bool false, .int .i64 0, .int .i64 0, .int .i64 0, .int .i64 0], 8, 40, .st [(0, 1, false), (1, 1, false), (2, 1, false), (3, 1, false), (4, 1, false), (5, 1, false), (6, 1, false), (7, 1, false)], some (.st [(0, 1, false, .bl), (1, 1, false, .bl), (2, 1, false, .bl), (3, 1, false, .bl), (4, 1, false, .it .i64), (5, 1, false, .it .i64), (6, 1, false, .it .i64), (7, 1, false, .it .i64)])⟩)]
theorem T_z4d : Prg Tryz.prog T_z2b := ⟨(.cons te_3 (.cons te_4 (.cons te_23 (.cons te_239 (TEok.nil _))))), by kernel_rfl⟩
noncomputable abbrev O_z2b {α : Type} : ORC α := [(244, .full walkF), (235, .pure zextF), (241, .pure mayF), (243, .pure frameF), (242, .pure joinF)]
theorem O_z4d {α : Type} {I : Imm} : OOk (α := α) Tryz.prog I O_z2b := OOk.cons c_z30 (OOk.cons c_z10 (OOk.cons c_z27 (OOk.cons c_z1z (OOk.cons c_z2a (OOk.nil)))))
set_option maxHeartbeats 4000000 in
set_option maxRecDepth 100000 in
theorem c_z2b {α : Type} {I : Imm} : OrcOk (α := α) Tryz.prog I 152 (.full secondF) := by
  refine orc_canon T_z4d (O := O_z2b) O_z4d (L := []) ⟨1, []⟩ Tryz.func152 (by kernel_rfl) (by kernel_rfl) (by kernel_rfl) FLOk.nil ?_
  intro args σ k r hk
  unfold secondF at hk
  split at hk <;> try (simp at hk; done)
  rename_i p a1 a2 a3 a4 a5 a6 a7 a8 place kind
  obtain ⟨b, b1, g0, g1, f, rfl, h0, h1, hne, hk'⟩ := withMem_spec hk
  clear hk; have hk := hk'; clear hk'
  refine ⟨[b, b1], [memO 1 g0, byO g1 f], [.ptr 0 [], .agg [.bool a1, .bool a2, .bool a3, .bool a4, .int .i64 a5, .int .i64 a6, .int .i64 a7, .int .i64 a8], .int .u64 place, .int .i64 kind], lay_mk rfl (nodup2 hne) rfl ⟨h0, h1, trivial⟩ (by simp [AllL, Ids, Idss]) (by simp [AllL, OIds, Ids, Idss]), ?_⟩
  refine ends_keep (v := secondV (secondS f a2 a8 place kind)) (bl := []) ?_ (by simp [secondV, Ids, Idss]) trivial hk
  clear hk
  repeat' ((conv => arg 1; whnf); split <;> try (exfalso; (try simp only [ltB_true, ltB_false, leB_true, leB_false, decide_eq_true_eq, decide_eq_false_iff_not, Bool.and_eq_true, Bool.and_eq_false_iff, Bool.or_eq_true, Bool.or_eq_false_iff, Bool.not_eq_true', Bool.not_eq_false', bne_iff_ne, ne_eq, bne_eq_false_iff_eq, beq_iff_eq, beq_eq_false_iff_ne, Decidable.not_not, eq_self, decide_true, Bool.true_and, true_and, not_true_eq_false, false_or, Nat.beq_refl, Bool.true_eq_false, Int.toNat_zero, nbeq, and_true, strOf_size] at *) <;> omega))
  all_goals (try (conv => arg 1; whnf))
  all_goals (try simp only [Bool.not_eq_true', Bool.not_eq_false', u2_0, u2_1] at *)
  all_goals exact ⟨_, _, rfl, by simp only [secondV, secondS, leafBits, cond_true, cond_false, *, Bool.and_true, Bool.true_and, Bool.false_and, Bool.and_false, Bool.or_true, Bool.true_or, Bool.or_false, Bool.false_or, Bool.not_true, Bool.not_false, Bool.and_self, Bool.or_self] <;> rfl, trivial, .inr rfl, .inr rfl, trivial⟩
theorem te_36 : TyOk Tryz.prog 36 ⟨.agg [.int .u64 0, .int .u64 0, .int .u64 0, .bool false], 4, 32, .st [(0, 1, false), (1, 1, false), (2, 1, false), (3, 1, false)], some (.st [(0, 1, false, .it .u64), (1, 1, false, .it .u64), (2, 1, false, .it .u64), (3, 1, false, .bl)])⟩ := ⟨fun _ => by kernel_rfl, ⟨rfl, rfl, fun _ _ => by simp [Wf, Wfs]⟩, ⟨_, Tryz.underlying36, by kernel_rfl⟩, fun _ h => by cases h; exact ⟨by kernel_rfl, by kernel_rfl⟩⟩
theorem te_237 : TyOk Tryz.prog 237 ⟨.ints .u64 3 (fun _ => 0), 3, 24, .ar 3 23 1 false, some (.ar 3 1 (.it .u64))⟩ := ⟨fun _ => by kernel_rfl, ⟨rfl, rfl, fun _ _ => by simp [Wf, Wfs]⟩, ⟨Tryz.underlying237, by kernel_rfl, by kernel_rfl⟩, fun _ h => by cases h; exact ⟨by kernel_rfl, by kernel_rfl⟩⟩
theorem te_242 : TyOk Tryz.prog 242 ⟨.agg [.int .u64 0, .int .i64 0, .bool false], 3, 24, .st [(0, 1, false), (1, 1, false), (2, 1, false)], some (.st [(0, 1, false, .it .u64), (1, 1, false, .it .i64), (2, 1, false, .bl)])⟩ := ⟨fun _ => by kernel_rfl, ⟨rfl, rfl, fun _ _ => by simp [Wf, Wfs]⟩, ⟨_, Tryz.underlying242, by kernel_rfl⟩, fun _ h => by cases h; exact ⟨by kernel_rfl, by kernel_rfl⟩⟩
abbrev T_z22 : TE := [(3, ⟨.int .i64 0, 1, 8, .sc (.int .i64), none⟩), (4, ⟨.bool false, 1, 1, .sc (.bool), none⟩), (23, ⟨.int .u64 0, 1, 8, .sc (.int .u64), none⟩), (36, ⟨.agg [.int .u64 0, .int .u64 0, .int .u64 0, .bool false], 4, 32, .st [(0, 1, false), (1, 1, false), (2, 1, false), (3, 1, false)], some (.st [(0, 1, false, .it .u64), (1, 1, false, .it .u64), (2, 1, false, .it .u64), (3, 1, false, .bl)])⟩), (237, ⟨.ints .u64 3 (fun _ => 0), 3, 24, .ar 3 23 1 false, some (.ar 3 1 (.it .u64))⟩), (242, ⟨.agg [.int .u64 0, .int .i64 0, .bool false], 3, 24, .st [(0, 1, false), (1, 1, false), (2, 1, false)], some (.st [(0, 1, false, .it .u64), (1, 1, false, .it .i64), (2, 1, false, .bl)])⟩)]
theorem T_z4e : Prg Tryz.prog T_z22 := ⟨(.cons te_3 (.cons te_4 (.cons te_23 (.cons te_36 (.cons te_237 (.cons te_242 (TEok.nil _))))))), by kernel_rfl⟩
noncomputable abbrev O_z22 {α : Type} : ORC α := []
theorem O_z4e {α : Type} {I : Imm} : OOk (α := α) Tryz.prog I O_z22 := OOk.nil
set_option maxHeartbeats 4000000 in
set_option maxRecDepth 100000 in
theorem c_z22 {α : Type} {I : Imm} : OrcOk (α := α) Tryz.prog I 238 (.pure faultF) := by
  refine orc_pure T_z4e (O := O_z22) O_z4e (L := []) ⟨1, []⟩ Tryz.func238 (by kernel_rfl) (by kernel_rfl) (by kernel_rfl) FLOk.nil ?_
  intro args k r hk
  unfold faultF at hk
  split at hk <;> try (simp at hk; done)
  rename_i at_ kind v place cs
  refine ⟨_, hk, by simp [Ids, Idss], by simp [Ids, Idss], ?_⟩
  clear hk
  have hk2 := k2_bd kind
  repeat' ((conv => arg 1; whnf); split <;> try (exfalso; (try simp only [ltB_true, ltB_false, leB_true, leB_false, decide_eq_true_eq, decide_eq_false_iff_not, Bool.and_eq_true, Bool.and_eq_false_iff, Bool.or_eq_true, Bool.or_eq_false_iff, Bool.not_eq_true', Bool.not_eq_false', bne_iff_ne, ne_eq, bne_eq_false_iff_eq, beq_iff_eq, beq_eq_false_iff_ne, Decidable.not_not, eq_self, decide_true, Bool.true_and, true_and, not_true_eq_false, false_or, Nat.beq_refl, Bool.true_eq_false, Int.toNat_zero, nbeq, and_true, strOf_size] at *) <;> omega))
  all_goals (try (conv => arg 1; whnf))
  exact ends_any rfl
abbrev T_z2c : TE := [(36, ⟨.agg [.int .u64 0, .int .u64 0, .int .u64 0, .bool false], 4, 32, .st [(0, 1, false), (1, 1, false), (2, 1, false), (3, 1, false)], some (.st [(0, 1, false, .it .u64), (1, 1, false, .it .u64), (2, 1, false, .it .u64), (3, 1, false, .bl)])⟩), (237, ⟨.ints .u64 3 (fun _ => 0), 3, 24, .ar 3 23 1 false, some (.ar 3 1 (.it .u64))⟩), (242, ⟨.agg [.int .u64 0, .int .i64 0, .bool false], 3, 24, .st [(0, 1, false), (1, 1, false), (2, 1, false)], some (.st [(0, 1, false, .it .u64), (1, 1, false, .it .i64), (2, 1, false, .bl)])⟩)]
theorem T_z4f : Prg Tryz.prog T_z2c := ⟨(.cons te_36 (.cons te_237 (.cons te_242 (TEok.nil _)))), by kernel_rfl⟩
noncomputable abbrev O_z2c {α : Type} : ORC α := [(238, .pure faultF)]
theorem O_z4f {α : Type} {I : Imm} : OOk (α := α) Tryz.prog I O_z2c := OOk.cons c_z22 (OOk.nil)
set_option maxHeartbeats 4000000 in
set_option maxRecDepth 100000 in
theorem c_z2c {α : Type} {I : Imm} : OrcOk (α := α) Tryz.prog I 149 (.pure pageF) := by
  refine orc_pure T_z4f (O := O_z2c) O_z4f (L := []) ⟨1, []⟩ Tryz.func149 (by kernel_rfl) (by kernel_rfl) (by kernel_rfl) FLOk.nil ?_
  intro args k r hk
  unfold pageF at hk
  split at hk <;> try (simp at hk; done)
  rename_i at_ kind v
  refine ⟨_, hk, by simp [Ids, Idss], by simp [Ids, Idss], ?_⟩
  clear hk
  repeat' ((conv => arg 1; whnf); split <;> try (exfalso; (try simp only [ltB_true, ltB_false, leB_true, leB_false, decide_eq_true_eq, decide_eq_false_iff_not, Bool.and_eq_true, Bool.and_eq_false_iff, Bool.or_eq_true, Bool.or_eq_false_iff, Bool.not_eq_true', Bool.not_eq_false', bne_iff_ne, ne_eq, bne_eq_false_iff_eq, beq_iff_eq, beq_eq_false_iff_ne, Decidable.not_not, eq_self, decide_true, Bool.true_and, true_and, not_true_eq_false, false_or, Nat.beq_refl, Bool.true_eq_false, Int.toNat_zero, nbeq, and_true, strOf_size] at *) <;> omega))
  all_goals (try (conv => arg 1; whnf))
  refine ends_any ?_
  simp only [faultS, pageS, c3_upd]
  rfl
abbrev T_z31 : TE := [(36, ⟨.agg [.int .u64 0, .int .u64 0, .int .u64 0, .bool false], 4, 32, .st [(0, 1, false), (1, 1, false), (2, 1, false), (3, 1, false)], some (.st [(0, 1, false, .it .u64), (1, 1, false, .it .u64), (2, 1, false, .it .u64), (3, 1, false, .bl)])⟩), (237, ⟨.ints .u64 3 (fun _ => 0), 3, 24, .ar 3 23 1 false, some (.ar 3 1 (.it .u64))⟩), (242, ⟨.agg [.int .u64 0, .int .i64 0, .bool false], 3, 24, .st [(0, 1, false), (1, 1, false), (2, 1, false)], some (.st [(0, 1, false, .it .u64), (1, 1, false, .it .i64), (2, 1, false, .bl)])⟩)]
theorem T_z4g : Prg Tryz.prog T_z31 := ⟨(.cons te_36 (.cons te_237 (.cons te_242 (TEok.nil _)))), by kernel_rfl⟩
noncomputable abbrev O_z31 {α : Type} : ORC α := [(238, .pure faultF)]
theorem O_z4g {α : Type} {I : Imm} : OOk (α := α) Tryz.prog I O_z31 := OOk.cons c_z22 (OOk.nil)
set_option maxHeartbeats 4000000 in
set_option maxRecDepth 100000 in
theorem c_z31 {α : Type} {I : Imm} : OrcOk (α := α) Tryz.prog I 245 (.pure accessF) := by
  refine orc_pure T_z4g (O := O_z31) O_z4g (L := []) ⟨1, []⟩ Tryz.func245 (by kernel_rfl) (by kernel_rfl) (by kernel_rfl) FLOk.nil ?_
  intro args k r hk
  unfold accessF at hk
  split at hk <;> try (simp at hk; done)
  rename_i at_ kind v
  refine ⟨_, hk, by simp [Ids, Idss], by simp [Ids, Idss], ?_⟩
  clear hk
  repeat' ((conv => arg 1; whnf); split <;> try (exfalso; (try simp only [ltB_true, ltB_false, leB_true, leB_false, decide_eq_true_eq, decide_eq_false_iff_not, Bool.and_eq_true, Bool.and_eq_false_iff, Bool.or_eq_true, Bool.or_eq_false_iff, Bool.not_eq_true', Bool.not_eq_false', bne_iff_ne, ne_eq, bne_eq_false_iff_eq, beq_iff_eq, beq_eq_false_iff_ne, Decidable.not_not, eq_self, decide_true, Bool.true_and, true_and, not_true_eq_false, false_or, Nat.beq_refl, Bool.true_eq_false, Int.toNat_zero, nbeq, and_true, strOf_size] at *) <;> omega))
  all_goals (try (conv => arg 1; whnf))
  refine ends_any ?_
  simp only [faultS, accessS, c3_upd]
  rfl
abbrev T_z2d : TE := [(36, ⟨.agg [.int .u64 0, .int .u64 0, .int .u64 0, .bool false], 4, 32, .st [(0, 1, false), (1, 1, false), (2, 1, false), (3, 1, false)], some (.st [(0, 1, false, .it .u64), (1, 1, false, .it .u64), (2, 1, false, .it .u64), (3, 1, false, .bl)])⟩), (237, ⟨.ints .u64 3 (fun _ => 0), 3, 24, .ar 3 23 1 false, some (.ar 3 1 (.it .u64))⟩), (242, ⟨.agg [.int .u64 0, .int .i64 0, .bool false], 3, 24, .st [(0, 1, false), (1, 1, false), (2, 1, false)], some (.st [(0, 1, false, .it .u64), (1, 1, false, .it .i64), (2, 1, false, .bl)])⟩)]
theorem T_z4h : Prg Tryz.prog T_z2d := ⟨(.cons te_36 (.cons te_237 (.cons te_242 (TEok.nil _)))), by kernel_rfl⟩
noncomputable abbrev O_z2d {α : Type} : ORC α := [(238, .pure faultF)]
theorem O_z4h {α : Type} {I : Imm} : OOk (α := α) Tryz.prog I O_z2d := OOk.cons c_z22 (OOk.nil)
set_option maxHeartbeats 4000000 in
set_option maxRecDepth 100000 in
theorem c_z2d {α : Type} {I : Imm} : OrcOk (α := α) Tryz.prog I 150 (.pure guestF) := by
  refine orc_pure T_z4h (O := O_z2d) O_z4h (L := []) ⟨1, []⟩ Tryz.func150 (by kernel_rfl) (by kernel_rfl) (by kernel_rfl) FLOk.nil ?_
  intro args k r hk
  unfold guestF at hk
  split at hk <;> try (simp at hk; done)
  rename_i at_ kind v place
  refine ⟨_, hk, by simp [Ids, Idss], by simp [Ids, Idss], ?_⟩
  clear hk
  repeat' ((conv => arg 1; whnf); split <;> try (exfalso; (try simp only [ltB_true, ltB_false, leB_true, leB_false, decide_eq_true_eq, decide_eq_false_iff_not, Bool.and_eq_true, Bool.and_eq_false_iff, Bool.or_eq_true, Bool.or_eq_false_iff, Bool.not_eq_true', Bool.not_eq_false', bne_iff_ne, ne_eq, bne_eq_false_iff_eq, beq_iff_eq, beq_eq_false_iff_ne, Decidable.not_not, eq_self, decide_true, Bool.true_and, true_and, not_true_eq_false, false_or, Nat.beq_refl, Bool.true_eq_false, Int.toNat_zero, nbeq, and_true, strOf_size] at *) <;> omega))
  all_goals (try (conv => arg 1; whnf))
  refine ends_any ?_
  simp only [faultS, guestS, c3_upd]
abbrev T_z2e : TE := [(3, ⟨.int .i64 0, 1, 8, .sc (.int .i64), none⟩), (36, ⟨.agg [.int .u64 0, .int .u64 0, .int .u64 0, .bool false], 4, 32, .st [(0, 1, false), (1, 1, false), (2, 1, false), (3, 1, false)], some (.st [(0, 1, false, .it .u64), (1, 1, false, .it .u64), (2, 1, false, .it .u64), (3, 1, false, .bl)])⟩), (242, ⟨.agg [.int .u64 0, .int .i64 0, .bool false], 3, 24, .st [(0, 1, false), (1, 1, false), (2, 1, false)], some (.st [(0, 1, false, .it .u64), (1, 1, false, .it .i64), (2, 1, false, .bl)])⟩)]
theorem T_z4i : Prg Tryz.prog T_z2e := ⟨(.cons te_3 (.cons te_36 (.cons te_242 (TEok.nil _)))), by kernel_rfl⟩
noncomputable abbrev O_z2e {α : Type} : ORC α := [(150, .pure guestF), (245, .pure accessF)]
theorem O_z4i {α : Type} {I : Imm} : OOk (α := α) Tryz.prog I O_z2e := OOk.cons c_z2d (OOk.cons c_z31 (OOk.nil))
set_option maxHeartbeats 4000000 in
set_option maxRecDepth 100000 in
theorem c_z2e {α : Type} {I : Imm} : OrcOk (α := α) Tryz.prog I 153 (.pure ofF) := by
  refine orc_pure T_z4i (O := O_z2e) O_z4i (L := []) ⟨1, []⟩ Tryz.func153 (by kernel_rfl) (by kernel_rfl) (by kernel_rfl) FLOk.nil ?_
  intro args k r hk
  unfold ofF at hk
  split at hk <;> try (simp at hk; done)
  rename_i at_ kind v code place
  refine ⟨_, hk, by simp [Ids, Idss], by simp [Ids, Idss], ?_⟩
  clear hk
  repeat' ((conv => arg 1; whnf); split <;> try (exfalso; (try simp only [ltB_true, ltB_false, leB_true, leB_false, decide_eq_true_eq, decide_eq_false_iff_not, Bool.and_eq_true, Bool.and_eq_false_iff, Bool.or_eq_true, Bool.or_eq_false_iff, Bool.not_eq_true', Bool.not_eq_false', bne_iff_ne, ne_eq, bne_eq_false_iff_eq, beq_iff_eq, beq_eq_false_iff_ne, Decidable.not_not, eq_self, decide_true, Bool.true_and, true_and, not_true_eq_false, false_or, Nat.beq_refl, Bool.true_eq_false, Int.toNat_zero, nbeq, and_true, strOf_size] at *) <;> omega))
  all_goals (try (conv => arg 1; whnf))
  all_goals (refine ends_any ?_; simp only [ofS, cond_true, cond_false, *, Bool.and_true, Bool.true_and, Bool.false_and, Bool.and_false, Bool.or_true, Bool.true_or, Bool.or_false, Bool.false_or, Bool.not_true, Bool.not_false, Bool.and_self, Bool.or_self])
theorem te_341 : TyOk Tryz.prog 341 ⟨.agg [.nilp, .agg [.bool false, .bool false, .bool false, .bool false, .int .i64 0, .int .i64 0, .int .i64 0, .int .i64 0], .int .u64 0], 10, 56, .st [(0, 1, false), (1, 8, true), (9, 1, false)], none⟩ := ⟨fun _ => by kernel_rfl, ⟨rfl, rfl, fun _ _ => by simp [Wf, Wfs]⟩, ⟨_, Tryz.underlying341, by kernel_rfl⟩, fun _ h => by cases h⟩
abbrev T_z2f : TE := [(3, ⟨.int .i64 0, 1, 8, .sc (.int .i64), none⟩), (23, ⟨.int .u64 0, 1, 8, .sc (.int .u64), none⟩), (92, ⟨.nilp, 1, 8, .sc (.pointer 201), none⟩), (239, ⟨.agg [.bool false, .bool false, .bool false, .bool false, .int .i64 0, .int .i64 0, .int .i64 0, .int .i64 0], 8, 40, .st [(0, 1, false), (1, 1, false), (2, 1, false), (3, 1, false), (4, 1, false), (5, 1, false), (6, 1, false), (7, 1, false)], some (.st [(0, 1, false, .bl), (1, 1, false, .bl), (2, 1, false, .bl), (3, 1, false, .bl), (4, 1, false, .it .i64), (5, 1, false, .it .i64), (6, 1, false, .it .i64), (7, 1, false, .it .i64)])⟩), (341, ⟨.agg [.nilp, .agg [.bool false, .bool false, .bool false, .bool false, .int .i64 0, .int .i64 0, .int .i64 0, .int .i64 0], .int .u64 0], 10, 56, .st [(0, 1, false), (1, 8, true), (9, 1, false)], none⟩)]
theorem T_z4j : Prg Tryz.prog T_z2f := ⟨(.cons te_3 (.cons te_23 (.cons te_92 (.cons te_239 (.cons te_341 (TEok.nil _)))))), by kernel_rfl⟩
noncomputable abbrev O_z2f {α : Type} : ORC α := [(152, .full secondF), (299, .full entryF)]
theorem O_z4j {α : Type} {I : Imm} : OOk (α := α) Tryz.prog I O_z2f := OOk.cons c_z2b (OOk.cons c_z29 (OOk.nil))
set_option maxHeartbeats 4000000 in
set_option maxRecDepth 100000 in
theorem c_z2f {α : Type} {I : Imm} : OrcOk (α := α) Tryz.prog I 240 (.full rdrF) := by
  refine orc_canon T_z4j (O := O_z2f) O_z4j (L := []) ⟨1, []⟩ Tryz.func240 (by kernel_rfl) (by kernel_rfl) (by kernel_rfl) FLOk.nil ?_
  intro args σ k r hk
  unfold rdrF at hk
  split at hk <;> try (simp at hk; done)
  rename_i rb frame index
  split at hk <;> try (simp at hk; done)
  rename_i g p a1 a2 a3 a4 a5 a6 a7 a8 la hr
  obtain ⟨b, b1, g0, g1, f, rfl, h0, h1, hne, hk'⟩ := withMem_spec hk
  clear hk; have hk := hk'; clear hk'
  cases hg : (Nat.beq rb b || Nat.beq rb b1) <;> rw [hg] at hk <;> simp only [cond_true, cond_false] at hk <;> try (simp at hk; done)
  simp only [nbeq, Bool.or_eq_false_iff, decide_eq_false_iff_not] at hg
  refine ⟨[rb, b, b1], [.cells g (.agg [.ptr 1 [], .agg [.bool a1, .bool a2, .bool a3, .bool a4, .int .i64 a5, .int .i64 a6, .int .i64 a7, .int .i64 a8], .int .u64 la]), memO 2 g0, byO g1 f], [.ptr 0 [], .int .i64 frame, .int .i64 index], lay_mk rfl (by simp [hg.1, hg.2, hne]) rfl ⟨hr, h0, h1, trivial⟩ (by simp [AllL, Ids]) (by simp [AllL, OIds, Ids, Idss]), ?_⟩
  refine ends_keep (v := .tuple [.int .u64 (rdr f a2 a8 frame index).1, .int .i64 (rdr f a2 a8 frame index).2]) (bl := [(0, .cells g (.agg [.ptr 1 [], .agg [.bool a1, .bool a2, .bool a3, .bool a4, .int .i64 a5, .int .i64 a6, .int .i64 a7, .int .i64 a8], .int .u64 (placeS frame index)]))]) ?_ (by simp [Ids, Idss]) (by simp [AllL, OIds, Ids, Idss]) hk
  clear hk
  repeat' ((conv => arg 1; whnf); split <;> try (exfalso; (try simp only [ltB_true, ltB_false, leB_true, leB_false, decide_eq_true_eq, decide_eq_false_iff_not, Bool.and_eq_true, Bool.and_eq_false_iff, Bool.or_eq_true, Bool.or_eq_false_iff, Bool.not_eq_true', Bool.not_eq_false', bne_iff_ne, ne_eq, bne_eq_false_iff_eq, beq_iff_eq, beq_eq_false_iff_ne, Decidable.not_not, eq_self, decide_true, Bool.true_and, true_and, not_true_eq_false, false_or, Nat.beq_refl, Bool.true_eq_false, Int.toNat_zero, nbeq, and_true, strOf_size] at *) <;> omega))
  all_goals (try (conv => arg 1; whnf))
  all_goals (try simp only [Bool.not_eq_true', Bool.not_eq_false', u2_0, u2_1] at *)
  all_goals exact ⟨_, _, rfl, by simp only [rdr, placeS, cond_true, cond_false, *, Bool.and_true, Bool.true_and, Bool.false_and, Bool.and_false, Bool.or_true, Bool.true_or, Bool.or_false, Bool.false_or, Bool.not_true, Bool.not_false, Bool.and_self, Bool.or_self] <;> rfl, ⟨rfl, trivial⟩, .inl rfl, .inr rfl, .inr rfl, trivial⟩
abbrev T_z1y : TE := [(3, ⟨.int .i64 0, 1, 8, .sc (.int .i64), none⟩), (23, ⟨.int .u64 0, 1, 8, .sc (.int .u64), none⟩), (381, ⟨.ints .u64 2 (fun _ => 0), 2, 16, .ar 2 23 1 false, some (.ar 2 1 (.it .u64))⟩)]
theorem T_z4k : Prg Tryz.prog T_z1y := ⟨(.cons te_3 (.cons te_23 (.cons te_381 (TEok.nil _)))), by kernel_rfl⟩
noncomputable abbrev O_z1y {α : Type} : ORC α := [(240, .full rdrF), (297, .pure isF), (298, .pure leafF), (243, .pure frameF), (217, .pure bitsF), (204, .pure setF)]
theorem O_z4k {α : Type} {I : Imm} : OOk (α := α) Tryz.prog I O_z1y := OOk.cons c_z2f (OOk.cons c_z21 (OOk.cons c_z28 (OOk.cons c_z1z (OOk.cons c_z18 (OOk.cons c_z23 (OOk.nil))))))
noncomputable abbrev B_z1y {α : Type} : FF α := byBody T_z1y O_z1y ⟨3, []⟩ Tryz.f239
theorem c_z1y {α : Type} {I : Imm} : OrcOk (α := α) Tryz.prog I 239 (.full B_z1y) := orc_body T_z4k O_z4k ⟨3, []⟩ Tryz.func239 (by kernel_rfl) (by kernel_rfl) (by kernel_rfl)
abbrev T_z32 : TE := [(3, ⟨.int .i64 0, 1, 8, .sc (.int .i64), none⟩), (4, ⟨.bool false, 1, 1, .sc (.bool), none⟩), (23, ⟨.int .u64 0, 1, 8, .sc (.int .u64), none⟩), (36, ⟨.agg [.int .u64 0, .int .u64 0, .int .u64 0, .bool false], 4, 32, .st [(0, 1, false), (1, 1, false), (2, 1, false), (3, 1, false)], some (.st [(0, 1, false, .it .u64), (1, 1, false, .it .u64), (2, 1, false, .it .u64), (3, 1, false, .bl)])⟩), (239, ⟨.agg [.bool false, .bool false, .bool false, .bool false, .int .i64 0, .int .i64 0, .int .i64 0, .int .i64 0], 8, 40, .st [(0, 1, false), (1, 1, false), (2, 1, false), (3, 1, false), (4, 1, false), (5, 1, false), (6, 1, false), (7, 1, false)], some (.st [(0, 1, false, .bl), (1, 1, false, .bl), (2, 1, false, .bl), (3, 1, false, .bl), (4, 1, false, .it .i64), (5, 1, false, .it .i64), (6, 1, false, .it .i64), (7, 1, false, .it .i64)])⟩), (242, ⟨.agg [.int .u64 0, .int .i64 0, .bool false], 3, 24, .st [(0, 1, false), (1, 1, false), (2, 1, false)], some (.st [(0, 1, false, .it .u64), (1, 1, false, .it .i64), (2, 1, false, .bl)])⟩), (341, ⟨.agg [.nilp, .agg [.bool false, .bool false, .bool false, .bool false, .int .i64 0, .int .i64 0, .int .i64 0, .int .i64 0], .int .u64 0], 10, 56, .st [(0, 1, false), (1, 8, true), (9, 1, false)], none⟩)]
theorem T_z4l : Prg Tryz.prog T_z32 := ⟨(.cons te_3 (.cons te_4 (.cons te_23 (.cons te_36 (.cons te_239 (.cons te_242 (.cons te_341 (TEok.nil _)))))))), by kernel_rfl⟩
noncomputable abbrev O_z32 {α : Type} : ORC α := [(239, .full B_z1y), (240, .full rdrF), (235, .pure zextF), (153, .pure ofF), (149, .pure pageF), (241, .pure mayF), (243, .pure frameF), (242, .pure joinF)]
theorem O_z4l {α : Type} {I : Imm} : OOk (α := α) Tryz.prog I O_z32 := OOk.cons c_z1y (OOk.cons c_z2f (OOk.cons c_z10 (OOk.cons c_z2e (OOk.cons c_z2c (OOk.cons c_z27 (OOk.cons c_z1z (OOk.cons c_z2a (OOk.nil))))))))
set_option maxHeartbeats 4000000 in
set_option maxRecDepth 100000 in
theorem c_z32 {α : Type} {I : Imm} : OrcOk (α := α) Tryz.prog I 151 (.full firstF) := by
  refine orc_canon T_z4l (O := O_z32) O_z4l (L := []) ⟨1, []⟩ Tryz.func151 (by kernel_rfl) (by kernel_rfl) (by kernel_rfl) FLOk.nil ?_
  intro args σ k r hk
  unfold firstF at hk
  split at hk <;> try (simp at hk; done)
  rename_i p a1 a2 a3 a4 a5 a6 a7 a8 at_ kind v user
  obtain ⟨b, b1, g0, g1, f, rfl, h0, h1, hne, hk'⟩ := withMem_spec hk
  clear hk; have hk := hk'; clear hk'
  cases hg0 : decide (at_ < 65536) <;> rw [hg0] at hk <;> simp only [cond_true, cond_false] at hk <;> try (simp at hk; done)
  refine ⟨[b, b1], [memO 1 g0, byO g1 f], [.ptr 0 [], .agg [.bool a1, .bool a2, .bool a3, .bool a4, .int .i64 a5, .int .i64 a6, .int .i64 a7, .int .i64 a8], .agg [.int .u64 at_, .int .i64 kind, .bool v], .bool user], lay_mk rfl (nodup2 hne) rfl ⟨h0, h1, trivial⟩ (by simp [AllL, Ids, Idss]) (by simp [AllL, OIds, Ids, Idss]), ?_⟩
  refine ends_keep (v := (firstS f a1 a2 a3 a4 a7 a8 at_ kind v user).sv) (bl := []) ?_ (by simp [Ids, Idss]) trivial hk
  clear hk
  repeat' ((conv => arg 1; whnf); split <;> try (exfalso; (try simp only [ltB_true, ltB_false, leB_true, leB_false, decide_eq_true_eq, decide_eq_false_iff_not, Bool.and_eq_true, Bool.and_eq_false_iff, Bool.or_eq_true, Bool.or_eq_false_iff, Bool.not_eq_true', Bool.not_eq_false', bne_iff_ne, ne_eq, bne_eq_false_iff_eq, beq_iff_eq, beq_eq_false_iff_ne, Decidable.not_not, eq_self, decide_true, Bool.true_and, true_and, not_true_eq_false, false_or, Nat.beq_refl, Bool.true_eq_false, Int.toNat_zero, nbeq, and_true, strOf_size] at *) <;> omega))
  all_goals (try (conv => arg 1; whnf))
  all_goals (try simp only [Bool.not_eq_true', Bool.not_eq_false', u2_0, u2_1] at *)
  all_goals exact ⟨_, _, rfl, by simp only [firstS, thr, lastR, leafBits, Firsts.sv, cond_true, cond_false, *, Bool.and_true, Bool.true_and, Bool.false_and, Bool.and_false, Bool.or_true, Bool.true_or, Bool.or_false, Bool.false_or, Bool.not_true, Bool.not_false, Bool.and_self, Bool.or_self] <;> rfl, trivial, .inr rfl, .inr rfl, trivial⟩
abbrev T_z33 : TE := [(3, ⟨.int .i64 0, 1, 8, .sc (.int .i64), none⟩), (23, ⟨.int .u64 0, 1, 8, .sc (.int .u64), none⟩), (25, ⟨.ints .u64 29 (fun _ => 0), 29, 232, .ar 29 23 1 false, some (.ar 29 1 (.it .u64))⟩), (27, ⟨.agg [.ints .u64 32 (fun _ => 0), .int .u64 0, .int .i64 0, .bool false, .ints .u64 29 (fun _ => 0), .int .u64 0], 65, 520, .st [(0, 32, true), (32, 1, false), (33, 1, false), (34, 1, false), (35, 29, true), (64, 1, false)], some (.st [(0, 32, true, .ar 32 1 (.it .u64)), (32, 1, false, .it .u64), (33, 1, false, .it .i64), (34, 1, false, .bl), (35, 29, true, .ar 29 1 (.it .u64)), (64, 1, false, .it .u64)])⟩)]
theorem T_z4m : Prg Tryz.prog T_z33 := ⟨(.cons te_3 (.cons te_23 (.cons te_25 (.cons te_27 (TEok.nil _))))), by kernel_rfl⟩
noncomputable abbrev O_z33 {α : Type} : ORC α := [(138, .pure bitF), (217, .pure bitsF)]
theorem O_z4m {α : Type} {I : Imm} : OOk (α := α) Tryz.prog I O_z33 := OOk.cons c_z11 (OOk.cons c_z18 (OOk.nil))
set_option maxHeartbeats 4000000 in
set_option maxRecDepth 100000 in
theorem c_z33 {α : Type} {I : Imm} : OrcOk (α := α) Tryz.prog I 237 (.pure onF) := by
  refine orc_pure T_z4m (O := O_z33) O_z4m (L := []) ⟨1, []⟩ Tryz.func237 (by kernel_rfl) (by kernel_rfl) (by kernel_rfl) FLOk.nil ?_
  intro args k r hk
  unfold onF at hk
  split at hk <;> try (simp at hk; done)
  rename_i x pc lv vv c dn i
  cases hg : (decide (0 ≤ i) && decide (i < 29)) <;> rw [hg] at hk <;> simp only [cond_true, cond_false] at hk <;> try (simp at hk; done)
  refine ⟨_, hk, by simp [Ids, Idss], by simp [Ids, Idss], ?_⟩
  clear hk
  repeat' ((conv => arg 1; whnf); split <;> try (exfalso; (try simp only [ltB_true, ltB_false, leB_true, leB_false, decide_eq_true_eq, decide_eq_false_iff_not, Bool.and_eq_true, Bool.and_eq_false_iff, Bool.or_eq_true, Bool.or_eq_false_iff, Bool.not_eq_true', Bool.not_eq_false', bne_iff_ne, ne_eq, bne_eq_false_iff_eq, beq_iff_eq, beq_eq_false_iff_ne, Decidable.not_not, eq_self, decide_true, Bool.true_and, true_and, not_true_eq_false, false_or, Nat.beq_refl, Bool.true_eq_false, Int.toNat_zero, nbeq, and_true, strOf_size] at *) <;> omega))
  all_goals (try (conv => arg 1; whnf))
  all_goals (try simp only [Bool.not_eq_true', Bool.not_eq_false', u2_0, u2_1] at *)
  all_goals (refine ends_any ?_; simp only [onA, onR, cond_true, cond_false, *, Bool.and_true, Bool.true_and, Bool.false_and, Bool.and_false, Bool.or_true, Bool.true_or, Bool.or_false, Bool.false_or, Bool.not_true, Bool.not_false, Bool.and_self, Bool.or_self])
abbrev T_z34 : TE := [(3, ⟨.int .i64 0, 1, 8, .sc (.int .i64), none⟩), (4, ⟨.bool false, 1, 1, .sc (.bool), none⟩), (27, ⟨.agg [.ints .u64 32 (fun _ => 0), .int .u64 0, .int .i64 0, .bool false, .ints .u64 29 (fun _ => 0), .int .u64 0], 65, 520, .st [(0, 32, true), (32, 1, false), (33, 1, false), (34, 1, false), (35, 29, true), (64, 1, false)], some (.st [(0, 32, true, .ar 32 1 (.it .u64)), (32, 1, false, .it .u64), (33, 1, false, .it .i64), (34, 1, false, .bl), (35, 29, true, .ar 29 1 (.it .u64)), (64, 1, false, .it .u64)])⟩), (239, ⟨.agg [.bool false, .bool false, .bool false, .bool false, .int .i64 0, .int .i64 0, .int .i64 0, .int .i64 0], 8, 40, .st [(0, 1, false), (1, 1, false), (2, 1, false), (3, 1, false), (4, 1, false), (5, 1, false), (6, 1, false), (7, 1, false)], some (.st [(0, 1, false, .bl), (1, 1, false, .bl), (2, 1, false, .bl), (3, 1, false, .bl), (4, 1, false, .it .i64), (5, 1, false, .it .i64), (6, 1, false, .it .i64), (7, 1, false, .it .i64)])⟩)]
theorem T_z4n : Prg Tryz.prog T_z34 := ⟨(.cons te_3 (.cons te_4 (.cons te_27 (.cons te_239 (TEok.nil _))))), by kernel_rfl⟩
noncomputable abbrev O_z34 {α : Type} : ORC α := [(237, .pure onF), (138, .pure bitF)]
theorem O_z4n {α : Type} {I : Imm} : OOk (α := α) Tryz.prog I O_z34 := OOk.cons c_z33 (OOk.cons c_z11 (OOk.nil))
set_option maxHeartbeats 4000000 in
set_option maxRecDepth 100000 in
theorem c_z34 {α : Type} {I : Imm} : OrcOk (α := α) Tryz.prog I 148 (.pure askF) := by
  refine orc_pure T_z4n (O := O_z34) O_z4n (L := []) ⟨1, []⟩ Tryz.func148 (by kernel_rfl) (by kernel_rfl) (by kernel_rfl) FLOk.nil ?_
  intro args k r hk
  unfold askF at hk
  split at hk <;> try (simp at hk; done)
  rename_i x pc lv vv c dn level v
  refine ⟨_, hk, by simp [Ids, Idss], by simp [Ids, Idss], ?_⟩
  clear hk
  repeat' ((conv => arg 1; whnf); split <;> try (exfalso; (try simp only [ltB_true, ltB_false, leB_true, leB_false, decide_eq_true_eq, decide_eq_false_iff_not, Bool.and_eq_true, Bool.and_eq_false_iff, Bool.or_eq_true, Bool.or_eq_false_iff, Bool.not_eq_true', Bool.not_eq_false', bne_iff_ne, ne_eq, bne_eq_false_iff_eq, beq_iff_eq, beq_eq_false_iff_ne, Decidable.not_not, eq_self, decide_true, Bool.true_and, true_and, not_true_eq_false, false_or, Nat.beq_refl, Bool.true_eq_false, Int.toNat_zero, nbeq, and_true, strOf_size] at *) <;> omega))
  all_goals (try (conv => arg 1; whnf))
  all_goals (try simp only [Bool.not_eq_true', Bool.not_eq_false', u2_0, u2_1] at *)
  all_goals (refine ends_any ?_; simp only [askS, Asking.sv, cond_true, cond_false, *, Bool.and_true, Bool.true_and, Bool.false_and, Bool.and_false, Bool.or_true, Bool.true_or, Bool.or_false, Bool.false_or, Bool.not_true, Bool.not_false, Bool.and_self, Bool.or_self])
theorem te_139 : TyOk Tryz.prog 139 ⟨.agg [.bool false, .bool false, .int .i64 0, .int .i64 0, .int .i64 0, .int .i64 0, .int .i64 0, .int .i64 0, .int .i64 0], 9, 64, .st [(0, 1, false), (1, 1, false), (2, 1, false), (3, 1, false), (4, 1, false), (5, 1, false), (6, 1, false), (7, 1, false), (8, 1, false)], some (.st [(0, 1, false, .bl), (1, 1, false, .bl), (2, 1, false, .it .i64), (3, 1, false, .it .i64), (4, 1, false, .it .i64), (5, 1, false, .it .i64), (6, 1, false, .it .i64), (7, 1, false, .it .i64), (8, 1, false, .it .i64)])⟩ := ⟨fun _ => by kernel_rfl, ⟨rfl, rfl, fun _ _ => by simp [Wf, Wfs]⟩, ⟨_, Tryz.underlying139, by kernel_rfl⟩, fun _ h => by cases h; exact ⟨by kernel_rfl, by kernel_rfl⟩⟩
abbrev T_zq : TE := [(3, ⟨.int .i64 0, 1, 8, .sc (.int .i64), none⟩), (4, ⟨.bool false, 1, 1, .sc (.bool), none⟩), (23, ⟨.int .u64 0, 1, 8, .sc (.int .u64), none⟩), (27, ⟨.agg [.ints .u64 32 (fun _ => 0), .int .u64 0, .int .i64 0, .bool false, .ints .u64 29 (fun _ => 0), .int .u64 0], 65, 520, .st [(0, 32, true), (32, 1, false), (33, 1, false), (34, 1, false), (35, 29, true), (64, 1, false)], some (.st [(0, 32, true, .ar 32 1 (.it .u64)), (32, 1, false, .it .u64), (33, 1, false, .it .i64), (34, 1, false, .bl), (35, 29, true, .ar 29 1 (.it .u64)), (64, 1, false, .it .u64)])⟩), (36, ⟨.agg [.int .u64 0, .int .u64 0, .int .u64 0, .bool false], 4, 32, .st [(0, 1, false), (1, 1, false), (2, 1, false), (3, 1, false)], some (.st [(0, 1, false, .it .u64), (1, 1, false, .it .u64), (2, 1, false, .it .u64), (3, 1, false, .bl)])⟩), (139, ⟨.agg [.bool false, .bool false, .int .i64 0, .int .i64 0, .int .i64 0, .int .i64 0, .int .i64 0, .int .i64 0, .int .i64 0], 9, 64, .st [(0, 1, false), (1, 1, false), (2, 1, false), (3, 1, false), (4, 1, false), (5, 1, false), (6, 1, false), (7, 1, false), (8, 1, false)], some (.st [(0, 1, false, .bl), (1, 1, false, .bl), (2, 1, false, .it .i64), (3, 1, false, .it .i64), (4, 1, false, .it .i64), (5, 1, false, .it .i64), (6, 1, false, .it .i64), (7, 1, false, .it .i64), (8, 1, false, .it .i64)])⟩), (239, ⟨.agg [.bool false, .bool false, .bool false, .bool false, .int .i64 0, .int .i64 0, .int .i64 0, .int .i64 0], 8, 40, .st [(0, 1, false), (1, 1, false), (2, 1, false), (3, 1, false), (4, 1, false), (5, 1, false), (6, 1, false), (7, 1, false)], some (.st [(0, 1, false, .bl), (1, 1, false, .bl), (2, 1, false, .bl), (3, 1, false, .bl), (4, 1, false, .it .i64), (5, 1, false, .it .i64), (6, 1, false, .it .i64), (7, 1, false, .it .i64)])⟩), (242, ⟨.agg [.int .u64 0, .int .i64 0, .bool false], 3, 24, .st [(0, 1, false), (1, 1, false), (2, 1, false)], some (.st [(0, 1, false, .it .u64), (1, 1, false, .it .i64), (2, 1, false, .bl)])⟩)]
theorem T_z4o : Prg Tryz.prog T_zq := ⟨(.cons te_3 (.cons te_4 (.cons te_23 (.cons te_27 (.cons te_36 (.cons te_139 (.cons te_239 (.cons te_242 (TEok.nil _))))))))), by kernel_rfl⟩
noncomputable abbrev O_zq {α : Type} : ORC α := [(148, .pure askF), (149, .pure pageF), (150, .pure guestF), (151, .full firstF), (152, .full secondF), (153, .pure ofF)]
theorem O_z4o {α : Type} {I : Imm} : OOk (α := α) Tryz.prog I O_zq := OOk.cons c_z34 (OOk.cons c_z2c (OOk.cons c_z2d (OOk.cons c_z32 (OOk.cons c_z2b (OOk.cons c_z2e (OOk.nil))))))
set_option maxHeartbeats 4000000 in
set_option maxRecDepth 100000 in
theorem c_zq {α : Type} {I : Imm} : OrcOk (α := α) Tryz.prog I 78 (.full transF) := by
  refine orc_canon T_z4o (O := O_zq) O_z4o (L := []) ⟨1, []⟩ Tryz.func78 (by kernel_rfl) (by kernel_rfl) (by kernel_rfl) FLOk.nil ?_
  intro args σ k r hk
  unfold transF at hk
  split at hk <;> try (simp at hk; done)
  rename_i p x pc lv vv c dn at_ kind level v
  obtain ⟨b, b1, g0, g1, f, rfl, h0, h1, hne, hk'⟩ := withMem_spec hk
  clear hk; have hk := hk'; clear hk'
  refine ⟨[b, b1], [memO 1 g0, byO g1 f], [.ptr 0 [], .agg [.ints .u64 32 x, .int .u64 pc, .int .i64 lv, .bool vv, .ints .u64 29 c, .int .u64 dn], .int .u64 at_, .int .i64 kind, .int .i64 level, .bool v], lay_mk rfl (nodup2 hne) rfl ⟨h0, h1, trivial⟩ (by simp [AllL, Ids, Idss]) (by simp [AllL, OIds, Ids, Idss]), ?_⟩
  refine ends_keep (v := (transA f (askS c level v) at_ kind (level == 0) v).sv) (bl := []) ?_ (by simp [Ids, Idss]) trivial hk
  clear hk
  repeat' ((conv => arg 1; whnf); split <;> try (exfalso; (try simp only [ltB_true, ltB_false, leB_true, leB_false, decide_eq_true_eq, decide_eq_false_iff_not, Bool.and_eq_true, Bool.and_eq_false_iff, Bool.or_eq_true, Bool.or_eq_false_iff, Bool.not_eq_true', Bool.not_eq_false', bne_iff_ne, ne_eq, bne_eq_false_iff_eq, beq_iff_eq, beq_eq_false_iff_ne, Decidable.not_not, eq_self, decide_true, Bool.true_and, true_and, not_true_eq_false, false_or, Nat.beq_refl, Bool.true_eq_false, Int.toNat_zero, nbeq, and_true, strOf_size] at *) <;> omega))
  all_goals (try (conv => arg 1; whnf))
  all_goals (try simp only [Bool.not_eq_true', Bool.not_eq_false', u2_0, u2_1] at *)
  all_goals refine ⟨_, _, rfl, ?_, trivial, .inr rfl, .inr rfl, trivial⟩
  all_goals try simp only [offA_eq] at *
  all_goals simp only [transA, Trans.sv, Entry.sv, pageOf, Firsts.sv, cond_true, cond_false, *, Bool.and_true, Bool.true_and, Bool.false_and, Bool.and_false, Bool.or_true, Bool.true_or, Bool.or_false, Bool.false_or, Bool.not_true, Bool.not_false, Bool.and_self, Bool.or_self]
  all_goals first | done | rfl | trace_state
end Go.Proofs.YtemkfjnmaljmeaaGreat
