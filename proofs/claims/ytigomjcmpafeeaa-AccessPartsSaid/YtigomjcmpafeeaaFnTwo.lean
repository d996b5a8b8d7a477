/-
  Contracts: Two.
-/
import Derived.Test.YtigomjcmpafeeaaFnWalk
import Derived.Test.YtigomjcmpafeeaaSpTwo
set_option linter.unusedSimpArgs false
set_option linter.unusedVariables false
namespace Go.Proofs.Ytigomjcmpafeeaa
open Go Go.Sh Go.Proofs
set_option linter.unusedSimpArgs false
abbrev T_two_join : TE := [(3, ⟨.int .i64 0, 1, 8, .sc (.int .i64), none⟩), (33, ⟨.int .u64 0, 1, 8, .sc (.int .u64), none⟩)]
theorem T_two_join_ok : Prg Try.prog T_two_join := ⟨(.cons te_3 (.cons te_33 (TEok.nil _))), by kernel_rfl⟩
noncomputable abbrev O_two_join {α : Type} : ORC α := [(89, .pure zextF)]
theorem O_two_join_ok {α : Type} {I : Imm} : OOk (α := α) Try.prog I O_two_join := OOk.cons c_word_Zext (OOk.nil)
set_option maxHeartbeats 4000000 in
set_option maxRecDepth 100000 in
theorem c_two_join {α : Type} {I : Imm} : OrcOk (α := α) Try.prog I 69 (.pure joinF) := by
  refine orc_pure T_two_join_ok (O := O_two_join) O_two_join_ok (L := []) ⟨1, []⟩ Try.func69 (by kernel_rfl) (by kernel_rfl) (by kernel_rfl) FLOk.nil ?_
  intro args k r hk
  unfold joinF at hk
  split at hk <;> try (simp at hk; done)
  rename_i frame at_
  refine ⟨_, hk, by simp [Ids, Idss], by simp [Ids, Idss], ?_⟩
  clear hk
  repeat' ((conv => arg 1; whnf); split <;> try (exfalso; (try simp only [ltB_true, ltB_false, leB_true, leB_false, decide_eq_true_eq, decide_eq_false_iff_not, Bool.and_eq_true, Bool.and_eq_false_iff, Bool.or_eq_true, Bool.or_eq_false_iff, Bool.not_eq_true', Bool.not_eq_false', bne_iff_ne, ne_eq, bne_eq_false_iff_eq, beq_iff_eq, beq_eq_false_iff_ne, Decidable.not_not, eq_self, decide_true, Bool.true_and, true_and, not_true_eq_false, false_or, Nat.beq_refl, Bool.true_eq_false, Int.toNat_zero, nbeq, and_true, strOf_size] at *) <;> omega))
  all_goals (try (conv => arg 1; whnf))
  exact ends_int rfl
theorem te_4 : TyOk Try.prog 4 ⟨.bool false, 1, 1, .sc (.bool), none⟩ := ⟨fun _ => by kernel_rfl, ⟨rfl, rfl, fun _ _ => by simp [Wf, Wfs]⟩, ⟨Try.underlying4, rfl⟩, fun _ h => by cases h⟩
theorem te_51 : TyOk Try.prog 51 ⟨.agg [.bool false, .bool false, .bool false, .bool false, .int .i64 0, .int .i64 0, .int .i64 0, .int .i64 0], 8, 40, .st [(0, 1, false), (1, 1, false), (2, 1, false), (3, 1, false), (4, 1, false), (5, 1, false), (6, 1, false), (7, 1, false)], some (.st [(0, 1, false, .bl), (1, 1, false, .bl), (2, 1, false, .bl), (3, 1, false, .bl), (4, 1, false, .it .i64), (5, 1, false, .it .i64), (6, 1, false, .it .i64), (7, 1, false, .it .i64)])⟩ := ⟨fun _ => by kernel_rfl, ⟨rfl, rfl, fun _ _ => by simp [Wf, Wfs]⟩, ⟨_, Try.underlying51, by kernel_rfl⟩, fun _ h => by cases h; exact ⟨by kernel_rfl, by kernel_rfl⟩⟩
abbrev T_two_second : TE := [(3, ⟨.int .i64 0, 1, 8, .sc (.int .i64), none⟩), (4, ⟨.bool false, 1, 1, .sc (.bool), none⟩), (33, ⟨.int .u64 0, 1, 8, .sc (.int .u64), none⟩), (51, ⟨.agg [.bool false, .bool false, .bool false, .bool false, .int .i64 0, .int .i64 0, .int .i64 0, .int .i64 0], 8, 40, .st [(0, 1, false), (1, 1, false), (2, 1, false), (3, 1, false), (4, 1, false), (5, 1, false), (6, 1, false), (7, 1, false)], some (.st [(0, 1, false, .bl), (1, 1, false, .bl), (2, 1, false, .bl), (3, 1, false, .bl), (4, 1, false, .it .i64), (5, 1, false, .it .i64), (6, 1, false, .it .i64), (7, 1, false, .it .i64)])⟩)]
theorem T_two_second_ok : Prg Try.prog T_two_second := ⟨(.cons te_3 (.cons te_4 (.cons te_33 (.cons te_51 (TEok.nil _))))), by kernel_rfl⟩
noncomputable abbrev O_two_second {α : Type} : ORC α := [(94, .full walkF), (89, .pure zextF), (68, .pure mayF), (93, .pure frameF), (69, .pure joinF)]
theorem O_two_second_ok {α : Type} {I : Imm} : OOk (α := α) Try.prog I O_two_second := OOk.cons c_walk_Walk (OOk.cons c_word_Zext (OOk.cons c_pte_May (OOk.cons c_pte_Frame (OOk.cons c_two_join (OOk.nil)))))
set_option maxHeartbeats 4000000 in
set_option maxRecDepth 100000 in
theorem c_two_second {α : Type} {I : Imm} : OrcOk (α := α) Try.prog I 53 (.full secondF) := by
  refine orc_canon T_two_second_ok (O := O_two_second) O_two_second_ok (L := []) ⟨1, []⟩ Try.func53 (by kernel_rfl) (by kernel_rfl) (by kernel_rfl) FLOk.nil ?_
  intro args σ k r hk
  unfold secondF at hk
  split at hk <;> try (simp at hk; done)
  rename_i p a1 a2 a3 a4 a5 a6 a7 a8 place kind
  obtain ⟨b, b1, g0, g1, f, rfl, h0, h1, hne, hk'⟩ := withMem_spec hk
  clear hk; have hk := hk'; clear hk'
  refine ⟨[b, b1], [memO 1 g0, byO g1 f], [.ptr 0 [], .agg [.bool a1, .bool a2, .bool a3, .bool a4, .int .i64 a5, .int .i64 a6, .int .i64 a7, .int .i64 a8], .int .u64 place, .int .i64 kind], lay_mk rfl (nodup2 hne) rfl ⟨h0, h1, trivial⟩ (by simp [AllL, Ids, Idss]) (by simp [AllL, OIds, Ids, Idss]), ?_⟩
  refine ends_keep (v := secondV (secondS f a2 a8 place kind)) (bl := []) ?_ (by simp [secondV, Ids, Idss]) trivial hk
  clear hk
  repeat' ((conv => arg 1; whnf); split <;> try (exfalso; (try simp only [ltB_true, ltB_false, leB_true, leB_false, decide_eq_true_eq, decide_eq_false_iff_not, Bool.and_eq_true, Bool.and_eq_false_iff, Bool.or_eq_true, Bool.or_eq_false_iff, Bool.not_eq_true', Bool.not_eq_false', bne_iff_ne, ne_eq, bne_eq_false_iff_eq, beq_iff_eq, beq_eq_false_iff_ne, Decidable.not_not, eq_self, decide_true, Bool.true_and, true_and, not_true_eq_false, false_or, Nat.beq_refl, Bool.true_eq_false, Int.toNat_zero, nbeq, and_true, strOf_size] at *) <;> omega))
  all_goals (try (conv => arg 1; whnf))
  all_goals (try simp only [Bool.not_eq_true', Bool.not_eq_false', u2_0, u2_1] at *)
  all_goals exact ⟨_, _, rfl, by simp only [secondV, secondS, leafBits, cond_true, cond_false, *, Bool.and_true, Bool.true_and, Bool.false_and, Bool.and_false, Bool.or_true, Bool.true_or, Bool.or_false, Bool.false_or, Bool.not_true, Bool.not_false, Bool.and_self, Bool.or_self] <;> rfl, trivial, .inr rfl, .inr rfl, trivial⟩
theorem te_46 : TyOk Try.prog 46 ⟨.agg [.int .u64 0, .int .u64 0, .int .u64 0, .bool false], 4, 32, .st [(0, 1, false), (1, 1, false), (2, 1, false), (3, 1, false)], some (.st [(0, 1, false, .it .u64), (1, 1, false, .it .u64), (2, 1, false, .it .u64), (3, 1, false, .bl)])⟩ := ⟨fun _ => by kernel_rfl, ⟨rfl, rfl, fun _ _ => by simp [Wf, Wfs]⟩, ⟨_, Try.underlying46, by kernel_rfl⟩, fun _ h => by cases h; exact ⟨by kernel_rfl, by kernel_rfl⟩⟩
theorem te_93 : TyOk Try.prog 93 ⟨.ints .u64 3 (fun _ => 0), 3, 24, .ar 3 33 1 false, some (.ar 3 1 (.it .u64))⟩ := ⟨fun _ => by kernel_rfl, ⟨rfl, rfl, fun _ _ => by simp [Wf, Wfs]⟩, ⟨Try.underlying93, by kernel_rfl, by kernel_rfl⟩, fun _ h => by cases h; exact ⟨by kernel_rfl, by kernel_rfl⟩⟩
theorem te_104 : TyOk Try.prog 104 ⟨.agg [.int .u64 0, .int .i64 0, .bool false], 3, 24, .st [(0, 1, false), (1, 1, false), (2, 1, false)], some (.st [(0, 1, false, .it .u64), (1, 1, false, .it .i64), (2, 1, false, .bl)])⟩ := ⟨fun _ => by kernel_rfl, ⟨rfl, rfl, fun _ _ => by simp [Wf, Wfs]⟩, ⟨_, Try.underlying104, by kernel_rfl⟩, fun _ h => by cases h; exact ⟨by kernel_rfl, by kernel_rfl⟩⟩
abbrev T_two_faults_fault : TE := [(3, ⟨.int .i64 0, 1, 8, .sc (.int .i64), none⟩), (4, ⟨.bool false, 1, 1, .sc (.bool), none⟩), (33, ⟨.int .u64 0, 1, 8, .sc (.int .u64), none⟩), (46, ⟨.agg [.int .u64 0, .int .u64 0, .int .u64 0, .bool false], 4, 32, .st [(0, 1, false), (1, 1, false), (2, 1, false), (3, 1, false)], some (.st [(0, 1, false, .it .u64), (1, 1, false, .it .u64), (2, 1, false, .it .u64), (3, 1, false, .bl)])⟩), (93, ⟨.ints .u64 3 (fun _ => 0), 3, 24, .ar 3 33 1 false, some (.ar 3 1 (.it .u64))⟩), (104, ⟨.agg [.int .u64 0, .int .i64 0, .bool false], 3, 24, .st [(0, 1, false), (1, 1, false), (2, 1, false)], some (.st [(0, 1, false, .it .u64), (1, 1, false, .it .i64), (2, 1, false, .bl)])⟩)]
theorem T_two_faults_fault_ok : Prg Try.prog T_two_faults_fault := ⟨(.cons te_3 (.cons te_4 (.cons te_33 (.cons te_46 (.cons te_93 (.cons te_104 (TEok.nil _))))))), by kernel_rfl⟩
noncomputable abbrev O_two_faults_fault {α : Type} : ORC α := []
theorem O_two_faults_fault_ok {α : Type} {I : Imm} : OOk (α := α) Try.prog I O_two_faults_fault := OOk.nil
set_option maxHeartbeats 4000000 in
set_option maxRecDepth 100000 in
theorem c_two_faults_fault {α : Type} {I : Imm} : OrcOk (α := α) Try.prog I 90 (.pure faultF) := by
  refine orc_pure T_two_faults_fault_ok (O := O_two_faults_fault) O_two_faults_fault_ok (L := []) ⟨1, []⟩ Try.func90 (by kernel_rfl) (by kernel_rfl) (by kernel_rfl) FLOk.nil ?_
  intro args k r hk
  unfold faultF at hk
  split at hk <;> try (simp at hk; done)
  rename_i at_ kind v place cs
  refine ⟨_, hk, by simp [Ids, Idss], by simp [Ids, Idss], ?_⟩
  clear hk
  have hk2 := k2_bd kind
  repeat' ((conv => arg 1; whnf); split <;> try (exfalso; (try simp only [ltB_true, ltB_false, leB_true, leB_false, decide_eq_true_eq, decide_eq_false_iff_not, Bool.and_eq_true, Bool.and_eq_false_iff, Bool.or_eq_true, Bool.or_eq_false_iff, Bool.not_eq_true', Bool.not_eq_false', bne_iff_ne, ne_eq, bne_eq_false_iff_eq, beq_iff_eq, beq_eq_false_iff_ne, Decidable.not_not, eq_self, decide_true, Bool.true_and, true_and, not_true_eq_false, false_or, Nat.beq_refl, Bool.true_eq_false, Int.toNat_zero, nbeq, and_true, strOf_size] at *) <;> omega))
  all_goals (try (conv => arg 1; whnf))
  exact ends_any rfl
abbrev T_two_faults_page : TE := [(46, ⟨.agg [.int .u64 0, .int .u64 0, .int .u64 0, .bool false], 4, 32, .st [(0, 1, false), (1, 1, false), (2, 1, false), (3, 1, false)], some (.st [(0, 1, false, .it .u64), (1, 1, false, .it .u64), (2, 1, false, .it .u64), (3, 1, false, .bl)])⟩), (93, ⟨.ints .u64 3 (fun _ => 0), 3, 24, .ar 3 33 1 false, some (.ar 3 1 (.it .u64))⟩), (104, ⟨.agg [.int .u64 0, .int .i64 0, .bool false], 3, 24, .st [(0, 1, false), (1, 1, false), (2, 1, false)], some (.st [(0, 1, false, .it .u64), (1, 1, false, .it .i64), (2, 1, false, .bl)])⟩)]
theorem T_two_faults_page_ok : Prg Try.prog T_two_faults_page := ⟨(.cons te_46 (.cons te_93 (.cons te_104 (TEok.nil _)))), by kernel_rfl⟩
noncomputable abbrev O_two_faults_page {α : Type} : ORC α := [(90, .pure faultF)]
theorem O_two_faults_page_ok {α : Type} {I : Imm} : OOk (α := α) Try.prog I O_two_faults_page := OOk.cons c_two_faults_fault (OOk.nil)
set_option maxHeartbeats 4000000 in
set_option maxRecDepth 100000 in
theorem c_two_faults_page {α : Type} {I : Imm} : OrcOk (α := α) Try.prog I 50 (.pure pageF) := by
  refine orc_pure T_two_faults_page_ok (O := O_two_faults_page) O_two_faults_page_ok (L := []) ⟨1, []⟩ Try.func50 (by kernel_rfl) (by kernel_rfl) (by kernel_rfl) FLOk.nil ?_
  intro args k r hk
  unfold pageF at hk
  split at hk <;> try (simp at hk; done)
  rename_i at_ kind v
  refine ⟨_, hk, by simp [Ids, Idss], by simp [Ids, Idss], ?_⟩
  clear hk
  repeat' ((conv => arg 1; whnf); split <;> try (exfalso; (try simp only [ltB_true, ltB_false, leB_true, leB_false, decide_eq_true_eq, decide_eq_false_iff_not, Bool.and_eq_true, Bool.and_eq_false_iff, Bool.or_eq_true, Bool.or_eq_false_iff, Bool.not_eq_true', Bool.not_eq_false', bne_iff_ne, ne_eq, bne_eq_false_iff_eq, beq_iff_eq, beq_eq_false_iff_ne, Decidable.not_not, eq_self, decide_true, Bool.true_and, true_and, not_true_eq_false, false_or, Nat.beq_refl, Bool.true_eq_false, Int.toNat_zero, nbeq, and_true, strOf_size] at *) <;> omega))
  all_goals (try (conv => arg 1; whnf))
  refine ends_any ?_
  simp only [faultS, pageS, c3_upd]
  rfl
abbrev T_two_faults_access : TE := [(46, ⟨.agg [.int .u64 0, .int .u64 0, .int .u64 0, .bool false], 4, 32, .st [(0, 1, false), (1, 1, false), (2, 1, false), (3, 1, false)], some (.st [(0, 1, false, .it .u64), (1, 1, false, .it .u64), (2, 1, false, .it .u64), (3, 1, false, .bl)])⟩), (93, ⟨.ints .u64 3 (fun _ => 0), 3, 24, .ar 3 33 1 false, some (.ar 3 1 (.it .u64))⟩), (104, ⟨.agg [.int .u64 0, .int .i64 0, .bool false], 3, 24, .st [(0, 1, false), (1, 1, false), (2, 1, false)], some (.st [(0, 1, false, .it .u64), (1, 1, false, .it .i64), (2, 1, false, .bl)])⟩)]
theorem T_two_faults_access_ok : Prg Try.prog T_two_faults_access := ⟨(.cons te_46 (.cons te_93 (.cons te_104 (TEok.nil _)))), by kernel_rfl⟩
noncomputable abbrev O_two_faults_access {α : Type} : ORC α := [(90, .pure faultF)]
theorem O_two_faults_access_ok {α : Type} {I : Imm} : OOk (α := α) Try.prog I O_two_faults_access := OOk.cons c_two_faults_fault (OOk.nil)
set_option maxHeartbeats 4000000 in
set_option maxRecDepth 100000 in
theorem c_two_faults_access {α : Type} {I : Imm} : OrcOk (α := α) Try.prog I 95 (.pure accessF) := by
  refine orc_pure T_two_faults_access_ok (O := O_two_faults_access) O_two_faults_access_ok (L := []) ⟨1, []⟩ Try.func95 (by kernel_rfl) (by kernel_rfl) (by kernel_rfl) FLOk.nil ?_
  intro args k r hk
  unfold accessF at hk
  split at hk <;> try (simp at hk; done)
  rename_i at_ kind v
  refine ⟨_, hk, by simp [Ids, Idss], by simp [Ids, Idss], ?_⟩
  clear hk
  repeat' ((conv => arg 1; whnf); split <;> try (exfalso; (try simp only [ltB_true, ltB_false, leB_true, leB_false, decide_eq_true_eq, decide_eq_false_iff_not, Bool.and_eq_true, Bool.and_eq_false_iff, Bool.or_eq_true, Bool.or_eq_false_iff, Bool.not_eq_true', Bool.not_eq_false', bne_iff_ne, ne_eq, bne_eq_false_iff_eq, beq_iff_eq, beq_eq_false_iff_ne, Decidable.not_not, eq_self, decide_true, Bool.true_and, true_and, not_true_eq_false, false_or, Nat.beq_refl, Bool.true_eq_false, Int.toNat_zero, nbeq, and_true, strOf_size] at *) <;> omega))
  all_goals (try (conv => arg 1; whnf))
  refine ends_any ?_
  simp only [faultS, accessS, c3_upd]
  rfl
abbrev T_two_faults_guest : TE := [(46, ⟨.agg [.int .u64 0, .int .u64 0, .int .u64 0, .bool false], 4, 32, .st [(0, 1, false), (1, 1, false), (2, 1, false), (3, 1, false)], some (.st [(0, 1, false, .it .u64), (1, 1, false, .it .u64), (2, 1, false, .it .u64), (3, 1, false, .bl)])⟩), (93, ⟨.ints .u64 3 (fun _ => 0), 3, 24, .ar 3 33 1 false, some (.ar 3 1 (.it .u64))⟩), (104, ⟨.agg [.int .u64 0, .int .i64 0, .bool false], 3, 24, .st [(0, 1, false), (1, 1, false), (2, 1, false)], some (.st [(0, 1, false, .it .u64), (1, 1, false, .it .i64), (2, 1, false, .bl)])⟩)]
theorem T_two_faults_guest_ok : Prg Try.prog T_two_faults_guest := ⟨(.cons te_46 (.cons te_93 (.cons te_104 (TEok.nil _)))), by kernel_rfl⟩
noncomputable abbrev O_two_faults_guest {α : Type} : ORC α := [(90, .pure faultF)]
theorem O_two_faults_guest_ok {α : Type} {I : Imm} : OOk (α := α) Try.prog I O_two_faults_guest := OOk.cons c_two_faults_fault (OOk.nil)
set_option maxHeartbeats 4000000 in
set_option maxRecDepth 100000 in
theorem c_two_faults_guest {α : Type} {I : Imm} : OrcOk (α := α) Try.prog I 51 (.pure guestF) := by
  refine orc_pure T_two_faults_guest_ok (O := O_two_faults_guest) O_two_faults_guest_ok (L := []) ⟨1, []⟩ Try.func51 (by kernel_rfl) (by kernel_rfl) (by kernel_rfl) FLOk.nil ?_
  intro args k r hk
  unfold guestF at hk
  split at hk <;> try (simp at hk; done)
  rename_i at_ kind v place
  refine ⟨_, hk, by simp [Ids, Idss], by simp [Ids, Idss], ?_⟩
  clear hk
  repeat' ((conv => arg 1; whnf); split <;> try (exfalso; (try simp only [ltB_true, ltB_false, leB_true, leB_false, decide_eq_true_eq, decide_eq_false_iff_not, Bool.and_eq_true, Bool.and_eq_false_iff, Bool.or_eq_true, Bool.or_eq_false_iff, Bool.not_eq_true', Bool.not_eq_false', bne_iff_ne, ne_eq, bne_eq_false_iff_eq, beq_iff_eq, beq_eq_false_iff_ne, Decidable.not_not, eq_self, decide_true, Bool.true_and, true_and, not_true_eq_false, false_or, Nat.beq_refl, Bool.true_eq_false, Int.toNat_zero, nbeq, and_true, strOf_size] at *) <;> omega))
  all_goals (try (conv => arg 1; whnf))
  refine ends_any ?_
  simp only [faultS, guestS, c3_upd]
abbrev T_two_faults_of : TE := [(3, ⟨.int .i64 0, 1, 8, .sc (.int .i64), none⟩), (46, ⟨.agg [.int .u64 0, .int .u64 0, .int .u64 0, .bool false], 4, 32, .st [(0, 1, false), (1, 1, false), (2, 1, false), (3, 1, false)], some (.st [(0, 1, false, .it .u64), (1, 1, false, .it .u64), (2, 1, false, .it .u64), (3, 1, false, .bl)])⟩), (104, ⟨.agg [.int .u64 0, .int .i64 0, .bool false], 3, 24, .st [(0, 1, false), (1, 1, false), (2, 1, false)], some (.st [(0, 1, false, .it .u64), (1, 1, false, .it .i64), (2, 1, false, .bl)])⟩)]
theorem T_two_faults_of_ok : Prg Try.prog T_two_faults_of := ⟨(.cons te_3 (.cons te_46 (.cons te_104 (TEok.nil _)))), by kernel_rfl⟩
noncomputable abbrev O_two_faults_of {α : Type} : ORC α := [(51, .pure guestF), (95, .pure accessF)]
theorem O_two_faults_of_ok {α : Type} {I : Imm} : OOk (α := α) Try.prog I O_two_faults_of := OOk.cons c_two_faults_guest (OOk.cons c_two_faults_access (OOk.nil))
set_option maxHeartbeats 4000000 in
set_option maxRecDepth 100000 in
theorem c_two_faults_of {α : Type} {I : Imm} : OrcOk (α := α) Try.prog I 54 (.pure ofF) := by
  refine orc_pure T_two_faults_of_ok (O := O_two_faults_of) O_two_faults_of_ok (L := []) ⟨1, []⟩ Try.func54 (by kernel_rfl) (by kernel_rfl) (by kernel_rfl) FLOk.nil ?_
  intro args k r hk
  unfold ofF at hk
  split at hk <;> try (simp at hk; done)
  rename_i at_ kind v code place
  refine ⟨_, hk, by simp [Ids, Idss], by simp [Ids, Idss], ?_⟩
  clear hk
  repeat' ((conv => arg 1; whnf); split <;> try (exfalso; (try simp only [ltB_true, ltB_false, leB_true, leB_false, decide_eq_true_eq, decide_eq_false_iff_not, Bool.and_eq_true, Bool.and_eq_false_iff, Bool.or_eq_true, Bool.or_eq_false_iff, Bool.not_eq_true', Bool.not_eq_false', bne_iff_ne, ne_eq, bne_eq_false_iff_eq, beq_iff_eq, beq_eq_false_iff_ne, Decidable.not_not, eq_self, decide_true, Bool.true_and, true_and, not_true_eq_false, false_or, Nat.beq_refl, Bool.true_eq_false, Int.toNat_zero, nbeq, and_true, strOf_size] at *) <;> omega))
  all_goals (try (conv => arg 1; whnf))
  all_goals (refine ends_any ?_; simp only [ofS, cond_true, cond_false, *, Bool.and_true, Bool.true_and, Bool.false_and, Bool.and_false, Bool.or_true, Bool.true_or, Bool.or_false, Bool.false_or, Bool.not_true, Bool.not_false, Bool.and_self, Bool.or_self])
theorem te_161 : TyOk Try.prog 161 ⟨.agg [.nilp, .agg [.bool false, .bool false, .bool false, .bool false, .int .i64 0, .int .i64 0, .int .i64 0, .int .i64 0], .int .u64 0], 10, 56, .st [(0, 1, false), (1, 8, true), (9, 1, false)], none⟩ := ⟨fun _ => by kernel_rfl, ⟨rfl, rfl, fun _ _ => by simp [Wf, Wfs]⟩, ⟨_, Try.underlying161, by kernel_rfl⟩, fun _ h => by cases h⟩
abbrev T_two_reader_entry : TE := [(3, ⟨.int .i64 0, 1, 8, .sc (.int .i64), none⟩), (28, ⟨.nilp, 1, 8, .sc (.pointer 102), none⟩), (33, ⟨.int .u64 0, 1, 8, .sc (.int .u64), none⟩), (51, ⟨.agg [.bool false, .bool false, .bool false, .bool false, .int .i64 0, .int .i64 0, .int .i64 0, .int .i64 0], 8, 40, .st [(0, 1, false), (1, 1, false), (2, 1, false), (3, 1, false), (4, 1, false), (5, 1, false), (6, 1, false), (7, 1, false)], some (.st [(0, 1, false, .bl), (1, 1, false, .bl), (2, 1, false, .bl), (3, 1, false, .bl), (4, 1, false, .it .i64), (5, 1, false, .it .i64), (6, 1, false, .it .i64), (7, 1, false, .it .i64)])⟩), (161, ⟨.agg [.nilp, .agg [.bool false, .bool false, .bool false, .bool false, .int .i64 0, .int .i64 0, .int .i64 0, .int .i64 0], .int .u64 0], 10, 56, .st [(0, 1, false), (1, 8, true), (9, 1, false)], none⟩)]
theorem T_two_reader_entry_ok : Prg Try.prog T_two_reader_entry := ⟨(.cons te_3 (.cons te_28 (.cons te_33 (.cons te_51 (.cons te_161 (TEok.nil _)))))), by kernel_rfl⟩
noncomputable abbrev O_two_reader_entry {α : Type} : ORC α := [(53, .full secondF), (118, .full entryF)]
theorem O_two_reader_entry_ok {α : Type} {I : Imm} : OOk (α := α) Try.prog I O_two_reader_entry := OOk.cons c_two_second (OOk.cons c_walk_Entry (OOk.nil))
set_option maxHeartbeats 4000000 in
set_option maxRecDepth 100000 in
theorem c_two_reader_entry {α : Type} {I : Imm} : OrcOk (α := α) Try.prog I 92 (.full rdrF) := by
  refine orc_canon T_two_reader_entry_ok (O := O_two_reader_entry) O_two_reader_entry_ok (L := []) ⟨1, []⟩ Try.func92 (by kernel_rfl) (by kernel_rfl) (by kernel_rfl) FLOk.nil ?_
  intro args σ k r hk
  unfold rdrF at hk
  split at hk <;> try (simp at hk; done)
  rename_i rb frame index
  split at hk <;> try (simp at hk; done)
  rename_i g p a1 a2 a3 a4 a5 a6 a7 a8 la hr
  obtain ⟨b, b1, g0, g1, f, rfl, h0, h1, hne, hk'⟩ := withMem_spec hk
  clear hk; have hk := hk'; clear hk'
  cases hg : (Nat.beq rb b || Nat.beq rb b1) <;> rw [hg] at hk <;> simp only [cond_true, cond_false] at hk <;> try (simp at hk; done)
  simp only [nbeq, Bool.or_eq_false_iff, decide_eq_false_iff_not] at hg
  refine ⟨[rb, b, b1], [.cells g (.agg [.ptr 1 [], .agg [.bool a1, .bool a2, .bool a3, .bool a4, .int .i64 a5, .int .i64 a6, .int .i64 a7, .int .i64 a8], .int .u64 la]), memO 2 g0, byO g1 f], [.ptr 0 [], .int .i64 frame, .int .i64 index], lay_mk rfl (by simp [hg.1, hg.2, hne]) rfl ⟨hr, h0, h1, trivial⟩ (by simp [AllL, Ids]) (by simp [AllL, OIds, Ids, Idss]), ?_⟩
  refine ends_keep (v := .tuple [.int .u64 (rdr f a2 a8 frame index).1, .int .i64 (rdr f a2 a8 frame index).2]) (bl := [(0, .cells g (.agg [.ptr 1 [], .agg [.bool a1, .bool a2, .bool a3, .bool a4, .int .i64 a5, .int .i64 a6, .int .i64 a7, .int .i64 a8], .int .u64 (placeS frame index)]))]) ?_ (by simp [Ids, Idss]) (by simp [AllL, OIds, Ids, Idss]) hk
  clear hk
  repeat' ((conv => arg 1; whnf); split <;> try (exfalso; (try simp only [ltB_true, ltB_false, leB_true, leB_false, decide_eq_true_eq, decide_eq_false_iff_not, Bool.and_eq_true, Bool.and_eq_false_iff, Bool.or_eq_true, Bool.or_eq_false_iff, Bool.not_eq_true', Bool.not_eq_false', bne_iff_ne, ne_eq, bne_eq_false_iff_eq, beq_iff_eq, beq_eq_false_iff_ne, Decidable.not_not, eq_self, decide_true, Bool.true_and, true_and, not_true_eq_false, false_or, Nat.beq_refl, Bool.true_eq_false, Int.toNat_zero, nbeq, and_true, strOf_size] at *) <;> omega))
  all_goals (try (conv => arg 1; whnf))
  all_goals (try simp only [Bool.not_eq_true', Bool.not_eq_false', u2_0, u2_1] at *)
  all_goals exact ⟨_, _, rfl, by simp only [rdr, placeS, cond_true, cond_false, *, Bool.and_true, Bool.true_and, Bool.false_and, Bool.and_false, Bool.or_true, Bool.true_or, Bool.or_false, Bool.false_or, Bool.not_true, Bool.not_false, Bool.and_self, Bool.or_self] <;> rfl, ⟨rfl, trivial⟩, .inl rfl, .inr rfl, .inr rfl, trivial⟩
abbrev T_walk_Through_2 : TE := [(3, ⟨.int .i64 0, 1, 8, .sc (.int .i64), none⟩), (33, ⟨.int .u64 0, 1, 8, .sc (.int .u64), none⟩), (189, ⟨.ints .u64 2 (fun _ => 0), 2, 16, .ar 2 33 1 false, some (.ar 2 1 (.it .u64))⟩)]
theorem T_walk_Through_2_ok : Prg Try.prog T_walk_Through_2 := ⟨(.cons te_3 (.cons te_33 (.cons te_189 (TEok.nil _)))), by kernel_rfl⟩
noncomputable abbrev O_walk_Through_2 {α : Type} : ORC α := [(92, .full rdrF), (116, .pure isF), (117, .pure leafF), (93, .pure frameF), (96, .pure bitsF), (86, .pure setF)]
theorem O_walk_Through_2_ok {α : Type} {I : Imm} : OOk (α := α) Try.prog I O_walk_Through_2 := OOk.cons c_two_reader_entry (OOk.cons c_pte_Is (OOk.cons c_pte_Leaf (OOk.cons c_pte_Frame (OOk.cons c_word_Bits (OOk.cons c_word_Set (OOk.nil))))))
noncomputable abbrev B_walk_Through_2 {α : Type} : FF α := byBody T_walk_Through_2 O_walk_Through_2 ⟨3, []⟩ Try.f91
theorem c_walk_Through_2 {α : Type} {I : Imm} : OrcOk (α := α) Try.prog I 91 (.full B_walk_Through_2) := orc_body T_walk_Through_2_ok O_walk_Through_2_ok ⟨3, []⟩ Try.func91 (by kernel_rfl) (by kernel_rfl) (by kernel_rfl)
abbrev T_two_first : TE := [(3, ⟨.int .i64 0, 1, 8, .sc (.int .i64), none⟩), (4, ⟨.bool false, 1, 1, .sc (.bool), none⟩), (33, ⟨.int .u64 0, 1, 8, .sc (.int .u64), none⟩), (46, ⟨.agg [.int .u64 0, .int .u64 0, .int .u64 0, .bool false], 4, 32, .st [(0, 1, false), (1, 1, false), (2, 1, false), (3, 1, false)], some (.st [(0, 1, false, .it .u64), (1, 1, false, .it .u64), (2, 1, false, .it .u64), (3, 1, false, .bl)])⟩), (51, ⟨.agg [.bool false, .bool false, .bool false, .bool false, .int .i64 0, .int .i64 0, .int .i64 0, .int .i64 0], 8, 40, .st [(0, 1, false), (1, 1, false), (2, 1, false), (3, 1, false), (4, 1, false), (5, 1, false), (6, 1, false), (7, 1, false)], some (.st [(0, 1, false, .bl), (1, 1, false, .bl), (2, 1, false, .bl), (3, 1, false, .bl), (4, 1, false, .it .i64), (5, 1, false, .it .i64), (6, 1, false, .it .i64), (7, 1, false, .it .i64)])⟩), (104, ⟨.agg [.int .u64 0, .int .i64 0, .bool false], 3, 24, .st [(0, 1, false), (1, 1, false), (2, 1, false)], some (.st [(0, 1, false, .it .u64), (1, 1, false, .it .i64), (2, 1, false, .bl)])⟩), (161, ⟨.agg [.nilp, .agg [.bool false, .bool false, .bool false, .bool false, .int .i64 0, .int .i64 0, .int .i64 0, .int .i64 0], .int .u64 0], 10, 56, .st [(0, 1, false), (1, 8, true), (9, 1, false)], none⟩)]
theorem T_two_first_ok : Prg Try.prog T_two_first := ⟨(.cons te_3 (.cons te_4 (.cons te_33 (.cons te_46 (.cons te_51 (.cons te_104 (.cons te_161 (TEok.nil _)))))))), by kernel_rfl⟩
noncomputable abbrev O_two_first {α : Type} : ORC α := [(91, .full B_walk_Through_2), (92, .full rdrF), (89, .pure zextF), (54, .pure ofF), (50, .pure pageF), (68, .pure mayF), (93, .pure frameF), (69, .pure joinF)]
theorem O_two_first_ok {α : Type} {I : Imm} : OOk (α := α) Try.prog I O_two_first := OOk.cons c_walk_Through_2 (OOk.cons c_two_reader_entry (OOk.cons c_word_Zext (OOk.cons c_two_faults_of (OOk.cons c_two_faults_page (OOk.cons c_pte_May (OOk.cons c_pte_Frame (OOk.cons c_two_join (OOk.nil))))))))
set_option maxHeartbeats 4000000 in
set_option maxRecDepth 100000 in
theorem c_two_first {α : Type} {I : Imm} : OrcOk (α := α) Try.prog I 52 (.full firstF) := by
  refine orc_canon T_two_first_ok (O := O_two_first) O_two_first_ok (L := []) ⟨1, []⟩ Try.func52 (by kernel_rfl) (by kernel_rfl) (by kernel_rfl) FLOk.nil ?_
  intro args σ k r hk
  unfold firstF at hk
  split at hk <;> try (simp at hk; done)
  rename_i p a1 a2 a3 a4 a5 a6 a7 a8 at_ kind v user
  obtain ⟨b, b1, g0, g1, f, rfl, h0, h1, hne, hk'⟩ := withMem_spec hk
  clear hk; have hk := hk'; clear hk'
  cases hg0 : decide (at_ < 65536) <;> rw [hg0] at hk <;> simp only [cond_true, cond_false] at hk <;> try (simp at hk; done)
  refine ⟨[b, b1], [memO 1 g0, byO g1 f], [.ptr 0 [], .agg [.bool a1, .bool a2, .bool a3, .bool a4, .int .i64 a5, .int .i64 a6, .int .i64 a7, .int .i64 a8], .agg [.int .u64 at_, .int .i64 kind, .bool v], .bool user], lay_mk rfl (nodup2 hne) rfl ⟨h0, h1, trivial⟩ (by simp [AllL, Ids, Idss]) (by simp [AllL, OIds, Ids, Idss]), ?_⟩
  refine ends_keep (v := (firstS f a1 a2 a3 a4 a7 a8 at_ kind v user).sv) (bl := []) ?_ (by simp [Ids, Idss]) trivial hk
  clear hk
  repeat' ((conv => arg 1; whnf); split <;> try (exfalso; (try simp only [ltB_true, ltB_false, leB_true, leB_false, decide_eq_true_eq, decide_eq_false_iff_not, Bool.and_eq_true, Bool.and_eq_false_iff, Bool.or_eq_true, Bool.or_eq_false_iff, Bool.not_eq_true', Bool.not_eq_false', bne_iff_ne, ne_eq, bne_eq_false_iff_eq, beq_iff_eq, beq_eq_false_iff_ne, Decidable.not_not, eq_self, decide_true, Bool.true_and, true_and, not_true_eq_false, false_or, Nat.beq_refl, Bool.true_eq_false, Int.toNat_zero, nbeq, and_true, strOf_size] at *) <;> omega))
  all_goals (try (conv => arg 1; whnf))
  all_goals (try simp only [Bool.not_eq_true', Bool.not_eq_false', u2_0, u2_1] at *)
  all_goals exact ⟨_, _, rfl, by simp only [firstS, thr, lastR, leafBits, Firsts.sv, cond_true, cond_false, *, Bool.and_true, Bool.true_and, Bool.false_and, Bool.and_false, Bool.or_true, Bool.true_or, Bool.or_false, Bool.false_or, Bool.not_true, Bool.not_false, Bool.and_self, Bool.or_self] <;> rfl, trivial, .inr rfl, .inr rfl, trivial⟩
abbrev T_two_on : TE := [(3, ⟨.int .i64 0, 1, 8, .sc (.int .i64), none⟩), (33, ⟨.int .u64 0, 1, 8, .sc (.int .u64), none⟩), (40, ⟨.ints .u64 29 (fun _ => 0), 29, 232, .ar 29 33 1 false, some (.ar 29 1 (.it .u64))⟩), (42, ⟨.agg [.ints .u64 32 (fun _ => 0), .int .u64 0, .int .i64 0, .bool false, .ints .u64 29 (fun _ => 0), .int .u64 0], 65, 520, .st [(0, 32, true), (32, 1, false), (33, 1, false), (34, 1, false), (35, 29, true), (64, 1, false)], some (.st [(0, 32, true, .ar 32 1 (.it .u64)), (32, 1, false, .it .u64), (33, 1, false, .it .i64), (34, 1, false, .bl), (35, 29, true, .ar 29 1 (.it .u64)), (64, 1, false, .it .u64)])⟩)]
theorem T_two_on_ok : Prg Try.prog T_two_on := ⟨(.cons te_3 (.cons te_33 (.cons te_40 (.cons te_42 (TEok.nil _))))), by kernel_rfl⟩
noncomputable abbrev O_two_on {α : Type} : ORC α := [(56, .pure bitF), (96, .pure bitsF)]
theorem O_two_on_ok {α : Type} {I : Imm} : OOk (α := α) Try.prog I O_two_on := OOk.cons c_csr_Bit (OOk.cons c_word_Bits (OOk.nil))
set_option maxHeartbeats 4000000 in
set_option maxRecDepth 100000 in
theorem c_two_on {α : Type} {I : Imm} : OrcOk (α := α) Try.prog I 55 (.pure onF) := by
  refine orc_pure T_two_on_ok (O := O_two_on) O_two_on_ok (L := []) ⟨1, []⟩ Try.func55 (by kernel_rfl) (by kernel_rfl) (by kernel_rfl) FLOk.nil ?_
  intro args k r hk
  unfold onF at hk
  split at hk <;> try (simp at hk; done)
  rename_i x pc lv vv c dn i
  cases hg : (decide (0 ≤ i) && decide (i < 29)) <;> rw [hg] at hk <;> simp only [cond_true, cond_false] at hk <;> try (simp at hk; done)
  refine ⟨_, hk, by simp [Ids, Idss], by simp [Ids, Idss], ?_⟩
  clear hk
  repeat' ((conv => arg 1; whnf); split <;> try (exfalso; (try simp only [ltB_true, ltB_false, leB_true, leB_false, decide_eq_true_eq, decide_eq_false_iff_not, Bool.and_eq_true, Bool.and_eq_false_iff, Bool.or_eq_true, Bool.or_eq_false_iff, Bool.not_eq_true', Bool.not_eq_false', bne_iff_ne, ne_eq, bne_eq_false_iff_eq, beq_iff_eq, beq_eq_false_iff_ne, Decidable.not_not, eq_self, decide_true, Bool.true_and, true_and, not_true_eq_false, false_or, Nat.beq_refl, Bool.true_eq_false, Int.toNat_zero, nbeq, and_true, strOf_size] at *) <;> omega))
  all_goals (try (conv => arg 1; whnf))
  all_goals (try simp only [Bool.not_eq_true', Bool.not_eq_false', u2_0, u2_1] at *)
  all_goals (refine ends_any ?_; simp only [onA, onR, cond_true, cond_false, *, Bool.and_true, Bool.true_and, Bool.false_and, Bool.and_false, Bool.or_true, Bool.true_or, Bool.or_false, Bool.false_or, Bool.not_true, Bool.not_false, Bool.and_self, Bool.or_self])
abbrev T_two_Ask : TE := [(3, ⟨.int .i64 0, 1, 8, .sc (.int .i64), none⟩), (4, ⟨.bool false, 1, 1, .sc (.bool), none⟩), (42, ⟨.agg [.ints .u64 32 (fun _ => 0), .int .u64 0, .int .i64 0, .bool false, .ints .u64 29 (fun _ => 0), .int .u64 0], 65, 520, .st [(0, 32, true), (32, 1, false), (33, 1, false), (34, 1, false), (35, 29, true), (64, 1, false)], some (.st [(0, 32, true, .ar 32 1 (.it .u64)), (32, 1, false, .it .u64), (33, 1, false, .it .i64), (34, 1, false, .bl), (35, 29, true, .ar 29 1 (.it .u64)), (64, 1, false, .it .u64)])⟩), (51, ⟨.agg [.bool false, .bool false, .bool false, .bool false, .int .i64 0, .int .i64 0, .int .i64 0, .int .i64 0], 8, 40, .st [(0, 1, false), (1, 1, false), (2, 1, false), (3, 1, false), (4, 1, false), (5, 1, false), (6, 1, false), (7, 1, false)], some (.st [(0, 1, false, .bl), (1, 1, false, .bl), (2, 1, false, .bl), (3, 1, false, .bl), (4, 1, false, .it .i64), (5, 1, false, .it .i64), (6, 1, false, .it .i64), (7, 1, false, .it .i64)])⟩)]
theorem T_two_Ask_ok : Prg Try.prog T_two_Ask := ⟨(.cons te_3 (.cons te_4 (.cons te_42 (.cons te_51 (TEok.nil _))))), by kernel_rfl⟩
noncomputable abbrev O_two_Ask {α : Type} : ORC α := [(55, .pure onF), (56, .pure bitF)]
theorem O_two_Ask_ok {α : Type} {I : Imm} : OOk (α := α) Try.prog I O_two_Ask := OOk.cons c_two_on (OOk.cons c_csr_Bit (OOk.nil))
set_option maxHeartbeats 4000000 in
set_option maxRecDepth 100000 in
theorem c_two_Ask {α : Type} {I : Imm} : OrcOk (α := α) Try.prog I 21 (.pure askF) := by
  refine orc_pure T_two_Ask_ok (O := O_two_Ask) O_two_Ask_ok (L := []) ⟨1, []⟩ Try.func21 (by kernel_rfl) (by kernel_rfl) (by kernel_rfl) FLOk.nil ?_
  intro args k r hk
  unfold askF at hk
  split at hk <;> try (simp at hk; done)
  rename_i x pc lv vv c dn level v
  refine ⟨_, hk, by simp [Ids, Idss], by simp [Ids, Idss], ?_⟩
  clear hk
  repeat' ((conv => arg 1; whnf); split <;> try (exfalso; (try simp only [ltB_true, ltB_false, leB_true, leB_false, decide_eq_true_eq, decide_eq_false_iff_not, Bool.and_eq_true, Bool.and_eq_false_iff, Bool.or_eq_true, Bool.or_eq_false_iff, Bool.not_eq_true', Bool.not_eq_false', bne_iff_ne, ne_eq, bne_eq_false_iff_eq, beq_iff_eq, beq_eq_false_iff_ne, Decidable.not_not, eq_self, decide_true, Bool.true_and, true_and, not_true_eq_false, false_or, Nat.beq_refl, Bool.true_eq_false, Int.toNat_zero, nbeq, and_true, strOf_size] at *) <;> omega))
  all_goals (try (conv => arg 1; whnf))
  all_goals (try simp only [Bool.not_eq_true', Bool.not_eq_false', u2_0, u2_1] at *)
  all_goals (refine ends_any ?_; simp only [askS, Asking.sv, cond_true, cond_false, *, Bool.and_true, Bool.true_and, Bool.false_and, Bool.and_false, Bool.or_true, Bool.true_or, Bool.or_false, Bool.false_or, Bool.not_true, Bool.not_false, Bool.and_self, Bool.or_self])
abbrev T_two_Guest : TE := [(42, ⟨.agg [.ints .u64 32 (fun _ => 0), .int .u64 0, .int .i64 0, .bool false, .ints .u64 29 (fun _ => 0), .int .u64 0], 65, 520, .st [(0, 32, true), (32, 1, false), (33, 1, false), (34, 1, false), (35, 29, true), (64, 1, false)], some (.st [(0, 32, true, .ar 32 1 (.it .u64)), (32, 1, false, .it .u64), (33, 1, false, .it .i64), (34, 1, false, .bl), (35, 29, true, .ar 29 1 (.it .u64)), (64, 1, false, .it .u64)])⟩)]
theorem T_two_Guest_ok : Prg Try.prog T_two_Guest := ⟨(.cons te_42 (TEok.nil _)), by kernel_rfl⟩
noncomputable abbrev O_two_Guest {α : Type} : ORC α := [(21, .pure askF), (53, .full secondF)]
theorem O_two_Guest_ok {α : Type} {I : Imm} : OOk (α := α) Try.prog I O_two_Guest := OOk.cons c_two_Ask (OOk.cons c_two_second (OOk.nil))
set_option maxHeartbeats 4000000 in
set_option maxRecDepth 100000 in
theorem c_two_Guest {α : Type} {I : Imm} : OrcOk (α := α) Try.prog I 27 (.full guestF2) := by
  refine orc_canon T_two_Guest_ok (O := O_two_Guest) O_two_Guest_ok (L := []) ⟨1, []⟩ Try.func27 (by kernel_rfl) (by kernel_rfl) (by kernel_rfl) FLOk.nil ?_
  intro args σ k r hk
  unfold guestF2 at hk
  split at hk <;> try (simp at hk; done)
  rename_i p x pc lv vv c dn place kind
  obtain ⟨b, b1, g0, g1, f, rfl, h0, h1, hne, hk'⟩ := withMem_spec hk
  clear hk; have hk := hk'; clear hk'
  refine ⟨[b, b1], [memO 1 g0, byO g1 f], [.ptr 0 [], .agg [.ints .u64 32 x, .int .u64 pc, .int .i64 lv, .bool vv, .ints .u64 29 c, .int .u64 dn], .int .u64 place, .int .i64 kind], lay_mk rfl (nodup2 hne) rfl ⟨h0, h1, trivial⟩ (by simp [AllL, Ids, Idss]) (by simp [AllL, OIds, Ids, Idss]), ?_⟩
  refine ends_keep (v := .tuple [.int .u64 (secondS f (bitS c 21 63) (onR c 21) place kind).1, .int .i64 (secondS f (bitS c 21 63) (onR c 21) place kind).2.2]) (bl := []) ?_ (by simp [Ids, Idss]) trivial hk
  clear hk
  repeat' ((conv => arg 1; whnf); split <;> try (exfalso; (try simp only [ltB_true, ltB_false, leB_true, leB_false, decide_eq_true_eq, decide_eq_false_iff_not, Bool.and_eq_true, Bool.and_eq_false_iff, Bool.or_eq_true, Bool.or_eq_false_iff, Bool.not_eq_true', Bool.not_eq_false', bne_iff_ne, ne_eq, bne_eq_false_iff_eq, beq_iff_eq, beq_eq_false_iff_ne, Decidable.not_not, eq_self, decide_true, Bool.true_and, true_and, not_true_eq_false, false_or, Nat.beq_refl, Bool.true_eq_false, Int.toNat_zero, nbeq, and_true, strOf_size] at *) <;> omega))
  all_goals (try (conv => arg 1; whnf))
  all_goals (try simp only [Bool.not_eq_true', Bool.not_eq_false', u2_0, u2_1] at *)
  all_goals refine ⟨_, _, rfl, ?_, trivial, .inr rfl, .inr rfl, trivial⟩
  all_goals rfl
theorem te_44 : TyOk Try.prog 44 ⟨.agg [.bool false, .bool false, .int .i64 0, .int .i64 0, .int .i64 0, .int .i64 0, .int .i64 0, .int .i64 0, .int .i64 0], 9, 64, .st [(0, 1, false), (1, 1, false), (2, 1, false), (3, 1, false), (4, 1, false), (5, 1, false), (6, 1, false), (7, 1, false), (8, 1, false)], some (.st [(0, 1, false, .bl), (1, 1, false, .bl), (2, 1, false, .it .i64), (3, 1, false, .it .i64), (4, 1, false, .it .i64), (5, 1, false, .it .i64), (6, 1, false, .it .i64), (7, 1, false, .it .i64), (8, 1, false, .it .i64)])⟩ := ⟨fun _ => by kernel_rfl, ⟨rfl, rfl, fun _ _ => by simp [Wf, Wfs]⟩, ⟨_, Try.underlying44, by kernel_rfl⟩, fun _ h => by cases h; exact ⟨by kernel_rfl, by kernel_rfl⟩⟩
abbrev T_two_Translate : TE := [(3, ⟨.int .i64 0, 1, 8, .sc (.int .i64), none⟩), (4, ⟨.bool false, 1, 1, .sc (.bool), none⟩), (33, ⟨.int .u64 0, 1, 8, .sc (.int .u64), none⟩), (42, ⟨.agg [.ints .u64 32 (fun _ => 0), .int .u64 0, .int .i64 0, .bool false, .ints .u64 29 (fun _ => 0), .int .u64 0], 65, 520, .st [(0, 32, true), (32, 1, false), (33, 1, false), (34, 1, false), (35, 29, true), (64, 1, false)], some (.st [(0, 32, true, .ar 32 1 (.it .u64)), (32, 1, false, .it .u64), (33, 1, false, .it .i64), (34, 1, false, .bl), (35, 29, true, .ar 29 1 (.it .u64)), (64, 1, false, .it .u64)])⟩), (44, ⟨.agg [.bool false, .bool false, .int .i64 0, .int .i64 0, .int .i64 0, .int .i64 0, .int .i64 0, .int .i64 0, .int .i64 0], 9, 64, .st [(0, 1, false), (1, 1, false), (2, 1, false), (3, 1, false), (4, 1, false), (5, 1, false), (6, 1, false), (7, 1, false), (8, 1, false)], some (.st [(0, 1, false, .bl), (1, 1, false, .bl), (2, 1, false, .it .i64), (3, 1, false, .it .i64), (4, 1, false, .it .i64), (5, 1, false, .it .i64), (6, 1, false, .it .i64), (7, 1, false, .it .i64), (8, 1, false, .it .i64)])⟩), (46, ⟨.agg [.int .u64 0, .int .u64 0, .int .u64 0, .bool false], 4, 32, .st [(0, 1, false), (1, 1, false), (2, 1, false), (3, 1, false)], some (.st [(0, 1, false, .it .u64), (1, 1, false, .it .u64), (2, 1, false, .it .u64), (3, 1, false, .bl)])⟩), (51, ⟨.agg [.bool false, .bool false, .bool false, .bool false, .int .i64 0, .int .i64 0, .int .i64 0, .int .i64 0], 8, 40, .st [(0, 1, false), (1, 1, false), (2, 1, false), (3, 1, false), (4, 1, false), (5, 1, false), (6, 1, false), (7, 1, false)], some (.st [(0, 1, false, .bl), (1, 1, false, .bl), (2, 1, false, .bl), (3, 1, false, .bl), (4, 1, false, .it .i64), (5, 1, false, .it .i64), (6, 1, false, .it .i64), (7, 1, false, .it .i64)])⟩), (104, ⟨.agg [.int .u64 0, .int .i64 0, .bool false], 3, 24, .st [(0, 1, false), (1, 1, false), (2, 1, false)], some (.st [(0, 1, false, .it .u64), (1, 1, false, .it .i64), (2, 1, false, .bl)])⟩)]
theorem T_two_Translate_ok : Prg Try.prog T_two_Translate := ⟨(.cons te_3 (.cons te_4 (.cons te_33 (.cons te_42 (.cons te_44 (.cons te_46 (.cons te_51 (.cons te_104 (TEok.nil _))))))))), by kernel_rfl⟩
noncomputable abbrev O_two_Translate {α : Type} : ORC α := [(21, .pure askF), (50, .pure pageF), (51, .pure guestF), (52, .full firstF), (53, .full secondF), (54, .pure ofF)]
theorem O_two_Translate_ok {α : Type} {I : Imm} : OOk (α := α) Try.prog I O_two_Translate := OOk.cons c_two_Ask (OOk.cons c_two_faults_page (OOk.cons c_two_faults_guest (OOk.cons c_two_first (OOk.cons c_two_second (OOk.cons c_two_faults_of (OOk.nil))))))
set_option maxHeartbeats 4000000 in
set_option maxRecDepth 100000 in
theorem c_two_Translate {α : Type} {I : Imm} : OrcOk (α := α) Try.prog I 19 (.full transF) := by
  refine orc_canon T_two_Translate_ok (O := O_two_Translate) O_two_Translate_ok (L := []) ⟨1, []⟩ Try.func19 (by kernel_rfl) (by kernel_rfl) (by kernel_rfl) FLOk.nil ?_
  intro args σ k r hk
  unfold transF at hk
  split at hk <;> try (simp at hk; done)
  rename_i p x pc lv vv c dn at_ kind level v
  obtain ⟨b, b1, g0, g1, f, rfl, h0, h1, hne, hk'⟩ := withMem_spec hk
  clear hk; have hk := hk'; clear hk'
  refine ⟨[b, b1], [memO 1 g0, byO g1 f], [.ptr 0 [], .agg [.ints .u64 32 x, .int .u64 pc, .int .i64 lv, .bool vv, .ints .u64 29 c, .int .u64 dn], .int .u64 at_, .int .i64 kind, .int .i64 level, .bool v], lay_mk rfl (nodup2 hne) rfl ⟨h0, h1, trivial⟩ (by simp [AllL, Ids, Idss]) (by simp [AllL, OIds, Ids, Idss]), ?_⟩
  refine ends_keep (v := (transA f (askS c level v) at_ kind (level == 0) v).sv) (bl := []) ?_ (by simp [Ids, Idss]) trivial hk
  clear hk
  repeat' ((conv => arg 1; whnf); split <;> try (exfalso; (try simp only [ltB_true, ltB_false, leB_true, leB_false, decide_eq_true_eq, decide_eq_false_iff_not, Bool.and_eq_true, Bool.and_eq_false_iff, Bool.or_eq_true, Bool.or_eq_false_iff, Bool.not_eq_true', Bool.not_eq_false', bne_iff_ne, ne_eq, bne_eq_false_iff_eq, beq_iff_eq, beq_eq_false_iff_ne, Decidable.not_not, eq_self, decide_true, Bool.true_and, true_and, not_true_eq_false, false_or, Nat.beq_refl, Bool.true_eq_false, Int.toNat_zero, nbeq, and_true, strOf_size] at *) <;> omega))
  all_goals (try (conv => arg 1; whnf))
  all_goals (try simp only [Bool.not_eq_true', Bool.not_eq_false', u2_0, u2_1] at *)
  all_goals refine ⟨_, _, rfl, ?_, trivial, .inr rfl, .inr rfl, trivial⟩
  all_goals try simp only [offA_eq] at *
  all_goals simp only [transA, Trans.sv, Entry.sv, pageOf, Firsts.sv, cond_true, cond_false, *, Bool.and_true, Bool.true_and, Bool.false_and, Bool.and_false, Bool.or_true, Bool.true_or, Bool.or_false, Bool.false_or, Bool.not_true, Bool.not_false, Bool.and_self, Bool.or_self]
  all_goals first | done | rfl | trace_state
abbrev T_two_Allowed : TE := [(3, ⟨.int .i64 0, 1, 8, .sc (.int .i64), none⟩), (4, ⟨.bool false, 1, 1, .sc (.bool), none⟩), (42, ⟨.agg [.ints .u64 32 (fun _ => 0), .int .u64 0, .int .i64 0, .bool false, .ints .u64 29 (fun _ => 0), .int .u64 0], 65, 520, .st [(0, 32, true), (32, 1, false), (33, 1, false), (34, 1, false), (35, 29, true), (64, 1, false)], some (.st [(0, 32, true, .ar 32 1 (.it .u64)), (32, 1, false, .it .u64), (33, 1, false, .it .i64), (34, 1, false, .bl), (35, 29, true, .ar 29 1 (.it .u64)), (64, 1, false, .it .u64)])⟩), (44, ⟨.agg [.bool false, .bool false, .int .i64 0, .int .i64 0, .int .i64 0, .int .i64 0, .int .i64 0, .int .i64 0, .int .i64 0], 9, 64, .st [(0, 1, false), (1, 1, false), (2, 1, false), (3, 1, false), (4, 1, false), (5, 1, false), (6, 1, false), (7, 1, false), (8, 1, false)], some (.st [(0, 1, false, .bl), (1, 1, false, .bl), (2, 1, false, .it .i64), (3, 1, false, .it .i64), (4, 1, false, .it .i64), (5, 1, false, .it .i64), (6, 1, false, .it .i64), (7, 1, false, .it .i64), (8, 1, false, .it .i64)])⟩), (46, ⟨.agg [.int .u64 0, .int .u64 0, .int .u64 0, .bool false], 4, 32, .st [(0, 1, false), (1, 1, false), (2, 1, false), (3, 1, false)], some (.st [(0, 1, false, .it .u64), (1, 1, false, .it .u64), (2, 1, false, .it .u64), (3, 1, false, .bl)])⟩), (51, ⟨.agg [.bool false, .bool false, .bool false, .bool false, .int .i64 0, .int .i64 0, .int .i64 0, .int .i64 0], 8, 40, .st [(0, 1, false), (1, 1, false), (2, 1, false), (3, 1, false), (4, 1, false), (5, 1, false), (6, 1, false), (7, 1, false)], some (.st [(0, 1, false, .bl), (1, 1, false, .bl), (2, 1, false, .bl), (3, 1, false, .bl), (4, 1, false, .it .i64), (5, 1, false, .it .i64), (6, 1, false, .it .i64), (7, 1, false, .it .i64)])⟩), (104, ⟨.agg [.int .u64 0, .int .i64 0, .bool false], 3, 24, .st [(0, 1, false), (1, 1, false), (2, 1, false)], some (.st [(0, 1, false, .it .u64), (1, 1, false, .it .i64), (2, 1, false, .bl)])⟩)]
theorem T_two_Allowed_ok : Prg Try.prog T_two_Allowed := ⟨(.cons te_3 (.cons te_4 (.cons te_42 (.cons te_44 (.cons te_46 (.cons te_51 (.cons te_104 (TEok.nil _)))))))), by kernel_rfl⟩
noncomputable abbrev O_two_Allowed {α : Type} : ORC α := [(21, .pure askF), (68, .pure mayF), (50, .pure pageF), (69, .pure joinF), (51, .pure guestF)]
theorem O_two_Allowed_ok {α : Type} {I : Imm} : OOk (α := α) Try.prog I O_two_Allowed := OOk.cons c_two_Ask (OOk.cons c_pte_May (OOk.cons c_two_faults_page (OOk.cons c_two_join (OOk.cons c_two_faults_guest (OOk.nil)))))
set_option maxHeartbeats 4000000 in
set_option maxRecDepth 100000 in
theorem c_two_Allowed {α : Type} {I : Imm} : OrcOk (α := α) Try.prog I 29 (.pure allowF) := by
  refine orc_pure T_two_Allowed_ok (O := O_two_Allowed) O_two_Allowed_ok (L := []) ⟨1, []⟩ Try.func29 (by kernel_rfl) (by kernel_rfl) (by kernel_rfl) FLOk.nil ?_
  intro args k r hk
  unfold allowF at hk
  split at hk <;> try (simp at hk; done)
  rename_i x pc lv vv c dn e1 e2 e3 e4 e5 e6 e7 e8 e9 at_ kind level v
  refine ⟨_, hk, by simp [Ids, Idss], by simp [Ids, Idss], ?_⟩
  clear hk
  repeat' ((conv => arg 1; whnf); split <;> try (exfalso; (try simp only [ltB_true, ltB_false, leB_true, leB_false, decide_eq_true_eq, decide_eq_false_iff_not, Bool.and_eq_true, Bool.and_eq_false_iff, Bool.or_eq_true, Bool.or_eq_false_iff, Bool.not_eq_true', Bool.not_eq_false', bne_iff_ne, ne_eq, bne_eq_false_iff_eq, beq_iff_eq, beq_eq_false_iff_ne, Decidable.not_not, eq_self, decide_true, Bool.true_and, true_and, not_true_eq_false, false_or, Nat.beq_refl, Bool.true_eq_false, Int.toNat_zero, nbeq, and_true, strOf_size] at *) <;> omega))
  all_goals (try (conv => arg 1; whnf))
  all_goals (try simp only [Bool.not_eq_true', Bool.not_eq_false', u2_0, u2_1] at *)
  all_goals (refine ends_any ?_; simp only [allowS, cond_true, cond_false, *, Bool.and_true, Bool.true_and, Bool.false_and, Bool.and_false, Bool.or_true, Bool.true_or, Bool.or_false, Bool.false_or, Bool.not_true, Bool.not_false, Bool.and_self, Bool.or_self])
  all_goals first | done | rfl | trace_state
end Go.Proofs.Ytigomjcmpafeeaa
