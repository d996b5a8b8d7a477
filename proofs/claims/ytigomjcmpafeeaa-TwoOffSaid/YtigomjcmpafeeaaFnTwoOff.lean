/-
  Contracts: TwoOff.
-/
import Derived.Test.YtigomjcmpafeeaaFnKnown12
import Derived.Test.YtigomjcmpafeeaaSpTwoOff
namespace Go.Proofs.Ytigomjcmpafeeaa
open Go Go.Sh Go.Proofs
set_option linter.unusedSimpArgs false
abbrev T_sallyportlaw12_TwoOff : TE := [(3, ⟨.int .i64 0, 1, 8, .sc (.int .i64), none⟩), (5, ⟨.int .u8 0, 1, 1, .sc (.int .u8), none⟩), (33, ⟨.int .u64 0, 1, 8, .sc (.int .u64), none⟩), (42, ⟨.agg [.ints .u64 32 (fun _ => 0), .int .u64 0, .int .i64 0, .bool false, .ints .u64 29 (fun _ => 0), .int .u64 0], 65, 520, .st [(0, 32, true), (32, 1, false), (33, 1, false), (34, 1, false), (35, 29, true), (64, 1, false)], some (.st [(0, 32, true, .ar 32 1 (.it .u64)), (32, 1, false, .it .u64), (33, 1, false, .it .i64), (34, 1, false, .bl), (35, 29, true, .ar 29 1 (.it .u64)), (64, 1, false, .it .u64)])⟩), (44, ⟨.agg [.bool false, .bool false, .int .i64 0, .int .i64 0, .int .i64 0, .int .i64 0, .int .i64 0, .int .i64 0, .int .i64 0], 9, 64, .st [(0, 1, false), (1, 1, false), (2, 1, false), (3, 1, false), (4, 1, false), (5, 1, false), (6, 1, false), (7, 1, false), (8, 1, false)], some (.st [(0, 1, false, .bl), (1, 1, false, .bl), (2, 1, false, .it .i64), (3, 1, false, .it .i64), (4, 1, false, .it .i64), (5, 1, false, .it .i64), (6, 1, false, .it .i64), (7, 1, false, .it .i64), (8, 1, false, .it .i64)])⟩), (46, ⟨.agg [.int .u64 0, .int .u64 0, .int .u64 0, .bool false], 4, 32, .st [(0, 1, false), (1, 1, false), (2, 1, false), (3, 1, false)], some (.st [(0, 1, false, .it .u64), (1, 1, false, .it .u64), (2, 1, false, .it .u64), (3, 1, false, .bl)])⟩), (51, ⟨.agg [.bool false, .bool false, .bool false, .bool false, .int .i64 0, .int .i64 0, .int .i64 0, .int .i64 0], 8, 40, .st [(0, 1, false), (1, 1, false), (2, 1, false), (3, 1, false), (4, 1, false), (5, 1, false), (6, 1, false), (7, 1, false)], some (.st [(0, 1, false, .bl), (1, 1, false, .bl), (2, 1, false, .bl), (3, 1, false, .bl), (4, 1, false, .it .i64), (5, 1, false, .it .i64), (6, 1, false, .it .i64), (7, 1, false, .it .i64)])⟩)]
theorem T_sallyportlaw12_TwoOff_ok : Prg Try.prog T_sallyportlaw12_TwoOff := ⟨(.cons te_3 (.cons te_5 (.cons te_33 (.cons te_42 (.cons te_44 (.cons te_46 (.cons te_51 (TEok.nil _)))))))), by kernel_rfl⟩
noncomputable abbrev O_sallyportlaw12_TwoOff {α : Type} : ORC α := [(18, .pure trueF), (20, .full newF), (19, .full transF), (21, .pure askF)]
theorem O_sallyportlaw12_TwoOff_ok {α : Type} {I : Imm} : OOk (α := α) Try.prog I O_sallyportlaw12_TwoOff := OOk.cons c_sallyportlaw12_known (OOk.cons c_mem_New (OOk.cons c_two_Translate (OOk.cons c_two_Ask (OOk.nil))))
set_option maxHeartbeats 4000000 in
set_option maxRecDepth 100000 in
theorem c_sallyportlaw12_TwoOff {α : Type} {I : Imm} : OrcOk (α := α) Try.prog I 4 (.pure twoOffF) := by
  refine orc_pure T_sallyportlaw12_TwoOff_ok (O := O_sallyportlaw12_TwoOff) O_sallyportlaw12_TwoOff_ok (L := []) ⟨1, []⟩ Try.func4 (by kernel_rfl) (by kernel_rfl) (by kernel_rfl) FLOk.nil ?_
  intro args k r hk
  unfold twoOffF at hk
  split at hk <;> try (simp at hk; done)
  rename_i x pc lv vv c dn at_ kind
  refine ⟨_, hk, by simp [Ids, Idss], by simp [Ids, Idss], ?_⟩
  clear hk
  have ht : ∃ e : Entry, e.bits = 255 ∧ e.host = 255 ∧ e.asid = 0 ∧ e.vmid = 0 ∧ e.frame = e.guest ∧ ∀ k u, transA (fun _ => 0) (askS c 3 false) at_ k u false = ⟨at_, e, noFault, true⟩ := by
    have h0 : ∀ k u, transA (fun _ => 0) (askS c 3 false) at_ k u false = (bif ltB at_ 65536 then ⟨at_, ⟨true, false, pageOf at_, 0, 0, pageOf at_, 255, 255, pageOf at_⟩, noFault, true⟩ else ⟨at_, ⟨true, false, 0, 0, 0, 0, 255, 255, 0⟩, noFault, true⟩) := fun k u => rfl
    cases h : ltB at_ 65536 <;> rw [h] at h0
    · exact ⟨_, rfl, rfl, rfl, rfl, rfl, h0⟩
    · exact ⟨_, rfl, rfl, rfl, rfl, rfl, h0⟩
  obtain ⟨e, q1, q2, q3, q4, q5, ht⟩ := ht
  repeat' ((conv => arg 1; whnf); split <;> try (exfalso; (try simp only [ltB_true, ltB_false, leB_true, leB_false, decide_eq_true_eq, decide_eq_false_iff_not, Bool.and_eq_true, Bool.and_eq_false_iff, Bool.or_eq_true, Bool.or_eq_false_iff, Bool.not_eq_true', Bool.not_eq_false', bne_iff_ne, ne_eq, bne_eq_false_iff_eq, beq_iff_eq, beq_eq_false_iff_ne, Decidable.not_not, eq_self, decide_true, Bool.true_and, true_and, not_true_eq_false, false_or, Nat.beq_refl, Bool.true_eq_false, Int.toNat_zero, nbeq, and_true, strOf_size] at *) <;> omega))
  all_goals (try (conv => arg 1; whnf))
  all_goals clear k r
  all_goals first | exact ends_bool rfl | (exfalso; simp [ht, q1, q2, q3, q4, q5] at *; done)
end Go.Proofs.Ytigomjcmpafeeaa
