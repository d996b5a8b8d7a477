/-
  Contracts: Known12.
-/
import Derived.Test.YtigomjcmpafeeaaFnTwo
import Derived.Test.YtigomjcmpafeeaaSpTwo
set_option linter.unusedSimpArgs false
set_option linter.unusedVariables false
namespace Go.Proofs.Ytigomjcmpafeeaa
open Go Go.Sh Go.Proofs
set_option linter.unusedSimpArgs false
abbrev T_sallyportlaw12_known : TE := [(3, ⟨.int .i64 0, 1, 8, .sc (.int .i64), none⟩), (4, ⟨.bool false, 1, 1, .sc (.bool), none⟩), (33, ⟨.int .u64 0, 1, 8, .sc (.int .u64), none⟩), (40, ⟨.ints .u64 29 (fun _ => 0), 29, 232, .ar 29 33 1 false, some (.ar 29 1 (.it .u64))⟩), (42, ⟨.agg [.ints .u64 32 (fun _ => 0), .int .u64 0, .int .i64 0, .bool false, .ints .u64 29 (fun _ => 0), .int .u64 0], 65, 520, .st [(0, 32, true), (32, 1, false), (33, 1, false), (34, 1, false), (35, 29, true), (64, 1, false)], some (.st [(0, 32, true, .ar 32 1 (.it .u64)), (32, 1, false, .it .u64), (33, 1, false, .it .i64), (34, 1, false, .bl), (35, 29, true, .ar 29 1 (.it .u64)), (64, 1, false, .it .u64)])⟩), (44, ⟨.agg [.bool false, .bool false, .int .i64 0, .int .i64 0, .int .i64 0, .int .i64 0, .int .i64 0, .int .i64 0, .int .i64 0], 9, 64, .st [(0, 1, false), (1, 1, false), (2, 1, false), (3, 1, false), (4, 1, false), (5, 1, false), (6, 1, false), (7, 1, false), (8, 1, false)], some (.st [(0, 1, false, .bl), (1, 1, false, .bl), (2, 1, false, .it .i64), (3, 1, false, .it .i64), (4, 1, false, .it .i64), (5, 1, false, .it .i64), (6, 1, false, .it .i64), (7, 1, false, .it .i64), (8, 1, false, .it .i64)])⟩), (46, ⟨.agg [.int .u64 0, .int .u64 0, .int .u64 0, .bool false], 4, 32, .st [(0, 1, false), (1, 1, false), (2, 1, false), (3, 1, false)], some (.st [(0, 1, false, .it .u64), (1, 1, false, .it .u64), (2, 1, false, .it .u64), (3, 1, false, .bl)])⟩), (51, ⟨.agg [.bool false, .bool false, .bool false, .bool false, .int .i64 0, .int .i64 0, .int .i64 0, .int .i64 0], 8, 40, .st [(0, 1, false), (1, 1, false), (2, 1, false), (3, 1, false), (4, 1, false), (5, 1, false), (6, 1, false), (7, 1, false)], some (.st [(0, 1, false, .bl), (1, 1, false, .bl), (2, 1, false, .bl), (3, 1, false, .bl), (4, 1, false, .it .i64), (5, 1, false, .it .i64), (6, 1, false, .it .i64), (7, 1, false, .it .i64)])⟩)]
theorem T_sallyportlaw12_known_ok : Prg Try.prog T_sallyportlaw12_known := ⟨(.cons te_3 (.cons te_4 (.cons te_33 (.cons te_40 (.cons te_42 (.cons te_44 (.cons te_46 (.cons te_51 (TEok.nil _))))))))), by kernel_rfl⟩
noncomputable abbrev O_sallyportlaw12_known {α : Type} : ORC α := [(20, .full newF), (19, .full transF), (21, .pure askF), (27, .full guestF2), (29, .pure allowF)]
theorem O_sallyportlaw12_known_ok {α : Type} {I : Imm} : OOk (α := α) Try.prog I O_sallyportlaw12_known := OOk.cons c_mem_New (OOk.cons c_two_Translate (OOk.cons c_two_Ask (OOk.cons c_two_Guest (OOk.cons c_two_Allowed (OOk.nil)))))
set_option maxHeartbeats 4000000 in
set_option maxRecDepth 100000 in
theorem c_sallyportlaw12_known {α : Type} {I : Imm} : OrcOk (α := α) Try.prog I 18 (.pure trueF) := by
  refine orc_pure T_sallyportlaw12_known_ok (O := O_sallyportlaw12_known) O_sallyportlaw12_known_ok (L := []) ⟨20, []⟩ Try.func18 (by kernel_rfl) (by kernel_rfl) (by kernel_rfl) FLOk.nil ?_
  intro args k r hk
  unfold trueF at hk
  split at hk <;> try (simp at hk; done)
  refine ⟨_, hk, by simp [Ids, Idss], by simp [Ids, Idss], ?_⟩
  clear hk
  exact endsT_spec (by kernel_rfl)
end Go.Proofs.Ytigomjcmpafeeaa
