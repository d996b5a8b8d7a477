/-
  Contracts: Known17.
-/
import Derived.Test.YtigomjcmpafeeaaFnAccess
import Derived.Test.YtigomjcmpafeeaaSpAccess
set_option linter.unusedSimpArgs false
set_option linter.unusedVariables false
namespace Go.Proofs.Ytigomjcmpafeeaa
open Go Go.Sh Go.Proofs
set_option linter.unusedSimpArgs false
abbrev T_sallyportlaw17_known : TE := [(33, ⟨.int .u64 0, 1, 8, .sc (.int .u64), none⟩), (39, ⟨.ints .u64 32 (fun _ => 0), 32, 256, .ar 32 33 1 false, some (.ar 32 1 (.it .u64))⟩), (42, ⟨.agg [.ints .u64 32 (fun _ => 0), .int .u64 0, .int .i64 0, .bool false, .ints .u64 29 (fun _ => 0), .int .u64 0], 65, 520, .st [(0, 32, true), (32, 1, false), (33, 1, false), (34, 1, false), (35, 29, true), (64, 1, false)], some (.st [(0, 32, true, .ar 32 1 (.it .u64)), (32, 1, false, .it .u64), (33, 1, false, .it .i64), (34, 1, false, .bl), (35, 29, true, .ar 29 1 (.it .u64)), (64, 1, false, .it .u64)])⟩), (46, ⟨.agg [.int .u64 0, .int .u64 0, .int .u64 0, .bool false], 4, 32, .st [(0, 1, false), (1, 1, false), (2, 1, false), (3, 1, false)], some (.st [(0, 1, false, .it .u64), (1, 1, false, .it .u64), (2, 1, false, .it .u64), (3, 1, false, .bl)])⟩), (91, ⟨.agg [.int .i64 0, .int .i64 0, .int .i64 0, .int .i64 0, .int .i64 0, .int .i64 0], 6, 48, .st [(0, 1, false), (1, 1, false), (2, 1, false), (3, 1, false), (4, 1, false), (5, 1, false)], some (.st [(0, 1, false, .it .i64), (1, 1, false, .it .i64), (2, 1, false, .it .i64), (3, 1, false, .it .i64), (4, 1, false, .it .i64), (5, 1, false, .it .i64)])⟩), (136, ⟨.int .u32 0, 1, 4, .sc (.int .u32), none⟩)]
theorem T_sallyportlaw17_known_ok : Prg Try.prog T_sallyportlaw17_known := ⟨(.cons te_33 (.cons te_39 (.cons te_42 (.cons te_46 (.cons te_91 (.cons te_136 (TEok.nil _))))))), by kernel_rfl⟩
noncomputable abbrev O_sallyportlaw17_known {α : Type} : ORC α := [(37, .full B_bus_New), (38, .full B_access_Do), (41, .full B_access_Insn), (77, .full B_access_Word)]
theorem O_sallyportlaw17_known_ok {α : Type} {I : Imm} : OOk (α := α) Try.prog I O_sallyportlaw17_known := OOk.cons c_bus_New (OOk.cons c_access_Do (OOk.cons c_access_Insn (OOk.cons c_access_Word (OOk.nil))))
set_option maxHeartbeats 4000000 in
set_option maxRecDepth 100000 in
theorem c_sallyportlaw17_known {α : Type} {I : Imm} : OrcOk (α := α) Try.prog I 36 (.pure trueF) := by
  refine orc_pure T_sallyportlaw17_known_ok (O := O_sallyportlaw17_known) O_sallyportlaw17_known_ok (L := []) ⟨5, []⟩ Try.func36 (by kernel_rfl) (by kernel_rfl) (by kernel_rfl) FLOk.nil ?_
  intro args k r hk
  unfold trueF at hk
  split at hk <;> try (simp at hk; done)
  refine ⟨_, hk, by simp [Ids, Idss], by simp [Ids, Idss], ?_⟩
  clear hk
  exact endsT_spec (by kernel_rfl)
end Go.Proofs.Ytigomjcmpafeeaa
