/-
  Contracts: Mem.
-/
import Derived.Test.YtlijlabaopiicaaGreatXnWord
import Derived.Test.YtlijlabaopiicaaGreatSpMem
set_option linter.unusedSimpArgs false
set_option linter.unusedVariables false
namespace Go.Proofs.YtlijlabaopiicaaGreat
open Go Go.Sh Go.Proofs
set_option linter.unusedSimpArgs false
theorem te_5 : TyOk Tryz.prog 5 ⟨.int .u8 0, 1, 1, .sc (.int .u8), none⟩ := ⟨fun _ => by kernel_rfl, ⟨rfl, rfl, fun _ _ => by simp [Wf, Wfs]⟩, ⟨Tryz.underlying5, rfl⟩, fun _ h => by cases h⟩
theorem te_74 : TyOk Tryz.prog 74 ⟨.nils, 1, 24, .sc (.slice 5), none⟩ := ⟨fun _ => by kernel_rfl, ⟨rfl, rfl, fun _ _ => by simp [Wf, Wfs]⟩, ⟨Tryz.underlying74, rfl⟩, fun _ h => by cases h⟩
theorem te_123 : TyOk Tryz.prog 123 ⟨.agg [.nils], 1, 24, .st [(0, 1, false)], none⟩ := ⟨fun _ => by kernel_rfl, ⟨rfl, rfl, fun _ _ => by simp [Wf, Wfs]⟩, ⟨_, Tryz.underlying123, by kernel_rfl⟩, fun _ h => by cases h⟩
abbrev T_z1a : TE := [(5, ⟨.int .u8 0, 1, 1, .sc (.int .u8), none⟩), (74, ⟨.nils, 1, 24, .sc (.slice 5), none⟩), (123, ⟨.agg [.nils], 1, 24, .st [(0, 1, false)], none⟩)]
theorem T_z63 : Prg Tryz.prog T_z1a := ⟨(.cons te_5 (.cons te_74 (.cons te_123 (TEok.nil _)))), by kernel_rfl⟩
noncomputable abbrev O_z1a {α : Type} : ORC α := []
theorem O_z63 {α : Type} {I : Imm} : OOk (α := α) Tryz.prog I O_z1a := OOk.nil
set_option maxHeartbeats 4000000 in
set_option maxRecDepth 100000 in
theorem c_z1a {α : Type} {I : Imm} : OrcOk (α := α) Tryz.prog I 23 (.full newF) := by
  refine orc_canon T_z63 (O := O_z1a) O_z63 (L := []) ⟨1, []⟩ Tryz.func23 (by kernel_rfl) (by kernel_rfl) (by kernel_rfl) FLOk.nil ?_
  intro args σ k r hk
  unfold newF at hk
  split at hk <;> try (simp at hk; done)
  refine ⟨[], [], [], lay_mk rfl (by simp) rfl trivial trivial trivial, ?_⟩
  refine ends_new (v := .ptr 1 []) (nw := [0, 1]) (bl := [(1, memO 0 none), (0, byO none fun _ => 0)]) ?_ (by simp) (by simp [Ids]) (by simp [AllL, OIds, Ids, Idss]) hk
  conv => arg 1; whnf
  exact ⟨_, _, rfl, rfl, ⟨⟨Nat.zero_le _, by decide⟩, ⟨Nat.zero_le _, by decide⟩, trivial⟩, ⟨rfl, rfl, trivial⟩, trivial⟩
end Go.Proofs.YtlijlabaopiicaaGreat
