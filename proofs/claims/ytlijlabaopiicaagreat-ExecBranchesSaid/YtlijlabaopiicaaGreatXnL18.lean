/-
  The laws ExecSums, ExecCalls, ExecBranches (printed by wip/pr/pr.py): the functions come to just that.
-/
import Derived.Test.YtlijlabaopiicaaGreatXnK18
import Derived.Test.YtlijlabaopiicaaGreatSpL18
namespace Go.Proofs.YtlijlabaopiicaaGreat
open Go Go.Sh Go.Proofs
set_option linter.unusedVariables false
set_option linter.unusedSimpArgs false
theorem pe_5 : TyOk Tryz.prog 5 ⟨.int .u8 0, 1, 1, .sc (.int .u8), none⟩ := ⟨fun _ => by kernel_rfl, ⟨rfl, rfl, fun _ _ => by simp [Wf, Wfs]⟩, ⟨Tryz.underlying5, rfl⟩, fun _ h => by cases h⟩
theorem pe_23 : TyOk Tryz.prog 23 ⟨.int .i16 0, 1, 2, .sc (.int .i16), none⟩ := ⟨fun _ => by kernel_rfl, ⟨rfl, rfl, fun _ _ => by simp [Wf, Wfs]⟩, ⟨Tryz.underlying23, rfl⟩, fun _ h => by cases h⟩
theorem pe_47 : TyOk Tryz.prog 47 ⟨.bools 6 (fun _ => false), 6, 6, .ar 6 4 1 false, none⟩ := ⟨fun _ => by kernel_rfl, ⟨rfl, rfl, fun _ _ => by simp [Wf, Wfs]⟩, ⟨Tryz.underlying47, by kernel_rfl, by kernel_rfl⟩, fun _ h => by cases h⟩
abbrev PT_z2a : TE := [(2, ⟨.int .i64 0, 1, 8, .sc (.int .i64), none⟩), (3, ⟨.int .i64 0, 1, 8, .sc (.int .i64), none⟩), (4, ⟨.bool false, 1, 1, .sc (.bool), none⟩), (5, ⟨.int .u8 0, 1, 1, .sc (.int .u8), none⟩), (22, ⟨.int .u64 0, 1, 8, .sc (.int .u64), none⟩), (23, ⟨.int .i16 0, 1, 2, .sc (.int .i16), none⟩), (27, ⟨.ints .u64 32 (fun _ => 0), 32, 256, .ar 32 22 1 false, some (.ar 32 1 (.it .u64))⟩), (30, ⟨.agg [.ints .u64 32 (fun _ => 0), .int .u64 0, .int .i64 0, .bool false, .ints .u64 29 (fun _ => 0), .int .u64 0], 65, 520, .st [(0, 32, true), (32, 1, false), (33, 1, false), (34, 1, false), (35, 29, true), (64, 1, false)], some (.st [(0, 32, true, .ar 32 1 (.it .u64)), (32, 1, false, .it .u64), (33, 1, false, .it .i64), (34, 1, false, .bl), (35, 29, true, .ar 29 1 (.it .u64)), (64, 1, false, .it .u64)])⟩), (36, ⟨.agg [.int .i64 0, .int .i64 0, .int .i64 0, .int .i64 0, .int .i64 0, .int .i64 0], 6, 48, .st [(0, 1, false), (1, 1, false), (2, 1, false), (3, 1, false), (4, 1, false), (5, 1, false)], some (.st [(0, 1, false, .it .i64), (1, 1, false, .it .i64), (2, 1, false, .it .i64), (3, 1, false, .it .i64), (4, 1, false, .it .i64), (5, 1, false, .it .i64)])⟩), (38, ⟨.agg [.int .u64 0, .int .u64 0, .int .u64 0, .bool false], 4, 32, .st [(0, 1, false), (1, 1, false), (2, 1, false), (3, 1, false)], some (.st [(0, 1, false, .it .u64), (1, 1, false, .it .u64), (2, 1, false, .it .u64), (3, 1, false, .bl)])⟩), (40, ⟨.agg [.int .u64 0, .int .u32 0, .int .i64 0, .int .u64 0, .bool false, .agg [.int .u64 0, .int .u64 0, .int .u64 0, .bool false], .int .i64 0, .bool false, .bool false], 12, 88, .st [(0, 1, false), (1, 1, false), (2, 1, false), (3, 1, false), (4, 1, false), (5, 4, true), (9, 1, false), (10, 1, false), (11, 1, false)], some (.st [(0, 1, false, .it .u64), (1, 1, false, .it .u32), (2, 1, false, .it .i64), (3, 1, false, .it .u64), (4, 1, false, .bl), (5, 4, true, .st [(0, 1, false, .it .u64), (1, 1, false, .it .u64), (2, 1, false, .it .u64), (3, 1, false, .bl)]), (9, 1, false, .it .i64), (10, 1, false, .bl), (11, 1, false, .bl)])⟩), (47, ⟨.bools 6 (fun _ => false), 6, 6, .ar 6 4 1 false, none⟩)]
theorem PT_z8c : Prg Tryz.prog PT_z2a := ⟨(.cons pe_2 (.cons pe_3 (.cons pe_4 (.cons pe_5 (.cons pe_22 (.cons pe_23 (.cons pe_27 (.cons pe_30 (.cons pe_36 (.cons pe_38 (.cons pe_40 (.cons pe_47 (TEok.nil _))))))))))))), by kernel_rfl⟩
noncomputable abbrev B_z62 {α : Type} (F_z19 : Sg_z19 α) (F_z14 : Sg_z14 α) (F_z3 : Sg_z3 α) : FF α := byBody PT_bus_New [(23, .full newF)] ⟨1, []⟩ Tryz.f10
theorem cB_z62 {α : Type} {I : Imm} {F_z19 : Sg_z19 α} {F_z14 : Sg_z14 α} {F_z3 : Sg_z3 α} (h_z19 : OrcOk (α := α) Tryz.prog I 9 (.pure (ad_z19 F_z19))) (h_z14 : OrcOk (α := α) Tryz.prog I 11 (.pure (ad_z14 F_z14))) (h_z1a : OrcOk (α := α) Tryz.prog I 23 (.full newF)) (h_z3 : OrcOk (α := α) Tryz.prog I 12 (.full (ad_z3 F_z3))) : OrcOk (α := α) Tryz.prog I 10 (.full (B_z62 F_z19 F_z14 F_z3)) := orc_body PT_bus_New_ok (OOk.cons h_z1a (OOk.nil)) ⟨1, []⟩ Tryz.func10 (by kernel_rfl) (by kernel_rfl) (by kernel_rfl)
noncomputable abbrev PO_z2a {α : Type} (F_z19 : Sg_z19 α) (F_z14 : Sg_z14 α) (F_z3 : Sg_z3 α) : ORC α := [(9, .pure (ad_z19 F_z19)), (11, .pure (ad_z14 F_z14)), (10, .full (B_z62 F_z19 F_z14 F_z3)), (12, .full (ad_z3 F_z3))]
set_option maxRecDepth 100000 in
theorem ok_z2a {α : Type} (F_z19 : Sg_z19 α) (F_z14 : Sg_z14 α) (F_z3 : Sg_z3 α) (x0 : Int) (x1 : Int) (x2 : Int) (x3 : Int) (k : Bool → R α) : bodyL PT_z2a (PO_z2a F_z19 F_z14 F_z3) [] ⟨1, []⟩ Tryz.f5 [(.int .u64 x0), (.int .u64 x1), (.int .u8 x2), (.int .i16 x3)] emp (fun v _ => dR_law18_ExecBranches v k) = p_z2a F_z19 F_z14 F_z3 x0 x1 x2 x3 k := by kernel_rfl
theorem mk_z2a {α : Type} {I : Imm} {F_z19 : Sg_z19 α} {F_z14 : Sg_z14 α} {F_z3 : Sg_z3 α} (h_z19 : OrcOk (α := α) Tryz.prog I 9 (.pure (ad_z19 F_z19))) (h_z14 : OrcOk (α := α) Tryz.prog I 11 (.pure (ad_z14 F_z14))) (h_z1a : OrcOk (α := α) Tryz.prog I 23 (.full newF)) (h_z3 : OrcOk (α := α) Tryz.prog I 12 (.full (ad_z3 F_z3))) : OrcOk (α := α) Tryz.prog I 5 (.pure (ad_z2a (p_z2a F_z19 F_z14 F_z3))) := by
  refine orc_pureK PT_z8c (O := PO_z2a F_z19 F_z14 F_z3) (OOk.cons h_z19 (OOk.cons h_z14 (OOk.cons (cB_z62 h_z19 h_z14 h_z1a h_z3) (OOk.cons h_z3 (OOk.nil))))) (L := []) ⟨1, []⟩ Tryz.func5 (by kernel_rfl) (by kernel_rfl) (by kernel_rfl) FLOk.nil ?_
  intro args k r hk
  unfold ad_z2a at hk
  split at hk <;> try (cases hk; done)
  obtain ⟨x0, rfl, hk0⟩ := decI_spec hk
  obtain ⟨x1, rfl, hk1⟩ := decI_spec hk0
  obtain ⟨x2, rfl, hk2⟩ := decI_spec hk1
  obtain ⟨x3, rfl, hk3⟩ := decI_spec hk2
  have hkz := hk3
  refine ⟨by simp [Ids, Idss], fun v => dR_law18_ExecBranches v (fun r0 => k (.bool r0)), ?_, fun v hv => ?_⟩
  · rw [ok_z2a]; exact hkz
  · obtain ⟨r0, rfl, hv1⟩ := dR_law18_ExecBranches_spec hv; exact ⟨hv1, by simp [Ids, Idss]⟩
end Go.Proofs.YtlijlabaopiicaaGreat
