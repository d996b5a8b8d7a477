/-
  The law AccessMis (printed by wip/pr/pr.py): the functions come to just that.
-/
import Derived.Test.YtigomjcmpafeeaaFnP12
import Derived.Test.YtigomjcmpafeeaaFnKnown17
import Derived.Test.YtigomjcmpafeeaaSpM17
namespace Go.Proofs.Ytigomjcmpafeeaa
open Go Go.Sh Go.Proofs
set_option linter.unusedVariables false
set_option linter.unusedSimpArgs false
abbrev PT_law17_AccessMis : TE := [(3, ⟨.int .i64 0, 1, 8, .sc (.int .i64), none⟩), (5, ⟨.int .u8 0, 1, 1, .sc (.int .u8), none⟩), (33, ⟨.int .u64 0, 1, 8, .sc (.int .u64), none⟩), (42, ⟨.agg [.ints .u64 32 (fun _ => 0), .int .u64 0, .int .i64 0, .bool false, .ints .u64 29 (fun _ => 0), .int .u64 0], 65, 520, .st [(0, 32, true), (32, 1, false), (33, 1, false), (34, 1, false), (35, 29, true), (64, 1, false)], some (.st [(0, 32, true, .ar 32 1 (.it .u64)), (32, 1, false, .it .u64), (33, 1, false, .it .i64), (34, 1, false, .bl), (35, 29, true, .ar 29 1 (.it .u64)), (64, 1, false, .it .u64)])⟩), (46, ⟨.agg [.int .u64 0, .int .u64 0, .int .u64 0, .bool false], 4, 32, .st [(0, 1, false), (1, 1, false), (2, 1, false), (3, 1, false)], some (.st [(0, 1, false, .it .u64), (1, 1, false, .it .u64), (2, 1, false, .it .u64), (3, 1, false, .bl)])⟩), (82, ⟨.int .u64 0, 1, 8, .sc (.int .u64), none⟩), (93, ⟨.ints .u64 3 (fun _ => 0), 3, 24, .ar 3 33 1 false, some (.ar 3 1 (.it .u64))⟩)]
theorem PT_law17_AccessMis_ok : Prg Try.prog PT_law17_AccessMis := ⟨(.cons pe_3 (.cons pe_5 (.cons pe_33 (.cons pe_42 (.cons pe_46 (.cons pe_82 (.cons pe_93 (TEok.nil _)))))))), by kernel_rfl⟩

theorem pe_28 : TyOk Try.prog 28 ⟨.nilp, 1, 8, .sc (.pointer 102), none⟩ := ⟨fun _ => by kernel_rfl, ⟨rfl, rfl, fun _ _ => by simp [Wf, Wfs]⟩, ⟨Try.underlying28, rfl⟩, fun _ h => by cases h⟩
theorem pe_148 : TyOk Try.prog 148 ⟨.agg [.nilp, .agg [.agg [], .agg [], .int .u64 0], .int .u64 0, .arr 3 4 (fun _ => .agg [.nils, .nils, .int .i64 0])], 15, 248, .st [(0, 1, false), (1, 1, true), (2, 1, false), (3, 12, true)], none⟩ := ⟨fun _ => by kernel_rfl, ⟨rfl, rfl, fun _ _ => by simp [Wf, Wfs]⟩, ⟨_, Try.underlying148, by kernel_rfl⟩, fun _ h => by cases h⟩
abbrev PT_bus_New : TE := [(28, ⟨.nilp, 1, 8, .sc (.pointer 102), none⟩), (148, ⟨.agg [.nilp, .agg [.agg [], .agg [], .int .u64 0], .int .u64 0, .arr 3 4 (fun _ => .agg [.nils, .nils, .int .i64 0])], 15, 248, .st [(0, 1, false), (1, 1, true), (2, 1, false), (3, 12, true)], none⟩)]
theorem PT_bus_New_ok : Prg Try.prog PT_bus_New := ⟨(.cons pe_28 (.cons pe_148 (TEok.nil _))), by kernel_rfl⟩
noncomputable abbrev B_law17_AccessMis_bus_New {α : Type} (F_law17_known : Sg_law17_known α) (F_access_Aligned_no : Sg_access_Aligned_no α) : FF α := byBody PT_bus_New [(20, .full newF)] ⟨1, []⟩ Try.f37
theorem cB_law17_AccessMis_bus_New {α : Type} {I : Imm} {F_law17_known : Sg_law17_known α} {F_access_Aligned_no : Sg_access_Aligned_no α} (h_law17_known : OrcOk (α := α) Try.prog I 36 (.pure (ad_law17_known F_law17_known))) (h_mem_New : OrcOk (α := α) Try.prog I 20 (.full newF)) (h_access_Aligned_no : OrcOk (α := α) Try.prog I 78 (.pure (ad_access_Aligned_no F_access_Aligned_no))) : OrcOk (α := α) Try.prog I 37 (.full (B_law17_AccessMis_bus_New F_law17_known F_access_Aligned_no)) := orc_body PT_bus_New_ok (OOk.cons h_mem_New (OOk.nil)) ⟨1, []⟩ Try.func37 (by kernel_rfl) (by kernel_rfl) (by kernel_rfl)
abbrev PT_access_Do : TE := [(42, ⟨.agg [.ints .u64 32 (fun _ => 0), .int .u64 0, .int .i64 0, .bool false, .ints .u64 29 (fun _ => 0), .int .u64 0], 65, 520, .st [(0, 32, true), (32, 1, false), (33, 1, false), (34, 1, false), (35, 29, true), (64, 1, false)], some (.st [(0, 32, true, .ar 32 1 (.it .u64)), (32, 1, false, .it .u64), (33, 1, false, .it .i64), (34, 1, false, .bl), (35, 29, true, .ar 29 1 (.it .u64)), (64, 1, false, .it .u64)])⟩), (44, ⟨.agg [.bool false, .bool false, .int .i64 0, .int .i64 0, .int .i64 0, .int .i64 0, .int .i64 0, .int .i64 0, .int .i64 0], 9, 64, .st [(0, 1, false), (1, 1, false), (2, 1, false), (3, 1, false), (4, 1, false), (5, 1, false), (6, 1, false), (7, 1, false), (8, 1, false)], some (.st [(0, 1, false, .bl), (1, 1, false, .bl), (2, 1, false, .it .i64), (3, 1, false, .it .i64), (4, 1, false, .it .i64), (5, 1, false, .it .i64), (6, 1, false, .it .i64), (7, 1, false, .it .i64), (8, 1, false, .it .i64)])⟩), (46, ⟨.agg [.int .u64 0, .int .u64 0, .int .u64 0, .bool false], 4, 32, .st [(0, 1, false), (1, 1, false), (2, 1, false), (3, 1, false)], some (.st [(0, 1, false, .it .u64), (1, 1, false, .it .u64), (2, 1, false, .it .u64), (3, 1, false, .bl)])⟩)]
theorem PT_access_Do_ok : Prg Try.prog PT_access_Do := ⟨(.cons pe_42 (.cons pe_44 (.cons pe_46 (TEok.nil _)))), by kernel_rfl⟩
noncomputable abbrev B_law17_AccessMis_access_Do {α : Type} (F_law17_known : Sg_law17_known α) (F_access_Aligned_no : Sg_access_Aligned_no α) : FF α := byBody PT_access_Do [(78, .pure (ad_access_Aligned_no F_access_Aligned_no))] ⟨1, []⟩ Try.f38
theorem cB_law17_AccessMis_access_Do {α : Type} {I : Imm} {F_law17_known : Sg_law17_known α} {F_access_Aligned_no : Sg_access_Aligned_no α} (h_law17_known : OrcOk (α := α) Try.prog I 36 (.pure (ad_law17_known F_law17_known))) (h_mem_New : OrcOk (α := α) Try.prog I 20 (.full newF)) (h_access_Aligned_no : OrcOk (α := α) Try.prog I 78 (.pure (ad_access_Aligned_no F_access_Aligned_no))) : OrcOk (α := α) Try.prog I 38 (.full (B_law17_AccessMis_access_Do F_law17_known F_access_Aligned_no)) := orc_body PT_access_Do_ok (OOk.cons h_access_Aligned_no (OOk.nil)) ⟨1, []⟩ Try.func38 (by kernel_rfl) (by kernel_rfl) (by kernel_rfl)
noncomputable abbrev PO_law17_AccessMis {α : Type} (F_law17_known : Sg_law17_known α) (F_access_Aligned_no : Sg_access_Aligned_no α) : ORC α := [(36, .pure (ad_law17_known F_law17_known)), (37, .full (B_law17_AccessMis_bus_New F_law17_known F_access_Aligned_no)), (38, .full (B_law17_AccessMis_access_Do F_law17_known F_access_Aligned_no))]
set_option maxRecDepth 100000 in
theorem ok_law17_AccessMis {α : Type} (F_law17_known : Sg_law17_known α) (F_access_Aligned_no : Sg_access_Aligned_no α) (x0 : GState) (x1 : Int) (x2 : Int) (x3 : Int) (x4 : Bool) (k : Bool → R α) : bodyL PT_law17_AccessMis (PO_law17_AccessMis F_law17_known F_access_Aligned_no) [] ⟨1, []⟩ Try.f12 [(GState.sv x0), (.int .u64 x1), (.int .u8 x2), (.int .u8 x3), (.bool x4)] emp (fun v _ => dR_law17_AccessMis v k) = p_law17_AccessMis F_law17_known F_access_Aligned_no x0 x1 x2 x3 x4 k := by kernel_rfl
theorem mk_law17_AccessMis {α : Type} {I : Imm} {F_law17_known : Sg_law17_known α} {F_access_Aligned_no : Sg_access_Aligned_no α} (h_law17_known : OrcOk (α := α) Try.prog I 36 (.pure (ad_law17_known F_law17_known))) (h_mem_New : OrcOk (α := α) Try.prog I 20 (.full newF)) (h_access_Aligned_no : OrcOk (α := α) Try.prog I 78 (.pure (ad_access_Aligned_no F_access_Aligned_no))) : OrcOk (α := α) Try.prog I 12 (.pure (ad_law17_AccessMis (p_law17_AccessMis F_law17_known F_access_Aligned_no))) := by
  refine orc_pureK PT_law17_AccessMis_ok (O := PO_law17_AccessMis F_law17_known F_access_Aligned_no) (OOk.cons h_law17_known (OOk.cons (cB_law17_AccessMis_bus_New h_law17_known h_mem_New h_access_Aligned_no) (OOk.cons (cB_law17_AccessMis_access_Do h_law17_known h_mem_New h_access_Aligned_no) (OOk.nil)))) (L := []) ⟨1, []⟩ Try.func12 (by kernel_rfl) (by kernel_rfl) (by kernel_rfl) FLOk.nil ?_
  intro args k r hk
  unfold ad_law17_AccessMis at hk
  split at hk <;> try (cases hk; done)
  obtain ⟨x0, rfl, hk0⟩ := GState.dec_spec hk
  obtain ⟨x1, rfl, hk1⟩ := decI_spec hk0
  obtain ⟨x2, rfl, hk2⟩ := decI_spec hk1
  obtain ⟨x3, rfl, hk3⟩ := decI_spec hk2
  obtain ⟨x4, rfl, hk4⟩ := decB_spec hk3
  have hkz := hk4
  refine ⟨by simp [Ids, Idss], fun v => dR_law17_AccessMis v (fun r0 => k (.bool r0)), ?_, fun v hv => ?_⟩
  · rw [ok_law17_AccessMis]; exact hkz
  · obtain ⟨r0, rfl, hv1⟩ := dR_law17_AccessMis_spec hv; exact ⟨hv1, by simp [Ids, Idss]⟩
end Go.Proofs.Ytigomjcmpafeeaa
