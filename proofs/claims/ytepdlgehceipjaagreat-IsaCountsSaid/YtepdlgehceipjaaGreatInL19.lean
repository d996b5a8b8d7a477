/-
  The law IsaBegins (printed by wip/pr/pr.py): the functions come to just that.
-/
import Derived.Test.YtepdlgehceipjaaGreatInW19
import Derived.Test.YtepdlgehceipjaaGreatSpL19
namespace Go.Proofs.YtepdlgehceipjaaGreat
open Go Go.Sh Go.Proofs
set_option linter.unusedVariables false
set_option linter.unusedSimpArgs false
theorem pe_28 : TyOk Tryz.prog 28 ⟨.nilp,1,8,.sc (.pointer 81),none⟩:=⟨fun _=>by kernel_rfl,⟨rfl,rfl,fun _ _=>by simp [Wf,Wfs]⟩,⟨Tryz.underlying28,rfl⟩,fun _ h=>by cases h⟩
theorem pe_41 : TyOk Tryz.prog 41 ⟨.nils,1,24,.sc (.slice 47),none⟩:=⟨fun _=>by kernel_rfl,⟨rfl,rfl,fun _ _=>by simp [Wf,Wfs]⟩,⟨Tryz.underlying41,rfl⟩,fun _ h=>by cases h⟩
abbrev PT_L19 : TE:=[(3,⟨.int .i64 0,1,8,.sc (.int .i64),none⟩),(4,⟨.bool false,1,1,.sc (.bool),none⟩),(22,⟨.int .u64 0,1,8,.sc (.int .u64),none⟩),(23,⟨.ints .u64 32 (fun _=>0),32,256,.ar 32 22 1 false,some (.ar 32 1 (.it .u64))⟩),(26,⟨.agg [.ints .u64 32 (fun _=>0),.int .u64 0,.int .i64 0,.bool false,.ints .u64 29 (fun _=>0),.int .u64 0],65,520,.st [(0,32,true),(32,1,false),(33,1,false),(34,1,false),(35,29,true),(64,1,false)],some (.st [(0,32,true,.ar 32 1 (.it .u64)),(32,1,false,.it .u64),(33,1,false,.it .i64),(34,1,false,.bl),(35,29,true,.ar 29 1 (.it .u64)),(64,1,false,.it .u64)])⟩),(28,⟨.nilp,1,8,.sc (.pointer 81),none⟩),(31,⟨.nilp,1,8,.sc (.pointer 89),none⟩),(41,⟨.nils,1,24,.sc (.slice 47),none⟩),(45,⟨.agg [.int .u64 0,.int .u64 0,.int .u64 0,.bool false],4,32,.st [(0,1,false),(1,1,false),(2,1,false),(3,1,false)],some (.st [(0,1,false,.it .u64),(1,1,false,.it .u64),(2,1,false,.it .u64),(3,1,false,.bl)])⟩),(47,⟨.agg [.int .u64 0,.int .u32 0,.int .i64 0,.int .u64 0,.bool false,.agg [.int .u64 0,.int .u64 0,.int .u64 0,.bool false],.int .i64 0,.bool false,.bool false],12,88,.st [(0,1,false),(1,1,false),(2,1,false),(3,1,false),(4,1,false),(5,4,true),(9,1,false),(10,1,false),(11,1,false)],some (.st [(0,1,false,.it .u64),(1,1,false,.it .u32),(2,1,false,.it .i64),(3,1,false,.it .u64),(4,1,false,.bl),(5,4,true,.st [(0,1,false,.it .u64),(1,1,false,.it .u64),(2,1,false,.it .u64),(3,1,false,.bl)]),(9,1,false,.it .i64),(10,1,false,.bl),(11,1,false,.bl)])⟩),(61,⟨.nilp,1,8,.sc (.pointer 127),none⟩),(81,⟨.agg [.agg [.ints .u64 32 (fun _=>0),.int .u64 0,.int .i64 0,.bool false,.ints .u64 29 (fun _=>0),.int .u64 0],.nilp,.agg [.agg [],.agg [],.int .i64 0]],67,536,.st [(0,65,true),(65,1,false),(66,1,true)],none⟩),(89,⟨.agg [.nilp,.agg [.agg [],.agg [],.int .u64 0],.int .u64 0,.arr 3 4 (fun _=>.agg [.nils,.nils,.int .i64 0])],15,248,.st [(0,1,false),(1,1,true),(2,1,false),(3,12,true)],none⟩)]
theorem PT_L19_ok : Prg Tryz.prog PT_L19:=⟨(.cons pe_3 (.cons pe_4 (.cons pe_22 (.cons pe_23 (.cons pe_26 (.cons pe_28 (.cons pe_31 (.cons pe_41 (.cons pe_45 (.cons pe_47 (.cons pe_61 (.cons pe_81 (.cons pe_89 (TEok.nil _)))))))))))))),by kernel_rfl⟩
noncomputable abbrev B_z5o {α:Type} (F_z6:Sg_z6 α) (F_z1:Sg_z1 α):FF α:=byBody PT_L19 [(30,.full newF)] ⟨4,[]⟩ Tryz.f12
theorem cB_z5o {α:Type} {I:Imm} {F_z6:Sg_z6 α} {F_z1:Sg_z1 α} (h_z25:OrcOk (α:=α) Tryz.prog I 30 (.full newF)) (h_z6:OrcOk (α:=α) Tryz.prog I 29 (.pure (ad_z6 F_z6))) (h_z1:OrcOk (α:=α) Tryz.prog I 16 (.full (ad_z1 F_z1))):OrcOk (α:=α) Tryz.prog I 12 (.full (B_z5o F_z6 F_z1)):=orc_body PT_L19_ok (OOk.cons h_z25 (OOk.nil)) ⟨4,[]⟩ Tryz.func12 (by kernel_rfl) (by kernel_rfl) (by kernel_rfl)
noncomputable abbrev B_z5p {α:Type} (F_z6:Sg_z6 α) (F_z1:Sg_z1 α):FF α:=byBody PT_L19 [(12,.full (B_z5o F_z6 F_z1)),(29,.pure (ad_z6 F_z6))] ⟨4,[]⟩ Tryz.f10
theorem cB_z5p {α:Type} {I:Imm} {F_z6:Sg_z6 α} {F_z1:Sg_z1 α} (h_z25:OrcOk (α:=α) Tryz.prog I 30 (.full newF)) (h_z6:OrcOk (α:=α) Tryz.prog I 29 (.pure (ad_z6 F_z6))) (h_z1:OrcOk (α:=α) Tryz.prog I 16 (.full (ad_z1 F_z1))):OrcOk (α:=α) Tryz.prog I 10 (.full (B_z5p F_z6 F_z1)):=orc_body PT_L19_ok (OOk.cons (cB_z5o h_z25 h_z6 h_z1) (OOk.cons h_z6 (OOk.nil))) ⟨4,[]⟩ Tryz.func10 (by kernel_rfl) (by kernel_rfl) (by kernel_rfl)
noncomputable abbrev B_z5q {α:Type} (F_z6:Sg_z6 α) (F_z1:Sg_z1 α):FF α:=byBody PT_L19 [] ⟨4,[]⟩ Tryz.f11
theorem cB_z5q {α:Type} {I:Imm} {F_z6:Sg_z6 α} {F_z1:Sg_z1 α} (h_z25:OrcOk (α:=α) Tryz.prog I 30 (.full newF)) (h_z6:OrcOk (α:=α) Tryz.prog I 29 (.pure (ad_z6 F_z6))) (h_z1:OrcOk (α:=α) Tryz.prog I 16 (.full (ad_z1 F_z1))):OrcOk (α:=α) Tryz.prog I 11 (.full (B_z5q F_z6 F_z1)):=orc_body PT_L19_ok (OOk.nil) ⟨4,[]⟩ Tryz.func11 (by kernel_rfl) (by kernel_rfl) (by kernel_rfl)
noncomputable abbrev B_z5r {α:Type} (F_z6:Sg_z6 α) (F_z1:Sg_z1 α):FF α:=byBody PT_L19 [(16,.full (ad_z1 F_z1))] ⟨4,[]⟩ Tryz.f15
theorem cB_z5r {α:Type} {I:Imm} {F_z6:Sg_z6 α} {F_z1:Sg_z1 α} (h_z25:OrcOk (α:=α) Tryz.prog I 30 (.full newF)) (h_z6:OrcOk (α:=α) Tryz.prog I 29 (.pure (ad_z6 F_z6))) (h_z1:OrcOk (α:=α) Tryz.prog I 16 (.full (ad_z1 F_z1))):OrcOk (α:=α) Tryz.prog I 15 (.full (B_z5r F_z6 F_z1)):=orc_body PT_L19_ok (OOk.cons h_z1 (OOk.nil)) ⟨4,[]⟩ Tryz.func15 (by kernel_rfl) (by kernel_rfl) (by kernel_rfl)
noncomputable abbrev PO_ze {α:Type} (F_z6:Sg_z6 α) (F_z1:Sg_z1 α):ORC α:=[(10,.full (B_z5p F_z6 F_z1)),(11,.full (B_z5q F_z6 F_z1)),(16,.full (ad_z1 F_z1)),(15,.full (B_z5r F_z6 F_z1))]
set_option maxRecDepth 100000 in
theorem ok_ze {α:Type} (F_z6:Sg_z6 α) (F_z1:Sg_z1 α)  (k:Bool→R α):bodyL PT_L19 (PO_ze F_z6 F_z1) [] ⟨4,[]⟩ Tryz.f9 [] emp (fun v _=>dR_law19_known v k)=p_ze F_z6 F_z1  k:=by kernel_rfl
theorem mk_ze {α:Type} {I:Imm} {F_z6:Sg_z6 α} {F_z1:Sg_z1 α} (h_z25:OrcOk (α:=α) Tryz.prog I 30 (.full newF)) (h_z6:OrcOk (α:=α) Tryz.prog I 29 (.pure (ad_z6 F_z6))) (h_z1:OrcOk (α:=α) Tryz.prog I 16 (.full (ad_z1 F_z1))):OrcOk (α:=α) Tryz.prog I 9 (.pure (ad_ze (p_ze F_z6 F_z1))):=by
  refine orc_pureK PT_L19_ok (O:=PO_ze F_z6 F_z1) (OOk.cons (cB_z5p h_z25 h_z6 h_z1) (OOk.cons (cB_z5q h_z25 h_z6 h_z1) (OOk.cons h_z1 (OOk.cons (cB_z5r h_z25 h_z6 h_z1) (OOk.nil))))) (L:=[]) ⟨4,[]⟩ Tryz.func9 (by kernel_rfl) (by kernel_rfl) (by kernel_rfl) FLOk.nil ?_
  intro args k r hk
  unfold ad_ze at hk
  split at hk<;>try (cases hk; done)
  have hkz:=hk
  refine ⟨by simp [Ids,Idss],fun v=>dR_law19_known v (fun r0=>k (.bool r0)),?_,fun v hv=>?_⟩
  · rw [ok_ze]; exact hkz
  · obtain ⟨r0,rfl,hv1⟩:=dR_law19_known_spec hv; exact ⟨hv1,by simp [Ids,Idss]⟩
end Go.Proofs.YtepdlgehceipjaaGreat
