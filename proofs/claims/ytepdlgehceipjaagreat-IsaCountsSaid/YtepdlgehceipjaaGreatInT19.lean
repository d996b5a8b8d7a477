/-
  The law IsaTimes (printed by wip/pr/pr.py): the functions come to just that.
-/
import Derived.Test.YtepdlgehceipjaaGreatInL19
import Derived.Test.YtepdlgehceipjaaGreatSpT19
set_option maxRecDepth 100000
namespace Go.Proofs.YtepdlgehceipjaaGreat
open Go Go.Sh Go.Proofs
set_option linter.unusedVariables false
set_option linter.unusedSimpArgs false
theorem pe_198 : TyOk Tryz.prog 198 ⟨.ints .u32 6 (fun _=>0),6,24,.ar 6 43 1 false,some (.ar 6 1 (.it .u32))⟩:=⟨fun _=>by kernel_rfl,⟨rfl,rfl,fun _ _=>by simp [Wf,Wfs]⟩,⟨Tryz.underlying198,by kernel_rfl,by kernel_rfl⟩,fun _ h=>by cases h; exact ⟨by kernel_rfl,by kernel_rfl⟩⟩
theorem pe_199 : TyOk Tryz.prog 199 ⟨.ints .u32 2 (fun _=>0),2,8,.ar 2 43 1 false,some (.ar 2 1 (.it .u32))⟩:=⟨fun _=>by kernel_rfl,⟨rfl,rfl,fun _ _=>by simp [Wf,Wfs]⟩,⟨Tryz.underlying199,by kernel_rfl,by kernel_rfl⟩,fun _ h=>by cases h; exact ⟨by kernel_rfl,by kernel_rfl⟩⟩
theorem pe_200 : TyOk Tryz.prog 200 ⟨.arr 2 3 (fun _=>.ints .u32 2 (fun _=>0)),6,24,.ar 3 199 2 true,none⟩:=⟨fun _=>by kernel_rfl,⟨rfl,rfl,fun _ _=>by simp [Wf,Wfs]⟩,⟨Tryz.underlying200,by kernel_rfl,by kernel_rfl⟩,fun _ h=>by cases h⟩
theorem pe_201 : TyOk Tryz.prog 201 ⟨.arr 2 4 (fun _=>.ints .u32 2 (fun _=>0)),8,32,.ar 4 199 2 true,none⟩:=⟨fun _=>by kernel_rfl,⟨rfl,rfl,fun _ _=>by simp [Wf,Wfs]⟩,⟨Tryz.underlying201,by kernel_rfl,by kernel_rfl⟩,fun _ h=>by cases h⟩
theorem pe_202 : TyOk Tryz.prog 202 ⟨.arr 2 10 (fun _=>.ints .u32 2 (fun _=>0)),20,80,.ar 10 199 2 true,none⟩:=⟨fun _=>by kernel_rfl,⟨rfl,rfl,fun _ _=>by simp [Wf,Wfs]⟩,⟨Tryz.underlying202,by kernel_rfl,by kernel_rfl⟩,fun _ h=>by cases h⟩
theorem pe_203 : TyOk Tryz.prog 203 ⟨.arr 2 5 (fun _=>.ints .u32 2 (fun _=>0)),10,40,.ar 5 199 2 true,none⟩:=⟨fun _=>by kernel_rfl,⟨rfl,rfl,fun _ _=>by simp [Wf,Wfs]⟩,⟨Tryz.underlying203,by kernel_rfl,by kernel_rfl⟩,fun _ h=>by cases h⟩
theorem pe_204 : TyOk Tryz.prog 204 ⟨.ints .u32 3 (fun _=>0),3,12,.ar 3 43 1 false,some (.ar 3 1 (.it .u32))⟩:=⟨fun _=>by kernel_rfl,⟨rfl,rfl,fun _ _=>by simp [Wf,Wfs]⟩,⟨Tryz.underlying204,by kernel_rfl,by kernel_rfl⟩,fun _ h=>by cases h; exact ⟨by kernel_rfl,by kernel_rfl⟩⟩
theorem pe_129 : TyOk Tryz.prog 129 ⟨.agg [.nils],1,24,.st [(0,1,false)],none⟩:=⟨fun _=>by kernel_rfl,⟨rfl,rfl,fun _ _=>by simp [Wf,Wfs]⟩,⟨_,Tryz.underlying129,by kernel_rfl⟩,fun _ h=>by cases h⟩
theorem pe_37 : TyOk Tryz.prog 37 ⟨.nils,1,24,.sc (.slice 36),none⟩:=⟨fun _=>by kernel_rfl,⟨rfl,rfl,fun _ _=>by simp [Wf,Wfs]⟩,⟨Tryz.underlying37,rfl⟩,fun _ h=>by cases h⟩
theorem pe_68 : TyOk Tryz.prog 68 ⟨.agg [.nilp,.int .u64 0,.int .u64 0,.arr 1 4 (fun _=>.str .empty),.ints .i64 4 (fun _=>0),.arr 1 4 (fun _=>.str .empty),.bool false],16,192,.st [(0,1,false),(1,1,false),(2,1,false),(3,4,true),(7,4,true),(11,4,true),(15,1,false)],none⟩:=⟨fun _=>by kernel_rfl,⟨rfl,rfl,fun _ _=>by simp [Wf,Wfs]⟩,⟨_,Tryz.underlying68,by kernel_rfl⟩,fun _ h=>by cases h⟩
theorem pe_9 : TyOk Tryz.prog 9 ⟨.str .empty,1,16,.sc (.string),none⟩:=⟨fun _=>by kernel_rfl,⟨rfl,rfl,fun _ _=>by simp [Wf,Wfs]⟩,⟨Tryz.underlying9,rfl⟩,fun _ h=>by cases h⟩
theorem pe_65 : TyOk Tryz.prog 65 ⟨.arr 1 4 (fun _=>.str .empty),4,64,.ar 4 9 1 false,none⟩:=⟨fun _=>by kernel_rfl,⟨rfl,rfl,fun _ _=>by simp [Wf,Wfs]⟩,⟨Tryz.underlying65,by kernel_rfl,by kernel_rfl⟩,fun _ h=>by cases h⟩
theorem pe_60 : TyOk Tryz.prog 60 ⟨.agg [.agg [.ints .u64 32 (fun _=>0),.int .u64 0,.int .i64 0,.bool false,.ints .u64 29 (fun _=>0),.int .u64 0],.nilp,.int .i64 0,.nils,.int .i64 0,.agg [.int .i64 0,.int .i64 0,.int .i64 0,.int .i64 0,.int .i64 0,.int .i64 0]],75,616,.st [(0,65,true),(65,1,false),(66,1,false),(67,1,false),(68,1,false),(69,6,true)],none⟩:=⟨fun _=>by kernel_rfl,⟨rfl,rfl,fun _ _=>by simp [Wf,Wfs]⟩,⟨_,Tryz.underlying60,by kernel_rfl⟩,fun _ h=>by cases h⟩
theorem pe_54 : TyOk Tryz.prog 54 ⟨.nils,1,24,.sc (.slice 95),none⟩:=⟨fun _=>by kernel_rfl,⟨rfl,rfl,fun _ _=>by simp [Wf,Wfs]⟩,⟨Tryz.underlying54,rfl⟩,fun _ h=>by cases h⟩
theorem pe_95 : TyOk Tryz.prog 95 ⟨.agg [.int .u64 0,.int .u64 0],2,16,.st [(0,1,false),(1,1,false)],some (.st [(0,1,false,.it .u64),(1,1,false,.it .u64)])⟩:=⟨fun _=>by kernel_rfl,⟨rfl,rfl,fun _ _=>by simp [Wf,Wfs]⟩,⟨_,Tryz.underlying95,by kernel_rfl⟩,fun _ h=>by cases h; exact ⟨by kernel_rfl,by kernel_rfl⟩⟩
abbrev PT_T19 : TE:=[(2,⟨.int .i64 0,1,8,.sc (.int .i64),none⟩),(3,⟨.int .i64 0,1,8,.sc (.int .i64),none⟩),(4,⟨.bool false,1,1,.sc (.bool),none⟩),(5,⟨.int .u8 0,1,1,.sc (.int .u8),none⟩),(9,⟨.str .empty,1,16,.sc (.string),none⟩),(22,⟨.int .u64 0,1,8,.sc (.int .u64),none⟩),(24,⟨.ints .u64 29 (fun _=>0),29,232,.ar 29 22 1 false,some (.ar 29 1 (.it .u64))⟩),(26,⟨.agg [.ints .u64 32 (fun _=>0),.int .u64 0,.int .i64 0,.bool false,.ints .u64 29 (fun _=>0),.int .u64 0],65,520,.st [(0,32,true),(32,1,false),(33,1,false),(34,1,false),(35,29,true),(64,1,false)],some (.st [(0,32,true,.ar 32 1 (.it .u64)),(32,1,false,.it .u64),(33,1,false,.it .i64),(34,1,false,.bl),(35,29,true,.ar 29 1 (.it .u64)),(64,1,false,.it .u64)])⟩),(31,⟨.nilp,1,8,.sc (.pointer 89),none⟩),(36,⟨.agg [.int .i64 0,.int .i64 0,.int .i64 0,.int .i64 0,.int .i64 0,.int .i64 0],6,48,.st [(0,1,false),(1,1,false),(2,1,false),(3,1,false),(4,1,false),(5,1,false)],some (.st [(0,1,false,.it .i64),(1,1,false,.it .i64),(2,1,false,.it .i64),(3,1,false,.it .i64),(4,1,false,.it .i64),(5,1,false,.it .i64)])⟩),(37,⟨.nils,1,24,.sc (.slice 36),none⟩),(43,⟨.int .u32 0,1,4,.sc (.int .u32),none⟩),(45,⟨.agg [.int .u64 0,.int .u64 0,.int .u64 0,.bool false],4,32,.st [(0,1,false),(1,1,false),(2,1,false),(3,1,false)],some (.st [(0,1,false,.it .u64),(1,1,false,.it .u64),(2,1,false,.it .u64),(3,1,false,.bl)])⟩),(47,⟨.agg [.int .u64 0,.int .u32 0,.int .i64 0,.int .u64 0,.bool false,.agg [.int .u64 0,.int .u64 0,.int .u64 0,.bool false],.int .i64 0,.bool false,.bool false],12,88,.st [(0,1,false),(1,1,false),(2,1,false),(3,1,false),(4,1,false),(5,4,true),(9,1,false),(10,1,false),(11,1,false)],some (.st [(0,1,false,.it .u64),(1,1,false,.it .u32),(2,1,false,.it .i64),(3,1,false,.it .u64),(4,1,false,.bl),(5,4,true,.st [(0,1,false,.it .u64),(1,1,false,.it .u64),(2,1,false,.it .u64),(3,1,false,.bl)]),(9,1,false,.it .i64),(10,1,false,.bl),(11,1,false,.bl)])⟩),(52,⟨.int .u64 0,1,8,.sc (.int .u64),none⟩),(54,⟨.nils,1,24,.sc (.slice 95),none⟩),(60,⟨.agg [.agg [.ints .u64 32 (fun _=>0),.int .u64 0,.int .i64 0,.bool false,.ints .u64 29 (fun _=>0),.int .u64 0],.nilp,.int .i64 0,.nils,.int .i64 0,.agg [.int .i64 0,.int .i64 0,.int .i64 0,.int .i64 0,.int .i64 0,.int .i64 0]],75,616,.st [(0,65,true),(65,1,false),(66,1,false),(67,1,false),(68,1,false),(69,6,true)],none⟩),(61,⟨.nilp,1,8,.sc (.pointer 127),none⟩),(65,⟨.arr 1 4 (fun _=>.str .empty),4,64,.ar 4 9 1 false,none⟩),(66,⟨.ints .i64 4 (fun _=>0),4,32,.ar 4 3 1 false,some (.ar 4 1 (.it .i64))⟩),(68,⟨.agg [.nilp,.int .u64 0,.int .u64 0,.arr 1 4 (fun _=>.str .empty),.ints .i64 4 (fun _=>0),.arr 1 4 (fun _=>.str .empty),.bool false],16,192,.st [(0,1,false),(1,1,false),(2,1,false),(3,4,true),(7,4,true),(11,4,true),(15,1,false)],none⟩),(81,⟨.agg [.agg [.ints .u64 32 (fun _=>0),.int .u64 0,.int .i64 0,.bool false,.ints .u64 29 (fun _=>0),.int .u64 0],.nilp,.agg [.agg [],.agg [],.int .i64 0]],67,536,.st [(0,65,true),(65,1,false),(66,1,true)],none⟩),(84,⟨.nils,1,24,.sc (.slice 5),none⟩),(86,⟨.agg [.nils,.nils,.int .i64 0],3,56,.st [(0,1,false),(1,1,false),(2,1,false)],none⟩),(87,⟨.arr 3 4 (fun _=>.agg [.nils,.nils,.int .i64 0]),12,224,.ar 4 86 3 true,none⟩),(89,⟨.agg [.nilp,.agg [.agg [],.agg [],.int .u64 0],.int .u64 0,.arr 3 4 (fun _=>.agg [.nils,.nils,.int .i64 0])],15,248,.st [(0,1,false),(1,1,true),(2,1,false),(3,12,true)],none⟩),(95,⟨.agg [.int .u64 0,.int .u64 0],2,16,.st [(0,1,false),(1,1,false)],some (.st [(0,1,false,.it .u64),(1,1,false,.it .u64)])⟩),(114,⟨.nilp,1,8,.sc (.pointer 86),none⟩),(129,⟨.agg [.nils],1,24,.st [(0,1,false)],none⟩),(198,⟨.ints .u32 6 (fun _=>0),6,24,.ar 6 43 1 false,some (.ar 6 1 (.it .u32))⟩),(199,⟨.ints .u32 2 (fun _=>0),2,8,.ar 2 43 1 false,some (.ar 2 1 (.it .u32))⟩),(200,⟨.arr 2 3 (fun _=>.ints .u32 2 (fun _=>0)),6,24,.ar 3 199 2 true,none⟩),(201,⟨.arr 2 4 (fun _=>.ints .u32 2 (fun _=>0)),8,32,.ar 4 199 2 true,none⟩),(202,⟨.arr 2 10 (fun _=>.ints .u32 2 (fun _=>0)),20,80,.ar 10 199 2 true,none⟩),(203,⟨.arr 2 5 (fun _=>.ints .u32 2 (fun _=>0)),10,40,.ar 5 199 2 true,none⟩),(204,⟨.ints .u32 3 (fun _=>0),3,12,.ar 3 43 1 false,some (.ar 3 1 (.it .u32))⟩)]
theorem PT_T19_ok : Prg Tryz.prog PT_T19:=⟨(.cons pe_2 (.cons pe_3 (.cons pe_4 (.cons pe_5 (.cons pe_9 (.cons pe_22 (.cons pe_24 (.cons pe_26 (.cons pe_31 (.cons pe_36 (.cons pe_37 (.cons pe_43 (.cons pe_45 (.cons pe_47 (.cons pe_52 (.cons pe_54 (.cons pe_60 (.cons pe_61 (.cons pe_65 (.cons pe_66 (.cons pe_68 (.cons pe_81 (.cons pe_84 (.cons pe_86 (.cons pe_87 (.cons pe_89 (.cons pe_95 (.cons pe_114 (.cons pe_129 (.cons pe_198 (.cons pe_199 (.cons pe_200 (.cons pe_201 (.cons pe_202 (.cons pe_203 (.cons pe_204 (TEok.nil _))))))))))))))))))))))))))))))))))))),by kernel_rfl⟩
noncomputable abbrev B_z7t {α:Type}:FF α:=byBody PT_T19 [] ⟨1,[]⟩ Tryz.f59
theorem cB_z7t {α:Type} {I:Imm}:OrcOk (α:=α) Tryz.prog I 59 (.full (B_z7t )):=orc_body PT_T19_ok (OOk.nil) ⟨1,[]⟩ Tryz.func59 (by kernel_rfl) (by kernel_rfl) (by kernel_rfl)
noncomputable abbrev PO_z1o {α:Type}:ORC α:=[(59,.full (B_z7t ))]
theorem ok_z1o {α:Type}  (x0:Int) (k:Bool→Bool→Bool→Bool→Bool→R α):bodyL PT_T19 (PO_z1o ) [] ⟨1,[]⟩ Tryz.f115 [(.int .i64 x0)] emp (fun v _=>dR_ref3_Parts v k)=p_z1o  x0 k:=by kernel_rfl
theorem mk_z1o {α:Type} {I:Imm}:OrcOk (α:=α) Tryz.prog I 115 (.pure (ad_z1o (p_z1o ))):=by
  refine orc_pureK PT_T19_ok (O:=PO_z1o ) (OOk.cons (cB_z7t ) (OOk.nil)) (L:=[]) ⟨1,[]⟩ Tryz.func115 (by kernel_rfl) (by kernel_rfl) (by kernel_rfl) FLOk.nil ?_
  intro args k r hk
  unfold ad_z1o at hk
  split at hk<;>try (cases hk; done)
  obtain ⟨x0,rfl,hk0⟩:=decI_spec hk
  have hkz:=hk0
  refine ⟨by simp [Ids,Idss],fun v=>dR_ref3_Parts v (fun r0 r1 r2 r3 r4=>k (.tuple [(.bool r0),(.bool r1),(.bool r2),(.bool r3),(.bool r4)])),?_,fun v hv=>?_⟩
  · rw [ok_z1o]; exact hkz
  · obtain ⟨r0,r1,r2,r3,r4,rfl,hv1⟩:=dR_ref3_Parts_spec hv; exact ⟨hv1,by simp [Ids,Idss]⟩
noncomputable abbrev PO_z1l {α:Type}:ORC α:=[]
theorem ok_z1l {α:Type}  (x0:Int) (x1:Bool) (k:Bool→R α):bodyL PT_T19 (PO_z1l ) [] ⟨1,[]⟩ Tryz.f116 [(.int .i64 x0),(.bool x1)] emp (fun v _=>dR_ref3_reg v k)=p_z1l  x0 x1 k:=by kernel_rfl
theorem mk_z1l {α:Type} {I:Imm}:OrcOk (α:=α) Tryz.prog I 116 (.pure (ad_z1l (p_z1l ))):=by
  refine orc_pureK PT_T19_ok (O:=PO_z1l ) (OOk.nil) (L:=[]) ⟨1,[]⟩ Tryz.func116 (by kernel_rfl) (by kernel_rfl) (by kernel_rfl) FLOk.nil ?_
  intro args k r hk
  unfold ad_z1l at hk
  split at hk<;>try (cases hk; done)
  obtain ⟨x0,rfl,hk0⟩:=decI_spec hk
  obtain ⟨x1,rfl,hk1⟩:=decB_spec hk0
  have hkz:=hk1
  refine ⟨by simp [Ids,Idss],fun v=>dR_ref3_reg v (fun r0=>k (.bool r0)),?_,fun v hv=>?_⟩
  · rw [ok_z1l]; exact hkz
  · obtain ⟨r0,rfl,hv1⟩:=dR_ref3_reg_spec hv; exact ⟨hv1,by simp [Ids,Idss]⟩
noncomputable abbrev PO_zy {α:Type}:ORC α:=[]
theorem ok_zy {α:Type}  (x0:Int) (x1:Int) (x2:Int) (x3:Int) (k:Bool→R α):bodyL PT_T19 (PO_zy ) [] ⟨1,[]⟩ Tryz.f178 [(.int .i64 x0),(.int .i64 x1),(.int .i64 x2),(.int .i64 x3)] emp (fun v _=>dR_ref3_within v k)=p_zy  x0 x1 x2 x3 k:=by kernel_rfl
theorem mk_zy {α:Type} {I:Imm}:OrcOk (α:=α) Tryz.prog I 178 (.pure (ad_zy (p_zy ))):=by
  refine orc_pureK PT_T19_ok (O:=PO_zy ) (OOk.nil) (L:=[]) ⟨1,[]⟩ Tryz.func178 (by kernel_rfl) (by kernel_rfl) (by kernel_rfl) FLOk.nil ?_
  intro args k r hk
  unfold ad_zy at hk
  split at hk<;>try (cases hk; done)
  obtain ⟨x0,rfl,hk0⟩:=decI_spec hk
  obtain ⟨x1,rfl,hk1⟩:=decI_spec hk0
  obtain ⟨x2,rfl,hk2⟩:=decI_spec hk1
  obtain ⟨x3,rfl,hk3⟩:=decI_spec hk2
  have hkz:=hk3
  refine ⟨by simp [Ids,Idss],fun v=>dR_ref3_within v (fun r0=>k (.bool r0)),?_,fun v hv=>?_⟩
  · rw [ok_zy]; exact hkz
  · obtain ⟨r0,rfl,hv1⟩:=dR_ref3_within_spec hv; exact ⟨hv1,by simp [Ids,Idss]⟩
noncomputable abbrev B_z7u {α:Type} (F_zy:Sg_zy α):FF α:=byBody PT_T19 [] ⟨1,[]⟩ Tryz.f59
theorem cB_z7u {α:Type} {I:Imm} {F_zy:Sg_zy α} (h_zy:OrcOk (α:=α) Tryz.prog I 178 (.pure (ad_zy F_zy))):OrcOk (α:=α) Tryz.prog I 59 (.full (B_z7u F_zy)):=orc_body PT_T19_ok (OOk.nil) ⟨1,[]⟩ Tryz.func59 (by kernel_rfl) (by kernel_rfl) (by kernel_rfl)
noncomputable abbrev PO_z1m {α:Type} (F_zy:Sg_zy α):ORC α:=[(178,.pure (ad_zy F_zy)),(59,.full (B_z7u F_zy))]
theorem ok_z1m {α:Type} (F_zy:Sg_zy α) (x0:GInsn) (k:Bool→R α):bodyL PT_T19 (PO_z1m F_zy) [] ⟨1,[]⟩ Tryz.f117 [(GInsn.sv x0)] emp (fun v _=>dR_ref3_number v k)=p_z1m F_zy x0 k:=by kernel_rfl
theorem mk_z1m {α:Type} {I:Imm} {F_zy:Sg_zy α} (h_zy:OrcOk (α:=α) Tryz.prog I 178 (.pure (ad_zy F_zy))):OrcOk (α:=α) Tryz.prog I 117 (.pure (ad_z1m (p_z1m F_zy))):=by
  refine orc_pureK PT_T19_ok (O:=PO_z1m F_zy) (OOk.cons h_zy (OOk.cons (cB_z7u h_zy) (OOk.nil))) (L:=[]) ⟨1,[]⟩ Tryz.func117 (by kernel_rfl) (by kernel_rfl) (by kernel_rfl) FLOk.nil ?_
  intro args k r hk
  unfold ad_z1m at hk
  split at hk<;>try (cases hk; done)
  obtain ⟨x0,rfl,hk0⟩:=GInsn.dec_spec hk
  have hkz:=hk0
  refine ⟨by simp [Ids,Idss],fun v=>dR_ref3_number v (fun r0=>k (.bool r0)),?_,fun v hv=>?_⟩
  · rw [ok_z1m]; exact hkz
  · obtain ⟨r0,rfl,hv1⟩:=dR_ref3_number_spec hv; exact ⟨hv1,by simp [Ids,Idss]⟩
noncomputable abbrev B_z7v {α:Type} (F_z1o:Sg_z1o α) (F_z1l:Sg_z1l α) (F_z1m:Sg_z1m α):FF α:=byBody PT_T19 [] ⟨1,[]⟩ Tryz.f59
theorem cB_z7v {α:Type} {I:Imm} {F_z1o:Sg_z1o α} {F_z1l:Sg_z1l α} {F_z1m:Sg_z1m α} (h_z1o:OrcOk (α:=α) Tryz.prog I 115 (.pure (ad_z1o F_z1o))) (h_z1l:OrcOk (α:=α) Tryz.prog I 116 (.pure (ad_z1l F_z1l))) (h_z1m:OrcOk (α:=α) Tryz.prog I 117 (.pure (ad_z1m F_z1m))):OrcOk (α:=α) Tryz.prog I 59 (.full (B_z7v F_z1o F_z1l F_z1m)):=orc_body PT_T19_ok (OOk.nil) ⟨1,[]⟩ Tryz.func59 (by kernel_rfl) (by kernel_rfl) (by kernel_rfl)
noncomputable abbrev PO_z21 {α:Type} (F_z1o:Sg_z1o α) (F_z1l:Sg_z1l α) (F_z1m:Sg_z1m α):ORC α:=[(59,.full (B_z7v F_z1o F_z1l F_z1m)),(115,.pure (ad_z1o F_z1o)),(116,.pure (ad_z1l F_z1l)),(117,.pure (ad_z1m F_z1m))]
theorem ok_z21 {α:Type} (F_z1o:Sg_z1o α) (F_z1l:Sg_z1l α) (F_z1m:Sg_z1m α) (x0:GInsn) (k:Bool→R α):bodyL PT_T19 (PO_z21 F_z1o F_z1l F_z1m) [] ⟨1,[]⟩ Tryz.f71 [(GInsn.sv x0)] emp (fun v _=>dR_ref3_Is v k)=p_z21 F_z1o F_z1l F_z1m x0 k:=by kernel_rfl
theorem mk_z21 {α:Type} {I:Imm} {F_z1o:Sg_z1o α} {F_z1l:Sg_z1l α} {F_z1m:Sg_z1m α} (h_z1o:OrcOk (α:=α) Tryz.prog I 115 (.pure (ad_z1o F_z1o))) (h_z1l:OrcOk (α:=α) Tryz.prog I 116 (.pure (ad_z1l F_z1l))) (h_z1m:OrcOk (α:=α) Tryz.prog I 117 (.pure (ad_z1m F_z1m))):OrcOk (α:=α) Tryz.prog I 71 (.pure (ad_z21 (p_z21 F_z1o F_z1l F_z1m))):=by
  refine orc_pureK PT_T19_ok (O:=PO_z21 F_z1o F_z1l F_z1m) (OOk.cons (cB_z7v h_z1o h_z1l h_z1m) (OOk.cons h_z1o (OOk.cons h_z1l (OOk.cons h_z1m (OOk.nil))))) (L:=[]) ⟨1,[]⟩ Tryz.func71 (by kernel_rfl) (by kernel_rfl) (by kernel_rfl) FLOk.nil ?_
  intro args k r hk
  unfold ad_z21 at hk
  split at hk<;>try (cases hk; done)
  obtain ⟨x0,rfl,hk0⟩:=GInsn.dec_spec hk
  have hkz:=hk0
  refine ⟨by simp [Ids,Idss],fun v=>dR_ref3_Is v (fun r0=>k (.bool r0)),?_,fun v hv=>?_⟩
  · rw [ok_z21]; exact hkz
  · obtain ⟨r0,rfl,hv1⟩:=dR_ref3_Is_spec hv; exact ⟨hv1,by simp [Ids,Idss]⟩
noncomputable abbrev PO_z1y {α:Type}:ORC α:=[]
theorem ok_z1y {α:Type}  (x0:Int) (k:Int→R α):bodyL PT_T19 (PO_z1y ) [] ⟨1,[]⟩ Tryz.f72 [(.int .i64 x0)] emp (fun v _=>dR_ref3_fixed v k)=p_z1y  x0 k:=by kernel_rfl
theorem mk_z1y {α:Type} {I:Imm}:OrcOk (α:=α) Tryz.prog I 72 (.pure (ad_z1y (p_z1y ))):=by
  refine orc_pureK PT_T19_ok (O:=PO_z1y ) (OOk.nil) (L:=[]) ⟨1,[]⟩ Tryz.func72 (by kernel_rfl) (by kernel_rfl) (by kernel_rfl) FLOk.nil ?_
  intro args k r hk
  unfold ad_z1y at hk
  split at hk<;>try (cases hk; done)
  obtain ⟨x0,rfl,hk0⟩:=decI_spec hk
  have hkz:=hk0
  refine ⟨by simp [Ids,Idss],fun v=>dR_ref3_fixed v (fun r0=>k (.int .u32 r0)),?_,fun v hv=>?_⟩
  · rw [ok_z1y]; exact hkz
  · obtain ⟨r0,rfl,hv1⟩:=dR_ref3_fixed_spec hv; exact ⟨hv1,by simp [Ids,Idss]⟩
noncomputable abbrev B_z7w {α:Type}:FF α:=byBody PT_T19 [] ⟨1,[]⟩ Tryz.f59
theorem cB_z7w {α:Type} {I:Imm}:OrcOk (α:=α) Tryz.prog I 59 (.full (B_z7w )):=orc_body PT_T19_ok (OOk.nil) ⟨1,[]⟩ Tryz.func59 (by kernel_rfl) (by kernel_rfl) (by kernel_rfl)
noncomputable abbrev PO_zl {α:Type}:ORC α:=[(59,.full (B_z7w ))]
theorem ok_z5s {α:Type}    (k:Int→Int→Int→R α):bodyL PT_T19 (PO_zl ) [] ⟨1,[]⟩ Tryz.f73 [(.int .i64 1)] emp (fun v _=>dR_ref3_Code v k)=p_z5s   k:=by kernel_rfl
theorem ok_z5t {α:Type}    (k:Int→Int→Int→R α):bodyL PT_T19 (PO_zl ) [] ⟨1,[]⟩ Tryz.f73 [(.int .i64 2)] emp (fun v _=>dR_ref3_Code v k)=p_z5t   k:=by kernel_rfl
theorem ok_z5u {α:Type}    (k:Int→Int→Int→R α):bodyL PT_T19 (PO_zl ) [] ⟨1,[]⟩ Tryz.f73 [(.int .i64 3)] emp (fun v _=>dR_ref3_Code v k)=p_z5u   k:=by kernel_rfl
theorem ok_z5v {α:Type}    (k:Int→Int→Int→R α):bodyL PT_T19 (PO_zl ) [] ⟨1,[]⟩ Tryz.f73 [(.int .i64 4)] emp (fun v _=>dR_ref3_Code v k)=p_z5v   k:=by kernel_rfl
theorem ok_z5w {α:Type}    (k:Int→Int→Int→R α):bodyL PT_T19 (PO_zl ) [] ⟨1,[]⟩ Tryz.f73 [(.int .i64 5)] emp (fun v _=>dR_ref3_Code v k)=p_z5w   k:=by kernel_rfl
theorem ok_z5x {α:Type}    (k:Int→Int→Int→R α):bodyL PT_T19 (PO_zl ) [] ⟨1,[]⟩ Tryz.f73 [(.int .i64 6)] emp (fun v _=>dR_ref3_Code v k)=p_z5x   k:=by kernel_rfl
theorem ok_z5y {α:Type}    (k:Int→Int→Int→R α):bodyL PT_T19 (PO_zl ) [] ⟨1,[]⟩ Tryz.f73 [(.int .i64 7)] emp (fun v _=>dR_ref3_Code v k)=p_z5y   k:=by kernel_rfl
theorem ok_z5z {α:Type}    (k:Int→Int→Int→R α):bodyL PT_T19 (PO_zl ) [] ⟨1,[]⟩ Tryz.f73 [(.int .i64 8)] emp (fun v _=>dR_ref3_Code v k)=p_z5z   k:=by kernel_rfl
theorem ok_z60 {α:Type}    (k:Int→Int→Int→R α):bodyL PT_T19 (PO_zl ) [] ⟨1,[]⟩ Tryz.f73 [(.int .i64 9)] emp (fun v _=>dR_ref3_Code v k)=p_z60   k:=by kernel_rfl
theorem ok_z61 {α:Type}    (k:Int→Int→Int→R α):bodyL PT_T19 (PO_zl ) [] ⟨1,[]⟩ Tryz.f73 [(.int .i64 10)] emp (fun v _=>dR_ref3_Code v k)=p_z61   k:=by kernel_rfl
theorem ok_z62 {α:Type}    (k:Int→Int→Int→R α):bodyL PT_T19 (PO_zl ) [] ⟨1,[]⟩ Tryz.f73 [(.int .i64 11)] emp (fun v _=>dR_ref3_Code v k)=p_z62   k:=by kernel_rfl
theorem ok_z63 {α:Type}    (k:Int→Int→Int→R α):bodyL PT_T19 (PO_zl ) [] ⟨1,[]⟩ Tryz.f73 [(.int .i64 12)] emp (fun v _=>dR_ref3_Code v k)=p_z63   k:=by kernel_rfl
theorem ok_z64 {α:Type}    (k:Int→Int→Int→R α):bodyL PT_T19 (PO_zl ) [] ⟨1,[]⟩ Tryz.f73 [(.int .i64 13)] emp (fun v _=>dR_ref3_Code v k)=p_z64   k:=by kernel_rfl
theorem ok_z65 {α:Type}    (k:Int→Int→Int→R α):bodyL PT_T19 (PO_zl ) [] ⟨1,[]⟩ Tryz.f73 [(.int .i64 14)] emp (fun v _=>dR_ref3_Code v k)=p_z65   k:=by kernel_rfl
theorem ok_z66 {α:Type}    (k:Int→Int→Int→R α):bodyL PT_T19 (PO_zl ) [] ⟨1,[]⟩ Tryz.f73 [(.int .i64 15)] emp (fun v _=>dR_ref3_Code v k)=p_z66   k:=by kernel_rfl
theorem ok_z67 {α:Type}    (k:Int→Int→Int→R α):bodyL PT_T19 (PO_zl ) [] ⟨1,[]⟩ Tryz.f73 [(.int .i64 16)] emp (fun v _=>dR_ref3_Code v k)=p_z67   k:=by kernel_rfl
theorem ok_z68 {α:Type}    (k:Int→Int→Int→R α):bodyL PT_T19 (PO_zl ) [] ⟨1,[]⟩ Tryz.f73 [(.int .i64 17)] emp (fun v _=>dR_ref3_Code v k)=p_z68   k:=by kernel_rfl
theorem ok_z69 {α:Type}    (k:Int→Int→Int→R α):bodyL PT_T19 (PO_zl ) [] ⟨1,[]⟩ Tryz.f73 [(.int .i64 18)] emp (fun v _=>dR_ref3_Code v k)=p_z69   k:=by kernel_rfl
theorem ok_z6a {α:Type}    (k:Int→Int→Int→R α):bodyL PT_T19 (PO_zl ) [] ⟨1,[]⟩ Tryz.f73 [(.int .i64 19)] emp (fun v _=>dR_ref3_Code v k)=p_z6a   k:=by kernel_rfl
theorem ok_z6b {α:Type}    (k:Int→Int→Int→R α):bodyL PT_T19 (PO_zl ) [] ⟨1,[]⟩ Tryz.f73 [(.int .i64 20)] emp (fun v _=>dR_ref3_Code v k)=p_z6b   k:=by kernel_rfl
theorem ok_z6c {α:Type}    (k:Int→Int→Int→R α):bodyL PT_T19 (PO_zl ) [] ⟨1,[]⟩ Tryz.f73 [(.int .i64 21)] emp (fun v _=>dR_ref3_Code v k)=p_z6c   k:=by kernel_rfl
theorem ok_z6d {α:Type}    (k:Int→Int→Int→R α):bodyL PT_T19 (PO_zl ) [] ⟨1,[]⟩ Tryz.f73 [(.int .i64 22)] emp (fun v _=>dR_ref3_Code v k)=p_z6d   k:=by kernel_rfl
theorem ok_z6e {α:Type}    (k:Int→Int→Int→R α):bodyL PT_T19 (PO_zl ) [] ⟨1,[]⟩ Tryz.f73 [(.int .i64 23)] emp (fun v _=>dR_ref3_Code v k)=p_z6e   k:=by kernel_rfl
theorem ok_z6f {α:Type}    (k:Int→Int→Int→R α):bodyL PT_T19 (PO_zl ) [] ⟨1,[]⟩ Tryz.f73 [(.int .i64 24)] emp (fun v _=>dR_ref3_Code v k)=p_z6f   k:=by kernel_rfl
theorem ok_z6g {α:Type}    (k:Int→Int→Int→R α):bodyL PT_T19 (PO_zl ) [] ⟨1,[]⟩ Tryz.f73 [(.int .i64 25)] emp (fun v _=>dR_ref3_Code v k)=p_z6g   k:=by kernel_rfl
theorem ok_z6h {α:Type}    (k:Int→Int→Int→R α):bodyL PT_T19 (PO_zl ) [] ⟨1,[]⟩ Tryz.f73 [(.int .i64 26)] emp (fun v _=>dR_ref3_Code v k)=p_z6h   k:=by kernel_rfl
theorem ok_z6i {α:Type}    (k:Int→Int→Int→R α):bodyL PT_T19 (PO_zl ) [] ⟨1,[]⟩ Tryz.f73 [(.int .i64 27)] emp (fun v _=>dR_ref3_Code v k)=p_z6i   k:=by kernel_rfl
theorem ok_z6j {α:Type}    (k:Int→Int→Int→R α):bodyL PT_T19 (PO_zl ) [] ⟨1,[]⟩ Tryz.f73 [(.int .i64 28)] emp (fun v _=>dR_ref3_Code v k)=p_z6j   k:=by kernel_rfl
theorem ok_z6k {α:Type}    (k:Int→Int→Int→R α):bodyL PT_T19 (PO_zl ) [] ⟨1,[]⟩ Tryz.f73 [(.int .i64 29)] emp (fun v _=>dR_ref3_Code v k)=p_z6k   k:=by kernel_rfl
theorem ok_z6l {α:Type}    (k:Int→Int→Int→R α):bodyL PT_T19 (PO_zl ) [] ⟨1,[]⟩ Tryz.f73 [(.int .i64 30)] emp (fun v _=>dR_ref3_Code v k)=p_z6l   k:=by kernel_rfl
theorem ok_z6m {α:Type}    (k:Int→Int→Int→R α):bodyL PT_T19 (PO_zl ) [] ⟨1,[]⟩ Tryz.f73 [(.int .i64 31)] emp (fun v _=>dR_ref3_Code v k)=p_z6m   k:=by kernel_rfl
theorem ok_z6n {α:Type}    (k:Int→Int→Int→R α):bodyL PT_T19 (PO_zl ) [] ⟨1,[]⟩ Tryz.f73 [(.int .i64 32)] emp (fun v _=>dR_ref3_Code v k)=p_z6n   k:=by kernel_rfl
theorem ok_z6o {α:Type}    (k:Int→Int→Int→R α):bodyL PT_T19 (PO_zl ) [] ⟨1,[]⟩ Tryz.f73 [(.int .i64 33)] emp (fun v _=>dR_ref3_Code v k)=p_z6o   k:=by kernel_rfl
theorem ok_z6p {α:Type}    (k:Int→Int→Int→R α):bodyL PT_T19 (PO_zl ) [] ⟨1,[]⟩ Tryz.f73 [(.int .i64 34)] emp (fun v _=>dR_ref3_Code v k)=p_z6p   k:=by kernel_rfl
theorem ok_z6q {α:Type}    (k:Int→Int→Int→R α):bodyL PT_T19 (PO_zl ) [] ⟨1,[]⟩ Tryz.f73 [(.int .i64 35)] emp (fun v _=>dR_ref3_Code v k)=p_z6q   k:=by kernel_rfl
theorem ok_z6r {α:Type}    (k:Int→Int→Int→R α):bodyL PT_T19 (PO_zl ) [] ⟨1,[]⟩ Tryz.f73 [(.int .i64 36)] emp (fun v _=>dR_ref3_Code v k)=p_z6r   k:=by kernel_rfl
theorem ok_z6s {α:Type}    (k:Int→Int→Int→R α):bodyL PT_T19 (PO_zl ) [] ⟨1,[]⟩ Tryz.f73 [(.int .i64 37)] emp (fun v _=>dR_ref3_Code v k)=p_z6s   k:=by kernel_rfl
theorem ok_z6t {α:Type}    (k:Int→Int→Int→R α):bodyL PT_T19 (PO_zl ) [] ⟨1,[]⟩ Tryz.f73 [(.int .i64 38)] emp (fun v _=>dR_ref3_Code v k)=p_z6t   k:=by kernel_rfl
theorem ok_z6u {α:Type}    (k:Int→Int→Int→R α):bodyL PT_T19 (PO_zl ) [] ⟨1,[]⟩ Tryz.f73 [(.int .i64 39)] emp (fun v _=>dR_ref3_Code v k)=p_z6u   k:=by kernel_rfl
theorem ok_z6v {α:Type}    (k:Int→Int→Int→R α):bodyL PT_T19 (PO_zl ) [] ⟨1,[]⟩ Tryz.f73 [(.int .i64 40)] emp (fun v _=>dR_ref3_Code v k)=p_z6v   k:=by kernel_rfl
theorem ok_z6w {α:Type}    (k:Int→Int→Int→R α):bodyL PT_T19 (PO_zl ) [] ⟨1,[]⟩ Tryz.f73 [(.int .i64 41)] emp (fun v _=>dR_ref3_Code v k)=p_z6w   k:=by kernel_rfl
theorem ok_z6x {α:Type}    (k:Int→Int→Int→R α):bodyL PT_T19 (PO_zl ) [] ⟨1,[]⟩ Tryz.f73 [(.int .i64 42)] emp (fun v _=>dR_ref3_Code v k)=p_z6x   k:=by kernel_rfl
theorem ok_z6y {α:Type}    (k:Int→Int→Int→R α):bodyL PT_T19 (PO_zl ) [] ⟨1,[]⟩ Tryz.f73 [(.int .i64 43)] emp (fun v _=>dR_ref3_Code v k)=p_z6y   k:=by kernel_rfl
theorem ok_z6z {α:Type}    (k:Int→Int→Int→R α):bodyL PT_T19 (PO_zl ) [] ⟨1,[]⟩ Tryz.f73 [(.int .i64 44)] emp (fun v _=>dR_ref3_Code v k)=p_z6z   k:=by kernel_rfl
theorem ok_z70 {α:Type}    (k:Int→Int→Int→R α):bodyL PT_T19 (PO_zl ) [] ⟨1,[]⟩ Tryz.f73 [(.int .i64 45)] emp (fun v _=>dR_ref3_Code v k)=p_z70   k:=by kernel_rfl
theorem ok_z71 {α:Type}    (k:Int→Int→Int→R α):bodyL PT_T19 (PO_zl ) [] ⟨1,[]⟩ Tryz.f73 [(.int .i64 46)] emp (fun v _=>dR_ref3_Code v k)=p_z71   k:=by kernel_rfl
theorem ok_z72 {α:Type}    (k:Int→Int→Int→R α):bodyL PT_T19 (PO_zl ) [] ⟨1,[]⟩ Tryz.f73 [(.int .i64 47)] emp (fun v _=>dR_ref3_Code v k)=p_z72   k:=by kernel_rfl
theorem ok_z73 {α:Type}    (k:Int→Int→Int→R α):bodyL PT_T19 (PO_zl ) [] ⟨1,[]⟩ Tryz.f73 [(.int .i64 48)] emp (fun v _=>dR_ref3_Code v k)=p_z73   k:=by kernel_rfl
theorem ok_z74 {α:Type}    (k:Int→Int→Int→R α):bodyL PT_T19 (PO_zl ) [] ⟨1,[]⟩ Tryz.f73 [(.int .i64 49)] emp (fun v _=>dR_ref3_Code v k)=p_z74   k:=by kernel_rfl
theorem ok_z75 {α:Type}    (k:Int→Int→Int→R α):bodyL PT_T19 (PO_zl ) [] ⟨1,[]⟩ Tryz.f73 [(.int .i64 50)] emp (fun v _=>dR_ref3_Code v k)=p_z75   k:=by kernel_rfl
theorem ok_z76 {α:Type}    (k:Int→Int→Int→R α):bodyL PT_T19 (PO_zl ) [] ⟨1,[]⟩ Tryz.f73 [(.int .i64 51)] emp (fun v _=>dR_ref3_Code v k)=p_z76   k:=by kernel_rfl
theorem ok_z77 {α:Type}    (k:Int→Int→Int→R α):bodyL PT_T19 (PO_zl ) [] ⟨1,[]⟩ Tryz.f73 [(.int .i64 52)] emp (fun v _=>dR_ref3_Code v k)=p_z77   k:=by kernel_rfl
theorem ok_z78 {α:Type}    (k:Int→Int→Int→R α):bodyL PT_T19 (PO_zl ) [] ⟨1,[]⟩ Tryz.f73 [(.int .i64 53)] emp (fun v _=>dR_ref3_Code v k)=p_z78   k:=by kernel_rfl
theorem ok_z79 {α:Type}    (k:Int→Int→Int→R α):bodyL PT_T19 (PO_zl ) [] ⟨1,[]⟩ Tryz.f73 [(.int .i64 54)] emp (fun v _=>dR_ref3_Code v k)=p_z79   k:=by kernel_rfl
theorem ok_z7a {α:Type}    (k:Int→Int→Int→R α):bodyL PT_T19 (PO_zl ) [] ⟨1,[]⟩ Tryz.f73 [(.int .i64 55)] emp (fun v _=>dR_ref3_Code v k)=p_z7a   k:=by kernel_rfl
theorem ok_z7b {α:Type}    (k:Int→Int→Int→R α):bodyL PT_T19 (PO_zl ) [] ⟨1,[]⟩ Tryz.f73 [(.int .i64 56)] emp (fun v _=>dR_ref3_Code v k)=p_z7b   k:=by kernel_rfl
theorem ok_z7c {α:Type}    (k:Int→Int→Int→R α):bodyL PT_T19 (PO_zl ) [] ⟨1,[]⟩ Tryz.f73 [(.int .i64 57)] emp (fun v _=>dR_ref3_Code v k)=p_z7c   k:=by kernel_rfl
theorem ok_z7d {α:Type}    (k:Int→Int→Int→R α):bodyL PT_T19 (PO_zl ) [] ⟨1,[]⟩ Tryz.f73 [(.int .i64 58)] emp (fun v _=>dR_ref3_Code v k)=p_z7d   k:=by kernel_rfl
theorem ok_z7e {α:Type}    (k:Int→Int→Int→R α):bodyL PT_T19 (PO_zl ) [] ⟨1,[]⟩ Tryz.f73 [(.int .i64 59)] emp (fun v _=>dR_ref3_Code v k)=p_z7e   k:=by kernel_rfl
theorem ok_z7f {α:Type}    (k:Int→Int→Int→R α):bodyL PT_T19 (PO_zl ) [] ⟨1,[]⟩ Tryz.f73 [(.int .i64 60)] emp (fun v _=>dR_ref3_Code v k)=p_z7f   k:=by kernel_rfl
theorem ok_z7g {α:Type}    (k:Int→Int→Int→R α):bodyL PT_T19 (PO_zl ) [] ⟨1,[]⟩ Tryz.f73 [(.int .i64 61)] emp (fun v _=>dR_ref3_Code v k)=p_z7g   k:=by kernel_rfl
theorem ok_z7h {α:Type}    (k:Int→Int→Int→R α):bodyL PT_T19 (PO_zl ) [] ⟨1,[]⟩ Tryz.f73 [(.int .i64 62)] emp (fun v _=>dR_ref3_Code v k)=p_z7h   k:=by kernel_rfl
theorem ok_z7i {α:Type}    (k:Int→Int→Int→R α):bodyL PT_T19 (PO_zl ) [] ⟨1,[]⟩ Tryz.f73 [(.int .i64 63)] emp (fun v _=>dR_ref3_Code v k)=p_z7i   k:=by kernel_rfl
theorem ok_z7j {α:Type}    (k:Int→Int→Int→R α):bodyL PT_T19 (PO_zl ) [] ⟨1,[]⟩ Tryz.f73 [(.int .i64 64)] emp (fun v _=>dR_ref3_Code v k)=p_z7j   k:=by kernel_rfl
theorem ok_z7k {α:Type}    (k:Int→Int→Int→R α):bodyL PT_T19 (PO_zl ) [] ⟨1,[]⟩ Tryz.f73 [(.int .i64 65)] emp (fun v _=>dR_ref3_Code v k)=p_z7k   k:=by kernel_rfl
theorem ok_z7l {α:Type}    (k:Int→Int→Int→R α):bodyL PT_T19 (PO_zl ) [] ⟨1,[]⟩ Tryz.f73 [(.int .i64 66)] emp (fun v _=>dR_ref3_Code v k)=p_z7l   k:=by kernel_rfl
theorem ok_z7m {α:Type}    (k:Int→Int→Int→R α):bodyL PT_T19 (PO_zl ) [] ⟨1,[]⟩ Tryz.f73 [(.int .i64 67)] emp (fun v _=>dR_ref3_Code v k)=p_z7m   k:=by kernel_rfl
theorem ok_z7n {α:Type}    (k:Int→Int→Int→R α):bodyL PT_T19 (PO_zl ) [] ⟨1,[]⟩ Tryz.f73 [(.int .i64 68)] emp (fun v _=>dR_ref3_Code v k)=p_z7n   k:=by kernel_rfl
theorem ok_z7o {α:Type}    (k:Int→Int→Int→R α):bodyL PT_T19 (PO_zl ) [] ⟨1,[]⟩ Tryz.f73 [(.int .i64 69)] emp (fun v _=>dR_ref3_Code v k)=p_z7o   k:=by kernel_rfl
theorem ok_zl {α:Type}   {x0:Int} {k:Int→Int→Int→R α} {r:α} (h:p_zl  x0 k=some r):bodyL PT_T19 (PO_zl ) [] ⟨1,[]⟩ Tryz.f73 [(.int .i64 x0)] emp (fun v _=>dR_ref3_Code v k)=some r:=by
  unfold p_zl at h
  cases e0:(x0==1)
  case true=>rw [e0] at h; simp only [cond_true] at h; rw [beq_iff_eq] at e0; subst e0; exact (ok_z5s    k).trans h
  rw [e0] at h; simp only [cond_false] at h
  cases e1:(x0==2)
  case true=>rw [e1] at h; simp only [cond_true] at h; rw [beq_iff_eq] at e1; subst e1; exact (ok_z5t    k).trans h
  rw [e1] at h; simp only [cond_false] at h
  cases e2:(x0==3)
  case true=>rw [e2] at h; simp only [cond_true] at h; rw [beq_iff_eq] at e2; subst e2; exact (ok_z5u    k).trans h
  rw [e2] at h; simp only [cond_false] at h
  cases e3:(x0==4)
  case true=>rw [e3] at h; simp only [cond_true] at h; rw [beq_iff_eq] at e3; subst e3; exact (ok_z5v    k).trans h
  rw [e3] at h; simp only [cond_false] at h
  cases e4:(x0==5)
  case true=>rw [e4] at h; simp only [cond_true] at h; rw [beq_iff_eq] at e4; subst e4; exact (ok_z5w    k).trans h
  rw [e4] at h; simp only [cond_false] at h
  cases e5:(x0==6)
  case true=>rw [e5] at h; simp only [cond_true] at h; rw [beq_iff_eq] at e5; subst e5; exact (ok_z5x    k).trans h
  rw [e5] at h; simp only [cond_false] at h
  cases e6:(x0==7)
  case true=>rw [e6] at h; simp only [cond_true] at h; rw [beq_iff_eq] at e6; subst e6; exact (ok_z5y    k).trans h
  rw [e6] at h; simp only [cond_false] at h
  cases e7:(x0==8)
  case true=>rw [e7] at h; simp only [cond_true] at h; rw [beq_iff_eq] at e7; subst e7; exact (ok_z5z    k).trans h
  rw [e7] at h; simp only [cond_false] at h
  cases e8:(x0==9)
  case true=>rw [e8] at h; simp only [cond_true] at h; rw [beq_iff_eq] at e8; subst e8; exact (ok_z60    k).trans h
  rw [e8] at h; simp only [cond_false] at h
  cases e9:(x0==10)
  case true=>rw [e9] at h; simp only [cond_true] at h; rw [beq_iff_eq] at e9; subst e9; exact (ok_z61    k).trans h
  rw [e9] at h; simp only [cond_false] at h
  cases e10:(x0==11)
  case true=>rw [e10] at h; simp only [cond_true] at h; rw [beq_iff_eq] at e10; subst e10; exact (ok_z62    k).trans h
  rw [e10] at h; simp only [cond_false] at h
  cases e11:(x0==12)
  case true=>rw [e11] at h; simp only [cond_true] at h; rw [beq_iff_eq] at e11; subst e11; exact (ok_z63    k).trans h
  rw [e11] at h; simp only [cond_false] at h
  cases e12:(x0==13)
  case true=>rw [e12] at h; simp only [cond_true] at h; rw [beq_iff_eq] at e12; subst e12; exact (ok_z64    k).trans h
  rw [e12] at h; simp only [cond_false] at h
  cases e13:(x0==14)
  case true=>rw [e13] at h; simp only [cond_true] at h; rw [beq_iff_eq] at e13; subst e13; exact (ok_z65    k).trans h
  rw [e13] at h; simp only [cond_false] at h
  cases e14:(x0==15)
  case true=>rw [e14] at h; simp only [cond_true] at h; rw [beq_iff_eq] at e14; subst e14; exact (ok_z66    k).trans h
  rw [e14] at h; simp only [cond_false] at h
  cases e15:(x0==16)
  case true=>rw [e15] at h; simp only [cond_true] at h; rw [beq_iff_eq] at e15; subst e15; exact (ok_z67    k).trans h
  rw [e15] at h; simp only [cond_false] at h
  cases e16:(x0==17)
  case true=>rw [e16] at h; simp only [cond_true] at h; rw [beq_iff_eq] at e16; subst e16; exact (ok_z68    k).trans h
  rw [e16] at h; simp only [cond_false] at h
  cases e17:(x0==18)
  case true=>rw [e17] at h; simp only [cond_true] at h; rw [beq_iff_eq] at e17; subst e17; exact (ok_z69    k).trans h
  rw [e17] at h; simp only [cond_false] at h
  cases e18:(x0==19)
  case true=>rw [e18] at h; simp only [cond_true] at h; rw [beq_iff_eq] at e18; subst e18; exact (ok_z6a    k).trans h
  rw [e18] at h; simp only [cond_false] at h
  cases e19:(x0==20)
  case true=>rw [e19] at h; simp only [cond_true] at h; rw [beq_iff_eq] at e19; subst e19; exact (ok_z6b    k).trans h
  rw [e19] at h; simp only [cond_false] at h
  cases e20:(x0==21)
  case true=>rw [e20] at h; simp only [cond_true] at h; rw [beq_iff_eq] at e20; subst e20; exact (ok_z6c    k).trans h
  rw [e20] at h; simp only [cond_false] at h
  cases e21:(x0==22)
  case true=>rw [e21] at h; simp only [cond_true] at h; rw [beq_iff_eq] at e21; subst e21; exact (ok_z6d    k).trans h
  rw [e21] at h; simp only [cond_false] at h
  cases e22:(x0==23)
  case true=>rw [e22] at h; simp only [cond_true] at h; rw [beq_iff_eq] at e22; subst e22; exact (ok_z6e    k).trans h
  rw [e22] at h; simp only [cond_false] at h
  cases e23:(x0==24)
  case true=>rw [e23] at h; simp only [cond_true] at h; rw [beq_iff_eq] at e23; subst e23; exact (ok_z6f    k).trans h
  rw [e23] at h; simp only [cond_false] at h
  cases e24:(x0==25)
  case true=>rw [e24] at h; simp only [cond_true] at h; rw [beq_iff_eq] at e24; subst e24; exact (ok_z6g    k).trans h
  rw [e24] at h; simp only [cond_false] at h
  cases e25:(x0==26)
  case true=>rw [e25] at h; simp only [cond_true] at h; rw [beq_iff_eq] at e25; subst e25; exact (ok_z6h    k).trans h
  rw [e25] at h; simp only [cond_false] at h
  cases e26:(x0==27)
  case true=>rw [e26] at h; simp only [cond_true] at h; rw [beq_iff_eq] at e26; subst e26; exact (ok_z6i    k).trans h
  rw [e26] at h; simp only [cond_false] at h
  cases e27:(x0==28)
  case true=>rw [e27] at h; simp only [cond_true] at h; rw [beq_iff_eq] at e27; subst e27; exact (ok_z6j    k).trans h
  rw [e27] at h; simp only [cond_false] at h
  cases e28:(x0==29)
  case true=>rw [e28] at h; simp only [cond_true] at h; rw [beq_iff_eq] at e28; subst e28; exact (ok_z6k    k).trans h
  rw [e28] at h; simp only [cond_false] at h
  cases e29:(x0==30)
  case true=>rw [e29] at h; simp only [cond_true] at h; rw [beq_iff_eq] at e29; subst e29; exact (ok_z6l    k).trans h
  rw [e29] at h; simp only [cond_false] at h
  cases e30:(x0==31)
  case true=>rw [e30] at h; simp only [cond_true] at h; rw [beq_iff_eq] at e30; subst e30; exact (ok_z6m    k).trans h
  rw [e30] at h; simp only [cond_false] at h
  cases e31:(x0==32)
  case true=>rw [e31] at h; simp only [cond_true] at h; rw [beq_iff_eq] at e31; subst e31; exact (ok_z6n    k).trans h
  rw [e31] at h; simp only [cond_false] at h
  cases e32:(x0==33)
  case true=>rw [e32] at h; simp only [cond_true] at h; rw [beq_iff_eq] at e32; subst e32; exact (ok_z6o    k).trans h
  rw [e32] at h; simp only [cond_false] at h
  cases e33:(x0==34)
  case true=>rw [e33] at h; simp only [cond_true] at h; rw [beq_iff_eq] at e33; subst e33; exact (ok_z6p    k).trans h
  rw [e33] at h; simp only [cond_false] at h
  cases e34:(x0==35)
  case true=>rw [e34] at h; simp only [cond_true] at h; rw [beq_iff_eq] at e34; subst e34; exact (ok_z6q    k).trans h
  rw [e34] at h; simp only [cond_false] at h
  cases e35:(x0==36)
  case true=>rw [e35] at h; simp only [cond_true] at h; rw [beq_iff_eq] at e35; subst e35; exact (ok_z6r    k).trans h
  rw [e35] at h; simp only [cond_false] at h
  cases e36:(x0==37)
  case true=>rw [e36] at h; simp only [cond_true] at h; rw [beq_iff_eq] at e36; subst e36; exact (ok_z6s    k).trans h
  rw [e36] at h; simp only [cond_false] at h
  cases e37:(x0==38)
  case true=>rw [e37] at h; simp only [cond_true] at h; rw [beq_iff_eq] at e37; subst e37; exact (ok_z6t    k).trans h
  rw [e37] at h; simp only [cond_false] at h
  cases e38:(x0==39)
  case true=>rw [e38] at h; simp only [cond_true] at h; rw [beq_iff_eq] at e38; subst e38; exact (ok_z6u    k).trans h
  rw [e38] at h; simp only [cond_false] at h
  cases e39:(x0==40)
  case true=>rw [e39] at h; simp only [cond_true] at h; rw [beq_iff_eq] at e39; subst e39; exact (ok_z6v    k).trans h
  rw [e39] at h; simp only [cond_false] at h
  cases e40:(x0==41)
  case true=>rw [e40] at h; simp only [cond_true] at h; rw [beq_iff_eq] at e40; subst e40; exact (ok_z6w    k).trans h
  rw [e40] at h; simp only [cond_false] at h
  cases e41:(x0==42)
  case true=>rw [e41] at h; simp only [cond_true] at h; rw [beq_iff_eq] at e41; subst e41; exact (ok_z6x    k).trans h
  rw [e41] at h; simp only [cond_false] at h
  cases e42:(x0==43)
  case true=>rw [e42] at h; simp only [cond_true] at h; rw [beq_iff_eq] at e42; subst e42; exact (ok_z6y    k).trans h
  rw [e42] at h; simp only [cond_false] at h
  cases e43:(x0==44)
  case true=>rw [e43] at h; simp only [cond_true] at h; rw [beq_iff_eq] at e43; subst e43; exact (ok_z6z    k).trans h
  rw [e43] at h; simp only [cond_false] at h
  cases e44:(x0==45)
  case true=>rw [e44] at h; simp only [cond_true] at h; rw [beq_iff_eq] at e44; subst e44; exact (ok_z70    k).trans h
  rw [e44] at h; simp only [cond_false] at h
  cases e45:(x0==46)
  case true=>rw [e45] at h; simp only [cond_true] at h; rw [beq_iff_eq] at e45; subst e45; exact (ok_z71    k).trans h
  rw [e45] at h; simp only [cond_false] at h
  cases e46:(x0==47)
  case true=>rw [e46] at h; simp only [cond_true] at h; rw [beq_iff_eq] at e46; subst e46; exact (ok_z72    k).trans h
  rw [e46] at h; simp only [cond_false] at h
  cases e47:(x0==48)
  case true=>rw [e47] at h; simp only [cond_true] at h; rw [beq_iff_eq] at e47; subst e47; exact (ok_z73    k).trans h
  rw [e47] at h; simp only [cond_false] at h
  cases e48:(x0==49)
  case true=>rw [e48] at h; simp only [cond_true] at h; rw [beq_iff_eq] at e48; subst e48; exact (ok_z74    k).trans h
  rw [e48] at h; simp only [cond_false] at h
  cases e49:(x0==50)
  case true=>rw [e49] at h; simp only [cond_true] at h; rw [beq_iff_eq] at e49; subst e49; exact (ok_z75    k).trans h
  rw [e49] at h; simp only [cond_false] at h
  cases e50:(x0==51)
  case true=>rw [e50] at h; simp only [cond_true] at h; rw [beq_iff_eq] at e50; subst e50; exact (ok_z76    k).trans h
  rw [e50] at h; simp only [cond_false] at h
  cases e51:(x0==52)
  case true=>rw [e51] at h; simp only [cond_true] at h; rw [beq_iff_eq] at e51; subst e51; exact (ok_z77    k).trans h
  rw [e51] at h; simp only [cond_false] at h
  cases e52:(x0==53)
  case true=>rw [e52] at h; simp only [cond_true] at h; rw [beq_iff_eq] at e52; subst e52; exact (ok_z78    k).trans h
  rw [e52] at h; simp only [cond_false] at h
  cases e53:(x0==54)
  case true=>rw [e53] at h; simp only [cond_true] at h; rw [beq_iff_eq] at e53; subst e53; exact (ok_z79    k).trans h
  rw [e53] at h; simp only [cond_false] at h
  cases e54:(x0==55)
  case true=>rw [e54] at h; simp only [cond_true] at h; rw [beq_iff_eq] at e54; subst e54; exact (ok_z7a    k).trans h
  rw [e54] at h; simp only [cond_false] at h
  cases e55:(x0==56)
  case true=>rw [e55] at h; simp only [cond_true] at h; rw [beq_iff_eq] at e55; subst e55; exact (ok_z7b    k).trans h
  rw [e55] at h; simp only [cond_false] at h
  cases e56:(x0==57)
  case true=>rw [e56] at h; simp only [cond_true] at h; rw [beq_iff_eq] at e56; subst e56; exact (ok_z7c    k).trans h
  rw [e56] at h; simp only [cond_false] at h
  cases e57:(x0==58)
  case true=>rw [e57] at h; simp only [cond_true] at h; rw [beq_iff_eq] at e57; subst e57; exact (ok_z7d    k).trans h
  rw [e57] at h; simp only [cond_false] at h
  cases e58:(x0==59)
  case true=>rw [e58] at h; simp only [cond_true] at h; rw [beq_iff_eq] at e58; subst e58; exact (ok_z7e    k).trans h
  rw [e58] at h; simp only [cond_false] at h
  cases e59:(x0==60)
  case true=>rw [e59] at h; simp only [cond_true] at h; rw [beq_iff_eq] at e59; subst e59; exact (ok_z7f    k).trans h
  rw [e59] at h; simp only [cond_false] at h
  cases e60:(x0==61)
  case true=>rw [e60] at h; simp only [cond_true] at h; rw [beq_iff_eq] at e60; subst e60; exact (ok_z7g    k).trans h
  rw [e60] at h; simp only [cond_false] at h
  cases e61:(x0==62)
  case true=>rw [e61] at h; simp only [cond_true] at h; rw [beq_iff_eq] at e61; subst e61; exact (ok_z7h    k).trans h
  rw [e61] at h; simp only [cond_false] at h
  cases e62:(x0==63)
  case true=>rw [e62] at h; simp only [cond_true] at h; rw [beq_iff_eq] at e62; subst e62; exact (ok_z7i    k).trans h
  rw [e62] at h; simp only [cond_false] at h
  cases e63:(x0==64)
  case true=>rw [e63] at h; simp only [cond_true] at h; rw [beq_iff_eq] at e63; subst e63; exact (ok_z7j    k).trans h
  rw [e63] at h; simp only [cond_false] at h
  cases e64:(x0==65)
  case true=>rw [e64] at h; simp only [cond_true] at h; rw [beq_iff_eq] at e64; subst e64; exact (ok_z7k    k).trans h
  rw [e64] at h; simp only [cond_false] at h
  cases e65:(x0==66)
  case true=>rw [e65] at h; simp only [cond_true] at h; rw [beq_iff_eq] at e65; subst e65; exact (ok_z7l    k).trans h
  rw [e65] at h; simp only [cond_false] at h
  cases e66:(x0==67)
  case true=>rw [e66] at h; simp only [cond_true] at h; rw [beq_iff_eq] at e66; subst e66; exact (ok_z7m    k).trans h
  rw [e66] at h; simp only [cond_false] at h
  cases e67:(x0==68)
  case true=>rw [e67] at h; simp only [cond_true] at h; rw [beq_iff_eq] at e67; subst e67; exact (ok_z7n    k).trans h
  rw [e67] at h; simp only [cond_false] at h
  cases e68:(x0==69)
  case true=>rw [e68] at h; simp only [cond_true] at h; rw [beq_iff_eq] at e68; subst e68; exact (ok_z7o    k).trans h
  rw [e68] at h; simp only [cond_false] at h
  cases h
theorem mk_zl {α:Type} {I:Imm}:OrcOk (α:=α) Tryz.prog I 73 (.pure (ad_zl (p_zl ))):=by
  refine orc_pureK PT_T19_ok (O:=PO_zl ) (OOk.cons (cB_z7w ) (OOk.nil)) (L:=[]) ⟨1,[]⟩ Tryz.func73 (by kernel_rfl) (by kernel_rfl) (by kernel_rfl) FLOk.nil ?_
  intro args k r hk
  unfold ad_zl at hk
  split at hk<;>try (cases hk; done)
  obtain ⟨x0,rfl,hk0⟩:=decI_spec hk
  have hkz:=hk0
  refine ⟨by simp [Ids,Idss],fun v=>dR_ref3_Code v (fun r0 r1 r2=>k (.tuple [(.int .u32 r0),(.int .u32 r1),(.int .u32 r2)])),?_,fun v hv=>?_⟩
  · exact ok_zl hkz
  · obtain ⟨r0,r1,r2,rfl,hv1⟩:=dR_ref3_Code_spec hv; exact ⟨hv1,by simp [Ids,Idss]⟩
noncomputable abbrev B_z7x {α:Type} (F_z21:Sg_z21 α) (F_z1y:Sg_z1y α) (F_zl:Sg_zl α):FF α:=byBody PT_T19 [] ⟨1,[]⟩ Tryz.f59
theorem cB_z7x {α:Type} {I:Imm} {F_z21:Sg_z21 α} {F_z1y:Sg_z1y α} {F_zl:Sg_zl α} (h_z21:OrcOk (α:=α) Tryz.prog I 71 (.pure (ad_z21 F_z21))) (h_z1y:OrcOk (α:=α) Tryz.prog I 72 (.pure (ad_z1y F_z1y))) (h_zl:OrcOk (α:=α) Tryz.prog I 73 (.pure (ad_zl F_zl))):OrcOk (α:=α) Tryz.prog I 59 (.full (B_z7x F_z21 F_z1y F_zl)):=orc_body PT_T19_ok (OOk.nil) ⟨1,[]⟩ Tryz.func59 (by kernel_rfl) (by kernel_rfl) (by kernel_rfl)
noncomputable abbrev PO_zc {α:Type} (F_z21:Sg_z21 α) (F_z1y:Sg_z1y α) (F_zl:Sg_zl α):ORC α:=[(71,.pure (ad_z21 F_z21)),(72,.pure (ad_z1y F_z1y)),(73,.pure (ad_zl F_zl)),(59,.full (B_z7x F_z21 F_z1y F_zl))]
theorem ok_zc {α:Type} (F_z21:Sg_z21 α) (F_z1y:Sg_z1y α) (F_zl:Sg_zl α) (x0:GInsn) (k:Int→Bool→R α):bodyL PT_T19 (PO_zc F_z21 F_z1y F_zl) [] ⟨1,[]⟩ Tryz.f37 [(GInsn.sv x0)] emp (fun v _=>dR_ref3_Encode v k)=p_zc F_z21 F_z1y F_zl x0 k:=by kernel_rfl
theorem mk_zc {α:Type} {I:Imm} {F_z21:Sg_z21 α} {F_z1y:Sg_z1y α} {F_zl:Sg_zl α} (h_z21:OrcOk (α:=α) Tryz.prog I 71 (.pure (ad_z21 F_z21))) (h_z1y:OrcOk (α:=α) Tryz.prog I 72 (.pure (ad_z1y F_z1y))) (h_zl:OrcOk (α:=α) Tryz.prog I 73 (.pure (ad_zl F_zl))):OrcOk (α:=α) Tryz.prog I 37 (.pure (ad_zc (p_zc F_z21 F_z1y F_zl))):=by
  refine orc_pureK PT_T19_ok (O:=PO_zc F_z21 F_z1y F_zl) (OOk.cons h_z21 (OOk.cons h_z1y (OOk.cons h_zl (OOk.cons (cB_z7x h_z21 h_z1y h_zl) (OOk.nil))))) (L:=[]) ⟨1,[]⟩ Tryz.func37 (by kernel_rfl) (by kernel_rfl) (by kernel_rfl) FLOk.nil ?_
  intro args k r hk
  unfold ad_zc at hk
  split at hk<;>try (cases hk; done)
  obtain ⟨x0,rfl,hk0⟩:=GInsn.dec_spec hk
  have hkz:=hk0
  refine ⟨by simp [Ids,Idss],fun v=>dR_ref3_Encode v (fun r0 r1=>k (.tuple [(.int .u32 r0),(.bool r1)])),?_,fun v hv=>?_⟩
  · rw [ok_zc]; exact hkz
  · obtain ⟨r0,r1,rfl,hv1⟩:=dR_ref3_Encode_spec hv; exact ⟨hv1,by simp [Ids,Idss]⟩
noncomputable abbrev PO_za {α:Type}:ORC α:=[]
theorem ok_z7p {α:Type}  (g0 g1:Option Nat) (x0:(Nat→Int)) (x1:Int) (x3:Int) (k:Option Nat→(Nat→Int)→R α):bodyL PT_T19 (PO_za ) [] ⟨9,[]⟩ Tryz.f36 [.ptr 0 [],(.int .u64 x1),(.int .i64 8),(.int .u64 x3)] (hp [memO 1 g0,byO g1 x0]) (fun v σ1=>dR_ref1_Mem_Write v σ1 k)=p_z7p  x0 x1 x3 (fun fm=>k g1 fm):=by kernel_rfl
theorem ok_z7q {α:Type}  (g0 g1:Option Nat) (x0:(Nat→Int)) (x1:Int) (x3:Int) (k:Option Nat→(Nat→Int)→R α):bodyL PT_T19 (PO_za ) [] ⟨9,[]⟩ Tryz.f36 [.ptr 0 [],(.int .u64 x1),(.int .i64 4),(.int .u64 x3)] (hp [memO 1 g0,byO g1 x0]) (fun v σ1=>dR_ref1_Mem_Write v σ1 k)=p_z7q  x0 x1 x3 (fun fm=>k g1 fm):=by kernel_rfl
theorem ok_z7r {α:Type}  (g0 g1:Option Nat) (x0:(Nat→Int)) (x1:Int) (x3:Int) (k:Option Nat→(Nat→Int)→R α):bodyL PT_T19 (PO_za ) [] ⟨9,[]⟩ Tryz.f36 [.ptr 0 [],(.int .u64 x1),(.int .i64 2),(.int .u64 x3)] (hp [memO 1 g0,byO g1 x0]) (fun v σ1=>dR_ref1_Mem_Write v σ1 k)=p_z7r  x0 x1 x3 (fun fm=>k g1 fm):=by kernel_rfl
theorem ok_z7s {α:Type}  (g0 g1:Option Nat) (x0:(Nat→Int)) (x1:Int) (x3:Int) (k:Option Nat→(Nat→Int)→R α):bodyL PT_T19 (PO_za ) [] ⟨9,[]⟩ Tryz.f36 [.ptr 0 [],(.int .u64 x1),(.int .i64 1),(.int .u64 x3)] (hp [memO 1 g0,byO g1 x0]) (fun v σ1=>dR_ref1_Mem_Write v σ1 k)=p_z7s  x0 x1 x3 (fun fm=>k g1 fm):=by kernel_rfl
theorem ok_za {α:Type}  {g0 g1:Option Nat} {x0:(Nat→Int)} {x1:Int} {x2:Int} {x3:Int} {k:Option Nat→(Nat→Int)→R α} {r:α} (h:p_za  x0 x1 x2 x3 (fun fm=>k g1 fm)=some r):bodyL PT_T19 (PO_za ) [] ⟨9,[]⟩ Tryz.f36 [.ptr 0 [],(.int .u64 x1),(.int .i64 x2),(.int .u64 x3)] (hp [memO 1 g0,byO g1 x0]) (fun v σ1=>dR_ref1_Mem_Write v σ1 k)=some r:=by
  unfold p_za at h
  cases e0:(x2==8)
  case true=>rw [e0] at h; simp only [cond_true] at h; rw [beq_iff_eq] at e0; subst e0; exact (ok_z7p  g0 g1 x0 x1 x3 k).trans h
  rw [e0] at h; simp only [cond_false] at h
  cases e1:(x2==4)
  case true=>rw [e1] at h; simp only [cond_true] at h; rw [beq_iff_eq] at e1; subst e1; exact (ok_z7q  g0 g1 x0 x1 x3 k).trans h
  rw [e1] at h; simp only [cond_false] at h
  cases e2:(x2==2)
  case true=>rw [e2] at h; simp only [cond_true] at h; rw [beq_iff_eq] at e2; subst e2; exact (ok_z7r  g0 g1 x0 x1 x3 k).trans h
  rw [e2] at h; simp only [cond_false] at h
  cases e3:(x2==1)
  case true=>rw [e3] at h; simp only [cond_true] at h; rw [beq_iff_eq] at e3; subst e3; exact (ok_z7s  g0 g1 x0 x1 x3 k).trans h
  rw [e3] at h; simp only [cond_false] at h
  cases h
theorem mk_za {α:Type} {I:Imm}:OrcOk (α:=α) Tryz.prog I 36 (.full (ad_za (p_za ))):=by
  refine orc_canonK PT_T19_ok (O:=PO_za ) (OOk.nil) (L:=[]) ⟨9,[]⟩ Tryz.func36 (by kernel_rfl) (by kernel_rfl) (by kernel_rfl) FLOk.nil ?_
  intro args σ k r hk
  unfold ad_za at hk
  split at hk<;>try (cases hk; done)
  obtain ⟨b,b1,g0,g1,x0,rfl,h0,h1,hne,hk0⟩:=withMem_spec hk
  obtain ⟨x1,rfl,hk1⟩:=decI_spec hk0
  obtain ⟨x2,rfl,hk2⟩:=decI_spec hk1
  obtain ⟨x3,rfl,hk3⟩:=decI_spec hk2
  have hkz:=hk3
  refine ⟨[b,b1],[memO 1 g0,byO g1 x0],[.ptr 0 [],(.int .u64 x1),(.int .i64 x2),(.int .u64 x3)],lay_mk rfl (nodup2 hne) rfl ⟨h0,h1,trivial⟩ (by simp [AllL,Ids,Idss]) (by simp [AllL,OIds,Ids,Idss]),fun v σ1=>dR_ref1_Mem_Write v σ1 (fun g fm=>k (.tuple []) ⟨σ.next,[(b1,byO g fm)]++ σ.blocks⟩),?_,fun v σ1 hg hv=>?_⟩
  · exact ok_za hkz
  · unfold dR_ref1_Mem_Write at hv
    obtain ⟨hc,hv0⟩:=bif_some hv
    obtain ⟨g,fm,hnow,hv1⟩:=nowAt_spec hv0
    split at hv1<;>try (cases hv1; done)
    exact ⟨[],[(1,byO g fm)],pub_write hg (by simp [SObj.live]) hc (by simp) hnow (by simp [Ids,Idss]),hv1⟩
end Go.Proofs.YtepdlgehceipjaaGreat
