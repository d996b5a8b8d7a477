/-
  The bus and accesses (printed by wip/pr/pr.py): the functions come to just that.
-/
import Derived.Test.YtepdlgehceipjaaGreatInMem
import Derived.Test.YtepdlgehceipjaaGreatInTwo
import Derived.Test.YtepdlgehceipjaaGreatSpB18
set_option maxRecDepth 100000
namespace Go.Proofs.YtepdlgehceipjaaGreat
open Go Go.Sh Go.Proofs
set_option linter.unusedVariables false
set_option linter.unusedSimpArgs false
theorem pe_3 : TyOk Tryz.prog 3 ⟨.int .i64 0,1,8,.sc (.int .i64),none⟩:=⟨fun _=>by kernel_rfl,⟨rfl,rfl,fun _ _=>by simp [Wf,Wfs]⟩,⟨Tryz.underlying3,rfl⟩,fun _ h=>by cases h⟩
theorem pe_22 : TyOk Tryz.prog 22 ⟨.int .u64 0,1,8,.sc (.int .u64),none⟩:=⟨fun _=>by kernel_rfl,⟨rfl,rfl,fun _ _=>by simp [Wf,Wfs]⟩,⟨Tryz.underlying22,rfl⟩,fun _ h=>by cases h⟩
theorem pe_87 : TyOk Tryz.prog 87 ⟨.arr 3 4 (fun _=>.agg [.nils,.nils,.int .i64 0]),12,224,.ar 4 86 3 true,none⟩:=⟨fun _=>by kernel_rfl,⟨rfl,rfl,fun _ _=>by simp [Wf,Wfs]⟩,⟨Tryz.underlying87,by kernel_rfl,by kernel_rfl⟩,fun _ h=>by cases h⟩
theorem pe_89 : TyOk Tryz.prog 89 ⟨.agg [.nilp,.agg [.agg [],.agg [],.int .u64 0],.int .u64 0,.arr 3 4 (fun _=>.agg [.nils,.nils,.int .i64 0])],15,248,.st [(0,1,false),(1,1,true),(2,1,false),(3,12,true)],none⟩:=⟨fun _=>by kernel_rfl,⟨rfl,rfl,fun _ _=>by simp [Wf,Wfs]⟩,⟨_,Tryz.underlying89,by kernel_rfl⟩,fun _ h=>by cases h⟩
theorem pe_5 : TyOk Tryz.prog 5 ⟨.int .u8 0,1,1,.sc (.int .u8),none⟩:=⟨fun _=>by kernel_rfl,⟨rfl,rfl,fun _ _=>by simp [Wf,Wfs]⟩,⟨Tryz.underlying5,rfl⟩,fun _ h=>by cases h⟩
theorem pe_61 : TyOk Tryz.prog 61 ⟨.nilp,1,8,.sc (.pointer 127),none⟩:=⟨fun _=>by kernel_rfl,⟨rfl,rfl,fun _ _=>by simp [Wf,Wfs]⟩,⟨Tryz.underlying61,rfl⟩,fun _ h=>by cases h⟩
theorem pe_84 : TyOk Tryz.prog 84 ⟨.nils,1,24,.sc (.slice 5),none⟩:=⟨fun _=>by kernel_rfl,⟨rfl,rfl,fun _ _=>by simp [Wf,Wfs]⟩,⟨Tryz.underlying84,rfl⟩,fun _ h=>by cases h⟩
theorem pe_86 : TyOk Tryz.prog 86 ⟨.agg [.nils,.nils,.int .i64 0],3,56,.st [(0,1,false),(1,1,false),(2,1,false)],none⟩:=⟨fun _=>by kernel_rfl,⟨rfl,rfl,fun _ _=>by simp [Wf,Wfs]⟩,⟨_,Tryz.underlying86,by kernel_rfl⟩,fun _ h=>by cases h⟩
theorem pe_96 : TyOk Tryz.prog 96 ⟨.int .i64 0,1,8,.sc (.int .i64),none⟩:=⟨fun _=>by kernel_rfl,⟨rfl,rfl,fun _ _=>by simp [Wf,Wfs]⟩,⟨Tryz.underlying96,rfl⟩,fun _ h=>by cases h⟩
theorem pe_114 : TyOk Tryz.prog 114 ⟨.nilp,1,8,.sc (.pointer 86),none⟩:=⟨fun _=>by kernel_rfl,⟨rfl,rfl,fun _ _=>by simp [Wf,Wfs]⟩,⟨Tryz.underlying114,rfl⟩,fun _ h=>by cases h⟩
theorem pe_83 : TyOk Tryz.prog 83 ⟨.agg [.agg [],.agg [],.int .u64 0],1,8,.st [(0,0,true),(0,0,true),(0,1,false)],none⟩:=⟨fun _=>by kernel_rfl,⟨rfl,rfl,fun _ _=>by simp [Wf,Wfs]⟩,⟨_,Tryz.underlying83,by kernel_rfl⟩,fun _ h=>by cases h⟩
theorem pe_241 : TyOk Tryz.prog 241 ⟨.ints .u64 3 (fun _=>0),3,24,.ar 3 22 1 false,some (.ar 3 1 (.it .u64))⟩:=⟨fun _=>by kernel_rfl,⟨rfl,rfl,fun _ _=>by simp [Wf,Wfs]⟩,⟨Tryz.underlying241,by kernel_rfl,by kernel_rfl⟩,fun _ h=>by cases h; exact ⟨by kernel_rfl,by kernel_rfl⟩⟩
theorem pe_45 : TyOk Tryz.prog 45 ⟨.agg [.int .u64 0,.int .u64 0,.int .u64 0,.bool false],4,32,.st [(0,1,false),(1,1,false),(2,1,false),(3,1,false)],some (.st [(0,1,false,.it .u64),(1,1,false,.it .u64),(2,1,false,.it .u64),(3,1,false,.bl)])⟩:=⟨fun _=>by kernel_rfl,⟨rfl,rfl,fun _ _=>by simp [Wf,Wfs]⟩,⟨_,Tryz.underlying45,by kernel_rfl⟩,fun _ h=>by cases h; exact ⟨by kernel_rfl,by kernel_rfl⟩⟩
theorem pe_26 : TyOk Tryz.prog 26 ⟨.agg [.ints .u64 32 (fun _=>0),.int .u64 0,.int .i64 0,.bool false,.ints .u64 29 (fun _=>0),.int .u64 0],65,520,.st [(0,32,true),(32,1,false),(33,1,false),(34,1,false),(35,29,true),(64,1,false)],some (.st [(0,32,true,.ar 32 1 (.it .u64)),(32,1,false,.it .u64),(33,1,false,.it .i64),(34,1,false,.bl),(35,29,true,.ar 29 1 (.it .u64)),(64,1,false,.it .u64)])⟩:=⟨fun _=>by kernel_rfl,⟨rfl,rfl,fun _ _=>by simp [Wf,Wfs]⟩,⟨_,Tryz.underlying26,by kernel_rfl⟩,fun _ h=>by cases h; exact ⟨by kernel_rfl,by kernel_rfl⟩⟩
theorem pe_172 : TyOk Tryz.prog 172 ⟨.agg [.bool false,.bool false,.int .i64 0,.int .i64 0,.int .i64 0,.int .i64 0,.int .i64 0,.int .i64 0,.int .i64 0],9,64,.st [(0,1,false),(1,1,false),(2,1,false),(3,1,false),(4,1,false),(5,1,false),(6,1,false),(7,1,false),(8,1,false)],some (.st [(0,1,false,.bl),(1,1,false,.bl),(2,1,false,.it .i64),(3,1,false,.it .i64),(4,1,false,.it .i64),(5,1,false,.it .i64),(6,1,false,.it .i64),(7,1,false,.it .i64),(8,1,false,.it .i64)])⟩:=⟨fun _=>by kernel_rfl,⟨rfl,rfl,fun _ _=>by simp [Wf,Wfs]⟩,⟨_,Tryz.underlying172,by kernel_rfl⟩,fun _ h=>by cases h; exact ⟨by kernel_rfl,by kernel_rfl⟩⟩
abbrev PT_B18 : TE:=[(3,⟨.int .i64 0,1,8,.sc (.int .i64),none⟩),(5,⟨.int .u8 0,1,1,.sc (.int .u8),none⟩),(22,⟨.int .u64 0,1,8,.sc (.int .u64),none⟩),(26,⟨.agg [.ints .u64 32 (fun _=>0),.int .u64 0,.int .i64 0,.bool false,.ints .u64 29 (fun _=>0),.int .u64 0],65,520,.st [(0,32,true),(32,1,false),(33,1,false),(34,1,false),(35,29,true),(64,1,false)],some (.st [(0,32,true,.ar 32 1 (.it .u64)),(32,1,false,.it .u64),(33,1,false,.it .i64),(34,1,false,.bl),(35,29,true,.ar 29 1 (.it .u64)),(64,1,false,.it .u64)])⟩),(45,⟨.agg [.int .u64 0,.int .u64 0,.int .u64 0,.bool false],4,32,.st [(0,1,false),(1,1,false),(2,1,false),(3,1,false)],some (.st [(0,1,false,.it .u64),(1,1,false,.it .u64),(2,1,false,.it .u64),(3,1,false,.bl)])⟩),(61,⟨.nilp,1,8,.sc (.pointer 127),none⟩),(83,⟨.agg [.agg [],.agg [],.int .u64 0],1,8,.st [(0,0,true),(0,0,true),(0,1,false)],none⟩),(84,⟨.nils,1,24,.sc (.slice 5),none⟩),(86,⟨.agg [.nils,.nils,.int .i64 0],3,56,.st [(0,1,false),(1,1,false),(2,1,false)],none⟩),(87,⟨.arr 3 4 (fun _=>.agg [.nils,.nils,.int .i64 0]),12,224,.ar 4 86 3 true,none⟩),(89,⟨.agg [.nilp,.agg [.agg [],.agg [],.int .u64 0],.int .u64 0,.arr 3 4 (fun _=>.agg [.nils,.nils,.int .i64 0])],15,248,.st [(0,1,false),(1,1,true),(2,1,false),(3,12,true)],none⟩),(96,⟨.int .i64 0,1,8,.sc (.int .i64),none⟩),(114,⟨.nilp,1,8,.sc (.pointer 86),none⟩),(172,⟨.agg [.bool false,.bool false,.int .i64 0,.int .i64 0,.int .i64 0,.int .i64 0,.int .i64 0,.int .i64 0,.int .i64 0],9,64,.st [(0,1,false),(1,1,false),(2,1,false),(3,1,false),(4,1,false),(5,1,false),(6,1,false),(7,1,false),(8,1,false)],some (.st [(0,1,false,.bl),(1,1,false,.bl),(2,1,false,.it .i64),(3,1,false,.it .i64),(4,1,false,.it .i64),(5,1,false,.it .i64),(6,1,false,.it .i64),(7,1,false,.it .i64),(8,1,false,.it .i64)])⟩),(241,⟨.ints .u64 3 (fun _=>0),3,24,.ar 3 22 1 false,some (.ar 3 1 (.it .u64))⟩)]
theorem PT_B18_ok : Prg Tryz.prog PT_B18:=⟨(.cons pe_3 (.cons pe_5 (.cons pe_22 (.cons pe_26 (.cons pe_45 (.cons pe_61 (.cons pe_83 (.cons pe_84 (.cons pe_86 (.cons pe_87 (.cons pe_89 (.cons pe_96 (.cons pe_114 (.cons pe_172 (.cons pe_241 (TEok.nil _)))))))))))))))),by kernel_rfl⟩
noncomputable abbrev PO_zt {α:Type}:ORC α:=[]
theorem ok_zt {α:Type}  (x0:Int) (x1:(Nat→Int)) (k:Int→R α):bodyL PT_B18 (PO_zt ) [] ⟨1,[]⟩ Tryz.f180 [(.int .i64 x0),(.ints .u64 3 x1)] emp (fun v _=>dR_access_cause v k)=p_zt  x0 x1 k:=by kernel_rfl
theorem mk_zt {α:Type} {I:Imm}:OrcOk (α:=α) Tryz.prog I 180 (.pure (ad_zt (p_zt ))):=by
  refine orc_pureK PT_B18_ok (O:=PO_zt ) (OOk.nil) (L:=[]) ⟨1,[]⟩ Tryz.func180 (by kernel_rfl) (by kernel_rfl) (by kernel_rfl) FLOk.nil ?_
  intro args k r hk
  unfold ad_zt at hk
  split at hk<;>try (cases hk; done)
  obtain ⟨x0,rfl,hk0⟩:=decI_spec hk
  obtain ⟨x1,rfl,hk1⟩:=decA_spec hk0
  have hkz:=hk1
  refine ⟨by simp [Ids,Idss],fun v=>dR_access_cause v (fun r0=>k (.int .u64 r0)),?_,fun v hv=>?_⟩
  · rw [ok_zt]; exact hkz
  · obtain ⟨r0,rfl,hv1⟩:=dR_access_cause_spec hv; exact ⟨hv1,by simp [Ids,Idss]⟩
noncomputable abbrev PO_z1e {α:Type} (F_zt:Sg_zt α):ORC α:=[(180,.pure (ad_zt F_zt))]
theorem ok_z1e {α:Type} (F_zt:Sg_zt α) (x0:Int) (x1:Int) (x2:Bool) (k:GFault→R α):bodyL PT_B18 (PO_z1e F_zt) [] ⟨1,[]⟩ Tryz.f179 [(.int .u64 x0),(.int .i64 x1),(.bool x2)] emp (fun v _=>dR_access_Bad v k)=p_z1e F_zt x0 x1 x2 k:=by kernel_rfl
theorem mk_z1e {α:Type} {I:Imm} {F_zt:Sg_zt α} (h_zt:OrcOk (α:=α) Tryz.prog I 180 (.pure (ad_zt F_zt))):OrcOk (α:=α) Tryz.prog I 179 (.pure (ad_z1e (p_z1e F_zt))):=by
  refine orc_pureK PT_B18_ok (O:=PO_z1e F_zt) (OOk.cons h_zt (OOk.nil)) (L:=[]) ⟨1,[]⟩ Tryz.func179 (by kernel_rfl) (by kernel_rfl) (by kernel_rfl) FLOk.nil ?_
  intro args k r hk
  unfold ad_z1e at hk
  split at hk<;>try (cases hk; done)
  obtain ⟨x0,rfl,hk0⟩:=decI_spec hk
  obtain ⟨x1,rfl,hk1⟩:=decI_spec hk0
  obtain ⟨x2,rfl,hk2⟩:=decB_spec hk1
  have hkz:=hk2
  refine ⟨by simp [Ids,Idss],fun v=>dR_access_Bad v (fun r0=>k (GFault.sv r0)),?_,fun v hv=>?_⟩
  · rw [ok_z1e]; exact hkz
  · obtain ⟨r0,rfl,hv1⟩:=dR_access_Bad_spec hv; exact ⟨hv1,by simp [Ids,Idss]⟩
end Go.Proofs.YtepdlgehceipjaaGreat
