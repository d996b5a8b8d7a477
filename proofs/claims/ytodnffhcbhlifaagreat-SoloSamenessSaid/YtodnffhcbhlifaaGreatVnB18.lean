/-
  The bus and accesses (printed by wip/pr/pr.py): the functions come to just that.
-/
import Derived.Test.YtodnffhcbhlifaaGreatVnMem
import Derived.Test.YtodnffhcbhlifaaGreatVnTwo
import Derived.Test.YtodnffhcbhlifaaGreatSpB18
set_option maxRecDepth 100000
namespace Go.Proofs.YtodnffhcbhlifaaGreat
open Go Go.Sh Go.Proofs
set_option linter.unusedVariables false
set_option linter.unusedSimpArgs false
theorem pe_3 : TyOk Tryz.prog 3 ⟨.int .i64 0,1,8,.sc (.int .i64),none⟩:=⟨fun _=>by kernel_rfl,⟨rfl,rfl,fun _ _=>by simp [Wf,Wfs]⟩,⟨Tryz.underlying3,rfl⟩,fun _ h=>by cases h⟩
theorem pe_22 : TyOk Tryz.prog 22 ⟨.int .u64 0,1,8,.sc (.int .u64),none⟩:=⟨fun _=>by kernel_rfl,⟨rfl,rfl,fun _ _=>by simp [Wf,Wfs]⟩,⟨Tryz.underlying22,rfl⟩,fun _ h=>by cases h⟩
theorem pe_122 : TyOk Tryz.prog 122 ⟨.arr 3 4 (fun _=>.agg [.nils,.nils,.int .i64 0]),12,224,.ar 4 121 3 true,none⟩:=⟨fun _=>by kernel_rfl,⟨rfl,rfl,fun _ _=>by simp [Wf,Wfs]⟩,⟨Tryz.underlying122,by kernel_rfl,by kernel_rfl⟩,fun _ h=>by cases h⟩
theorem pe_124 : TyOk Tryz.prog 124 ⟨.agg [.nilp,.agg [.agg [],.agg [],.int .u64 0],.int .u64 0,.arr 3 4 (fun _=>.agg [.nils,.nils,.int .i64 0])],15,248,.st [(0,1,false),(1,1,true),(2,1,false),(3,12,true)],none⟩:=⟨fun _=>by kernel_rfl,⟨rfl,rfl,fun _ _=>by simp [Wf,Wfs]⟩,⟨_,Tryz.underlying124,by kernel_rfl⟩,fun _ h=>by cases h⟩
theorem pe_5 : TyOk Tryz.prog 5 ⟨.int .u8 0,1,1,.sc (.int .u8),none⟩:=⟨fun _=>by kernel_rfl,⟨rfl,rfl,fun _ _=>by simp [Wf,Wfs]⟩,⟨Tryz.underlying5,rfl⟩,fun _ h=>by cases h⟩
theorem pe_52 : TyOk Tryz.prog 52 ⟨.nils,1,24,.sc (.slice 5),none⟩:=⟨fun _=>by kernel_rfl,⟨rfl,rfl,fun _ _=>by simp [Wf,Wfs]⟩,⟨Tryz.underlying52,rfl⟩,fun _ h=>by cases h⟩
theorem pe_70 : TyOk Tryz.prog 70 ⟨.int .i64 0,1,8,.sc (.int .i64),none⟩:=⟨fun _=>by kernel_rfl,⟨rfl,rfl,fun _ _=>by simp [Wf,Wfs]⟩,⟨Tryz.underlying70,rfl⟩,fun _ h=>by cases h⟩
theorem pe_73 : TyOk Tryz.prog 73 ⟨.nilp,1,8,.sc (.pointer 143),none⟩:=⟨fun _=>by kernel_rfl,⟨rfl,rfl,fun _ _=>by simp [Wf,Wfs]⟩,⟨Tryz.underlying73,rfl⟩,fun _ h=>by cases h⟩
theorem pe_121 : TyOk Tryz.prog 121 ⟨.agg [.nils,.nils,.int .i64 0],3,56,.st [(0,1,false),(1,1,false),(2,1,false)],none⟩:=⟨fun _=>by kernel_rfl,⟨rfl,rfl,fun _ _=>by simp [Wf,Wfs]⟩,⟨_,Tryz.underlying121,by kernel_rfl⟩,fun _ h=>by cases h⟩
theorem pe_272 : TyOk Tryz.prog 272 ⟨.nilp,1,8,.sc (.pointer 121),none⟩:=⟨fun _=>by kernel_rfl,⟨rfl,rfl,fun _ _=>by simp [Wf,Wfs]⟩,⟨Tryz.underlying272,rfl⟩,fun _ h=>by cases h⟩
theorem pe_119 : TyOk Tryz.prog 119 ⟨.agg [.agg [],.agg [],.int .u64 0],1,8,.st [(0,0,true),(0,0,true),(0,1,false)],none⟩:=⟨fun _=>by kernel_rfl,⟨rfl,rfl,fun _ _=>by simp [Wf,Wfs]⟩,⟨_,Tryz.underlying119,by kernel_rfl⟩,fun _ h=>by cases h⟩
theorem pe_221 : TyOk Tryz.prog 221 ⟨.ints .u64 3 (fun _=>0),3,24,.ar 3 22 1 false,some (.ar 3 1 (.it .u64))⟩:=⟨fun _=>by kernel_rfl,⟨rfl,rfl,fun _ _=>by simp [Wf,Wfs]⟩,⟨Tryz.underlying221,by kernel_rfl,by kernel_rfl⟩,fun _ h=>by cases h; exact ⟨by kernel_rfl,by kernel_rfl⟩⟩
theorem pe_42 : TyOk Tryz.prog 42 ⟨.agg [.int .u64 0,.int .u64 0,.int .u64 0,.bool false],4,32,.st [(0,1,false),(1,1,false),(2,1,false),(3,1,false)],some (.st [(0,1,false,.it .u64),(1,1,false,.it .u64),(2,1,false,.it .u64),(3,1,false,.bl)])⟩:=⟨fun _=>by kernel_rfl,⟨rfl,rfl,fun _ _=>by simp [Wf,Wfs]⟩,⟨_,Tryz.underlying42,by kernel_rfl⟩,fun _ h=>by cases h; exact ⟨by kernel_rfl,by kernel_rfl⟩⟩
theorem pe_26 : TyOk Tryz.prog 26 ⟨.agg [.ints .u64 32 (fun _=>0),.int .u64 0,.int .i64 0,.bool false,.ints .u64 29 (fun _=>0),.int .u64 0],65,520,.st [(0,32,true),(32,1,false),(33,1,false),(34,1,false),(35,29,true),(64,1,false)],some (.st [(0,32,true,.ar 32 1 (.it .u64)),(32,1,false,.it .u64),(33,1,false,.it .i64),(34,1,false,.bl),(35,29,true,.ar 29 1 (.it .u64)),(64,1,false,.it .u64)])⟩:=⟨fun _=>by kernel_rfl,⟨rfl,rfl,fun _ _=>by simp [Wf,Wfs]⟩,⟨_,Tryz.underlying26,by kernel_rfl⟩,fun _ h=>by cases h; exact ⟨by kernel_rfl,by kernel_rfl⟩⟩
theorem pe_196 : TyOk Tryz.prog 196 ⟨.agg [.bool false,.bool false,.int .i64 0,.int .i64 0,.int .i64 0,.int .i64 0,.int .i64 0,.int .i64 0,.int .i64 0],9,64,.st [(0,1,false),(1,1,false),(2,1,false),(3,1,false),(4,1,false),(5,1,false),(6,1,false),(7,1,false),(8,1,false)],some (.st [(0,1,false,.bl),(1,1,false,.bl),(2,1,false,.it .i64),(3,1,false,.it .i64),(4,1,false,.it .i64),(5,1,false,.it .i64),(6,1,false,.it .i64),(7,1,false,.it .i64),(8,1,false,.it .i64)])⟩:=⟨fun _=>by kernel_rfl,⟨rfl,rfl,fun _ _=>by simp [Wf,Wfs]⟩,⟨_,Tryz.underlying196,by kernel_rfl⟩,fun _ h=>by cases h; exact ⟨by kernel_rfl,by kernel_rfl⟩⟩
abbrev PT_B18 : TE:=[(3,⟨.int .i64 0,1,8,.sc (.int .i64),none⟩),(5,⟨.int .u8 0,1,1,.sc (.int .u8),none⟩),(22,⟨.int .u64 0,1,8,.sc (.int .u64),none⟩),(26,⟨.agg [.ints .u64 32 (fun _=>0),.int .u64 0,.int .i64 0,.bool false,.ints .u64 29 (fun _=>0),.int .u64 0],65,520,.st [(0,32,true),(32,1,false),(33,1,false),(34,1,false),(35,29,true),(64,1,false)],some (.st [(0,32,true,.ar 32 1 (.it .u64)),(32,1,false,.it .u64),(33,1,false,.it .i64),(34,1,false,.bl),(35,29,true,.ar 29 1 (.it .u64)),(64,1,false,.it .u64)])⟩),(42,⟨.agg [.int .u64 0,.int .u64 0,.int .u64 0,.bool false],4,32,.st [(0,1,false),(1,1,false),(2,1,false),(3,1,false)],some (.st [(0,1,false,.it .u64),(1,1,false,.it .u64),(2,1,false,.it .u64),(3,1,false,.bl)])⟩),(52,⟨.nils,1,24,.sc (.slice 5),none⟩),(70,⟨.int .i64 0,1,8,.sc (.int .i64),none⟩),(73,⟨.nilp,1,8,.sc (.pointer 143),none⟩),(119,⟨.agg [.agg [],.agg [],.int .u64 0],1,8,.st [(0,0,true),(0,0,true),(0,1,false)],none⟩),(121,⟨.agg [.nils,.nils,.int .i64 0],3,56,.st [(0,1,false),(1,1,false),(2,1,false)],none⟩),(122,⟨.arr 3 4 (fun _=>.agg [.nils,.nils,.int .i64 0]),12,224,.ar 4 121 3 true,none⟩),(124,⟨.agg [.nilp,.agg [.agg [],.agg [],.int .u64 0],.int .u64 0,.arr 3 4 (fun _=>.agg [.nils,.nils,.int .i64 0])],15,248,.st [(0,1,false),(1,1,true),(2,1,false),(3,12,true)],none⟩),(196,⟨.agg [.bool false,.bool false,.int .i64 0,.int .i64 0,.int .i64 0,.int .i64 0,.int .i64 0,.int .i64 0,.int .i64 0],9,64,.st [(0,1,false),(1,1,false),(2,1,false),(3,1,false),(4,1,false),(5,1,false),(6,1,false),(7,1,false),(8,1,false)],some (.st [(0,1,false,.bl),(1,1,false,.bl),(2,1,false,.it .i64),(3,1,false,.it .i64),(4,1,false,.it .i64),(5,1,false,.it .i64),(6,1,false,.it .i64),(7,1,false,.it .i64),(8,1,false,.it .i64)])⟩),(221,⟨.ints .u64 3 (fun _=>0),3,24,.ar 3 22 1 false,some (.ar 3 1 (.it .u64))⟩),(272,⟨.nilp,1,8,.sc (.pointer 121),none⟩)]
theorem PT_B18_ok : Prg Tryz.prog PT_B18:=⟨(.cons pe_3 (.cons pe_5 (.cons pe_22 (.cons pe_26 (.cons pe_42 (.cons pe_52 (.cons pe_70 (.cons pe_73 (.cons pe_119 (.cons pe_121 (.cons pe_122 (.cons pe_124 (.cons pe_196 (.cons pe_221 (.cons pe_272 (TEok.nil _)))))))))))))))),by kernel_rfl⟩
noncomputable abbrev PO_z10 {α:Type}:ORC α:=[]
theorem ok_z10 {α:Type}  (x0:Int) (x1:(Nat→Int)) (k:Int→R α):bodyL PT_B18 (PO_z10 ) [] ⟨1,[]⟩ Tryz.f116 [(.int .i64 x0),(.ints .u64 3 x1)] emp (fun v _=>dR_access_cause v k)=p_z10  x0 x1 k:=by kernel_rfl
theorem mk_z10 {α:Type} {I:Imm}:OrcOk (α:=α) Tryz.prog I 116 (.pure (ad_z10 (p_z10 ))):=by
  refine orc_pureK PT_B18_ok (O:=PO_z10 ) (OOk.nil) (L:=[]) ⟨1,[]⟩ Tryz.func116 (by kernel_rfl) (by kernel_rfl) (by kernel_rfl) FLOk.nil ?_
  intro args k r hk
  unfold ad_z10 at hk
  split at hk<;>try (cases hk; done)
  obtain ⟨x0,rfl,hk0⟩:=decI_spec hk
  obtain ⟨x1,rfl,hk1⟩:=decA_spec hk0
  have hkz:=hk1
  refine ⟨by simp [Ids,Idss],fun v=>dR_access_cause v (fun r0=>k (.int .u64 r0)),?_,fun v hv=>?_⟩
  · rw [ok_z10]; exact hkz
  · obtain ⟨r0,rfl,hv1⟩:=dR_access_cause_spec hv; exact ⟨hv1,by simp [Ids,Idss]⟩
noncomputable abbrev PO_z1w {α:Type} (F_z10:Sg_z10 α):ORC α:=[(116,.pure (ad_z10 F_z10))]
theorem ok_z1w {α:Type} (F_z10:Sg_z10 α) (x0:Int) (x1:Int) (x2:Bool) (k:GFault→R α):bodyL PT_B18 (PO_z1w F_z10) [] ⟨1,[]⟩ Tryz.f115 [(.int .u64 x0),(.int .i64 x1),(.bool x2)] emp (fun v _=>dR_access_Bad v k)=p_z1w F_z10 x0 x1 x2 k:=by kernel_rfl
theorem mk_z1w {α:Type} {I:Imm} {F_z10:Sg_z10 α} (h_z10:OrcOk (α:=α) Tryz.prog I 116 (.pure (ad_z10 F_z10))):OrcOk (α:=α) Tryz.prog I 115 (.pure (ad_z1w (p_z1w F_z10))):=by
  refine orc_pureK PT_B18_ok (O:=PO_z1w F_z10) (OOk.cons h_z10 (OOk.nil)) (L:=[]) ⟨1,[]⟩ Tryz.func115 (by kernel_rfl) (by kernel_rfl) (by kernel_rfl) FLOk.nil ?_
  intro args k r hk
  unfold ad_z1w at hk
  split at hk<;>try (cases hk; done)
  obtain ⟨x0,rfl,hk0⟩:=decI_spec hk
  obtain ⟨x1,rfl,hk1⟩:=decI_spec hk0
  obtain ⟨x2,rfl,hk2⟩:=decB_spec hk1
  have hkz:=hk2
  refine ⟨by simp [Ids,Idss],fun v=>dR_access_Bad v (fun r0=>k (GFault.sv r0)),?_,fun v hv=>?_⟩
  · rw [ok_z1w]; exact hkz
  · obtain ⟨r0,rfl,hv1⟩:=dR_access_Bad_spec hv; exact ⟨hv1,by simp [Ids,Idss]⟩
end Go.Proofs.YtodnffhcbhlifaaGreat
