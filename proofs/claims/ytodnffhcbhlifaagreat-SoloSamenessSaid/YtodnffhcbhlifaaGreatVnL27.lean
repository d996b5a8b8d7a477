/-
  The law SoloSameness (printed by wip/pr/pr.py): the functions come to just that.
-/
import Derived.Test.YtodnffhcbhlifaaGreatVnW27
import Derived.Test.YtodnffhcbhlifaaGreatSpL27
set_option maxRecDepth 100000
namespace Go.Proofs.YtodnffhcbhlifaaGreat
open Go Go.Sh Go.Proofs
set_option linter.unusedVariables false
set_option linter.unusedSimpArgs false
abbrev PT_L27 : TE:=[(3,⟨.int .i64 0,1,8,.sc (.int .i64),none⟩),(4,⟨.bool false,1,1,.sc (.bool),none⟩),(5,⟨.int .u8 0,1,1,.sc (.int .u8),none⟩),(22,⟨.int .u64 0,1,8,.sc (.int .u64),none⟩),(23,⟨.ints .u64 32 (fun _=>0),32,256,.ar 32 22 1 false,some (.ar 32 1 (.it .u64))⟩),(24,⟨.ints .u64 29 (fun _=>0),29,232,.ar 29 22 1 false,some (.ar 29 1 (.it .u64))⟩),(26,⟨.agg [.ints .u64 32 (fun _=>0),.int .u64 0,.int .i64 0,.bool false,.ints .u64 29 (fun _=>0),.int .u64 0],65,520,.st [(0,32,true),(32,1,false),(33,1,false),(34,1,false),(35,29,true),(64,1,false)],some (.st [(0,32,true,.ar 32 1 (.it .u64)),(32,1,false,.it .u64),(33,1,false,.it .i64),(34,1,false,.bl),(35,29,true,.ar 29 1 (.it .u64)),(64,1,false,.it .u64)])⟩)]
theorem PT_L27_ok : Prg Tryz.prog PT_L27:=⟨(.cons pe_3 (.cons pe_4 (.cons pe_5 (.cons pe_22 (.cons pe_23 (.cons pe_24 (.cons pe_26 (TEok.nil _)))))))),by kernel_rfl⟩
noncomputable abbrev PO_zz {α:Type}:ORC α:=[]
theorem ok_zz {α:Type}  (x0:GState) (x1:GState) (k:Bool→R α):bodyL PT_L27 (PO_zz ) [] ⟨1,[]⟩ Tryz.f5 [(GState.sv x0),(GState.sv x1)] emp (fun v _=>dR_solo_Same v k)=p_zz  x0 x1 k:=by kernel_rfl
theorem mk_zz {α:Type} {I:Imm}:OrcOk (α:=α) Tryz.prog I 5 (.pure (ad_zz (p_zz ))):=by
  refine orc_pureK PT_L27_ok (O:=PO_zz ) (OOk.nil) (L:=[]) ⟨1,[]⟩ Tryz.func5 (by kernel_rfl) (by kernel_rfl) (by kernel_rfl) FLOk.nil ?_
  intro args k r hk
  unfold ad_zz at hk
  split at hk<;>try (cases hk; done)
  obtain ⟨x0,rfl,hk0⟩:=GState.dec_spec hk
  obtain ⟨x1,rfl,hk1⟩:=GState.dec_spec hk0
  have hkz:=hk1
  refine ⟨by simp [Ids,Idss],fun v=>dR_solo_Same v (fun r0=>k (.bool r0)),?_,fun v hv=>?_⟩
  · rw [ok_zz]; exact hkz
  · obtain ⟨r0,rfl,hv1⟩:=dR_solo_Same_spec hv; exact ⟨hv1,by simp [Ids,Idss]⟩
noncomputable abbrev PO_z1x {α:Type} (F_z1y:Sg_z1y α) (F_zz:Sg_zz α):ORC α:=[(4,.pure (ad_z1y F_z1y)),(5,.pure (ad_zz F_zz))]
theorem ok_z1x {α:Type} (F_z1y:Sg_z1y α) (F_zz:Sg_zz α) (x0:GState) (x1:Int) (x2:Int) (k:Bool→R α):bodyL PT_L27 (PO_z1x F_z1y F_zz) [] ⟨1,[]⟩ Tryz.f3 [(GState.sv x0),(.int .u8 x1),(.int .u64 x2)] emp (fun v _=>dR_law27_SoloSameness v k)=p_z1x F_z1y F_zz x0 x1 x2 k:=by kernel_rfl
theorem mk_z1x {α:Type} {I:Imm} {F_z1y:Sg_z1y α} {F_zz:Sg_zz α} (h_z1y:OrcOk (α:=α) Tryz.prog I 4 (.pure (ad_z1y F_z1y))) (h_zz:OrcOk (α:=α) Tryz.prog I 5 (.pure (ad_zz F_zz))):OrcOk (α:=α) Tryz.prog I 3 (.pure (ad_z1x (p_z1x F_z1y F_zz))):=by
  refine orc_pureK PT_L27_ok (O:=PO_z1x F_z1y F_zz) (OOk.cons h_z1y (OOk.cons h_zz (OOk.nil))) (L:=[]) ⟨1,[]⟩ Tryz.func3 (by kernel_rfl) (by kernel_rfl) (by kernel_rfl) FLOk.nil ?_
  intro args k r hk
  unfold ad_z1x at hk
  split at hk<;>try (cases hk; done)
  obtain ⟨x0,rfl,hk0⟩:=GState.dec_spec hk
  obtain ⟨x1,rfl,hk1⟩:=decI_spec hk0
  obtain ⟨x2,rfl,hk2⟩:=decI_spec hk1
  have hkz:=hk2
  refine ⟨by simp [Ids,Idss],fun v=>dR_law27_SoloSameness v (fun r0=>k (.bool r0)),?_,fun v hv=>?_⟩
  · rw [ok_z1x]; exact hkz
  · obtain ⟨r0,rfl,hv1⟩:=dR_law27_SoloSameness_spec hv; exact ⟨hv1,by simp [Ids,Idss]⟩
end Go.Proofs.YtodnffhcbhlifaaGreat
