/-
  The bus and accesses (printed by wip/pr/pr.py): the functions come to just that.
-/
import Derived.Test.YtepdlgehceipjaaGreatInMem
import Derived.Test.YtepdlgehceipjaaGreatInTwo
import Derived.Test.YtepdlgehceipjaaGreatSpB18
set_option maxRecDepth 100000
namespace Go.Proofs.YtepdlgehceipjaaGreat
open Go Go.Sh Go.Proofs
set_option linter.unusedVariables false
set_option linter.unusedSimpArgs false
theorem pe_3 : TyOk Tryz.prog 3 ⟨.int .i64 0,1,8,.sc (.int .i64),none⟩:=⟨fun _=>by kernel_rfl,⟨rfl,rfl,fun _ _=>by simp [Wf,Wfs]⟩,⟨Tryz.underlying3,rfl⟩,fun _ h=>by cases h⟩
theorem pe_22 : TyOk Tryz.prog 22 ⟨.int .u64 0,1,8,.sc (.int .u64),none⟩:=⟨fun _=>by kernel_rfl,⟨rfl,rfl,fun _ _=>by simp [Wf,Wfs]⟩,⟨Tryz.underlying22,rfl⟩,fun _ h=>by cases h⟩
theorem pe_87 : TyOk Tryz.prog 87 ⟨.arr 3 4 (fun _=>.agg [.nils,.nils,.int .i64 0]),12,224,.ar 4 86 3 true,none⟩:=⟨fun _=>by kernel_rfl,⟨rfl,rfl,fun _ _=>by simp [Wf,Wfs]⟩,⟨Tryz.underlying87,by kernel_rfl,by kernel_rfl⟩,fun _ h=>by cases h⟩
theorem pe_89 : TyOk Tryz.prog 89 ⟨.agg [.nilp,.agg [.agg [],.agg [],.int .u64 0],.int .u64 0,.arr 3 4 (fun _=>.agg [.nils,.nils,.int .i64 0])],15,248,.st [(0,1,false),(1,1,true),(2,1,false),(3,12,true)],none⟩:=⟨fun _=>by kernel_rfl,⟨rfl,rfl,fun _ _=>by simp [Wf,Wfs]⟩,⟨_,Tryz.underlying89,by kernel_rfl⟩,fun _ h=>by cases h⟩
theorem pe_5 : TyOk Tryz.prog 5 ⟨.int .u8 0,1,1,.sc (.int .u8),none⟩:=⟨fun _=>by kernel_rfl,⟨rfl,rfl,fun _ _=>by simp [Wf,Wfs]⟩,⟨Tryz.underlying5,rfl⟩,fun _ h=>by cases h⟩
theorem pe_61 : TyOk Tryz.prog 61 ⟨.nilp,1,8,.sc (.pointer 127),none⟩:=⟨fun _=>by kernel_rfl,⟨rfl,rfl,fun _ _=>by simp [Wf,Wfs]⟩,⟨Tryz.underlying61,rfl⟩,fun _ h=>by cases h⟩
theorem pe_84 : TyOk Tryz.prog 84 ⟨.nils,1,24,.sc (.slice 5),none⟩:=⟨fun _=>by kernel_rfl,⟨rfl,rfl,fun _ _=>by simp [Wf,Wfs]⟩,⟨Tryz.underlying84,rfl⟩,fun _ h=>by cases h⟩
theorem pe_86 : TyOk Tryz.prog 86 ⟨.agg [.nils,.nils,.int .i64 0],3,56,.st [(0,1,false),(1,1,false),(2,1,false)],none⟩:=⟨fun _=>by kernel_rfl,⟨rfl,rfl,fun _ _=>by simp [Wf,Wfs]⟩,⟨_,Tryz.underlying86,by kernel_rfl⟩,fun _ h=>by cases h⟩
theorem pe_96 : TyOk Tryz.prog 96 ⟨.int .i64 0,1,8,.sc (.int .i64),none⟩:=⟨fun _=>by kernel_rfl,⟨rfl,rfl,fun _ _=>by simp [Wf,Wfs]⟩,⟨Tryz.underlying96,rfl⟩,fun _ h=>by cases h⟩
theorem pe_114 : TyOk Tryz.prog 114 ⟨.nilp,1,8,.sc (.pointer 86),none⟩:=⟨fun _=>by kernel_rfl,⟨rfl,rfl,fun _ _=>by simp [Wf,Wfs]⟩,⟨Tryz.underlying114,rfl⟩,fun _ h=>by cases h⟩
theorem pe_83 : TyOk Tryz.prog 83 ⟨.agg [.agg [],.agg [],.int .u64 0],1,8,.st [(0,0,true),(0,0,true),(0,1,false)],none⟩:=⟨fun _=>by kernel_rfl,⟨rfl,rfl,fun _ _=>by simp [Wf,Wfs]⟩,⟨_,Tryz.underlying83,by kernel_rfl⟩,fun _ h=>by cases h⟩
theorem pe_241 : TyOk Tryz.prog 241 ⟨.ints .u64 3 (fun _=>0),3,24,.ar 3 22 1 false,some (.ar 3 1 (.it .u64))⟩:=⟨fun _=>by kernel_rfl,⟨rfl,rfl,fun _ _=>by simp [Wf,Wfs]⟩,⟨Tryz.underlying241,by kernel_rfl,by kernel_rfl⟩,fun _ h=>by cases h; exact ⟨by kernel_rfl,by kernel_rfl⟩⟩
theorem pe_45 : TyOk Tryz.prog 45 ⟨.agg [.int .u64 0,.int .u64 0,.int .u64 0,.bool false],4,32,.st [(0,1,false),(1,1,false),(2,1,false),(3,1,false)],some (.st [(0,1,false,.it .u64),(1,1,false,.it .u64),(2,1,false,.it .u64),(3,1,false,.bl)])⟩:=⟨fun _=>by kernel_rfl,⟨rfl,rfl,fun _ _=>by simp [Wf,Wfs]⟩,⟨_,Tryz.underlying45,by kernel_rfl⟩,fun _ h=>by cases h; exact ⟨by kernel_rfl,by kernel_rfl⟩⟩
theorem pe_26 : TyOk Tryz.prog 26 ⟨.agg [.ints .u64 32 (fun _=>0),.int .u64 0,.int .i64 0,.bool false,.ints .u64 29 (fun _=>0),.int .u64 0],65,520,.st [(0,32,true),(32,1,false),(33,1,false),(34,1,false),(35,29,true),(64,1,false)],some (.st [(0,32,true,.ar 32 1 (.it .u64)),(32,1,false,.it .u64),(33,1,false,.it .i64),(34,1,false,.bl),(35,29,true,.ar 29 1 (.it .u64)),(64,1,false,.it .u64)])⟩:=⟨fun _=>by kernel_rfl,⟨rfl,rfl,fun _ _=>by simp [Wf,Wfs]⟩,⟨_,Tryz.underlying26,by kernel_rfl⟩,fun _ h=>by cases h; exact ⟨by kernel_rfl,by kernel_rfl⟩⟩
theorem pe_172 : TyOk Tryz.prog 172 ⟨.agg [.bool false,.bool false,.int .i64 0,.int .i64 0,.int .i64 0,.int .i64 0,.int .i64 0,.int .i64 0,.int .i64 0],9,64,.st [(0,1,false),(1,1,false),(2,1,false),(3,1,false),(4,1,false),(5,1,false),(6,1,false),(7,1,false),(8,1,false)],some (.st [(0,1,false,.bl),(1,1,false,.bl),(2,1,false,.it .i64),(3,1,false,.it .i64),(4,1,false,.it .i64),(5,1,false,.it .i64),(6,1,false,.it .i64),(7,1,false,.it .i64),(8,1,false,.it .i64)])⟩:=⟨fun _=>by kernel_rfl,⟨rfl,rfl,fun _ _=>by simp [Wf,Wfs]⟩,⟨_,Tryz.underlying172,by kernel_rfl⟩,fun _ h=>by cases h; exact ⟨by kernel_rfl,by kernel_rfl⟩⟩
abbrev PT_B18 : TE:=[(3,⟨.int .i64 0,1,8,.sc (.int .i64),none⟩),(5,⟨.int .u8 0,1,1,.sc (.int .u8),none⟩),(22,⟨.int .u64 0,1,8,.sc (.int .u64),none⟩),(26,⟨.agg [.ints .u64 32 (fun _=>0),.int .u64 0,.int .i64 0,.bool false,.ints .u64 29 (fun _=>0),.int .u64 0],65,520,.st [(0,32,true),(32,1,false),(33,1,false),(34,1,false),(35,29,true),(64,1,false)],some (.st [(0,32,true,.ar 32 1 (.it .u64)),(32,1,false,.it .u64),(33,1,false,.it .i64),(34,1,false,.bl),(35,29,true,.ar 29 1 (.it .u64)),(64,1,false,.it .u64)])⟩),(45,⟨.agg [.int .u64 0,.int .u64 0,.int .u64 0,.bool false],4,32,.st [(0,1,false),(1,1,false),(2,1,false),(3,1,false)],some (.st [(0,1,false,.it .u64),(1,1,false,.it .u64),(2,1,false,.it .u64),(3,1,false,.bl)])⟩),(61,⟨.nilp,1,8,.sc (.pointer 127),none⟩),(83,⟨.agg [.agg [],.agg [],.int .u64 0],1,8,.st [(0,0,true),(0,0,true),(0,1,false)],none⟩),(84,⟨.nils,1,24,.sc (.slice 5),none⟩),(86,⟨.agg [.nils,.nils,.int .i64 0],3,56,.st [(0,1,false),(1,1,false),(2,1,false)],none⟩),(87,⟨.arr 3 4 (fun _=>.agg [.nils,.nils,.int .i64 0]),12,224,.ar 4 86 3 true,none⟩),(89,⟨.agg [.nilp,.agg [.agg [],.agg [],.int .u64 0],.int .u64 0,.arr 3 4 (fun _=>.agg [.nils,.nils,.int .i64 0])],15,248,.st [(0,1,false),(1,1,true),(2,1,false),(3,12,true)],none⟩),(96,⟨.int .i64 0,1,8,.sc (.int .i64),none⟩),(114,⟨.nilp,1,8,.sc (.pointer 86),none⟩),(172,⟨.agg [.bool false,.bool false,.int .i64 0,.int .i64 0,.int .i64 0,.int .i64 0,.int .i64 0,.int .i64 0,.int .i64 0],9,64,.st [(0,1,false),(1,1,false),(2,1,false),(3,1,false),(4,1,false),(5,1,false),(6,1,false),(7,1,false),(8,1,false)],some (.st [(0,1,false,.bl),(1,1,false,.bl),(2,1,false,.it .i64),(3,1,false,.it .i64),(4,1,false,.it .i64),(5,1,false,.it .i64),(6,1,false,.it .i64),(7,1,false,.it .i64),(8,1,false,.it .i64)])⟩),(241,⟨.ints .u64 3 (fun _=>0),3,24,.ar 3 22 1 false,some (.ar 3 1 (.it .u64))⟩)]
theorem PT_B18_ok : Prg Tryz.prog PT_B18:=⟨(.cons pe_3 (.cons pe_5 (.cons pe_22 (.cons pe_26 (.cons pe_45 (.cons pe_61 (.cons pe_83 (.cons pe_84 (.cons pe_86 (.cons pe_87 (.cons pe_89 (.cons pe_96 (.cons pe_114 (.cons pe_172 (.cons pe_241 (TEok.nil _)))))))))))))))),by kernel_rfl⟩
noncomputable abbrev B_z46 {α:Type}:FF α:=byBody PT_B18 [] ⟨1,[]⟩ Tryz.f60
theorem cB_z46 {α:Type} {I:Imm}:OrcOk (α:=α) Tryz.prog I 60 (.full (B_z46 )):=orc_body PT_B18_ok (OOk.nil) ⟨1,[]⟩ Tryz.func60 (by kernel_rfl) (by kernel_rfl) (by kernel_rfl)
noncomputable abbrev PO_z1d {α:Type}:ORC α:=[(60,.full (B_z46 ))]
theorem ok_z1d {α:Type} (b:Nat) (x1 x2:Int) (σ:Heap) (k:SV→Heap→R α):bodyL PT_B18 PO_z1d [] ⟨1,[]⟩ Tryz.f50 [.ptr b [],.int .u64 x1,.int .i64 x2] σ k=p_z1d x1 x2 (k .nilp σ) (fun i=>k (.ptr b [.fld 3 3,.idx i 3]) σ):=by kernel_rfl
theorem mk_z1d {α:Type} {I:Imm}:OrcOk (α:=α) Tryz.prog I 50 (.full (ad_console fun x1 x2 kn k0 k1 k2 k3=>p_z1d x1 x2 kn (sel4 k0 k1 k2 k3))):=
  con_of (orc_bodyL PT_B18_ok (O:=PO_z1d) (OOk.cons (cB_z46 ) (OOk.nil)) ⟨1,[]⟩ Tryz.func50 (by kernel_rfl) (by kernel_rfl) (by kernel_rfl)) fun b x1 x2 σ k r h=>(ok_z1d b x1 x2 σ k).trans (mono_z1d (fun i=>sel4_some (k:=fun i=>k (.ptr b [.fld 3 3,.idx i 3]) σ) i) h)
noncomputable abbrev B_z47 {α:Type} (F_z1d:Sg_z1d α) (F_z20:Sg_z20 α):FF α:=byBody PT_B18 [(122,.ext (xLoad .u64))] ⟨1,[]⟩ Tryz.f82
theorem cB_z47 {α:Type} {I:Imm} {F_z1d:Sg_z1d α} {F_z20:Sg_z20 α} (h_sync_atomic_LoadUint64:OrcOk (α:=α) Tryz.prog I 122 (.ext (xLoad .u64))) (h_z1d:OrcOk (α:=α) Tryz.prog I 50 (.full (ad_console F_z1d))) (h_z20:OrcOk (α:=α) Tryz.prog I 235 (.full (ad_z20 F_z20))):OrcOk (α:=α) Tryz.prog I 82 (.full (B_z47 F_z1d F_z20)):=orc_body PT_B18_ok (OOk.cons h_sync_atomic_LoadUint64 (OOk.nil)) ⟨1,[]⟩ Tryz.func82 (by kernel_rfl) (by kernel_rfl) (by kernel_rfl)
noncomputable abbrev PO_z1l {α:Type} (F_z1d:Sg_z1d α) (F_z20:Sg_z20 α):ORC α:=[(82,.full (B_z47 F_z1d F_z20)),(50,.full (ad_console F_z1d)),(235,.full (ad_z20 F_z20))]
theorem ok_z1l {α:Type} (F_z1d:Sg_z1d α) (F_z20:Sg_z20 α) (x0:GBus) (x1:Int) (x2:Int) (k:GBus→Int→Bool→R α):bodyL PT_B18 (PO_z1l F_z1d F_z20) [] ⟨1,[]⟩ Tryz.f188 (E_z1l.encs (x0,x1,x2,()) (fun i=>i) 0) (hp (E_z1l.objss (x0,x1,x2,()) (fun i=>i) 0)) (dRo M_z1l Q_z1l false (selN (E_z1l.encs (x0,x1,x2,()) (fun i=>i) 0) [0]) (fun y z=>k y.1 z.1 z.2.1))=p_z1l F_z1d F_z20 x0 x1 x2 k:=by kernel_rfl
theorem mk_z1l {α:Type} {I:Imm} {F_z1d:Sg_z1d α} {F_z20:Sg_z20 α} (h_sync_atomic_LoadUint64:OrcOk (α:=α) Tryz.prog I 122 (.ext (xLoad .u64))) (h_z1d:OrcOk (α:=α) Tryz.prog I 50 (.full (ad_console F_z1d))) (h_z20:OrcOk (α:=α) Tryz.prog I 235 (.full (ad_z20 F_z20))) {F:Sg_z1l α} (hF:∀x0 x1 x2 k r,F x0 x1 x2 k=some r→p_z1l F_z1d F_z20 x0 x1 x2 k=some r):OrcOk (α:=α) Tryz.prog I 188 (.full (ad_z1l F)):=
  orc_obj PT_B18_ok (O:=PO_z1l F_z1d F_z20) (OOk.cons (cB_z47 h_sync_atomic_LoadUint64 h_z1d h_z20) (OOk.cons h_z1d (OOk.cons h_z20 (OOk.nil)))) (L:=[]) ⟨1,[]⟩ Tryz.func188 (by kernel_rfl) (by kernel_rfl) (by kernel_rfl) FLOk.nil E_z3u M_z3u Q_z3u rfl (oi:=[0]) fun ⟨x0,x1,x2,()⟩ k r h=>(ok_z1l F_z1d F_z20 x0 x1 x2 (fun y0 z0 z1=>k (y0,()) (z0,z1,()))).trans (hF x0 x1 x2 _ r h)
noncomputable abbrev PO_z7 {α:Type} (F_z1d:Sg_z1d α) (F_z8:Sg_z8 α):ORC α:=[(50,.full (ad_console F_z1d)),(35,.full (ad_z8 F_z8))]
theorem ok_z7 {α:Type} (F_z1d:Sg_z1d α) (F_z8:Sg_z8 α) (x0:GBus) (x1:Int) (x2:Int) (x3:Int) (k:GBus→Bool→R α):bodyL PT_B18 (PO_z7 F_z1d F_z8) [] ⟨1,[]⟩ Tryz.f18 (E_z7.encs (x0,x1,x2,x3,()) (fun i=>i) 0) (hp (E_z7.objss (x0,x1,x2,x3,()) (fun i=>i) 0)) (dRo M_z7 Q_z7 true (selN (E_z7.encs (x0,x1,x2,x3,()) (fun i=>i) 0) [0]) (fun y z=>k y.1 z.1))=p_z7 F_z1d F_z8 x0 x1 x2 x3 k:=by kernel_rfl
theorem mk_z7 {α:Type} {I:Imm} {F_z1d:Sg_z1d α} {F_z8:Sg_z8 α} (h_z1d:OrcOk (α:=α) Tryz.prog I 50 (.full (ad_console F_z1d))) (h_z8:OrcOk (α:=α) Tryz.prog I 35 (.full (ad_z8 F_z8))) {F:Sg_z7 α} (hF:∀x0 x1 x2 x3 k r,F x0 x1 x2 x3 k=some r→p_z7 F_z1d F_z8 x0 x1 x2 x3 k=some r):OrcOk (α:=α) Tryz.prog I 18 (.full (ad_z7 F)):=
  orc_obj PT_B18_ok (O:=PO_z7 F_z1d F_z8) (OOk.cons h_z1d (OOk.cons h_z8 (OOk.nil))) (L:=[]) ⟨1,[]⟩ Tryz.func18 (by kernel_rfl) (by kernel_rfl) (by kernel_rfl) FLOk.nil E_z3v M_z3v Q_z3v rfl (oi:=[0]) fun ⟨x0,x1,x2,x3,()⟩ k r h=>(ok_z7 F_z1d F_z8 x0 x1 x2 x3 (fun y0 z0=>k (y0,()) (z0,()))).trans (hF x0 x1 x2 x3 _ r h)
noncomputable abbrev PO_z1f {α:Type}:ORC α:=[]
theorem ok_z1f {α:Type}  (x0:Int) (x1:(Nat→Int)) (k:Int→R α):bodyL PT_B18 (PO_z1f ) [] ⟨1,[]⟩ Tryz.f180 [(.int .i64 x0),(.ints .u64 3 x1)] emp (fun v _=>dR_access_cause v k)=p_z1f  x0 x1 k:=by kernel_rfl
theorem mk_z1f {α:Type} {I:Imm}:OrcOk (α:=α) Tryz.prog I 180 (.pure (ad_z1f (p_z1f ))):=by
  refine orc_pureK PT_B18_ok (O:=PO_z1f ) (OOk.nil) (L:=[]) ⟨1,[]⟩ Tryz.func180 (by kernel_rfl) (by kernel_rfl) (by kernel_rfl) FLOk.nil ?_
  intro args k r hk
  unfold ad_z1f at hk
  split at hk<;>try (cases hk; done)
  obtain ⟨x0,rfl,hk0⟩:=decI_spec hk
  obtain ⟨x1,rfl,hk1⟩:=decA_spec hk0
  have hkz:=hk1
  refine ⟨by simp [Ids,Idss],fun v=>dR_access_cause v (fun r0=>k (.int .u64 r0)),?_,fun v hv=>?_⟩
  · rw [ok_z1f]; exact hkz
  · obtain ⟨r0,rfl,hv1⟩:=dR_access_cause_spec hv; exact ⟨hv1,by simp [Ids,Idss]⟩
noncomputable abbrev PO_z14 {α:Type} (F_z1f:Sg_z1f α):ORC α:=[(180,.pure (ad_z1f F_z1f))]
theorem ok_z14 {α:Type} (F_z1f:Sg_z1f α) (x0:Int) (x1:Int) (x2:Bool) (k:GFault→R α):bodyL PT_B18 (PO_z14 F_z1f) [] ⟨1,[]⟩ Tryz.f179 [(.int .u64 x0),(.int .i64 x1),(.bool x2)] emp (fun v _=>dR_access_Bad v k)=p_z14 F_z1f x0 x1 x2 k:=by kernel_rfl
theorem mk_z14 {α:Type} {I:Imm} {F_z1f:Sg_z1f α} (h_z1f:OrcOk (α:=α) Tryz.prog I 180 (.pure (ad_z1f F_z1f))):OrcOk (α:=α) Tryz.prog I 179 (.pure (ad_z14 (p_z14 F_z1f))):=by
  refine orc_pureK PT_B18_ok (O:=PO_z14 F_z1f) (OOk.cons h_z1f (OOk.nil)) (L:=[]) ⟨1,[]⟩ Tryz.func179 (by kernel_rfl) (by kernel_rfl) (by kernel_rfl) FLOk.nil ?_
  intro args k r hk
  unfold ad_z14 at hk
  split at hk<;>try (cases hk; done)
  obtain ⟨x0,rfl,hk0⟩:=decI_spec hk
  obtain ⟨x1,rfl,hk1⟩:=decI_spec hk0
  obtain ⟨x2,rfl,hk2⟩:=decB_spec hk1
  have hkz:=hk2
  refine ⟨by simp [Ids,Idss],fun v=>dR_access_Bad v (fun r0=>k (GFault.sv r0)),?_,fun v hv=>?_⟩
  · rw [ok_z14]; exact hkz
  · obtain ⟨r0,rfl,hv1⟩:=dR_access_Bad_spec hv; exact ⟨hv1,by simp [Ids,Idss]⟩
noncomputable abbrev B_z48 {α:Type} (F_z14:Sg_z14 α) (F_z7:Sg_z7 α) (F_z1l:Sg_z1l α):FF α:=byBody PT_B18 [] ⟨1,[]⟩ Tryz.f187
theorem cB_z48 {α:Type} {I:Imm} {F_z14:Sg_z14 α} {F_z7:Sg_z7 α} {F_z1l:Sg_z1l α} (h_z14:OrcOk (α:=α) Tryz.prog I 179 (.pure (ad_z14 F_z14))) (h_z7:OrcOk (α:=α) Tryz.prog I 18 (.full (ad_z7 F_z7))) (h_z1l:OrcOk (α:=α) Tryz.prog I 188 (.full (ad_z1l F_z1l))):OrcOk (α:=α) Tryz.prog I 187 (.full (B_z48 F_z14 F_z7 F_z1l)):=orc_body PT_B18_ok (OOk.nil) ⟨1,[]⟩ Tryz.func187 (by kernel_rfl) (by kernel_rfl) (by kernel_rfl)
noncomputable abbrev PO_zu {α:Type} (F_z14:Sg_z14 α) (F_z7:Sg_z7 α) (F_z1l:Sg_z1l α):ORC α:=[(187,.full (B_z48 F_z14 F_z7 F_z1l)),(179,.pure (ad_z14 F_z14)),(18,.full (ad_z7 F_z7)),(188,.full (ad_z1l F_z1l))]
theorem ok_zu {α:Type} (F_z14:Sg_z14 α) (F_z7:Sg_z7 α) (F_z1l:Sg_z1l α) (x0:GBus) (x1:Int) (x2:Int) (x3:Int) (x4:Int) (x5:Int) (x6:Bool) (k:GBus→Int→GFault→Bool→R α):bodyL PT_B18 (PO_zu F_z14 F_z7 F_z1l) [] ⟨1,[]⟩ Tryz.f129 (E_zu.encs (x0,x1,x2,x3,x4,x5,x6,()) (fun i=>i) 0) (hp (E_zu.objss (x0,x1,x2,x3,x4,x5,x6,()) (fun i=>i) 0)) (dRo M_zu Q_zu false (selN (E_zu.encs (x0,x1,x2,x3,x4,x5,x6,()) (fun i=>i) 0) [0]) (fun y z=>k y.1 z.1 z.2.1 z.2.2.1))=p_zu F_z14 F_z7 F_z1l x0 x1 x2 x3 x4 x5 x6 k:=by kernel_rfl
theorem mk_zu {α:Type} {I:Imm} {F_z14:Sg_z14 α} {F_z7:Sg_z7 α} {F_z1l:Sg_z1l α} (h_z14:OrcOk (α:=α) Tryz.prog I 179 (.pure (ad_z14 F_z14))) (h_z7:OrcOk (α:=α) Tryz.prog I 18 (.full (ad_z7 F_z7))) (h_z1l:OrcOk (α:=α) Tryz.prog I 188 (.full (ad_z1l F_z1l))) {F:Sg_zu α} (hF:∀x0 x1 x2 x3 x4 x5 x6 k r,F x0 x1 x2 x3 x4 x5 x6 k=some r→p_zu F_z14 F_z7 F_z1l x0 x1 x2 x3 x4 x5 x6 k=some r):OrcOk (α:=α) Tryz.prog I 129 (.full (ad_zu F)):=
  orc_obj PT_B18_ok (O:=PO_zu F_z14 F_z7 F_z1l) (OOk.cons (cB_z48 h_z14 h_z7 h_z1l) (OOk.cons h_z14 (OOk.cons h_z7 (OOk.cons h_z1l (OOk.nil))))) (L:=[]) ⟨1,[]⟩ Tryz.func129 (by kernel_rfl) (by kernel_rfl) (by kernel_rfl) FLOk.nil E_z3w M_z3w Q_z3w rfl (oi:=[0]) fun ⟨x0,x1,x2,x3,x4,x5,x6,()⟩ k r h=>(ok_zu F_z14 F_z7 F_z1l x0 x1 x2 x3 x4 x5 x6 (fun y0 z0 z1 z2=>k (y0,()) (z0,z1,z2,()))).trans (hF x0 x1 x2 x3 x4 x5 x6 _ r h)
noncomputable abbrev PO_z11 {α:Type} (F_z14:Sg_z14 α) (F_z1f:Sg_z1f α):ORC α:=[(179,.pure (ad_z14 F_z14)),(180,.pure (ad_z1f F_z1f))]
theorem ok_z11 {α:Type} (F_z14:Sg_z14 α) (F_z1f:Sg_z1f α) (x0:Int) (x1:Int) (x2:Int) (x3:Bool) (k:GFault→Bool→R α):bodyL PT_B18 (PO_z11 F_z14 F_z1f) [] ⟨1,[]⟩ Tryz.f127 [(.int .u64 x0),(.int .i64 x1),(.int .i64 x2),(.bool x3)] emp (fun v _=>dR_access_Aligned v k)=p_z11 F_z14 F_z1f x0 x1 x2 x3 k:=by kernel_rfl
theorem mk_z11 {α:Type} {I:Imm} {F_z14:Sg_z14 α} {F_z1f:Sg_z1f α} (h_z14:OrcOk (α:=α) Tryz.prog I 179 (.pure (ad_z14 F_z14))) (h_z1f:OrcOk (α:=α) Tryz.prog I 180 (.pure (ad_z1f F_z1f))):OrcOk (α:=α) Tryz.prog I 127 (.pure (ad_z11 (p_z11 F_z14 F_z1f))):=by
  refine orc_pureK PT_B18_ok (O:=PO_z11 F_z14 F_z1f) (OOk.cons h_z14 (OOk.cons h_z1f (OOk.nil))) (L:=[]) ⟨1,[]⟩ Tryz.func127 (by kernel_rfl) (by kernel_rfl) (by kernel_rfl) FLOk.nil ?_
  intro args k r hk
  unfold ad_z11 at hk
  split at hk<;>try (cases hk; done)
  obtain ⟨x0,rfl,hk0⟩:=decI_spec hk
  obtain ⟨x1,rfl,hk1⟩:=decI_spec hk0
  obtain ⟨x2,rfl,hk2⟩:=decI_spec hk1
  obtain ⟨x3,rfl,hk3⟩:=decB_spec hk2
  have hkz:=hk3
  refine ⟨by simp [Ids,Idss],fun v=>dR_access_Aligned v (fun r0 r1=>k (.tuple [(GFault.sv r0),(.bool r1)])),?_,fun v hv=>?_⟩
  · rw [ok_z11]; exact hkz
  · obtain ⟨r0,r1,rfl,hv1⟩:=dR_access_Aligned_spec hv; exact ⟨hv1,by simp [Ids,Idss]⟩
noncomputable abbrev B_z49 {α:Type} (F_z11:Sg_z11 α) (F_z1b:Sg_z1b α) (F_zu:Sg_zu α):FF α:=byBody PT_B18 [] ⟨1,[]⟩ Tryz.f21
theorem cB_z49 {α:Type} {I:Imm} {F_z11:Sg_z11 α} {F_z1b:Sg_z1b α} {F_zu:Sg_zu α} (h_z11:OrcOk (α:=α) Tryz.prog I 127 (.pure (ad_z11 F_z11))) (h_z1b:OrcOk (α:=α) Tryz.prog I 128 (.full (ad_z1b F_z1b))) (h_zu:OrcOk (α:=α) Tryz.prog I 129 (.full (ad_zu F_zu))):OrcOk (α:=α) Tryz.prog I 21 (.full (B_z49 F_z11 F_z1b F_zu)):=orc_body PT_B18_ok (OOk.nil) ⟨1,[]⟩ Tryz.func21 (by kernel_rfl) (by kernel_rfl) (by kernel_rfl)
noncomputable abbrev PO_zw {α:Type} (F_z11:Sg_z11 α) (F_z1b:Sg_z1b α) (F_zu:Sg_zu α):ORC α:=[(127,.pure (ad_z11 F_z11)),(21,.full (B_z49 F_z11 F_z1b F_zu)),(128,.full (ad_z1b F_z1b)),(129,.full (ad_zu F_zu))]
theorem ok_zw {α:Type} (F_z11:Sg_z11 α) (F_z1b:Sg_z1b α) (F_zu:Sg_zu α) (x0:GBus) (x1:GState) (x2:Int) (x3:Int) (x4:Int) (x5:Int) (x6:Int) (x7:Bool) (k:GBus→Int→GFault→Bool→R α):bodyL PT_B18 (PO_zw F_z11 F_z1b F_zu) [] ⟨1,[]⟩ Tryz.f84 (E_zw.encs (x0,x1,x2,x3,x4,x5,x6,x7,()) (fun i=>i) 0) (hp (E_zw.objss (x0,x1,x2,x3,x4,x5,x6,x7,()) (fun i=>i) 0)) (dRo M_zw Q_zw false (selN (E_zw.encs (x0,x1,x2,x3,x4,x5,x6,x7,()) (fun i=>i) 0) [0]) (fun y z=>k y.1 z.1 z.2.1 z.2.2.1))=p_zw F_z11 F_z1b F_zu x0 x1 x2 x3 x4 x5 x6 x7 k:=by kernel_rfl
theorem mk_zw {α:Type} {I:Imm} {F_z11:Sg_z11 α} {F_z1b:Sg_z1b α} {F_zu:Sg_zu α} (h_z11:OrcOk (α:=α) Tryz.prog I 127 (.pure (ad_z11 F_z11))) (h_z1b:OrcOk (α:=α) Tryz.prog I 128 (.full (ad_z1b F_z1b))) (h_zu:OrcOk (α:=α) Tryz.prog I 129 (.full (ad_zu F_zu))) {F:Sg_zw α} (hF:∀x0 x1 x2 x3 x4 x5 x6 x7 k r,F x0 x1 x2 x3 x4 x5 x6 x7 k=some r→p_zw F_z11 F_z1b F_zu x0 x1 x2 x3 x4 x5 x6 x7 k=some r):OrcOk (α:=α) Tryz.prog I 84 (.full (ad_zw F)):=
  orc_obj PT_B18_ok (O:=PO_zw F_z11 F_z1b F_zu) (OOk.cons h_z11 (OOk.cons (cB_z49 h_z11 h_z1b h_zu) (OOk.cons h_z1b (OOk.cons h_zu (OOk.nil))))) (L:=[]) ⟨1,[]⟩ Tryz.func84 (by kernel_rfl) (by kernel_rfl) (by kernel_rfl) FLOk.nil E_z3x M_z3x Q_z3x rfl (oi:=[0]) fun ⟨x0,x1,x2,x3,x4,x5,x6,x7,()⟩ k r h=>(ok_zw F_z11 F_z1b F_zu x0 x1 x2 x3 x4 x5 x6 x7 (fun y0 z0 z1 z2=>k (y0,()) (z0,z1,z2,()))).trans (hF x0 x1 x2 x3 x4 x5 x6 x7 _ r h)
end Go.Proofs.YtepdlgehceipjaaGreat
