/-
  The bus and accesses (printed by wip/pr/pr.py): the functions come to just that.
-/
import Derived.Test.YtepdlgehceipjaaGreatInMem
import Derived.Test.YtepdlgehceipjaaGreatInTwo
import Derived.Test.YtepdlgehceipjaaGreatSpB18
set_option maxRecDepth 100000
namespace Go.Proofs.YtepdlgehceipjaaGreat
open Go Go.Sh Go.Proofs
set_option linter.unusedVariables false
set_option linter.unusedSimpArgs false
theorem pe_3 : TyOk Tryz.prog 3 ⟨.int .i64 0,1,8,.sc (.int .i64),none⟩:=⟨fun _=>by kernel_rfl,⟨rfl,rfl,fun _ _=>by simp [Wf,Wfs]⟩,⟨Tryz.underlying3,rfl⟩,fun _ h=>by cases h⟩
theorem pe_22 : TyOk Tryz.prog 22 ⟨.int .u64 0,1,8,.sc (.int .u64),none⟩:=⟨fun _=>by kernel_rfl,⟨rfl,rfl,fun _ _=>by simp [Wf,Wfs]⟩,⟨Tryz.underlying22,rfl⟩,fun _ h=>by cases h⟩
theorem pe_87 : TyOk Tryz.prog 87 ⟨.arr 3 4 (fun _=>.agg [.nils,.nils,.int .i64 0]),12,224,.ar 4 86 3 true,none⟩:=⟨fun _=>by kernel_rfl,⟨rfl,rfl,fun _ _=>by simp [Wf,Wfs]⟩,⟨Tryz.underlying87,by kernel_rfl,by kernel_rfl⟩,fun _ h=>by cases h⟩
theorem pe_89 : TyOk Tryz.prog 89 ⟨.agg [.nilp,.agg [.agg [],.agg [],.int .u64 0],.int .u64 0,.arr 3 4 (fun _=>.agg [.nils,.nils,.int .i64 0])],15,248,.st [(0,1,false),(1,1,true),(2,1,false),(3,12,true)],none⟩:=⟨fun _=>by kernel_rfl,⟨rfl,rfl,fun _ _=>by simp [Wf,Wfs]⟩,⟨_,Tryz.underlying89,by kernel_rfl⟩,fun _ h=>by cases h⟩
theorem pe_5 : TyOk Tryz.prog 5 ⟨.int .u8 0,1,1,.sc (.int .u8),none⟩:=⟨fun _=>by kernel_rfl,⟨rfl,rfl,fun _ _=>by simp [Wf,Wfs]⟩,⟨Tryz.underlying5,rfl⟩,fun _ h=>by cases h⟩
theorem pe_61 : TyOk Tryz.prog 61 ⟨.nilp,1,8,.sc (.pointer 127),none⟩:=⟨fun _=>by kernel_rfl,⟨rfl,rfl,fun _ _=>by simp [Wf,Wfs]⟩,⟨Tryz.underlying61,rfl⟩,fun _ h=>by cases h⟩
theorem pe_84 : TyOk Tryz.prog 84 ⟨.nils,1,24,.sc (.slice 5),none⟩:=⟨fun _=>by kernel_rfl,⟨rfl,rfl,fun _ _=>by simp [Wf,Wfs]⟩,⟨Tryz.underlying84,rfl⟩,fun _ h=>by cases h⟩
theorem pe_86 : TyOk Tryz.prog 86 ⟨.agg [.nils,.nils,.int .i64 0],3,56,.st [(0,1,false),(1,1,false),(2,1,false)],none⟩:=⟨fun _=>by kernel_rfl,⟨rfl,rfl,fun _ _=>by simp [Wf,Wfs]⟩,⟨_,Tryz.underlying86,by kernel_rfl⟩,fun _ h=>by cases h⟩
theorem pe_96 : TyOk Tryz.prog 96 ⟨.int .i64 0,1,8,.sc (.int .i64),none⟩:=⟨fun _=>by kernel_rfl,⟨rfl,rfl,fun _ _=>by simp [Wf,Wfs]⟩,⟨Tryz.underlying96,rfl⟩,fun _ h=>by cases h⟩
theorem pe_114 : TyOk Tryz.prog 114 ⟨.nilp,1,8,.sc (.pointer 86),none⟩:=⟨fun _=>by kernel_rfl,⟨rfl,rfl,fun _ _=>by simp [Wf,Wfs]⟩,⟨Tryz.underlying114,rfl⟩,fun _ h=>by cases h⟩
theorem pe_83 : TyOk Tryz.prog 83 ⟨.agg [.agg [],.agg [],.int .u64 0],1,8,.st [(0,0,true),(0,0,true),(0,1,false)],none⟩:=⟨fun _=>by kernel_rfl,⟨rfl,rfl,fun _ _=>by simp [Wf,Wfs]⟩,⟨_,Tryz.underlying83,by kernel_rfl⟩,fun _ h=>by cases h⟩
theorem pe_241 : TyOk Tryz.prog 241 ⟨.ints .u64 3 (fun _=>0),3,24,.ar 3 22 1 false,some (.ar 3 1 (.it .u64))⟩:=⟨fun _=>by kernel_rfl,⟨rfl,rfl,fun _ _=>by simp [Wf,Wfs]⟩,⟨Tryz.underlying241,by kernel_rfl,by kernel_rfl⟩,fun _ h=>by cases h; exact ⟨by kernel_rfl,by kernel_rfl⟩⟩
theorem pe_45 : TyOk Tryz.prog 45 ⟨.agg [.int .u64 0,.int .u64 0,.int .u64 0,.bool false],4,32,.st [(0,1,false),(1,1,false),(2,1,false),(3,1,false)],some (.st [(0,1,false,.it .u64),(1,1,false,.it .u64),(2,1,false,.it .u64),(3,1,false,.bl)])⟩:=⟨fun _=>by kernel_rfl,⟨rfl,rfl,fun _ _=>by simp [Wf,Wfs]⟩,⟨_,Tryz.underlying45,by kernel_rfl⟩,fun _ h=>by cases h; exact ⟨by kernel_rfl,by kernel_rfl⟩⟩
theorem pe_26 : TyOk Tryz.prog 26 ⟨.agg [.ints .u64 32 (fun _=>0),.int .u64 0,.int .i64 0,.bool false,.ints .u64 29 (fun _=>0),.int .u64 0],65,520,.st [(0,32,true),(32,1,false),(33,1,false),(34,1,false),(35,29,true),(64,1,false)],some (.st [(0,32,true,.ar 32 1 (.it .u64)),(32,1,false,.it .u64),(33,1,false,.it .i64),(34,1,false,.bl),(35,29,true,.ar 29 1 (.it .u64)),(64,1,false,.it .u64)])⟩:=⟨fun _=>by kernel_rfl,⟨rfl,rfl,fun _ _=>by simp [Wf,Wfs]⟩,⟨_,Tryz.underlying26,by kernel_rfl⟩,fun _ h=>by cases h; exact ⟨by kernel_rfl,by kernel_rfl⟩⟩
theorem pe_172 : TyOk Tryz.prog 172 ⟨.agg [.bool false,.bool false,.int .i64 0,.int .i64 0,.int .i64 0,.int .i64 0,.int .i64 0,.int .i64 0,.int .i64 0],9,64,.st [(0,1,false),(1,1,false),(2,1,false),(3,1,false),(4,1,false),(5,1,false),(6,1,false),(7,1,false),(8,1,false)],some (.st [(0,1,false,.bl),(1,1,false,.bl),(2,1,false,.it .i64),(3,1,false,.it .i64),(4,1,false,.it .i64),(5,1,false,.it .i64),(6,1,false,.it .i64),(7,1,false,.it .i64),(8,1,false,.it .i64)])⟩:=⟨fun _=>by kernel_rfl,⟨rfl,rfl,fun _ _=>by simp [Wf,Wfs]⟩,⟨_,Tryz.underlying172,by kernel_rfl⟩,fun _ h=>by cases h; exact ⟨by kernel_rfl,by kernel_rfl⟩⟩
abbrev PT_B18 : TE:=[(3,⟨.int .i64 0,1,8,.sc (.int .i64),none⟩),(5,⟨.int .u8 0,1,1,.sc (.int .u8),none⟩),(22,⟨.int .u64 0,1,8,.sc (.int .u64),none⟩),(26,⟨.agg [.ints .u64 32 (fun _=>0),.int .u64 0,.int .i64 0,.bool false,.ints .u64 29 (fun _=>0),.int .u64 0],65,520,.st [(0,32,true),(32,1,false),(33,1,false),(34,1,false),(35,29,true),(64,1,false)],some (.st [(0,32,true,.ar 32 1 (.it .u64)),(32,1,false,.it .u64),(33,1,false,.it .i64),(34,1,false,.bl),(35,29,true,.ar 29 1 (.it .u64)),(64,1,false,.it .u64)])⟩),(45,⟨.agg [.int .u64 0,.int .u64 0,.int .u64 0,.bool false],4,32,.st [(0,1,false),(1,1,false),(2,1,false),(3,1,false)],some (.st [(0,1,false,.it .u64),(1,1,false,.it .u64),(2,1,false,.it .u64),(3,1,false,.bl)])⟩),(61,⟨.nilp,1,8,.sc (.pointer 127),none⟩),(83,⟨.agg [.agg [],.agg [],.int .u64 0],1,8,.st [(0,0,true),(0,0,true),(0,1,false)],none⟩),(84,⟨.nils,1,24,.sc (.slice 5),none⟩),(86,⟨.agg [.nils,.nils,.int .i64 0],3,56,.st [(0,1,false),(1,1,false),(2,1,false)],none⟩),(87,⟨.arr 3 4 (fun _=>.agg [.nils,.nils,.int .i64 0]),12,224,.ar 4 86 3 true,none⟩),(89,⟨.agg [.nilp,.agg [.agg [],.agg [],.int .u64 0],.int .u64 0,.arr 3 4 (fun _=>.agg [.nils,.nils,.int .i64 0])],15,248,.st [(0,1,false),(1,1,true),(2,1,false),(3,12,true)],none⟩),(96,⟨.int .i64 0,1,8,.sc (.int .i64),none⟩),(114,⟨.nilp,1,8,.sc (.pointer 86),none⟩),(172,⟨.agg [.bool false,.bool false,.int .i64 0,.int .i64 0,.int .i64 0,.int .i64 0,.int .i64 0,.int .i64 0,.int .i64 0],9,64,.st [(0,1,false),(1,1,false),(2,1,false),(3,1,false),(4,1,false),(5,1,false),(6,1,false),(7,1,false),(8,1,false)],some (.st [(0,1,false,.bl),(1,1,false,.bl),(2,1,false,.it .i64),(3,1,false,.it .i64),(4,1,false,.it .i64),(5,1,false,.it .i64),(6,1,false,.it .i64),(7,1,false,.it .i64),(8,1,false,.it .i64)])⟩),(241,⟨.ints .u64 3 (fun _=>0),3,24,.ar 3 22 1 false,some (.ar 3 1 (.it .u64))⟩)]
theorem PT_B18_ok : Prg Tryz.prog PT_B18:=⟨(.cons pe_3 (.cons pe_5 (.cons pe_22 (.cons pe_26 (.cons pe_45 (.cons pe_61 (.cons pe_83 (.cons pe_84 (.cons pe_86 (.cons pe_87 (.cons pe_89 (.cons pe_96 (.cons pe_114 (.cons pe_172 (.cons pe_241 (TEok.nil _)))))))))))))))),by kernel_rfl⟩
noncomputable abbrev B_z3t {α:Type}:FF α:=byBody PT_B18 [] ⟨1,[]⟩ Tryz.f60
theorem cB_z3t {α:Type} {I:Imm}:OrcOk (α:=α) Tryz.prog I 60 (.full (B_z3t )):=orc_body PT_B18_ok (OOk.nil) ⟨1,[]⟩ Tryz.func60 (by kernel_rfl) (by kernel_rfl) (by kernel_rfl)
noncomputable abbrev PO_z15 {α:Type}:ORC α:=[(60,.full (B_z3t ))]
theorem ok_z15 {α:Type} (b:Nat) (x1 x2:Int) (σ:Heap) (k:SV→Heap→R α):bodyL PT_B18 PO_z15 [] ⟨1,[]⟩ Tryz.f50 [.ptr b [],.int .u64 x1,.int .i64 x2] σ k=p_z15 x1 x2 (k .nilp σ) (fun i=>k (.ptr b [.fld 3 3,.idx i 3]) σ):=by kernel_rfl
theorem mk_z15 {α:Type} {I:Imm}:OrcOk (α:=α) Tryz.prog I 50 (.full (ad_console fun x1 x2 kn k0 k1 k2 k3=>p_z15 x1 x2 kn (sel4 k0 k1 k2 k3))):=
  con_of (orc_bodyL PT_B18_ok (O:=PO_z15) (OOk.cons (cB_z3t ) (OOk.nil)) ⟨1,[]⟩ Tryz.func50 (by kernel_rfl) (by kernel_rfl) (by kernel_rfl)) fun b x1 x2 σ k r h=>(ok_z15 b x1 x2 σ k).trans (mono_z15 (fun i=>sel4_some (k:=fun i=>k (.ptr b [.fld 3 3,.idx i 3]) σ) i) h)
noncomputable abbrev B_z3u {α:Type} (F_z15:Sg_z15 α) (F_z1q:Sg_z1q α):FF α:=byBody PT_B18 [(122,.ext (xLoad .u64))] ⟨1,[]⟩ Tryz.f82
theorem cB_z3u {α:Type} {I:Imm} {F_z15:Sg_z15 α} {F_z1q:Sg_z1q α} (h_sync_atomic_LoadUint64:OrcOk (α:=α) Tryz.prog I 122 (.ext (xLoad .u64))) (h_z15:OrcOk (α:=α) Tryz.prog I 50 (.full (ad_console F_z15))) (h_z1q:OrcOk (α:=α) Tryz.prog I 235 (.full (ad_z1q F_z1q))):OrcOk (α:=α) Tryz.prog I 82 (.full (B_z3u F_z15 F_z1q)):=orc_body PT_B18_ok (OOk.cons h_sync_atomic_LoadUint64 (OOk.nil)) ⟨1,[]⟩ Tryz.func82 (by kernel_rfl) (by kernel_rfl) (by kernel_rfl)
noncomputable abbrev PO_z1e {α:Type} (F_z15:Sg_z15 α) (F_z1q:Sg_z1q α):ORC α:=[(82,.full (B_z3u F_z15 F_z1q)),(50,.full (ad_console F_z15)),(235,.full (ad_z1q F_z1q))]
theorem ok_z1e {α:Type} (F_z15:Sg_z15 α) (F_z1q:Sg_z1q α) (x0:GBus) (x1:Int) (x2:Int) (k:GBus→Int→Bool→R α):bodyL PT_B18 (PO_z1e F_z15 F_z1q) [] ⟨1,[]⟩ Tryz.f188 (E_z1e.encs (x0,x1,x2,()) (fun i=>i) 0) (hp (E_z1e.objss (x0,x1,x2,()) (fun i=>i) 0)) (dRo M_z1e Q_z1e false (selN (E_z1e.encs (x0,x1,x2,()) (fun i=>i) 0) [0]) (fun y z=>k y.1 z.1 z.2.1))=p_z1e F_z15 F_z1q x0 x1 x2 k:=by kernel_rfl
theorem mk_z1e {α:Type} {I:Imm} {F_z15:Sg_z15 α} {F_z1q:Sg_z1q α} (h_sync_atomic_LoadUint64:OrcOk (α:=α) Tryz.prog I 122 (.ext (xLoad .u64))) (h_z15:OrcOk (α:=α) Tryz.prog I 50 (.full (ad_console F_z15))) (h_z1q:OrcOk (α:=α) Tryz.prog I 235 (.full (ad_z1q F_z1q))) {F:Sg_z1e α} (hF:∀x0 x1 x2 k r,F x0 x1 x2 k=some r→p_z1e F_z15 F_z1q x0 x1 x2 k=some r):OrcOk (α:=α) Tryz.prog I 188 (.full (ad_z1e F)):=
  orc_obj PT_B18_ok (O:=PO_z1e F_z15 F_z1q) (OOk.cons (cB_z3u h_sync_atomic_LoadUint64 h_z15 h_z1q) (OOk.cons h_z15 (OOk.cons h_z1q (OOk.nil)))) (L:=[]) ⟨1,[]⟩ Tryz.func188 (by kernel_rfl) (by kernel_rfl) (by kernel_rfl) FLOk.nil E_z3j M_z3j Q_z3j rfl (oi:=[0]) fun ⟨x0,x1,x2,()⟩ k r h=>(ok_z1e F_z15 F_z1q x0 x1 x2 (fun y0 z0 z1=>k (y0,()) (z0,z1,()))).trans (hF x0 x1 x2 _ r h)
noncomputable abbrev PO_z1f {α:Type} (F_z15:Sg_z15 α) (F_z2r:Sg_z2r α):ORC α:=[(50,.full (ad_console F_z15)),(35,.full (ad_z2r F_z2r))]
theorem ok_z1f {α:Type} (F_z15:Sg_z15 α) (F_z2r:Sg_z2r α) (x0:GBus) (x1:Int) (x2:Int) (x3:Int) (k:GBus→Bool→R α):bodyL PT_B18 (PO_z1f F_z15 F_z2r) [] ⟨1,[]⟩ Tryz.f18 (E_z1f.encs (x0,x1,x2,x3,()) (fun i=>i) 0) (hp (E_z1f.objss (x0,x1,x2,x3,()) (fun i=>i) 0)) (dRo M_z1f Q_z1f true (selN (E_z1f.encs (x0,x1,x2,x3,()) (fun i=>i) 0) [0]) (fun y z=>k y.1 z.1))=p_z1f F_z15 F_z2r x0 x1 x2 x3 k:=by kernel_rfl
theorem mk_z1f {α:Type} {I:Imm} {F_z15:Sg_z15 α} {F_z2r:Sg_z2r α} (h_z15:OrcOk (α:=α) Tryz.prog I 50 (.full (ad_console F_z15))) (h_z2r:OrcOk (α:=α) Tryz.prog I 35 (.full (ad_z2r F_z2r))) {F:Sg_z1f α} (hF:∀x0 x1 x2 x3 k r,F x0 x1 x2 x3 k=some r→p_z1f F_z15 F_z2r x0 x1 x2 x3 k=some r):OrcOk (α:=α) Tryz.prog I 18 (.full (ad_z1f F)):=
  orc_obj PT_B18_ok (O:=PO_z1f F_z15 F_z2r) (OOk.cons h_z15 (OOk.cons h_z2r (OOk.nil))) (L:=[]) ⟨1,[]⟩ Tryz.func18 (by kernel_rfl) (by kernel_rfl) (by kernel_rfl) FLOk.nil E_z3k M_z3k Q_z3k rfl (oi:=[0]) fun ⟨x0,x1,x2,x3,()⟩ k r h=>(ok_z1f F_z15 F_z2r x0 x1 x2 x3 (fun y0 z0=>k (y0,()) (z0,()))).trans (hF x0 x1 x2 x3 _ r h)
noncomputable abbrev PO_z18 {α:Type}:ORC α:=[]
theorem ok_z18 {α:Type}  (x0:Int) (x1:(Nat→Int)) (k:Int→R α):bodyL PT_B18 (PO_z18 ) [] ⟨1,[]⟩ Tryz.f180 [(.int .i64 x0),(.ints .u64 3 x1)] emp (fun v _=>dR_access_cause v k)=p_z18  x0 x1 k:=by kernel_rfl
theorem mk_z18 {α:Type} {I:Imm}:OrcOk (α:=α) Tryz.prog I 180 (.pure (ad_z18 (p_z18 ))):=by
  refine orc_pureK PT_B18_ok (O:=PO_z18 ) (OOk.nil) (L:=[]) ⟨1,[]⟩ Tryz.func180 (by kernel_rfl) (by kernel_rfl) (by kernel_rfl) FLOk.nil ?_
  intro args k r hk
  unfold ad_z18 at hk
  split at hk<;>try (cases hk; done)
  obtain ⟨x0,rfl,hk0⟩:=decI_spec hk
  obtain ⟨x1,rfl,hk1⟩:=decA_spec hk0
  have hkz:=hk1
  refine ⟨by simp [Ids,Idss],fun v=>dR_access_cause v (fun r0=>k (.int .u64 r0)),?_,fun v hv=>?_⟩
  · rw [ok_z18]; exact hkz
  · obtain ⟨r0,rfl,hv1⟩:=dR_access_cause_spec hv; exact ⟨hv1,by simp [Ids,Idss]⟩
noncomputable abbrev PO_zv {α:Type} (F_z18:Sg_z18 α):ORC α:=[(180,.pure (ad_z18 F_z18))]
theorem ok_zv {α:Type} (F_z18:Sg_z18 α) (x0:Int) (x1:Int) (x2:Bool) (k:GFault→R α):bodyL PT_B18 (PO_zv F_z18) [] ⟨1,[]⟩ Tryz.f179 [(.int .u64 x0),(.int .i64 x1),(.bool x2)] emp (fun v _=>dR_access_Bad v k)=p_zv F_z18 x0 x1 x2 k:=by kernel_rfl
theorem mk_zv {α:Type} {I:Imm} {F_z18:Sg_z18 α} (h_z18:OrcOk (α:=α) Tryz.prog I 180 (.pure (ad_z18 F_z18))):OrcOk (α:=α) Tryz.prog I 179 (.pure (ad_zv (p_zv F_z18))):=by
  refine orc_pureK PT_B18_ok (O:=PO_zv F_z18) (OOk.cons h_z18 (OOk.nil)) (L:=[]) ⟨1,[]⟩ Tryz.func179 (by kernel_rfl) (by kernel_rfl) (by kernel_rfl) FLOk.nil ?_
  intro args k r hk
  unfold ad_zv at hk
  split at hk<;>try (cases hk; done)
  obtain ⟨x0,rfl,hk0⟩:=decI_spec hk
  obtain ⟨x1,rfl,hk1⟩:=decI_spec hk0
  obtain ⟨x2,rfl,hk2⟩:=decB_spec hk1
  have hkz:=hk2
  refine ⟨by simp [Ids,Idss],fun v=>dR_access_Bad v (fun r0=>k (GFault.sv r0)),?_,fun v hv=>?_⟩
  · rw [ok_zv]; exact hkz
  · obtain ⟨r0,rfl,hv1⟩:=dR_access_Bad_spec hv; exact ⟨hv1,by simp [Ids,Idss]⟩
noncomputable abbrev B_z3v {α:Type} (F_zv:Sg_zv α) (F_z1f:Sg_z1f α) (F_z1e:Sg_z1e α):FF α:=byBody PT_B18 [] ⟨1,[]⟩ Tryz.f187
theorem cB_z3v {α:Type} {I:Imm} {F_zv:Sg_zv α} {F_z1f:Sg_z1f α} {F_z1e:Sg_z1e α} (h_zv:OrcOk (α:=α) Tryz.prog I 179 (.pure (ad_zv F_zv))) (h_z1f:OrcOk (α:=α) Tryz.prog I 18 (.full (ad_z1f F_z1f))) (h_z1e:OrcOk (α:=α) Tryz.prog I 188 (.full (ad_z1e F_z1e))):OrcOk (α:=α) Tryz.prog I 187 (.full (B_z3v F_zv F_z1f F_z1e)):=orc_body PT_B18_ok (OOk.nil) ⟨1,[]⟩ Tryz.func187 (by kernel_rfl) (by kernel_rfl) (by kernel_rfl)
noncomputable abbrev PO_zm {α:Type} (F_zv:Sg_zv α) (F_z1f:Sg_z1f α) (F_z1e:Sg_z1e α):ORC α:=[(187,.full (B_z3v F_zv F_z1f F_z1e)),(179,.pure (ad_zv F_zv)),(18,.full (ad_z1f F_z1f)),(188,.full (ad_z1e F_z1e))]
theorem ok_zm {α:Type} (F_zv:Sg_zv α) (F_z1f:Sg_z1f α) (F_z1e:Sg_z1e α) (x0:GBus) (x1:Int) (x2:Int) (x3:Int) (x4:Int) (x5:Int) (x6:Bool) (k:GBus→Int→GFault→Bool→R α):bodyL PT_B18 (PO_zm F_zv F_z1f F_z1e) [] ⟨1,[]⟩ Tryz.f129 (E_zm.encs (x0,x1,x2,x3,x4,x5,x6,()) (fun i=>i) 0) (hp (E_zm.objss (x0,x1,x2,x3,x4,x5,x6,()) (fun i=>i) 0)) (dRo M_zm Q_zm false (selN (E_zm.encs (x0,x1,x2,x3,x4,x5,x6,()) (fun i=>i) 0) [0]) (fun y z=>k y.1 z.1 z.2.1 z.2.2.1))=p_zm F_zv F_z1f F_z1e x0 x1 x2 x3 x4 x5 x6 k:=by kernel_rfl
theorem mk_zm {α:Type} {I:Imm} {F_zv:Sg_zv α} {F_z1f:Sg_z1f α} {F_z1e:Sg_z1e α} (h_zv:OrcOk (α:=α) Tryz.prog I 179 (.pure (ad_zv F_zv))) (h_z1f:OrcOk (α:=α) Tryz.prog I 18 (.full (ad_z1f F_z1f))) (h_z1e:OrcOk (α:=α) Tryz.prog I 188 (.full (ad_z1e F_z1e))) {F:Sg_zm α} (hF:∀x0 x1 x2 x3 x4 x5 x6 k r,F x0 x1 x2 x3 x4 x5 x6 k=some r→p_zm F_zv F_z1f F_z1e x0 x1 x2 x3 x4 x5 x6 k=some r):OrcOk (α:=α) Tryz.prog I 129 (.full (ad_zm F)):=
  orc_obj PT_B18_ok (O:=PO_zm F_zv F_z1f F_z1e) (OOk.cons (cB_z3v h_zv h_z1f h_z1e) (OOk.cons h_zv (OOk.cons h_z1f (OOk.cons h_z1e (OOk.nil))))) (L:=[]) ⟨1,[]⟩ Tryz.func129 (by kernel_rfl) (by kernel_rfl) (by kernel_rfl) FLOk.nil E_z3l M_z3l Q_z3l rfl (oi:=[0]) fun ⟨x0,x1,x2,x3,x4,x5,x6,()⟩ k r h=>(ok_zm F_zv F_z1f F_z1e x0 x1 x2 x3 x4 x5 x6 (fun y0 z0 z1 z2=>k (y0,()) (z0,z1,z2,()))).trans (hF x0 x1 x2 x3 x4 x5 x6 _ r h)
noncomputable abbrev PO_zs {α:Type} (F_zv:Sg_zv α) (F_z18:Sg_z18 α):ORC α:=[(179,.pure (ad_zv F_zv)),(180,.pure (ad_z18 F_z18))]
theorem ok_zs {α:Type} (F_zv:Sg_zv α) (F_z18:Sg_z18 α) (x0:Int) (x1:Int) (x2:Int) (x3:Bool) (k:GFault→Bool→R α):bodyL PT_B18 (PO_zs F_zv F_z18) [] ⟨1,[]⟩ Tryz.f127 [(.int .u64 x0),(.int .i64 x1),(.int .i64 x2),(.bool x3)] emp (fun v _=>dR_access_Aligned v k)=p_zs F_zv F_z18 x0 x1 x2 x3 k:=by kernel_rfl
theorem mk_zs {α:Type} {I:Imm} {F_zv:Sg_zv α} {F_z18:Sg_z18 α} (h_zv:OrcOk (α:=α) Tryz.prog I 179 (.pure (ad_zv F_zv))) (h_z18:OrcOk (α:=α) Tryz.prog I 180 (.pure (ad_z18 F_z18))):OrcOk (α:=α) Tryz.prog I 127 (.pure (ad_zs (p_zs F_zv F_z18))):=by
  refine orc_pureK PT_B18_ok (O:=PO_zs F_zv F_z18) (OOk.cons h_zv (OOk.cons h_z18 (OOk.nil))) (L:=[]) ⟨1,[]⟩ Tryz.func127 (by kernel_rfl) (by kernel_rfl) (by kernel_rfl) FLOk.nil ?_
  intro args k r hk
  unfold ad_zs at hk
  split at hk<;>try (cases hk; done)
  obtain ⟨x0,rfl,hk0⟩:=decI_spec hk
  obtain ⟨x1,rfl,hk1⟩:=decI_spec hk0
  obtain ⟨x2,rfl,hk2⟩:=decI_spec hk1
  obtain ⟨x3,rfl,hk3⟩:=decB_spec hk2
  have hkz:=hk3
  refine ⟨by simp [Ids,Idss],fun v=>dR_access_Aligned v (fun r0 r1=>k (.tuple [(GFault.sv r0),(.bool r1)])),?_,fun v hv=>?_⟩
  · rw [ok_zs]; exact hkz
  · obtain ⟨r0,r1,rfl,hv1⟩:=dR_access_Aligned_spec hv; exact ⟨hv1,by simp [Ids,Idss]⟩
noncomputable abbrev B_z3w {α:Type} (F_zs:Sg_zs α) (F_z12:Sg_z12 α) (F_zm:Sg_zm α):FF α:=byBody PT_B18 [] ⟨1,[]⟩ Tryz.f21
theorem cB_z3w {α:Type} {I:Imm} {F_zs:Sg_zs α} {F_z12:Sg_z12 α} {F_zm:Sg_zm α} (h_zs:OrcOk (α:=α) Tryz.prog I 127 (.pure (ad_zs F_zs))) (h_z12:OrcOk (α:=α) Tryz.prog I 128 (.full (ad_z12 F_z12))) (h_zm:OrcOk (α:=α) Tryz.prog I 129 (.full (ad_zm F_zm))):OrcOk (α:=α) Tryz.prog I 21 (.full (B_z3w F_zs F_z12 F_zm)):=orc_body PT_B18_ok (OOk.nil) ⟨1,[]⟩ Tryz.func21 (by kernel_rfl) (by kernel_rfl) (by kernel_rfl)
noncomputable abbrev PO_zo {α:Type} (F_zs:Sg_zs α) (F_z12:Sg_z12 α) (F_zm:Sg_zm α):ORC α:=[(127,.pure (ad_zs F_zs)),(21,.full (B_z3w F_zs F_z12 F_zm)),(128,.full (ad_z12 F_z12)),(129,.full (ad_zm F_zm))]
theorem ok_zo {α:Type} (F_zs:Sg_zs α) (F_z12:Sg_z12 α) (F_zm:Sg_zm α) (x0:GBus) (x1:GState) (x2:Int) (x3:Int) (x4:Int) (x5:Int) (x6:Int) (x7:Bool) (k:GBus→Int→GFault→Bool→R α):bodyL PT_B18 (PO_zo F_zs F_z12 F_zm) [] ⟨1,[]⟩ Tryz.f84 (E_zo.encs (x0,x1,x2,x3,x4,x5,x6,x7,()) (fun i=>i) 0) (hp (E_zo.objss (x0,x1,x2,x3,x4,x5,x6,x7,()) (fun i=>i) 0)) (dRo M_zo Q_zo false (selN (E_zo.encs (x0,x1,x2,x3,x4,x5,x6,x7,()) (fun i=>i) 0) [0]) (fun y z=>k y.1 z.1 z.2.1 z.2.2.1))=p_zo F_zs F_z12 F_zm x0 x1 x2 x3 x4 x5 x6 x7 k:=by kernel_rfl
theorem mk_zo {α:Type} {I:Imm} {F_zs:Sg_zs α} {F_z12:Sg_z12 α} {F_zm:Sg_zm α} (h_zs:OrcOk (α:=α) Tryz.prog I 127 (.pure (ad_zs F_zs))) (h_z12:OrcOk (α:=α) Tryz.prog I 128 (.full (ad_z12 F_z12))) (h_zm:OrcOk (α:=α) Tryz.prog I 129 (.full (ad_zm F_zm))) {F:Sg_zo α} (hF:∀x0 x1 x2 x3 x4 x5 x6 x7 k r,F x0 x1 x2 x3 x4 x5 x6 x7 k=some r→p_zo F_zs F_z12 F_zm x0 x1 x2 x3 x4 x5 x6 x7 k=some r):OrcOk (α:=α) Tryz.prog I 84 (.full (ad_zo F)):=
  orc_obj PT_B18_ok (O:=PO_zo F_zs F_z12 F_zm) (OOk.cons h_zs (OOk.cons (cB_z3w h_zs h_z12 h_zm) (OOk.cons h_z12 (OOk.cons h_zm (OOk.nil))))) (L:=[]) ⟨1,[]⟩ Tryz.func84 (by kernel_rfl) (by kernel_rfl) (by kernel_rfl) FLOk.nil E_z3m M_z3m Q_z3m rfl (oi:=[0]) fun ⟨x0,x1,x2,x3,x4,x5,x6,x7,()⟩ k r h=>(ok_zo F_zs F_z12 F_zm x0 x1 x2 x3 x4 x5 x6 x7 (fun y0 z0 z1 z2=>k (y0,()) (z0,z1,z2,()))).trans (hF x0 x1 x2 x3 x4 x5 x6 x7 _ r h)
end Go.Proofs.YtepdlgehceipjaaGreat
