/-
  The bus and accesses (printed by wip/pr/pr.py): the functions come to just that.
-/
import Derived.Test.YtepdlgehceipjaaGreatInMem
import Derived.Test.YtepdlgehceipjaaGreatInTwo
import Derived.Test.YtepdlgehceipjaaGreatSpB18
set_option maxRecDepth 100000
namespace Go.Proofs.YtepdlgehceipjaaGreat
open Go Go.Sh Go.Proofs
set_option linter.unusedVariables false
set_option linter.unusedSimpArgs false
theorem pe_3 : TyOk Tryz.prog 3 ⟨.int .i64 0,1,8,.sc (.int .i64),none⟩:=⟨fun _=>by kernel_rfl,⟨rfl,rfl,fun _ _=>by simp [Wf,Wfs]⟩,⟨Tryz.underlying3,rfl⟩,fun _ h=>by cases h⟩
theorem pe_22 : TyOk Tryz.prog 22 ⟨.int .u64 0,1,8,.sc (.int .u64),none⟩:=⟨fun _=>by kernel_rfl,⟨rfl,rfl,fun _ _=>by simp [Wf,Wfs]⟩,⟨Tryz.underlying22,rfl⟩,fun _ h=>by cases h⟩
theorem pe_87 : TyOk Tryz.prog 87 ⟨.arr 3 4 (fun _=>.agg [.nils,.nils,.int .i64 0]),12,224,.ar 4 86 3 true,none⟩:=⟨fun _=>by kernel_rfl,⟨rfl,rfl,fun _ _=>by simp [Wf,Wfs]⟩,⟨Tryz.underlying87,by kernel_rfl,by kernel_rfl⟩,fun _ h=>by cases h⟩
theorem pe_89 : TyOk Tryz.prog 89 ⟨.agg [.nilp,.agg [.agg [],.agg [],.int .u64 0],.int .u64 0,.arr 3 4 (fun _=>.agg [.nils,.nils,.int .i64 0])],15,248,.st [(0,1,false),(1,1,true),(2,1,false),(3,12,true)],none⟩:=⟨fun _=>by kernel_rfl,⟨rfl,rfl,fun _ _=>by simp [Wf,Wfs]⟩,⟨_,Tryz.underlying89,by kernel_rfl⟩,fun _ h=>by cases h⟩
theorem pe_5 : TyOk Tryz.prog 5 ⟨.int .u8 0,1,1,.sc (.int .u8),none⟩:=⟨fun _=>by kernel_rfl,⟨rfl,rfl,fun _ _=>by simp [Wf,Wfs]⟩,⟨Tryz.underlying5,rfl⟩,fun _ h=>by cases h⟩
theorem pe_61 : TyOk Tryz.prog 61 ⟨.nilp,1,8,.sc (.pointer 127),none⟩:=⟨fun _=>by kernel_rfl,⟨rfl,rfl,fun _ _=>by simp [Wf,Wfs]⟩,⟨Tryz.underlying61,rfl⟩,fun _ h=>by cases h⟩
theorem pe_84 : TyOk Tryz.prog 84 ⟨.nils,1,24,.sc (.slice 5),none⟩:=⟨fun _=>by kernel_rfl,⟨rfl,rfl,fun _ _=>by simp [Wf,Wfs]⟩,⟨Tryz.underlying84,rfl⟩,fun _ h=>by cases h⟩
theorem pe_86 : TyOk Tryz.prog 86 ⟨.agg [.nils,.nils,.int .i64 0],3,56,.st [(0,1,false),(1,1,false),(2,1,false)],none⟩:=⟨fun _=>by kernel_rfl,⟨rfl,rfl,fun _ _=>by simp [Wf,Wfs]⟩,⟨_,Tryz.underlying86,by kernel_rfl⟩,fun _ h=>by cases h⟩
theorem pe_96 : TyOk Tryz.prog 96 ⟨.int .i64 0,1,8,.sc (.int .i64),none⟩:=⟨fun _=>by kernel_rfl,⟨rfl,rfl,fun _ _=>by simp [Wf,Wfs]⟩,⟨Tryz.underlying96,rfl⟩,fun _ h=>by cases h⟩
theorem pe_114 : TyOk Tryz.prog 114 ⟨.nilp,1,8,.sc (.pointer 86),none⟩:=⟨fun _=>by kernel_rfl,⟨rfl,rfl,fun _ _=>by simp [Wf,Wfs]⟩,⟨Tryz.underlying114,rfl⟩,fun _ h=>by cases h⟩
theorem pe_83 : TyOk Tryz.prog 83 ⟨.agg [.agg [],.agg [],.int .u64 0],1,8,.st [(0,0,true),(0,0,true),(0,1,false)],none⟩:=⟨fun _=>by kernel_rfl,⟨rfl,rfl,fun _ _=>by simp [Wf,Wfs]⟩,⟨_,Tryz.underlying83,by kernel_rfl⟩,fun _ h=>by cases h⟩
theorem pe_241 : TyOk Tryz.prog 241 ⟨.ints .u64 3 (fun _=>0),3,24,.ar 3 22 1 false,some (.ar 3 1 (.it .u64))⟩:=⟨fun _=>by kernel_rfl,⟨rfl,rfl,fun _ _=>by simp [Wf,Wfs]⟩,⟨Tryz.underlying241,by kernel_rfl,by kernel_rfl⟩,fun _ h=>by cases h; exact ⟨by kernel_rfl,by kernel_rfl⟩⟩
theorem pe_45 : TyOk Tryz.prog 45 ⟨.agg [.int .u64 0,.int .u64 0,.int .u64 0,.bool false],4,32,.st [(0,1,false),(1,1,false),(2,1,false),(3,1,false)],some (.st [(0,1,false,.it .u64),(1,1,false,.it .u64),(2,1,false,.it .u64),(3,1,false,.bl)])⟩:=⟨fun _=>by kernel_rfl,⟨rfl,rfl,fun _ _=>by simp [Wf,Wfs]⟩,⟨_,Tryz.underlying45,by kernel_rfl⟩,fun _ h=>by cases h; exact ⟨by kernel_rfl,by kernel_rfl⟩⟩
theorem pe_26 : TyOk Tryz.prog 26 ⟨.agg [.ints .u64 32 (fun _=>0),.int .u64 0,.int .i64 0,.bool false,.ints .u64 29 (fun _=>0),.int .u64 0],65,520,.st [(0,32,true),(32,1,false),(33,1,false),(34,1,false),(35,29,true),(64,1,false)],some (.st [(0,32,true,.ar 32 1 (.it .u64)),(32,1,false,.it .u64),(33,1,false,.it .i64),(34,1,false,.bl),(35,29,true,.ar 29 1 (.it .u64)),(64,1,false,.it .u64)])⟩:=⟨fun _=>by kernel_rfl,⟨rfl,rfl,fun _ _=>by simp [Wf,Wfs]⟩,⟨_,Tryz.underlying26,by kernel_rfl⟩,fun _ h=>by cases h; exact ⟨by kernel_rfl,by kernel_rfl⟩⟩
theorem pe_172 : TyOk Tryz.prog 172 ⟨.agg [.bool false,.bool false,.int .i64 0,.int .i64 0,.int .i64 0,.int .i64 0,.int .i64 0,.int .i64 0,.int .i64 0],9,64,.st [(0,1,false),(1,1,false),(2,1,false),(3,1,false),(4,1,false),(5,1,false),(6,1,false),(7,1,false),(8,1,false)],some (.st [(0,1,false,.bl),(1,1,false,.bl),(2,1,false,.it .i64),(3,1,false,.it .i64),(4,1,false,.it .i64),(5,1,false,.it .i64),(6,1,false,.it .i64),(7,1,false,.it .i64),(8,1,false,.it .i64)])⟩:=⟨fun _=>by kernel_rfl,⟨rfl,rfl,fun _ _=>by simp [Wf,Wfs]⟩,⟨_,Tryz.underlying172,by kernel_rfl⟩,fun _ h=>by cases h; exact ⟨by kernel_rfl,by kernel_rfl⟩⟩
abbrev PT_B18 : TE:=[(3,⟨.int .i64 0,1,8,.sc (.int .i64),none⟩),(5,⟨.int .u8 0,1,1,.sc (.int .u8),none⟩),(22,⟨.int .u64 0,1,8,.sc (.int .u64),none⟩),(26,⟨.agg [.ints .u64 32 (fun _=>0),.int .u64 0,.int .i64 0,.bool false,.ints .u64 29 (fun _=>0),.int .u64 0],65,520,.st [(0,32,true),(32,1,false),(33,1,false),(34,1,false),(35,29,true),(64,1,false)],some (.st [(0,32,true,.ar 32 1 (.it .u64)),(32,1,false,.it .u64),(33,1,false,.it .i64),(34,1,false,.bl),(35,29,true,.ar 29 1 (.it .u64)),(64,1,false,.it .u64)])⟩),(45,⟨.agg [.int .u64 0,.int .u64 0,.int .u64 0,.bool false],4,32,.st [(0,1,false),(1,1,false),(2,1,false),(3,1,false)],some (.st [(0,1,false,.it .u64),(1,1,false,.it .u64),(2,1,false,.it .u64),(3,1,false,.bl)])⟩),(61,⟨.nilp,1,8,.sc (.pointer 127),none⟩),(83,⟨.agg [.agg [],.agg [],.int .u64 0],1,8,.st [(0,0,true),(0,0,true),(0,1,false)],none⟩),(84,⟨.nils,1,24,.sc (.slice 5),none⟩),(86,⟨.agg [.nils,.nils,.int .i64 0],3,56,.st [(0,1,false),(1,1,false),(2,1,false)],none⟩),(87,⟨.arr 3 4 (fun _=>.agg [.nils,.nils,.int .i64 0]),12,224,.ar 4 86 3 true,none⟩),(89,⟨.agg [.nilp,.agg [.agg [],.agg [],.int .u64 0],.int .u64 0,.arr 3 4 (fun _=>.agg [.nils,.nils,.int .i64 0])],15,248,.st [(0,1,false),(1,1,true),(2,1,false),(3,12,true)],none⟩),(96,⟨.int .i64 0,1,8,.sc (.int .i64),none⟩),(114,⟨.nilp,1,8,.sc (.pointer 86),none⟩),(172,⟨.agg [.bool false,.bool false,.int .i64 0,.int .i64 0,.int .i64 0,.int .i64 0,.int .i64 0,.int .i64 0,.int .i64 0],9,64,.st [(0,1,false),(1,1,false),(2,1,false),(3,1,false),(4,1,false),(5,1,false),(6,1,false),(7,1,false),(8,1,false)],some (.st [(0,1,false,.bl),(1,1,false,.bl),(2,1,false,.it .i64),(3,1,false,.it .i64),(4,1,false,.it .i64),(5,1,false,.it .i64),(6,1,false,.it .i64),(7,1,false,.it .i64),(8,1,false,.it .i64)])⟩),(241,⟨.ints .u64 3 (fun _=>0),3,24,.ar 3 22 1 false,some (.ar 3 1 (.it .u64))⟩)]
theorem PT_B18_ok : Prg Tryz.prog PT_B18:=⟨(.cons pe_3 (.cons pe_5 (.cons pe_22 (.cons pe_26 (.cons pe_45 (.cons pe_61 (.cons pe_83 (.cons pe_84 (.cons pe_86 (.cons pe_87 (.cons pe_89 (.cons pe_96 (.cons pe_114 (.cons pe_172 (.cons pe_241 (TEok.nil _)))))))))))))))),by kernel_rfl⟩
noncomputable abbrev B_z42 {α:Type}:FF α:=byBody PT_B18 [] ⟨1,[]⟩ Tryz.f60
theorem cB_z42 {α:Type} {I:Imm}:OrcOk (α:=α) Tryz.prog I 60 (.full (B_z42 )):=orc_body PT_B18_ok (OOk.nil) ⟨1,[]⟩ Tryz.func60 (by kernel_rfl) (by kernel_rfl) (by kernel_rfl)
noncomputable abbrev PO_z1b {α:Type}:ORC α:=[(60,.full (B_z42 ))]
theorem ok_z1b {α:Type} (b:Nat) (x1 x2:Int) (σ:Heap) (k:SV→Heap→R α):bodyL PT_B18 PO_z1b [] ⟨1,[]⟩ Tryz.f50 [.ptr b [],.int .u64 x1,.int .i64 x2] σ k=p_z1b x1 x2 (k .nilp σ) (fun i=>k (.ptr b [.fld 3 3,.idx i 3]) σ):=by kernel_rfl
theorem mk_z1b {α:Type} {I:Imm}:OrcOk (α:=α) Tryz.prog I 50 (.full (ad_console fun x1 x2 kn k0 k1 k2 k3=>p_z1b x1 x2 kn (sel4 k0 k1 k2 k3))):=
  con_of (orc_bodyL PT_B18_ok (O:=PO_z1b) (OOk.cons (cB_z42 ) (OOk.nil)) ⟨1,[]⟩ Tryz.func50 (by kernel_rfl) (by kernel_rfl) (by kernel_rfl)) fun b x1 x2 σ k r h=>(ok_z1b b x1 x2 σ k).trans (mono_z1b (fun i=>sel4_some (k:=fun i=>k (.ptr b [.fld 3 3,.idx i 3]) σ) i) h)
noncomputable abbrev B_z43 {α:Type} (F_z1b:Sg_z1b α) (F_z1z:Sg_z1z α):FF α:=byBody PT_B18 [(122,.ext (xLoad .u64))] ⟨1,[]⟩ Tryz.f82
theorem cB_z43 {α:Type} {I:Imm} {F_z1b:Sg_z1b α} {F_z1z:Sg_z1z α} (h_sync_atomic_LoadUint64:OrcOk (α:=α) Tryz.prog I 122 (.ext (xLoad .u64))) (h_z1b:OrcOk (α:=α) Tryz.prog I 50 (.full (ad_console F_z1b))) (h_z1z:OrcOk (α:=α) Tryz.prog I 235 (.full (ad_z1z F_z1z))):OrcOk (α:=α) Tryz.prog I 82 (.full (B_z43 F_z1b F_z1z)):=orc_body PT_B18_ok (OOk.cons h_sync_atomic_LoadUint64 (OOk.nil)) ⟨1,[]⟩ Tryz.func82 (by kernel_rfl) (by kernel_rfl) (by kernel_rfl)
noncomputable abbrev PO_z1j {α:Type} (F_z1b:Sg_z1b α) (F_z1z:Sg_z1z α):ORC α:=[(82,.full (B_z43 F_z1b F_z1z)),(50,.full (ad_console F_z1b)),(235,.full (ad_z1z F_z1z))]
theorem ok_z1j {α:Type} (F_z1b:Sg_z1b α) (F_z1z:Sg_z1z α) (x0:GBus) (x1:Int) (x2:Int) (k:GBus→Int→Bool→R α):bodyL PT_B18 (PO_z1j F_z1b F_z1z) [] ⟨1,[]⟩ Tryz.f188 (E_z1j.encs (x0,x1,x2,()) (fun i=>i) 0) (hp (E_z1j.objss (x0,x1,x2,()) (fun i=>i) 0)) (dRo M_z1j Q_z1j false (selN (E_z1j.encs (x0,x1,x2,()) (fun i=>i) 0) [0]) (fun y z=>k y.1 z.1 z.2.1))=p_z1j F_z1b F_z1z x0 x1 x2 k:=by kernel_rfl
theorem mk_z1j {α:Type} {I:Imm} {F_z1b:Sg_z1b α} {F_z1z:Sg_z1z α} (h_sync_atomic_LoadUint64:OrcOk (α:=α) Tryz.prog I 122 (.ext (xLoad .u64))) (h_z1b:OrcOk (α:=α) Tryz.prog I 50 (.full (ad_console F_z1b))) (h_z1z:OrcOk (α:=α) Tryz.prog I 235 (.full (ad_z1z F_z1z))) {F:Sg_z1j α} (hF:∀x0 x1 x2 k r,F x0 x1 x2 k=some r→p_z1j F_z1b F_z1z x0 x1 x2 k=some r):OrcOk (α:=α) Tryz.prog I 188 (.full (ad_z1j F)):=
  orc_obj PT_B18_ok (O:=PO_z1j F_z1b F_z1z) (OOk.cons (cB_z43 h_sync_atomic_LoadUint64 h_z1b h_z1z) (OOk.cons h_z1b (OOk.cons h_z1z (OOk.nil)))) (L:=[]) ⟨1,[]⟩ Tryz.func188 (by kernel_rfl) (by kernel_rfl) (by kernel_rfl) FLOk.nil E_z3s M_z3s Q_z3s rfl (oi:=[0]) fun ⟨x0,x1,x2,()⟩ k r h=>(ok_z1j F_z1b F_z1z x0 x1 x2 (fun y0 z0 z1=>k (y0,()) (z0,z1,()))).trans (hF x0 x1 x2 _ r h)
noncomputable abbrev PO_z1k {α:Type} (F_z1b:Sg_z1b α) (F_z7:Sg_z7 α):ORC α:=[(50,.full (ad_console F_z1b)),(35,.full (ad_z7 F_z7))]
theorem ok_z1k {α:Type} (F_z1b:Sg_z1b α) (F_z7:Sg_z7 α) (x0:GBus) (x1:Int) (x2:Int) (x3:Int) (k:GBus→Bool→R α):bodyL PT_B18 (PO_z1k F_z1b F_z7) [] ⟨1,[]⟩ Tryz.f18 (E_z1k.encs (x0,x1,x2,x3,()) (fun i=>i) 0) (hp (E_z1k.objss (x0,x1,x2,x3,()) (fun i=>i) 0)) (dRo M_z1k Q_z1k true (selN (E_z1k.encs (x0,x1,x2,x3,()) (fun i=>i) 0) [0]) (fun y z=>k y.1 z.1))=p_z1k F_z1b F_z7 x0 x1 x2 x3 k:=by kernel_rfl
theorem mk_z1k {α:Type} {I:Imm} {F_z1b:Sg_z1b α} {F_z7:Sg_z7 α} (h_z1b:OrcOk (α:=α) Tryz.prog I 50 (.full (ad_console F_z1b))) (h_z7:OrcOk (α:=α) Tryz.prog I 35 (.full (ad_z7 F_z7))) {F:Sg_z1k α} (hF:∀x0 x1 x2 x3 k r,F x0 x1 x2 x3 k=some r→p_z1k F_z1b F_z7 x0 x1 x2 x3 k=some r):OrcOk (α:=α) Tryz.prog I 18 (.full (ad_z1k F)):=
  orc_obj PT_B18_ok (O:=PO_z1k F_z1b F_z7) (OOk.cons h_z1b (OOk.cons h_z7 (OOk.nil))) (L:=[]) ⟨1,[]⟩ Tryz.func18 (by kernel_rfl) (by kernel_rfl) (by kernel_rfl) FLOk.nil E_z3t M_z3t Q_z3t rfl (oi:=[0]) fun ⟨x0,x1,x2,x3,()⟩ k r h=>(ok_z1k F_z1b F_z7 x0 x1 x2 x3 (fun y0 z0=>k (y0,()) (z0,()))).trans (hF x0 x1 x2 x3 _ r h)
noncomputable abbrev PO_z1d {α:Type}:ORC α:=[]
theorem ok_z1d {α:Type}  (x0:Int) (x1:(Nat→Int)) (k:Int→R α):bodyL PT_B18 (PO_z1d ) [] ⟨1,[]⟩ Tryz.f180 [(.int .i64 x0),(.ints .u64 3 x1)] emp (fun v _=>dR_access_cause v k)=p_z1d  x0 x1 k:=by kernel_rfl
theorem mk_z1d {α:Type} {I:Imm}:OrcOk (α:=α) Tryz.prog I 180 (.pure (ad_z1d (p_z1d ))):=by
  refine orc_pureK PT_B18_ok (O:=PO_z1d ) (OOk.nil) (L:=[]) ⟨1,[]⟩ Tryz.func180 (by kernel_rfl) (by kernel_rfl) (by kernel_rfl) FLOk.nil ?_
  intro args k r hk
  unfold ad_z1d at hk
  split at hk<;>try (cases hk; done)
  obtain ⟨x0,rfl,hk0⟩:=decI_spec hk
  obtain ⟨x1,rfl,hk1⟩:=decA_spec hk0
  have hkz:=hk1
  refine ⟨by simp [Ids,Idss],fun v=>dR_access_cause v (fun r0=>k (.int .u64 r0)),?_,fun v hv=>?_⟩
  · rw [ok_z1d]; exact hkz
  · obtain ⟨r0,rfl,hv1⟩:=dR_access_cause_spec hv; exact ⟨hv1,by simp [Ids,Idss]⟩
noncomputable abbrev PO_z12 {α:Type} (F_z1d:Sg_z1d α):ORC α:=[(180,.pure (ad_z1d F_z1d))]
theorem ok_z12 {α:Type} (F_z1d:Sg_z1d α) (x0:Int) (x1:Int) (x2:Bool) (k:GFault→R α):bodyL PT_B18 (PO_z12 F_z1d) [] ⟨1,[]⟩ Tryz.f179 [(.int .u64 x0),(.int .i64 x1),(.bool x2)] emp (fun v _=>dR_access_Bad v k)=p_z12 F_z1d x0 x1 x2 k:=by kernel_rfl
theorem mk_z12 {α:Type} {I:Imm} {F_z1d:Sg_z1d α} (h_z1d:OrcOk (α:=α) Tryz.prog I 180 (.pure (ad_z1d F_z1d))):OrcOk (α:=α) Tryz.prog I 179 (.pure (ad_z12 (p_z12 F_z1d))):=by
  refine orc_pureK PT_B18_ok (O:=PO_z12 F_z1d) (OOk.cons h_z1d (OOk.nil)) (L:=[]) ⟨1,[]⟩ Tryz.func179 (by kernel_rfl) (by kernel_rfl) (by kernel_rfl) FLOk.nil ?_
  intro args k r hk
  unfold ad_z12 at hk
  split at hk<;>try (cases hk; done)
  obtain ⟨x0,rfl,hk0⟩:=decI_spec hk
  obtain ⟨x1,rfl,hk1⟩:=decI_spec hk0
  obtain ⟨x2,rfl,hk2⟩:=decB_spec hk1
  have hkz:=hk2
  refine ⟨by simp [Ids,Idss],fun v=>dR_access_Bad v (fun r0=>k (GFault.sv r0)),?_,fun v hv=>?_⟩
  · rw [ok_z12]; exact hkz
  · obtain ⟨r0,rfl,hv1⟩:=dR_access_Bad_spec hv; exact ⟨hv1,by simp [Ids,Idss]⟩
noncomputable abbrev B_z44 {α:Type} (F_z12:Sg_z12 α) (F_z1k:Sg_z1k α) (F_z1j:Sg_z1j α):FF α:=byBody PT_B18 [] ⟨1,[]⟩ Tryz.f187
theorem cB_z44 {α:Type} {I:Imm} {F_z12:Sg_z12 α} {F_z1k:Sg_z1k α} {F_z1j:Sg_z1j α} (h_z12:OrcOk (α:=α) Tryz.prog I 179 (.pure (ad_z12 F_z12))) (h_z1k:OrcOk (α:=α) Tryz.prog I 18 (.full (ad_z1k F_z1k))) (h_z1j:OrcOk (α:=α) Tryz.prog I 188 (.full (ad_z1j F_z1j))):OrcOk (α:=α) Tryz.prog I 187 (.full (B_z44 F_z12 F_z1k F_z1j)):=orc_body PT_B18_ok (OOk.nil) ⟨1,[]⟩ Tryz.func187 (by kernel_rfl) (by kernel_rfl) (by kernel_rfl)
noncomputable abbrev PO_zs {α:Type} (F_z12:Sg_z12 α) (F_z1k:Sg_z1k α) (F_z1j:Sg_z1j α):ORC α:=[(187,.full (B_z44 F_z12 F_z1k F_z1j)),(179,.pure (ad_z12 F_z12)),(18,.full (ad_z1k F_z1k)),(188,.full (ad_z1j F_z1j))]
theorem ok_zs {α:Type} (F_z12:Sg_z12 α) (F_z1k:Sg_z1k α) (F_z1j:Sg_z1j α) (x0:GBus) (x1:Int) (x2:Int) (x3:Int) (x4:Int) (x5:Int) (x6:Bool) (k:GBus→Int→GFault→Bool→R α):bodyL PT_B18 (PO_zs F_z12 F_z1k F_z1j) [] ⟨1,[]⟩ Tryz.f129 (E_zs.encs (x0,x1,x2,x3,x4,x5,x6,()) (fun i=>i) 0) (hp (E_zs.objss (x0,x1,x2,x3,x4,x5,x6,()) (fun i=>i) 0)) (dRo M_zs Q_zs false (selN (E_zs.encs (x0,x1,x2,x3,x4,x5,x6,()) (fun i=>i) 0) [0]) (fun y z=>k y.1 z.1 z.2.1 z.2.2.1))=p_zs F_z12 F_z1k F_z1j x0 x1 x2 x3 x4 x5 x6 k:=by kernel_rfl
theorem mk_zs {α:Type} {I:Imm} {F_z12:Sg_z12 α} {F_z1k:Sg_z1k α} {F_z1j:Sg_z1j α} (h_z12:OrcOk (α:=α) Tryz.prog I 179 (.pure (ad_z12 F_z12))) (h_z1k:OrcOk (α:=α) Tryz.prog I 18 (.full (ad_z1k F_z1k))) (h_z1j:OrcOk (α:=α) Tryz.prog I 188 (.full (ad_z1j F_z1j))) {F:Sg_zs α} (hF:∀x0 x1 x2 x3 x4 x5 x6 k r,F x0 x1 x2 x3 x4 x5 x6 k=some r→p_zs F_z12 F_z1k F_z1j x0 x1 x2 x3 x4 x5 x6 k=some r):OrcOk (α:=α) Tryz.prog I 129 (.full (ad_zs F)):=
  orc_obj PT_B18_ok (O:=PO_zs F_z12 F_z1k F_z1j) (OOk.cons (cB_z44 h_z12 h_z1k h_z1j) (OOk.cons h_z12 (OOk.cons h_z1k (OOk.cons h_z1j (OOk.nil))))) (L:=[]) ⟨1,[]⟩ Tryz.func129 (by kernel_rfl) (by kernel_rfl) (by kernel_rfl) FLOk.nil E_z3u M_z3u Q_z3u rfl (oi:=[0]) fun ⟨x0,x1,x2,x3,x4,x5,x6,()⟩ k r h=>(ok_zs F_z12 F_z1k F_z1j x0 x1 x2 x3 x4 x5 x6 (fun y0 z0 z1 z2=>k (y0,()) (z0,z1,z2,()))).trans (hF x0 x1 x2 x3 x4 x5 x6 _ r h)
noncomputable abbrev PO_zz {α:Type} (F_z12:Sg_z12 α) (F_z1d:Sg_z1d α):ORC α:=[(179,.pure (ad_z12 F_z12)),(180,.pure (ad_z1d F_z1d))]
theorem ok_zz {α:Type} (F_z12:Sg_z12 α) (F_z1d:Sg_z1d α) (x0:Int) (x1:Int) (x2:Int) (x3:Bool) (k:GFault→Bool→R α):bodyL PT_B18 (PO_zz F_z12 F_z1d) [] ⟨1,[]⟩ Tryz.f127 [(.int .u64 x0),(.int .i64 x1),(.int .i64 x2),(.bool x3)] emp (fun v _=>dR_access_Aligned v k)=p_zz F_z12 F_z1d x0 x1 x2 x3 k:=by kernel_rfl
theorem mk_zz {α:Type} {I:Imm} {F_z12:Sg_z12 α} {F_z1d:Sg_z1d α} (h_z12:OrcOk (α:=α) Tryz.prog I 179 (.pure (ad_z12 F_z12))) (h_z1d:OrcOk (α:=α) Tryz.prog I 180 (.pure (ad_z1d F_z1d))):OrcOk (α:=α) Tryz.prog I 127 (.pure (ad_zz (p_zz F_z12 F_z1d))):=by
  refine orc_pureK PT_B18_ok (O:=PO_zz F_z12 F_z1d) (OOk.cons h_z12 (OOk.cons h_z1d (OOk.nil))) (L:=[]) ⟨1,[]⟩ Tryz.func127 (by kernel_rfl) (by kernel_rfl) (by kernel_rfl) FLOk.nil ?_
  intro args k r hk
  unfold ad_zz at hk
  split at hk<;>try (cases hk; done)
  obtain ⟨x0,rfl,hk0⟩:=decI_spec hk
  obtain ⟨x1,rfl,hk1⟩:=decI_spec hk0
  obtain ⟨x2,rfl,hk2⟩:=decI_spec hk1
  obtain ⟨x3,rfl,hk3⟩:=decB_spec hk2
  have hkz:=hk3
  refine ⟨by simp [Ids,Idss],fun v=>dR_access_Aligned v (fun r0 r1=>k (.tuple [(GFault.sv r0),(.bool r1)])),?_,fun v hv=>?_⟩
  · rw [ok_zz]; exact hkz
  · obtain ⟨r0,r1,rfl,hv1⟩:=dR_access_Aligned_spec hv; exact ⟨hv1,by simp [Ids,Idss]⟩
noncomputable abbrev B_z45 {α:Type} (F_zz:Sg_zz α) (F_z19:Sg_z19 α) (F_zs:Sg_zs α):FF α:=byBody PT_B18 [] ⟨1,[]⟩ Tryz.f21
theorem cB_z45 {α:Type} {I:Imm} {F_zz:Sg_zz α} {F_z19:Sg_z19 α} {F_zs:Sg_zs α} (h_zz:OrcOk (α:=α) Tryz.prog I 127 (.pure (ad_zz F_zz))) (h_z19:OrcOk (α:=α) Tryz.prog I 128 (.full (ad_z19 F_z19))) (h_zs:OrcOk (α:=α) Tryz.prog I 129 (.full (ad_zs F_zs))):OrcOk (α:=α) Tryz.prog I 21 (.full (B_z45 F_zz F_z19 F_zs)):=orc_body PT_B18_ok (OOk.nil) ⟨1,[]⟩ Tryz.func21 (by kernel_rfl) (by kernel_rfl) (by kernel_rfl)
noncomputable abbrev PO_zu {α:Type} (F_zz:Sg_zz α) (F_z19:Sg_z19 α) (F_zs:Sg_zs α):ORC α:=[(127,.pure (ad_zz F_zz)),(21,.full (B_z45 F_zz F_z19 F_zs)),(128,.full (ad_z19 F_z19)),(129,.full (ad_zs F_zs))]
theorem ok_zu {α:Type} (F_zz:Sg_zz α) (F_z19:Sg_z19 α) (F_zs:Sg_zs α) (x0:GBus) (x1:GState) (x2:Int) (x3:Int) (x4:Int) (x5:Int) (x6:Int) (x7:Bool) (k:GBus→Int→GFault→Bool→R α):bodyL PT_B18 (PO_zu F_zz F_z19 F_zs) [] ⟨1,[]⟩ Tryz.f84 (E_zu.encs (x0,x1,x2,x3,x4,x5,x6,x7,()) (fun i=>i) 0) (hp (E_zu.objss (x0,x1,x2,x3,x4,x5,x6,x7,()) (fun i=>i) 0)) (dRo M_zu Q_zu false (selN (E_zu.encs (x0,x1,x2,x3,x4,x5,x6,x7,()) (fun i=>i) 0) [0]) (fun y z=>k y.1 z.1 z.2.1 z.2.2.1))=p_zu F_zz F_z19 F_zs x0 x1 x2 x3 x4 x5 x6 x7 k:=by kernel_rfl
theorem mk_zu {α:Type} {I:Imm} {F_zz:Sg_zz α} {F_z19:Sg_z19 α} {F_zs:Sg_zs α} (h_zz:OrcOk (α:=α) Tryz.prog I 127 (.pure (ad_zz F_zz))) (h_z19:OrcOk (α:=α) Tryz.prog I 128 (.full (ad_z19 F_z19))) (h_zs:OrcOk (α:=α) Tryz.prog I 129 (.full (ad_zs F_zs))) {F:Sg_zu α} (hF:∀x0 x1 x2 x3 x4 x5 x6 x7 k r,F x0 x1 x2 x3 x4 x5 x6 x7 k=some r→p_zu F_zz F_z19 F_zs x0 x1 x2 x3 x4 x5 x6 x7 k=some r):OrcOk (α:=α) Tryz.prog I 84 (.full (ad_zu F)):=
  orc_obj PT_B18_ok (O:=PO_zu F_zz F_z19 F_zs) (OOk.cons h_zz (OOk.cons (cB_z45 h_zz h_z19 h_zs) (OOk.cons h_z19 (OOk.cons h_zs (OOk.nil))))) (L:=[]) ⟨1,[]⟩ Tryz.func84 (by kernel_rfl) (by kernel_rfl) (by kernel_rfl) FLOk.nil E_z3v M_z3v Q_z3v rfl (oi:=[0]) fun ⟨x0,x1,x2,x3,x4,x5,x6,x7,()⟩ k r h=>(ok_zu F_zz F_z19 F_zs x0 x1 x2 x3 x4 x5 x6 x7 (fun y0 z0 z1 z2=>k (y0,()) (z0,z1,z2,()))).trans (hF x0 x1 x2 x3 x4 x5 x6 x7 _ r h)
end Go.Proofs.YtepdlgehceipjaaGreat
