/-
  The law AuditSame (printed by wip/pr/pr.py): the functions come to just that.
-/
import Derived.Test.YtepdlgehceipjaaGreatInW19
import Derived.Test.YtepdlgehceipjaaGreatSpL23
set_option maxRecDepth 100000
namespace Go.Proofs.YtepdlgehceipjaaGreat
open Go Go.Sh Go.Proofs
set_option linter.unusedVariables false
set_option linter.unusedSimpArgs false
theorem pe_41 : TyOk Tryz.prog 41 ⟨.nils,1,24,.sc (.slice 47),none⟩:=⟨fun _=>by kernel_rfl,⟨rfl,rfl,fun _ _=>by simp [Wf,Wfs]⟩,⟨Tryz.underlying41,rfl⟩,fun _ h=>by cases h⟩
abbrev PT_L23 : TE:=[(3,⟨.int .i64 0,1,8,.sc (.int .i64),none⟩),(41,⟨.nils,1,24,.sc (.slice 47),none⟩),(47,⟨.agg [.int .u64 0,.int .u32 0,.int .i64 0,.int .u64 0,.bool false,.agg [.int .u64 0,.int .u64 0,.int .u64 0,.bool false],.int .i64 0,.bool false,.bool false],12,88,.st [(0,1,false),(1,1,false),(2,1,false),(3,1,false),(4,1,false),(5,4,true),(9,1,false),(10,1,false),(11,1,false)],some (.st [(0,1,false,.it .u64),(1,1,false,.it .u32),(2,1,false,.it .i64),(3,1,false,.it .u64),(4,1,false,.bl),(5,4,true,.st [(0,1,false,.it .u64),(1,1,false,.it .u64),(2,1,false,.it .u64),(3,1,false,.bl)]),(9,1,false,.it .i64),(10,1,false,.bl),(11,1,false,.bl)])⟩)]
theorem PT_L23_ok : Prg Tryz.prog PT_L23:=⟨(.cons pe_3 (.cons pe_41 (.cons pe_47 (TEok.nil _)))),by kernel_rfl⟩
noncomputable abbrev PO_lp_audit_Same_3 {α:Type}:ORC α:=[]
theorem okb_audit_Same_3 {α:Type}  (s:S_z8) (kn:S_z8→R α) (k0:X_z1t→R α) (k1:X_z1p→R α):seval PT_L23 (PO_lp_audit_Same_3 ) [] Tryz.f26.ntmps ⟨1,[]⟩ (loopNo Tryz.f26 0) (E_z8 s) (hp (OS_z8 s)) (dL_z8 kn k0 k1)=b_z8  s kn k0 k1:=by kernel_rfl
theorem snd_z8 {α:Type} {I:Imm}  {L:SgL_z8 α} (hL:LoopOk (α:=α) (fun (s:S_z8)=>b_z8  s (fun s=>some (.inl s)) (fun x=>some (.inr (.inl x))) (fun x=>some (.inr (.inr x)))) (fun (s:S_z8) (k:X_z8→R α)=>L s (fun x=>k (.inl x)) (fun x=>k (.inr x)))):SoundC Tryz.prog I Tryz.f26.ntmps (.loop (loopNo Tryz.f26 0)) (Lf_z8 L):=by
  have run:=fun (s:S_z8) (z:(S_z8 ⊕ X_z8)) (h:(fun (s:S_z8)=>b_z8  s (fun s=>some (.inl s)) (fun x=>some (.inr (.inl x))) (fun x=>some (.inr (.inr x)))) s=some z)=>seval_spec (α:=(S_z8 ⊕ X_z8)) (I:=I) PT_L23_ok.te PT_L23_ok.mix (O:=PO_lp_audit_Same_3 ) (OOk.nil) (L:=[]) (N:=Tryz.f26.ntmps) (n:=⟨1,[]⟩) (loopNo Tryz.f26 0) (by kernel_rfl) (LOk.nil) (E_z8 s) (hp (OS_z8 s)) _ z ((okb_audit_Same_3  s (fun s=>some (.inl s)) (fun x=>some (.inr (.inl x))) (fun x=>some (.inr (.inr x)))).trans h)
  refine loop_law_same (stp:=fun (s:S_z8)=>b_z8  s (fun s=>some (.inl s)) (fun x=>some (.inr (.inl x))) (fun x=>some (.inr (.inr x)))) (E:=E_z8) (os:=OS_z8) (EX:=EX_z8) (osX:=OX_z8) (xx:=xx_z8) (fun s o ho=>?_) (fun x o ho=>?_) (fun x=>?_) (fun s s1 hs=>?_) (fun s x hs=>?_) (fun env σ k r h=>?_)
  · simp only [OS_z8,List.mem_cons,List.not_mem_nil,or_false] at ho
  · rcases x with x | x<;>simp only [OX_z8,OX_z1t,OX_z1p,List.mem_cons,List.not_mem_nil,or_false] at ho
  · rcases x with x | x<;>simp [xx_z8]
  · obtain ⟨x,env1,σ1,h1,h2,h3⟩:=run s _ hs
    rcases dL_z5o h1 with ⟨rfl,s2,e1,e2,e3⟩ | ⟨rfl,s2,e1,e2,e3⟩ | ⟨rfl,s2,e1,e2,e3⟩
    · simp only [Option.some.injEq,Sum.inl.injEq] at e3
      subst e3
      exact ⟨rfl,env1,σ1,h3,e1,e2,(fun o ho=>by simp only [OS_z8,List.mem_cons,List.not_mem_nil,or_false] at ho)⟩
    · simp at e3
    · simp at e3
  · obtain ⟨x1,env1,σ1,h1,h2,h3⟩:=run s _ hs
    rcases dL_z5o h1 with ⟨rfl,s2,e1,e2,e3⟩ | ⟨rfl,s2,e1,e2,e3⟩ | ⟨rfl,s2,e1,e2,e3⟩
    · simp at e3
    · simp only [Option.some.injEq,Sum.inr.injEq] at e3
      subst e3
      exact ⟨rfl,env1,σ1,h3,e1,e2,(fun o ho=>by simp only [OX_z8,OX_z1t,List.mem_cons,List.not_mem_nil,or_false] at ho)⟩
    · simp only [Option.some.injEq,Sum.inr.injEq] at e3
      subst e3
      exact ⟨rfl,env1,σ1,h3,e1,e2,(fun o ho=>by simp only [OX_z8,OX_z1p,List.mem_cons,List.not_mem_nil,or_false] at ho)⟩
  · skip
    unfold Lf_z8 at h
    obtain ⟨hlt,h0⟩:=bif_some h
    obtain ⟨w1,w2,w3⟩:=decT_spec h0
    obtain ⟨v0,rfl,w4⟩:=decV_st_int_u64_int_u32_int_i64_int_u64_bool_st_int_u64_int_u64_int_u64_bool_int_i64_bool_bool_spec w3
    obtain ⟨w5,w6,w7⟩:=decT_spec w4
    obtain ⟨v1,rfl,w8⟩:=decV_st_int_u64_int_u32_int_i64_int_u64_bool_st_int_u64_int_u64_int_u64_bool_int_i64_bool_bool_spec w7
    obtain ⟨w9,w10,w11⟩:=decT_spec w8
    obtain ⟨v2,rfl,w12⟩:=decI_spec w11
    obtain ⟨w13,w14,w15⟩:=decT_spec w12
    obtain ⟨v3,rfl,w16⟩:=decI_spec w15
    obtain ⟨w17,w18,w19⟩:=decT_spec w16
    obtain ⟨v4,rfl,w20⟩:=decI_spec w19
    obtain ⟨n,x,hn,hk⟩:=hL _ (fun x=>k (xx_z8 x) (envOf [] (EX_z8 x)) (heapOf [] (OX_z8 x) σ)) r (show (fun (s:S_z8) (k:X_z8→R α)=>L s (fun x=>k (.inl x)) (fun x=>k (.inr x))) ⟨v0,v1,v2,v3,v4⟩ (fun x=>k (xx_z8 x) (envOf [] (EX_z8 x)) (heapOf [] (OX_z8 x) σ))=some r from w20)
    refine ⟨n,⟨v0,v1,v2,v3,v4⟩,x,[],hn,⟨rfl,by decide,env_ren ⟨⟨by simp [Ids,Idss,OS_z8],w2⟩,⟨by simp [Ids,Idss,OS_z8],w6⟩,⟨by simp [Ids,Idss,OS_z8],w10⟩,⟨by simp [Ids,Idss,OS_z8],w14⟩,⟨by simp [Ids,Idss,OS_z8],w18⟩,trivial⟩,enum_all trivial,(fun o ho=>by simp only [OS_z8,List.mem_cons,List.not_mem_nil,or_false] at ho),fun i hi=>?_⟩,hk⟩
    exact Nat.le_of_ble_eq_true (allB_iff.1 hlt i hi)
noncomputable abbrev PO_zs {α:Type} (L_z8:SgL_z8 α):ORC α:=[]
theorem ok_zs {α:Type} (L_z8:SgL_z8 α) (x0:(Bool × Addr × Nat × Nat × (Nat→(Int × Int × Int × Int × Bool × (Int × Int × Int × Bool × Unit) × Int × Bool × Bool × Unit)))) (x1:(Bool × Addr × Nat × Nat × (Nat→(Int × Int × Int × Int × Bool × (Int × Int × Int × Bool × Unit) × Int × Bool × Bool × Unit)))) (k:Int→R α):bodyL PT_L23 (PO_zs L_z8) [(3,Lf_z8 L_z8)] ⟨1,[]⟩ Tryz.f26 [(.vslc (.st [(.int .u64),(.int .u32),(.int .i64),(.int .u64),.bool,(.st [(.int .u64),(.int .u64),(.int .u64),.bool]),(.int .i64),.bool,.bool]) x0.1 x0.2.1 x0.2.2.1 x0.2.2.2.1 x0.2.2.2.2),(.vslc (.st [(.int .u64),(.int .u32),(.int .i64),(.int .u64),.bool,(.st [(.int .u64),(.int .u64),(.int .u64),.bool]),(.int .i64),.bool,.bool]) x1.1 x1.2.1 x1.2.2.1 x1.2.2.2.1 x1.2.2.2.2)] emp (fun v _=>dR_audit_Same v k)=p_zs L_z8 x0 x1 k:=by kernel_rfl
theorem mk_zs {α:Type} {I:Imm} {L_z8:SgL_z8 α} (h_L_audit_Same_3:SoundC (α:=α) Tryz.prog I Tryz.f26.ntmps (.loop (loopNo Tryz.f26 0)) (Lf_z8 L_z8)):OrcOk (α:=α) Tryz.prog I 26 (.pure (ad_zs (p_zs L_z8))):=by
  refine orc_pureK PT_L23_ok (O:=PO_zs L_z8) (OOk.nil) (L:=[(3,Lf_z8 L_z8)]) ⟨1,[]⟩ Tryz.func26 (by kernel_rfl) (by kernel_rfl) (by kernel_rfl) (flok_of (l:=[loopNo Tryz.f26 0]) (by kernel_rfl) ⟨lk_yes (by kernel_rfl) h_L_audit_Same_3,trivial⟩) ?_
  intro args k r hk
  unfold ad_zs at hk
  split at hk<;>try (cases hk; done)
  obtain ⟨x0,rfl,hk0⟩:=decV_st_int_u64_int_u32_int_i64_int_u64_bool_st_int_u64_int_u64_int_u64_bool_int_i64_bool_bool_spec hk
  obtain ⟨x1,rfl,hk1⟩:=decV_st_int_u64_int_u32_int_i64_int_u64_bool_st_int_u64_int_u64_int_u64_bool_int_i64_bool_bool_spec hk0
  have hkz:=hk1
  refine ⟨by simp [Ids,Idss],fun v=>dR_audit_Same v (fun r0=>k (.int .i64 r0)),?_,fun v hv=>?_⟩
  · rw [ok_zs]; exact hkz
  · obtain ⟨r0,rfl,hv1⟩:=dR_audit_Same_spec hv; exact ⟨hv1,by simp [Ids,Idss]⟩
noncomputable abbrev PO_lp_law23_AuditSame_7 {α:Type}:ORC α:=[]
theorem okb_law23_AuditSame_7 {α:Type}  (s:S_za) (kn:S_za→R α) (k0:X_z1u→R α):seval PT_L23 (PO_lp_law23_AuditSame_7 ) [] Tryz.f7.ntmps ⟨1,[]⟩ (loopNo Tryz.f7 0) (E_za s) (hp (OS_za s)) (dL_za kn k0)=b_za  s kn k0:=by kernel_rfl
theorem snd_za {α:Type} {I:Imm}  {L:SgL_za α} (hL:LoopOk (α:=α) (fun (s:S_za)=>b_za  s (fun s=>some (.inl s)) (fun x=>some (.inr x))) (fun (s:S_za) (k:X_za→R α)=>L s (fun x=>k x))):SoundC Tryz.prog I Tryz.f7.ntmps (.loop (loopNo Tryz.f7 0)) (Lf_za L):=by
  have run:=fun (s:S_za) (z:(S_za ⊕ X_za)) (h:(fun (s:S_za)=>b_za  s (fun s=>some (.inl s)) (fun x=>some (.inr x))) s=some z)=>seval_spec (α:=(S_za ⊕ X_za)) (I:=I) PT_L23_ok.te PT_L23_ok.mix (O:=PO_lp_law23_AuditSame_7 ) (OOk.nil) (L:=[]) (N:=Tryz.f7.ntmps) (n:=⟨1,[]⟩) (loopNo Tryz.f7 0) (by kernel_rfl) (LOk.nil) (E_za s) (hp (OS_za s)) _ z ((okb_law23_AuditSame_7  s (fun s=>some (.inl s)) (fun x=>some (.inr x))).trans h)
  refine loop_law_same (stp:=fun (s:S_za)=>b_za  s (fun s=>some (.inl s)) (fun x=>some (.inr x))) (E:=E_za) (os:=OS_za) (EX:=EX_za) (osX:=OX_za) (xx:=xx_za) (fun s o ho=>?_) (fun x o ho=>?_) (fun x=>?_) (fun s s1 hs=>?_) (fun s x hs=>?_) (fun env σ k r h=>?_)
  · simp only [OS_za,List.mem_cons,List.not_mem_nil,or_false] at ho
  · simp only [OX_za,OX_z1u,List.mem_cons,List.not_mem_nil,or_false] at ho
  · simp [xx_za]
  · obtain ⟨x,env1,σ1,h1,h2,h3⟩:=run s _ hs
    rcases dL_z5p h1 with ⟨rfl,s2,e1,e2,e3⟩ | ⟨rfl,s2,e1,e2,e3⟩
    · simp only [Option.some.injEq,Sum.inl.injEq] at e3
      subst e3
      exact ⟨rfl,env1,σ1,h3,e1,e2,(fun o ho=>by simp only [OS_za,List.mem_cons,List.not_mem_nil,or_false] at ho)⟩
    · simp at e3
  · obtain ⟨x1,env1,σ1,h1,h2,h3⟩:=run s _ hs
    rcases dL_z5p h1 with ⟨rfl,s2,e1,e2,e3⟩ | ⟨rfl,s2,e1,e2,e3⟩
    · simp at e3
    · simp only [Option.some.injEq,Sum.inr.injEq] at e3
      subst e3
      exact ⟨rfl,env1,σ1,h3,e1,e2,(fun o ho=>by simp only [OX_za,OX_z1u,List.mem_cons,List.not_mem_nil,or_false] at ho)⟩
  · skip
    unfold Lf_za at h
    obtain ⟨hlt,h0⟩:=bif_some h
    obtain ⟨w1,w2,w3⟩:=decT_spec h0
    obtain ⟨v0,rfl,w4⟩:=decV_st_int_u64_int_u32_int_i64_int_u64_bool_st_int_u64_int_u64_int_u64_bool_int_i64_bool_bool_spec w3
    obtain ⟨w5,w6,w7⟩:=decT_spec w4
    obtain ⟨v1,rfl,w8⟩:=decV_st_int_u64_int_u32_int_i64_int_u64_bool_st_int_u64_int_u64_int_u64_bool_int_i64_bool_bool_spec w7
    obtain ⟨w9,w10,w11⟩:=decT_spec w8
    obtain ⟨v2,rfl,w12⟩:=decI_spec w11
    obtain ⟨w13,w14,w15⟩:=decT_spec w12
    obtain ⟨v3,rfl,w16⟩:=decI_spec w15
    obtain ⟨n,x,hn,hk⟩:=hL _ (fun x=>k (xx_za x) (envOf [] (EX_za x)) (heapOf [] (OX_za x) σ)) r (show (fun (s:S_za) (k:X_za→R α)=>L s (fun x=>k x)) ⟨v0,v1,v2,v3⟩ (fun x=>k (xx_za x) (envOf [] (EX_za x)) (heapOf [] (OX_za x) σ))=some r from w16)
    refine ⟨n,⟨v0,v1,v2,v3⟩,x,[],hn,⟨rfl,by decide,env_ren ⟨⟨by simp [Ids,Idss,OS_za],w2⟩,⟨by simp [Ids,Idss,OS_za],w6⟩,⟨by simp [Ids,Idss,OS_za],w10⟩,⟨by simp [Ids,Idss,OS_za],w14⟩,trivial⟩,enum_all trivial,(fun o ho=>by simp only [OS_za,List.mem_cons,List.not_mem_nil,or_false] at ho),fun i hi=>?_⟩,hk⟩
    exact Nat.le_of_ble_eq_true (allB_iff.1 hlt i hi)
noncomputable abbrev PO_z1f {α:Type} (F_z1g:Sg_z1g α) (F_zs:Sg_zs α) (L_za:SgL_za α):ORC α:=[(25,.pure (ad_z1g F_z1g)),(26,.pure (ad_zs F_zs))]
theorem ok_z1f {α:Type} (F_z1g:Sg_z1g α) (F_zs:Sg_zs α) (L_za:SgL_za α) (x0:(Bool × Addr × Nat × Nat × (Nat→(Int × Int × Int × Int × Bool × (Int × Int × Int × Bool × Unit) × Int × Bool × Bool × Unit)))) (x1:(Bool × Addr × Nat × Nat × (Nat→(Int × Int × Int × Int × Bool × (Int × Int × Int × Bool × Unit) × Int × Bool × Bool × Unit)))) (k:Bool→R α):bodyL PT_L23 (PO_z1f F_z1g F_zs L_za) [(7,Lf_za L_za)] ⟨1,[]⟩ Tryz.f7 [(.vslc (.st [(.int .u64),(.int .u32),(.int .i64),(.int .u64),.bool,(.st [(.int .u64),(.int .u64),(.int .u64),.bool]),(.int .i64),.bool,.bool]) x0.1 x0.2.1 x0.2.2.1 x0.2.2.2.1 x0.2.2.2.2),(.vslc (.st [(.int .u64),(.int .u32),(.int .i64),(.int .u64),.bool,(.st [(.int .u64),(.int .u64),(.int .u64),.bool]),(.int .i64),.bool,.bool]) x1.1 x1.2.1 x1.2.2.1 x1.2.2.2.1 x1.2.2.2.2)] emp (fun v _=>dR_law23_AuditSame v k)=p_z1f F_z1g F_zs L_za x0 x1 k:=by kernel_rfl
theorem mk_z1f {α:Type} {I:Imm} {F_z1g:Sg_z1g α} {F_zs:Sg_zs α} (h_z1g:OrcOk (α:=α) Tryz.prog I 25 (.pure (ad_z1g F_z1g))) (h_zs:OrcOk (α:=α) Tryz.prog I 26 (.pure (ad_zs F_zs))) {L_za:SgL_za α} (h_L_law23_AuditSame_7:SoundC (α:=α) Tryz.prog I Tryz.f7.ntmps (.loop (loopNo Tryz.f7 0)) (Lf_za L_za)):OrcOk (α:=α) Tryz.prog I 7 (.pure (ad_z1f (p_z1f F_z1g F_zs L_za))):=by
  refine orc_pureK PT_L23_ok (O:=PO_z1f F_z1g F_zs L_za) (OOk.cons h_z1g (OOk.cons h_zs (OOk.nil))) (L:=[(7,Lf_za L_za)]) ⟨1,[]⟩ Tryz.func7 (by kernel_rfl) (by kernel_rfl) (by kernel_rfl) (flok_of (l:=[loopNo Tryz.f7 0]) (by kernel_rfl) ⟨lk_yes (by kernel_rfl) h_L_law23_AuditSame_7,trivial⟩) ?_
  intro args k r hk
  unfold ad_z1f at hk
  split at hk<;>try (cases hk; done)
  obtain ⟨x0,rfl,hk0⟩:=decV_st_int_u64_int_u32_int_i64_int_u64_bool_st_int_u64_int_u64_int_u64_bool_int_i64_bool_bool_spec hk
  obtain ⟨x1,rfl,hk1⟩:=decV_st_int_u64_int_u32_int_i64_int_u64_bool_st_int_u64_int_u64_int_u64_bool_int_i64_bool_bool_spec hk0
  have hkz:=hk1
  refine ⟨by simp [Ids,Idss],fun v=>dR_law23_AuditSame v (fun r0=>k (.bool r0)),?_,fun v hv=>?_⟩
  · rw [ok_z1f]; exact hkz
  · obtain ⟨r0,rfl,hv1⟩:=dR_law23_AuditSame_spec hv; exact ⟨hv1,by simp [Ids,Idss]⟩
end Go.Proofs.YtepdlgehceipjaaGreat
