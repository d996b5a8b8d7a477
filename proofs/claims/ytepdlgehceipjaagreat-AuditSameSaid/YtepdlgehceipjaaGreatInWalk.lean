/-
  Contracts: Walk.
-/
import Derived.Test.YtepdlgehceipjaaGreatInPte
import Derived.Test.YtepdlgehceipjaaGreatSpWalk
set_option maxRecDepth 100000
set_option linter.unusedSimpArgs false
set_option linter.unusedVariables false
namespace Go.Proofs.YtepdlgehceipjaaGreat
open Go Go.Sh Go.Proofs
set_option linter.unusedSimpArgs false
theorem te_61 : TyOk Tryz.prog 61 ⟨.nilp,1,8,.sc (.pointer 127),none⟩:=⟨fun _=>by kernel_rfl,⟨rfl,rfl,fun _ _=>by simp [Wf,Wfs]⟩,⟨Tryz.underlying61,rfl⟩,fun _ h=>by cases h⟩
abbrev T_z2t : TE:=[(3,⟨.int .i64 0,1,8,.sc (.int .i64),none⟩),(22,⟨.int .u64 0,1,8,.sc (.int .u64),none⟩),(61,⟨.nilp,1,8,.sc (.pointer 127),none⟩)]
theorem T_z4r : Prg Tryz.prog T_z2t:=⟨(.cons te_3 (.cons te_22 (.cons te_61 (TEok.nil _)))),by kernel_rfl⟩
noncomputable abbrev O_z2t {α:Type}:ORC α:=[(235,.full readF)]
theorem O_z4r {α:Type} {I:Imm}:OOk (α:=α) Tryz.prog I O_z2t:=OOk.cons c_z1o (OOk.nil)
set_option maxHeartbeats 4000000 in
theorem c_z2t {α:Type} {I:Imm}:OrcOk (α:=α) Tryz.prog I 250 (.full entryF):=by
  refine orc_canon T_z4r (O:=O_z2t) O_z4r (L:=[]) ⟨1,[]⟩ Tryz.func250 (by kernel_rfl) (by kernel_rfl) (by kernel_rfl) FLOk.nil ?_
  intro args σ k r hk
  unfold entryF at hk
  split at hk<;>try (simp at hk; done)
  rename_i p frame index
  obtain ⟨b,b1,g0,g1,f,rfl,h0,h1,hne,hk'⟩:=withMem_spec hk
  clear hk; have hk:=hk'; clear hk'
  refine ⟨[b,b1],[memO 1 g0,byO g1 f],[.ptr 0 [],.int .i64 frame,.int .i64 index],lay_mk rfl (nodup2 hne) rfl ⟨h0,h1,trivial⟩ (by simp [AllL,Ids,Idss]) (by simp [AllL,OIds,Ids,Idss]),?_⟩
  refine ends_keep (v:=.tuple [.int .u64 (entryV f frame index),.bool (entryOk frame index)]) (bl:=[]) ?_ (by simp [Ids,Idss]) trivial hk
  clear hk
  cases hc:entryOk frame index
  · have hc2:¬ (0≤frame∧frame < 128∧0≤index∧index < 16):=fun ⟨a1,a2,a3,a4⟩=>by simp [entryOk,a1,a2,a3,a4] at hc
    repeat' ((conv=>arg 1; whnf); split<;>try (exfalso; (try simp only [ltB_true,ltB_false,leB_true,leB_false,decide_eq_true_eq,decide_eq_false_iff_not,Bool.and_eq_true,Bool.and_eq_false_iff,Bool.or_eq_true,Bool.or_eq_false_iff,Bool.not_eq_true',Bool.not_eq_false',bne_iff_ne,ne_eq,bne_eq_false_iff_eq,beq_iff_eq,beq_eq_false_iff_ne,Decidable.not_not,eq_self,decide_true,Bool.true_and,true_and,not_true_eq_false,false_or,Nat.beq_refl,Bool.true_eq_false,Int.toNat_zero,nbeq,and_true,strOf_size] at *)<;>omega))
    all_goals (try (conv=>arg 1; whnf))
    
    all_goals exact ⟨_,_,rfl,by simp [entryV,hc],trivial,.inr rfl,.inr rfl,trivial⟩
  · obtain ⟨q1,q2,q3,q4,q5,q6⟩:=entry_facts hc
    have q7:=wrap_u64_bd (IntKind.i64.wrap (IntKind.i64.wrap (frame * 256)+ IntKind.i64.wrap (index * 8)))
    repeat' ((conv=>arg 1; whnf); split<;>try (exfalso; (try simp only [ltB_true,ltB_false,leB_true,leB_false,decide_eq_true_eq,decide_eq_false_iff_not,Bool.and_eq_true,Bool.and_eq_false_iff,Bool.or_eq_true,Bool.or_eq_false_iff,Bool.not_eq_true',Bool.not_eq_false',bne_iff_ne,ne_eq,bne_eq_false_iff_eq,beq_iff_eq,beq_eq_false_iff_ne,Decidable.not_not,eq_self,decide_true,Bool.true_and,true_and,not_true_eq_false,false_or,Nat.beq_refl,Bool.true_eq_false,Int.toNat_zero,nbeq,and_true,strOf_size] at *)<;>omega))
    all_goals (try (conv=>arg 1; whnf))
    
    all_goals exact ⟨_,_,rfl,by simp [entryV,hc,q5,q6],trivial,.inr rfl,.inr rfl,trivial⟩
abbrev T_z1v : TE:=[(61,⟨.nilp,1,8,.sc (.pointer 127),none⟩)]
theorem T_z4s : Prg Tryz.prog T_z1v:=⟨(.cons te_61 (TEok.nil _)),by kernel_rfl⟩
noncomputable abbrev O_z1v {α:Type}:ORC α:=[(250,.full entryF)]
theorem O_z4s {α:Type} {I:Imm}:OOk (α:=α) Tryz.prog I O_z1v:=OOk.cons c_z2t (OOk.nil)
noncomputable abbrev B_z1v {α:Type}:FF α:=byBody T_z1v O_z1v ⟨1,[]⟩ Tryz.f252
theorem c_z1v {α:Type} {I:Imm}:OrcOk (α:=α) Tryz.prog I 252 (.full B_z1v):=orc_body T_z4s O_z4s ⟨1,[]⟩ Tryz.func252 (by kernel_rfl) (by kernel_rfl) (by kernel_rfl)
theorem te_323 : TyOk Tryz.prog 323 ⟨.ints .u64 2 (fun _=>0),2,16,.ar 2 22 1 false,some (.ar 2 1 (.it .u64))⟩:=⟨fun _=>by kernel_rfl,⟨rfl,rfl,fun _ _=>by simp [Wf,Wfs]⟩,⟨Tryz.underlying323,by kernel_rfl,by kernel_rfl⟩,fun _ h=>by cases h; exact ⟨by kernel_rfl,by kernel_rfl⟩⟩
abbrev T_z1z : TE:=[(3,⟨.int .i64 0,1,8,.sc (.int .i64),none⟩),(22,⟨.int .u64 0,1,8,.sc (.int .u64),none⟩),(323,⟨.ints .u64 2 (fun _=>0),2,16,.ar 2 22 1 false,some (.ar 2 1 (.it .u64))⟩)]
theorem T_z4t : Prg Tryz.prog T_z1z:=⟨(.cons te_3 (.cons te_22 (.cons te_323 (TEok.nil _)))),by kernel_rfl⟩
noncomputable abbrev O_z1z {α:Type}:ORC α:=[(79,.pure bitsF),(248,.pure isF),(249,.pure leafF),(232,.pure frameF),(113,.pure setF),(252,.full B_z1v)]
theorem O_z4t {α:Type} {I:Imm}:OOk (α:=α) Tryz.prog I O_z1z:=OOk.cons c_z1 (OOk.cons c_z2h (OOk.cons c_z2s (OOk.cons c_z2f (OOk.cons c_ze (OOk.cons c_z1v (OOk.nil))))))
noncomputable abbrev B_z1z {α:Type}:FF α:=byBody T_z1z O_z1z ⟨3,[]⟩ Tryz.f228
theorem c_z1z {α:Type} {I:Imm}:OrcOk (α:=α) Tryz.prog I 228 (.full B_z1z):=orc_body T_z4t O_z4t ⟨3,[]⟩ Tryz.func228 (by kernel_rfl) (by kernel_rfl) (by kernel_rfl)
abbrev T_z2z : TE:=[(61,⟨.nilp,1,8,.sc (.pointer 127),none⟩)]
theorem T_z4u : Prg Tryz.prog T_z2z:=⟨(.cons te_61 (TEok.nil _)),by kernel_rfl⟩
noncomputable abbrev O_z2z {α:Type}:ORC α:=[(252,.full B_z1v),(228,.full B_z1z)]
theorem O_z4u {α:Type} {I:Imm}:OOk (α:=α) Tryz.prog I O_z2z:=OOk.cons c_z1v (OOk.cons c_z1z (OOk.nil))
set_option maxHeartbeats 4000000 in
theorem c_z2z {α:Type} {I:Imm}:OrcOk (α:=α) Tryz.prog I 233 (.full walkF):=by
  refine orc_canon T_z4u (O:=O_z2z) O_z4u (L:=[]) ⟨1,[]⟩ Tryz.func233 (by kernel_rfl) (by kernel_rfl) (by kernel_rfl) FLOk.nil ?_
  intro args σ k r hk
  unfold walkF at hk
  split at hk<;>try (simp at hk; done)
  rename_i p root at_
  obtain ⟨b,b1,g0,g1,f,rfl,h0,h1,hne,hk'⟩:=withMem_spec hk
  clear hk; have hk:=hk'; clear hk'
  refine ⟨[b,b1],[memO 1 g0,byO g1 f],[.ptr 0 [],.int .i64 root,.int .u64 at_],lay_mk rfl (nodup2 hne) rfl ⟨h0,h1,trivial⟩ (by simp [AllL,Ids,Idss]) (by simp [AllL,OIds,Ids,Idss]),?_⟩
  refine ends_keep (v:=.tuple [.int .u64 (walkS f root at_).1,.int .i64 (walkS f root at_).2]) (bl:=[]) ?_ (by simp [Ids,Idss]) trivial hk
  clear hk
  repeat' ((conv=>arg 1; whnf); split<;>try (exfalso; (try simp only [ltB_true,ltB_false,leB_true,leB_false,decide_eq_true_eq,decide_eq_false_iff_not,Bool.and_eq_true,Bool.and_eq_false_iff,Bool.or_eq_true,Bool.or_eq_false_iff,Bool.not_eq_true',Bool.not_eq_false',bne_iff_ne,ne_eq,bne_eq_false_iff_eq,beq_iff_eq,beq_eq_false_iff_ne,Decidable.not_not,eq_self,decide_true,Bool.true_and,true_and,not_true_eq_false,false_or,Nat.beq_refl,Bool.true_eq_false,Int.toNat_zero,nbeq,and_true,strOf_size] at *)<;>omega))
  all_goals (try (conv=>arg 1; whnf))
  all_goals (try simp only [Bool.not_eq_true',Bool.not_eq_false',u2_0,u2_1] at *)
  all_goals exact ⟨_,_,rfl,by simp only [walkS,thr,wrd,cond_true,cond_false, *,Bool.and_true,Bool.true_and,Bool.false_and,Bool.and_false,Bool.or_true,Bool.true_or,Bool.or_false,Bool.false_or,Bool.not_true,Bool.not_false,Bool.and_self,Bool.or_self]<;>rfl,trivial,.inr rfl,.inr rfl,trivial⟩
end Go.Proofs.YtepdlgehceipjaaGreat
