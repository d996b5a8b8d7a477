/-
  Contracts: Walk.
-/
import Derived.Test.YtodnffhcbhlifaaGreatVnPte
import Derived.Test.YtodnffhcbhlifaaGreatSpWalk
set_option maxRecDepth 100000
set_option linter.unusedSimpArgs false
set_option linter.unusedVariables false
namespace Go.Proofs.YtodnffhcbhlifaaGreat
open Go Go.Sh Go.Proofs
set_option linter.unusedSimpArgs false
theorem te_73 : TyOk Tryz.prog 73 ⟨.nilp,1,8,.sc (.pointer 143),none⟩:=⟨fun _=>by kernel_rfl,⟨rfl,rfl,fun _ _=>by simp [Wf,Wfs]⟩,⟨Tryz.underlying73,rfl⟩,fun _ h=>by cases h⟩
abbrev T_z2e : TE:=[(3,⟨.int .i64 0,1,8,.sc (.int .i64),none⟩),(22,⟨.int .u64 0,1,8,.sc (.int .u64),none⟩),(73,⟨.nilp,1,8,.sc (.pointer 143),none⟩)]
theorem T_z3x : Prg Tryz.prog T_z2e:=⟨(.cons te_3 (.cons te_22 (.cons te_73 (TEok.nil _)))),by kernel_rfl⟩
noncomputable abbrev O_z2e {α:Type}:ORC α:=[(165,.full readF)]
theorem O_z3x {α:Type} {I:Imm}:OOk (α:=α) Tryz.prog I O_z2e:=OOk.cons c_z2g (OOk.nil)
set_option maxHeartbeats 4000000 in
theorem c_z2e {α:Type} {I:Imm}:OrcOk (α:=α) Tryz.prog I 178 (.full entryF):=by
  refine orc_canon T_z3x (O:=O_z2e) O_z3x (L:=[]) ⟨1,[]⟩ Tryz.func178 (by kernel_rfl) (by kernel_rfl) (by kernel_rfl) FLOk.nil ?_
  intro args σ k r hk
  unfold entryF at hk
  split at hk<;>try (simp at hk; done)
  rename_i p frame index
  obtain ⟨b,b1,g0,g1,f,rfl,h0,h1,hne,hk'⟩:=withMem_spec hk
  clear hk; have hk:=hk'; clear hk'
  refine ⟨[b,b1],[memO 1 g0,byO g1 f],[.ptr 0 [],.int .i64 frame,.int .i64 index],lay_mk rfl (nodup2 hne) rfl ⟨h0,h1,trivial⟩ (by simp [AllL,Ids,Idss]) (by simp [AllL,OIds,Ids,Idss]),?_⟩
  refine ends_keep (v:=.tuple [.int .u64 (entryV f frame index),.bool (entryOk frame index)]) (bl:=[]) ?_ (by simp [Ids,Idss]) trivial hk
  clear hk
  cases hc:entryOk frame index
  · have hc2:¬ (0≤frame∧frame < 128∧0≤index∧index < 16):=fun ⟨a1,a2,a3,a4⟩=>by simp [entryOk,a1,a2,a3,a4] at hc
    repeat' ((conv=>arg 1; whnf); split<;>try (exfalso; (try simp only [ltB_true,ltB_false,leB_true,leB_false,decide_eq_true_eq,decide_eq_false_iff_not,Bool.and_eq_true,Bool.and_eq_false_iff,Bool.or_eq_true,Bool.or_eq_false_iff,Bool.not_eq_true',Bool.not_eq_false',bne_iff_ne,ne_eq,bne_eq_false_iff_eq,beq_iff_eq,beq_eq_false_iff_ne,Decidable.not_not,eq_self,decide_true,Bool.true_and,true_and,not_true_eq_false,false_or,Nat.beq_refl,Bool.true_eq_false,Int.toNat_zero,nbeq,and_true,strOf_size] at *)<;>omega))
    all_goals (try (conv=>arg 1; whnf))
    
    all_goals exact ⟨_,_,rfl,by simp [entryV,hc],trivial,.inr rfl,.inr rfl,trivial⟩
  · obtain ⟨q1,q2,q3,q4,q5,q6⟩:=entry_facts hc
    have q7:=wrap_u64_bd (IntKind.i64.wrap (IntKind.i64.wrap (frame * 256)+ IntKind.i64.wrap (index * 8)))
    repeat' ((conv=>arg 1; whnf); split<;>try (exfalso; (try simp only [ltB_true,ltB_false,leB_true,leB_false,decide_eq_true_eq,decide_eq_false_iff_not,Bool.and_eq_true,Bool.and_eq_false_iff,Bool.or_eq_true,Bool.or_eq_false_iff,Bool.not_eq_true',Bool.not_eq_false',bne_iff_ne,ne_eq,bne_eq_false_iff_eq,beq_iff_eq,beq_eq_false_iff_ne,Decidable.not_not,eq_self,decide_true,Bool.true_and,true_and,not_true_eq_false,false_or,Nat.beq_refl,Bool.true_eq_false,Int.toNat_zero,nbeq,and_true,strOf_size] at *)<;>omega))
    all_goals (try (conv=>arg 1; whnf))
    
    all_goals exact ⟨_,_,rfl,by simp [entryV,hc,q5,q6],trivial,.inr rfl,.inr rfl,trivial⟩
abbrev T_z1z : TE:=[(73,⟨.nilp,1,8,.sc (.pointer 143),none⟩)]
theorem T_z3y : Prg Tryz.prog T_z1z:=⟨(.cons te_73 (TEok.nil _)),by kernel_rfl⟩
noncomputable abbrev O_z1z {α:Type}:ORC α:=[(178,.full entryF)]
theorem O_z3y {α:Type} {I:Imm}:OOk (α:=α) Tryz.prog I O_z1z:=OOk.cons c_z2e (OOk.nil)
noncomputable abbrev B_z1z {α:Type}:FF α:=byBody T_z1z O_z1z ⟨1,[]⟩ Tryz.f180
theorem c_z1z {α:Type} {I:Imm}:OrcOk (α:=α) Tryz.prog I 180 (.full B_z1z):=orc_body T_z3y O_z3y ⟨1,[]⟩ Tryz.func180 (by kernel_rfl) (by kernel_rfl) (by kernel_rfl)
theorem te_293 : TyOk Tryz.prog 293 ⟨.ints .u64 2 (fun _=>0),2,16,.ar 2 22 1 false,some (.ar 2 1 (.it .u64))⟩:=⟨fun _=>by kernel_rfl,⟨rfl,rfl,fun _ _=>by simp [Wf,Wfs]⟩,⟨Tryz.underlying293,by kernel_rfl,by kernel_rfl⟩,fun _ h=>by cases h; exact ⟨by kernel_rfl,by kernel_rfl⟩⟩
abbrev T_z23 : TE:=[(3,⟨.int .i64 0,1,8,.sc (.int .i64),none⟩),(22,⟨.int .u64 0,1,8,.sc (.int .u64),none⟩),(293,⟨.ints .u64 2 (fun _=>0),2,16,.ar 2 22 1 false,some (.ar 2 1 (.it .u64))⟩)]
theorem T_z3z : Prg Tryz.prog T_z23:=⟨(.cons te_3 (.cons te_22 (.cons te_293 (TEok.nil _)))),by kernel_rfl⟩
noncomputable abbrev O_z23 {α:Type}:ORC α:=[(68,.pure bitsF),(176,.pure isF),(177,.pure leafF),(161,.pure frameF),(60,.pure setF),(180,.full B_z1z)]
theorem O_z3z {α:Type} {I:Imm}:OOk (α:=α) Tryz.prog I O_z23:=OOk.cons c_z1 (OOk.cons c_z3k (OOk.cons c_z3o (OOk.cons c_z2o (OOk.cons c_zb (OOk.cons c_z1z (OOk.nil))))))
noncomputable abbrev B_z23 {α:Type}:FF α:=byBody T_z23 O_z23 ⟨3,[]⟩ Tryz.f157
theorem c_z23 {α:Type} {I:Imm}:OrcOk (α:=α) Tryz.prog I 157 (.full B_z23):=orc_body T_z3z O_z3z ⟨3,[]⟩ Tryz.func157 (by kernel_rfl) (by kernel_rfl) (by kernel_rfl)
abbrev T_z2m : TE:=[(73,⟨.nilp,1,8,.sc (.pointer 143),none⟩)]
theorem T_z40 : Prg Tryz.prog T_z2m:=⟨(.cons te_73 (TEok.nil _)),by kernel_rfl⟩
noncomputable abbrev O_z2m {α:Type}:ORC α:=[(180,.full B_z1z),(157,.full B_z23)]
theorem O_z40 {α:Type} {I:Imm}:OOk (α:=α) Tryz.prog I O_z2m:=OOk.cons c_z1z (OOk.cons c_z23 (OOk.nil))
set_option maxHeartbeats 4000000 in
theorem c_z2m {α:Type} {I:Imm}:OrcOk (α:=α) Tryz.prog I 162 (.full walkF):=by
  refine orc_canon T_z40 (O:=O_z2m) O_z40 (L:=[]) ⟨1,[]⟩ Tryz.func162 (by kernel_rfl) (by kernel_rfl) (by kernel_rfl) FLOk.nil ?_
  intro args σ k r hk
  unfold walkF at hk
  split at hk<;>try (simp at hk; done)
  rename_i p root at_
  obtain ⟨b,b1,g0,g1,f,rfl,h0,h1,hne,hk'⟩:=withMem_spec hk
  clear hk; have hk:=hk'; clear hk'
  refine ⟨[b,b1],[memO 1 g0,byO g1 f],[.ptr 0 [],.int .i64 root,.int .u64 at_],lay_mk rfl (nodup2 hne) rfl ⟨h0,h1,trivial⟩ (by simp [AllL,Ids,Idss]) (by simp [AllL,OIds,Ids,Idss]),?_⟩
  refine ends_keep (v:=.tuple [.int .u64 (walkS f root at_).1,.int .i64 (walkS f root at_).2]) (bl:=[]) ?_ (by simp [Ids,Idss]) trivial hk
  clear hk
  repeat' ((conv=>arg 1; whnf); split<;>try (exfalso; (try simp only [ltB_true,ltB_false,leB_true,leB_false,decide_eq_true_eq,decide_eq_false_iff_not,Bool.and_eq_true,Bool.and_eq_false_iff,Bool.or_eq_true,Bool.or_eq_false_iff,Bool.not_eq_true',Bool.not_eq_false',bne_iff_ne,ne_eq,bne_eq_false_iff_eq,beq_iff_eq,beq_eq_false_iff_ne,Decidable.not_not,eq_self,decide_true,Bool.true_and,true_and,not_true_eq_false,false_or,Nat.beq_refl,Bool.true_eq_false,Int.toNat_zero,nbeq,and_true,strOf_size] at *)<;>omega))
  all_goals (try (conv=>arg 1; whnf))
  all_goals (try simp only [Bool.not_eq_true',Bool.not_eq_false',u2_0,u2_1] at *)
  all_goals exact ⟨_,_,rfl,by simp only [walkS,thr,wrd,cond_true,cond_false, *,Bool.and_true,Bool.true_and,Bool.false_and,Bool.and_false,Bool.or_true,Bool.true_or,Bool.or_false,Bool.false_or,Bool.not_true,Bool.not_false,Bool.and_self,Bool.or_self]<;>rfl,trivial,.inr rfl,.inr rfl,trivial⟩
end Go.Proofs.YtodnffhcbhlifaaGreat
