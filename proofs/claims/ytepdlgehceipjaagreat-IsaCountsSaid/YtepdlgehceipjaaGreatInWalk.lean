/-
  Contracts: Walk.
-/
import Derived.Test.YtepdlgehceipjaaGreatInPte
import Derived.Test.YtepdlgehceipjaaGreatSpWalk
set_option maxRecDepth 100000
set_option linter.unusedSimpArgs false
set_option linter.unusedVariables false
namespace Go.Proofs.YtepdlgehceipjaaGreat
open Go Go.Sh Go.Proofs
set_option linter.unusedSimpArgs false
theorem te_61 : TyOk Tryz.prog 61 ⟨.nilp,1,8,.sc (.pointer 127),none⟩:=⟨fun _=>by kernel_rfl,⟨rfl,rfl,fun _ _=>by simp [Wf,Wfs]⟩,⟨Tryz.underlying61,rfl⟩,fun _ h=>by cases h⟩
abbrev T_z3d : TE:=[(3,⟨.int .i64 0,1,8,.sc (.int .i64),none⟩),(22,⟨.int .u64 0,1,8,.sc (.int .u64),none⟩),(61,⟨.nilp,1,8,.sc (.pointer 127),none⟩)]
theorem T_z8r : Prg Tryz.prog T_z3d:=⟨(.cons te_3 (.cons te_22 (.cons te_61 (TEok.nil _)))),by kernel_rfl⟩
noncomputable abbrev O_z3d {α:Type}:ORC α:=[(235,.full readF)]
theorem O_z8r {α:Type} {I:Imm}:OOk (α:=α) Tryz.prog I O_z3d:=OOk.cons c_z1z (OOk.nil)
set_option maxHeartbeats 4000000 in
theorem c_z3d {α:Type} {I:Imm}:OrcOk (α:=α) Tryz.prog I 250 (.full entryF):=by
  refine orc_canon T_z8r (O:=O_z3d) O_z8r (L:=[]) ⟨1,[]⟩ Tryz.func250 (by kernel_rfl) (by kernel_rfl) (by kernel_rfl) FLOk.nil ?_
  intro args σ k r hk
  unfold entryF at hk
  split at hk<;>try (simp at hk; done)
  rename_i p frame index
  obtain ⟨b,b1,g0,g1,f,rfl,h0,h1,hne,hk'⟩:=withMem_spec hk
  clear hk; have hk:=hk'; clear hk'
  refine ⟨[b,b1],[memO 1 g0,byO g1 f],[.ptr 0 [],.int .i64 frame,.int .i64 index],lay_mk rfl (nodup2 hne) rfl ⟨h0,h1,trivial⟩ (by simp [AllL,Ids,Idss]) (by simp [AllL,OIds,Ids,Idss]),?_⟩
  refine ends_keep (v:=.tuple [.int .u64 (entryV f frame index),.bool (entryOk frame index)]) (bl:=[]) ?_ (by simp [Ids,Idss]) trivial hk
  clear hk
  cases hc:entryOk frame index
  · have hc2:¬ (0≤frame∧frame < 128∧0≤index∧index < 16):=fun ⟨a1,a2,a3,a4⟩=>by simp [entryOk,a1,a2,a3,a4] at hc
    repeat' ((conv=>arg 1; whnf); split<;>try (exfalso; (try simp only [ltB_true,ltB_false,leB_true,leB_false,decide_eq_true_eq,decide_eq_false_iff_not,Bool.and_eq_true,Bool.and_eq_false_iff,Bool.or_eq_true,Bool.or_eq_false_iff,Bool.not_eq_true',Bool.not_eq_false',bne_iff_ne,ne_eq,bne_eq_false_iff_eq,beq_iff_eq,beq_eq_false_iff_ne,Decidable.not_not,eq_self,decide_true,Bool.true_and,true_and,not_true_eq_false,false_or,Nat.beq_refl,Bool.true_eq_false,Int.toNat_zero,nbeq,and_true,strOf_size] at *)<;>omega))
    all_goals (try (conv=>arg 1; whnf))
    
    all_goals exact ⟨_,_,rfl,by simp [entryV,hc],trivial,.inr rfl,.inr rfl,trivial⟩
  · obtain ⟨q1,q2,q3,q4,q5,q6⟩:=entry_facts hc
    have q7:=wrap_u64_bd (IntKind.i64.wrap (IntKind.i64.wrap (frame * 256)+ IntKind.i64.wrap (index * 8)))
    repeat' ((conv=>arg 1; whnf); split<;>try (exfalso; (try simp only [ltB_true,ltB_false,leB_true,leB_false,decide_eq_true_eq,decide_eq_false_iff_not,Bool.and_eq_true,Bool.and_eq_false_iff,Bool.or_eq_true,Bool.or_eq_false_iff,Bool.not_eq_true',Bool.not_eq_false',bne_iff_ne,ne_eq,bne_eq_false_iff_eq,beq_iff_eq,beq_eq_false_iff_ne,Decidable.not_not,eq_self,decide_true,Bool.true_and,true_and,not_true_eq_false,false_or,Nat.beq_refl,Bool.true_eq_false,Int.toNat_zero,nbeq,and_true,strOf_size] at *)<;>omega))
    all_goals (try (conv=>arg 1; whnf))
    
    all_goals exact ⟨_,_,rfl,by simp [entryV,hc,q5,q6],trivial,.inr rfl,.inr rfl,trivial⟩
abbrev T_z33 : TE:=[(61,⟨.nilp,1,8,.sc (.pointer 127),none⟩)]
theorem T_z8s : Prg Tryz.prog T_z33:=⟨(.cons te_61 (TEok.nil _)),by kernel_rfl⟩
noncomputable abbrev O_z33 {α:Type}:ORC α:=[(250,.full entryF)]
theorem O_z8s {α:Type} {I:Imm}:OOk (α:=α) Tryz.prog I O_z33:=OOk.cons c_z3d (OOk.nil)
noncomputable abbrev B_z33 {α:Type}:FF α:=byBody T_z33 O_z33 ⟨1,[]⟩ Tryz.f252
theorem c_z33 {α:Type} {I:Imm}:OrcOk (α:=α) Tryz.prog I 252 (.full B_z33):=orc_body T_z8s O_z8s ⟨1,[]⟩ Tryz.func252 (by kernel_rfl) (by kernel_rfl) (by kernel_rfl)
theorem te_323 : TyOk Tryz.prog 323 ⟨.ints .u64 2 (fun _=>0),2,16,.ar 2 22 1 false,some (.ar 2 1 (.it .u64))⟩:=⟨fun _=>by kernel_rfl,⟨rfl,rfl,fun _ _=>by simp [Wf,Wfs]⟩,⟨Tryz.underlying323,by kernel_rfl,by kernel_rfl⟩,fun _ h=>by cases h; exact ⟨by kernel_rfl,by kernel_rfl⟩⟩
abbrev T_z35 : TE:=[(3,⟨.int .i64 0,1,8,.sc (.int .i64),none⟩),(22,⟨.int .u64 0,1,8,.sc (.int .u64),none⟩),(323,⟨.ints .u64 2 (fun _=>0),2,16,.ar 2 22 1 false,some (.ar 2 1 (.it .u64))⟩)]
theorem T_z8t : Prg Tryz.prog T_z35:=⟨(.cons te_3 (.cons te_22 (.cons te_323 (TEok.nil _)))),by kernel_rfl⟩
noncomputable abbrev O_z35 {α:Type}:ORC α:=[(79,.pure bitsF),(248,.pure isF),(249,.pure leafF),(232,.pure frameF),(113,.pure setF),(252,.full B_z33)]
theorem O_z8t {α:Type} {I:Imm}:OOk (α:=α) Tryz.prog I O_z35:=OOk.cons c_z2 (OOk.cons c_z38 (OOk.cons c_z3c (OOk.cons c_z37 (OOk.cons c_zn (OOk.cons c_z33 (OOk.nil))))))
noncomputable abbrev B_z35 {α:Type}:FF α:=byBody T_z35 O_z35 ⟨3,[]⟩ Tryz.f228
theorem c_z35 {α:Type} {I:Imm}:OrcOk (α:=α) Tryz.prog I 228 (.full B_z35):=orc_body T_z8t O_z8t ⟨3,[]⟩ Tryz.func228 (by kernel_rfl) (by kernel_rfl) (by kernel_rfl)
abbrev T_z3n : TE:=[(61,⟨.nilp,1,8,.sc (.pointer 127),none⟩)]
theorem T_z8u : Prg Tryz.prog T_z3n:=⟨(.cons te_61 (TEok.nil _)),by kernel_rfl⟩
noncomputable abbrev O_z3n {α:Type}:ORC α:=[(252,.full B_z33),(228,.full B_z35)]
theorem O_z8u {α:Type} {I:Imm}:OOk (α:=α) Tryz.prog I O_z3n:=OOk.cons c_z33 (OOk.cons c_z35 (OOk.nil))
set_option maxHeartbeats 4000000 in
theorem c_z3n {α:Type} {I:Imm}:OrcOk (α:=α) Tryz.prog I 233 (.full walkF):=by
  refine orc_canon T_z8u (O:=O_z3n) O_z8u (L:=[]) ⟨1,[]⟩ Tryz.func233 (by kernel_rfl) (by kernel_rfl) (by kernel_rfl) FLOk.nil ?_
  intro args σ k r hk
  unfold walkF at hk
  split at hk<;>try (simp at hk; done)
  rename_i p root at_
  obtain ⟨b,b1,g0,g1,f,rfl,h0,h1,hne,hk'⟩:=withMem_spec hk
  clear hk; have hk:=hk'; clear hk'
  refine ⟨[b,b1],[memO 1 g0,byO g1 f],[.ptr 0 [],.int .i64 root,.int .u64 at_],lay_mk rfl (nodup2 hne) rfl ⟨h0,h1,trivial⟩ (by simp [AllL,Ids,Idss]) (by simp [AllL,OIds,Ids,Idss]),?_⟩
  refine ends_keep (v:=.tuple [.int .u64 (walkS f root at_).1,.int .i64 (walkS f root at_).2]) (bl:=[]) ?_ (by simp [Ids,Idss]) trivial hk
  clear hk
  repeat' ((conv=>arg 1; whnf); split<;>try (exfalso; (try simp only [ltB_true,ltB_false,leB_true,leB_false,decide_eq_true_eq,decide_eq_false_iff_not,Bool.and_eq_true,Bool.and_eq_false_iff,Bool.or_eq_true,Bool.or_eq_false_iff,Bool.not_eq_true',Bool.not_eq_false',bne_iff_ne,ne_eq,bne_eq_false_iff_eq,beq_iff_eq,beq_eq_false_iff_ne,Decidable.not_not,eq_self,decide_true,Bool.true_and,true_and,not_true_eq_false,false_or,Nat.beq_refl,Bool.true_eq_false,Int.toNat_zero,nbeq,and_true,strOf_size] at *)<;>omega))
  all_goals (try (conv=>arg 1; whnf))
  all_goals (try simp only [Bool.not_eq_true',Bool.not_eq_false',u2_0,u2_1] at *)
  all_goals exact ⟨_,_,rfl,by simp only [walkS,thr,wrd,cond_true,cond_false, *,Bool.and_true,Bool.true_and,Bool.false_and,Bool.and_false,Bool.or_true,Bool.true_or,Bool.or_false,Bool.false_or,Bool.not_true,Bool.not_false,Bool.and_self,Bool.or_self]<;>rfl,trivial,.inr rfl,.inr rfl,trivial⟩
end Go.Proofs.YtepdlgehceipjaaGreat
