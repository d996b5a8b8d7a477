/-
  Contracts: Mem.
-/
import Derived.Test.YtepdlgehceipjaaGreatInWord
import Derived.Test.YtepdlgehceipjaaGreatSpMem
set_option maxRecDepth 100000
set_option linter.unusedSimpArgs false
set_option linter.unusedVariables false
namespace Go.Proofs.YtepdlgehceipjaaGreat
open Go Go.Sh Go.Proofs
set_option linter.unusedSimpArgs false
theorem te_5 : TyOk Tryz.prog 5 ⟨.int .u8 0,1,1,.sc (.int .u8),none⟩:=⟨fun _=>by kernel_rfl,⟨rfl,rfl,fun _ _=>by simp [Wf,Wfs]⟩,⟨Tryz.underlying5,rfl⟩,fun _ h=>by cases h⟩
theorem te_9 : TyOk Tryz.prog 9 ⟨.str .empty,1,16,.sc (.string),none⟩:=⟨fun _=>by kernel_rfl,⟨rfl,rfl,fun _ _=>by simp [Wf,Wfs]⟩,⟨Tryz.underlying9,rfl⟩,fun _ h=>by cases h⟩
theorem te_84 : TyOk Tryz.prog 84 ⟨.nils,1,24,.sc (.slice 5),none⟩:=⟨fun _=>by kernel_rfl,⟨rfl,rfl,fun _ _=>by simp [Wf,Wfs]⟩,⟨Tryz.underlying84,rfl⟩,fun _ h=>by cases h⟩
theorem te_194 : TyOk Tryz.prog 194 ⟨.ints .u8 8 (fun _=>0),8,8,.ar 8 5 1 false,some (.ar 8 1 (.it .u8))⟩:=⟨fun _=>by kernel_rfl,⟨rfl,rfl,fun _ _=>by simp [Wf,Wfs]⟩,⟨Tryz.underlying194,by kernel_rfl,by kernel_rfl⟩,fun _ h=>by cases h; exact ⟨by kernel_rfl,by kernel_rfl⟩⟩
abbrev T_z2m : TE:=[(3,⟨.int .i64 0,1,8,.sc (.int .i64),none⟩),(5,⟨.int .u8 0,1,1,.sc (.int .u8),none⟩),(9,⟨.str .empty,1,16,.sc (.string),none⟩),(22,⟨.int .u64 0,1,8,.sc (.int .u64),none⟩),(84,⟨.nils,1,24,.sc (.slice 5),none⟩),(194,⟨.ints .u8 8 (fun _=>0),8,8,.ar 8 5 1 false,some (.ar 8 1 (.it .u8))⟩)]
theorem T_z4j : Prg Tryz.prog T_z2m:=⟨(.cons te_3 (.cons te_5 (.cons te_9 (.cons te_22 (.cons te_84 (.cons te_194 (TEok.nil _))))))),by kernel_rfl⟩
noncomputable abbrev O_z2m {α:Type}:ORC α:=[]
theorem O_z4j {α:Type} {I:Imm}:OOk (α:=α) Tryz.prog I O_z2m:=OOk.nil
set_option maxHeartbeats 4000000 in
theorem c_z2m {α:Type} {I:Imm}:OrcOk (α:=α) Tryz.prog I 253 (.pure getF):=by
  refine orc_pure T_z4j (O:=O_z2m) O_z4j (L:=[]) ⟨9,[]⟩ Tryz.func253 (by kernel_rfl) (by kernel_rfl) (by kernel_rfl) FLOk.nil ?_
  intro args k r hk
  unfold getF at hk
  split at hk<;>try (simp at hk; done)
  rename_i s at_ n
  cases hg:(decide (at_=0) && (decide (0 < s.size) && decide ((s.size:Int)≤9223372036854775807)))<;>rw [hg] at hk<;>simp only [cond_true,cond_false] at hk<;>try (simp at hk; done)
  refine ⟨_,hk,by simp [Ids,Idss],by simp [Ids,Idss],?_⟩
  clear hk
  simp only [Bool.and_eq_true,decide_eq_true_eq] at hg
  obtain ⟨rfl,h0,h1⟩:=hg
  have hc:0≤pickmx false (pickmx true n 0) 8∧pickmx false (pickmx true n 0) 8≤8:=c8_bd n
  repeat' ((conv=>arg 1; whnf); split)
  all_goals (try (conv=>arg 1; whnf))
  all_goals try (exfalso; (try simp only [ltB_true,ltB_false,leB_true,leB_false,decide_eq_true_eq,decide_eq_false_iff_not,Bool.and_eq_true,Bool.and_eq_false_iff,Bool.or_eq_true,Bool.or_eq_false_iff,Bool.not_eq_true',Bool.not_eq_false',bne_iff_ne,ne_eq,bne_eq_false_iff_eq,beq_iff_eq,beq_eq_false_iff_ne,Decidable.not_not,eq_self,decide_true,Bool.true_and,true_and,not_true_eq_false,false_or,Nat.beq_refl,Bool.true_eq_false,Int.toNat_zero,nbeq,and_true,strOf_size] at *)<;>omega)
  all_goals exact ends_int (by kernel_rfl)
abbrev T_z2n : TE:=[(3,⟨.int .i64 0,1,8,.sc (.int .i64),none⟩),(5,⟨.int .u8 0,1,1,.sc (.int .u8),none⟩),(9,⟨.str .empty,1,16,.sc (.string),none⟩),(22,⟨.int .u64 0,1,8,.sc (.int .u64),none⟩),(84,⟨.nils,1,24,.sc (.slice 5),none⟩),(194,⟨.ints .u8 8 (fun _=>0),8,8,.ar 8 5 1 false,some (.ar 8 1 (.it .u8))⟩)]
theorem T_z4k : Prg Tryz.prog T_z2n:=⟨(.cons te_3 (.cons te_5 (.cons te_9 (.cons te_22 (.cons te_84 (.cons te_194 (TEok.nil _))))))),by kernel_rfl⟩
noncomputable abbrev O_z2n {α:Type}:ORC α:=[]
theorem O_z4k {α:Type} {I:Imm}:OOk (α:=α) Tryz.prog I O_z2n:=OOk.nil
set_option maxHeartbeats 4000000 in
theorem c_z2n {α:Type} {I:Imm}:OrcOk (α:=α) Tryz.prog I 70 (.pure bytesF):=by
  refine orc_pure T_z4k (O:=O_z2n) O_z4k (L:=[]) ⟨9,[]⟩ Tryz.func70 (by kernel_rfl) (by kernel_rfl) (by kernel_rfl) FLOk.nil ?_
  intro args k r hk
  unfold bytesF at hk
  split at hk<;>try (simp at hk; done)
  rename_i v n
  refine ⟨_,hk,by simp [Ids,Idss],by simp [Ids,Idss],?_⟩
  clear hk
  have hc:0≤pickmx false (pickmx true n 0) 8∧pickmx false (pickmx true n 0) 8≤8:=c8_bd n
  repeat' ((conv=>arg 1; whnf); split)
  all_goals (try (conv=>arg 1; whnf))
  all_goals try (exfalso; (try simp only [ltB_true,ltB_false,leB_true,leB_false,decide_eq_true_eq,decide_eq_false_iff_not,Bool.and_eq_true,Bool.and_eq_false_iff,Bool.or_eq_true,Bool.or_eq_false_iff,Bool.not_eq_true',Bool.not_eq_false',bne_iff_ne,ne_eq,bne_eq_false_iff_eq,beq_iff_eq,beq_eq_false_iff_ne,Decidable.not_not,eq_self,decide_true,Bool.true_and,true_and,not_true_eq_false,false_or,Nat.beq_refl,Bool.true_eq_false,Int.toNat_zero,nbeq,and_true,strOf_size] at *)<;>omega)
  all_goals clear k r
  refine ends_any (congrArg SV.str (strOf_congr (n:=(c8 n).toNat) (fun i hi=>?_)))
  have hi8:i < 8:=by (have:=c8_bd n; omega)
  match i,hi8 with | 0,_=>rfl | 1,_=>rfl | 2,_=>rfl | 3,_=>rfl | 4,_=>rfl | 5,_=>rfl | 6,_=>rfl | 7,_=>rfl
abbrev T_z2e : TE:=[(3,⟨.int .i64 0,1,8,.sc (.int .i64),none⟩),(22,⟨.int .u64 0,1,8,.sc (.int .u64),none⟩)]
theorem T_z4l : Prg Tryz.prog T_z2e:=⟨(.cons te_3 (.cons te_22 (TEok.nil _))),by kernel_rfl⟩
noncomputable abbrev O_z2e {α:Type}:ORC α:=[]
theorem O_z4l {α:Type} {I:Imm}:OOk (α:=α) Tryz.prog I O_z2e:=OOk.nil
set_option maxHeartbeats 4000000 in
theorem c_z2e {α:Type} {I:Imm}:OrcOk (α:=α) Tryz.prog I 69 (.pure checkF):=by
  refine orc_pure T_z4l (O:=O_z2e) O_z4l (L:=[]) ⟨1,[]⟩ Tryz.func69 (by kernel_rfl) (by kernel_rfl) (by kernel_rfl) FLOk.nil ?_
  intro args k r hk
  unfold checkF at hk
  split at hk<;>try (simp at hk; done)
  rename_i at_ n
  cases hg:decide (0≤at_)<;>rw [hg] at hk<;>simp only [cond_true,cond_false] at hk<;>try (simp at hk; done)
  refine ⟨_,hk,by simp [Ids,Idss],by simp [Ids,Idss],?_⟩
  clear hk
  simp only [decide_eq_true_eq] at hg
  repeat' ((conv=>arg 1; whnf); split)
  all_goals (try (conv=>arg 1; whnf))
  all_goals simp only [ltB_true,ltB_false,leB_true,leB_false,decide_eq_true_eq,decide_eq_false_iff_not,bne_iff_ne,ne_eq,bne_eq_false_iff_eq] at *
  all_goals try subst_vars
  all_goals try simp only [u64w_1,u64w_2,u64w_4,u64w_8,Int.tmod_eq_emod_of_nonneg hg] at *
  all_goals first | (exfalso; omega) | (refine ends_int ?_; unfold checkS; (repeat' split)<;>omega)
theorem te_96 : TyOk Tryz.prog 96 ⟨.int .i64 0,1,8,.sc (.int .i64),none⟩:=⟨fun _=>by kernel_rfl,⟨rfl,rfl,fun _ _=>by simp [Wf,Wfs]⟩,⟨Tryz.underlying96,rfl⟩,fun _ h=>by cases h⟩
theorem te_127 : TyOk Tryz.prog 127 ⟨.agg [.nils],1,24,.st [(0,1,false)],none⟩:=⟨fun _=>by kernel_rfl,⟨rfl,rfl,fun _ _=>by simp [Wf,Wfs]⟩,⟨_,Tryz.underlying127,by kernel_rfl⟩,fun _ h=>by cases h⟩
abbrev T_z1o : TE:=[(3,⟨.int .i64 0,1,8,.sc (.int .i64),none⟩),(5,⟨.int .u8 0,1,1,.sc (.int .u8),none⟩),(9,⟨.str .empty,1,16,.sc (.string),none⟩),(22,⟨.int .u64 0,1,8,.sc (.int .u64),none⟩),(84,⟨.nils,1,24,.sc (.slice 5),none⟩),(96,⟨.int .i64 0,1,8,.sc (.int .i64),none⟩),(127,⟨.agg [.nils],1,24,.st [(0,1,false)],none⟩)]
theorem T_z2o : Prg Tryz.prog T_z1o:=⟨(.cons te_3 (.cons te_5 (.cons te_9 (.cons te_22 (.cons te_84 (.cons te_96 (.cons te_127 (TEok.nil _)))))))),by kernel_rfl⟩
noncomputable abbrev O_z1o {α:Type}:ORC α:=[(69,.pure checkF),(253,.pure getF)]
theorem O_z2o {α:Type} {I:Imm}:OOk (α:=α) Tryz.prog I O_z1o:=OOk.cons c_z2e (OOk.cons c_z2m (OOk.nil))
set_option maxHeartbeats 4000000 in
theorem c_z1o {α:Type} {I:Imm}:OrcOk (α:=α) Tryz.prog I 235 (.full readF):=by
  refine orc_canon T_z2o (O:=O_z1o) O_z2o (L:=[]) ⟨1,[]⟩ Tryz.func235 (by kernel_rfl) (by kernel_rfl) (by kernel_rfl) FLOk.nil ?_
  intro args σ k r hk
  unfold readF at hk
  split at hk<;>try (simp at hk; done)
  rename_i p at_ n
  obtain ⟨b,b1,g0,g1,f,rfl,h0,h1,hne,hk'⟩:=withMem_spec hk
  clear hk; have hk:=hk'; clear hk'
  cases hg0:decide (0≤at_)<;>rw [hg0] at hk<;>simp only [cond_true,cond_false] at hk<;>try (simp at hk; done)
  refine ⟨[b,b1],[memO 1 g0,byO g1 f],[.ptr 0 [],.int .u64 at_,.int .i64 n],lay_mk rfl (nodup2 hne) rfl ⟨h0,h1,trivial⟩ (by simp [AllL,Ids,Idss]) (by simp [AllL,OIds,Ids,Idss]),?_⟩
  simp only [decide_eq_true_eq] at hg0
  refine ends_keep (v:=.tuple [.int .u64 (readS f at_ n),.int .i64 (checkS at_ n)]) (bl:=[]) ?_ (by simp [Ids,Idss]) trivial hk
  clear hk
  by_cases hc:checkS at_ n=0
  · obtain ⟨q1,q2,q3,q4,q5⟩:=check_facts hg0 hc
    repeat' ((conv=>arg 1; whnf); split<;>try (exfalso; (try simp only [ltB_true,ltB_false,leB_true,leB_false,decide_eq_true_eq,decide_eq_false_iff_not,Bool.and_eq_true,Bool.and_eq_false_iff,Bool.or_eq_true,Bool.or_eq_false_iff,Bool.not_eq_true',Bool.not_eq_false',bne_iff_ne,ne_eq,bne_eq_false_iff_eq,beq_iff_eq,beq_eq_false_iff_ne,Decidable.not_not,eq_self,decide_true,Bool.true_and,true_and,not_true_eq_false,false_or,Nat.beq_refl,Bool.true_eq_false,Int.toNat_zero,nbeq,and_true,strOf_size] at *)<;>omega))
    all_goals (try (conv=>arg 1; whnf))
    refine ⟨_,_,rfl,?_,trivial,.inr rfl,.inr rfl,trivial⟩
    have e:(IntKind.u64.wrap (at_+ IntKind.u64.wrap n)).toNat - at_.toNat=n.toNat:=by rw [q5]; omega
    simp only [readS,hc,if_true,e,Nat.zero_add]
  · repeat' ((conv=>arg 1; whnf); split<;>try (exfalso; (try simp only [ltB_true,ltB_false,leB_true,leB_false,decide_eq_true_eq,decide_eq_false_iff_not,Bool.and_eq_true,Bool.and_eq_false_iff,Bool.or_eq_true,Bool.or_eq_false_iff,Bool.not_eq_true',Bool.not_eq_false',bne_iff_ne,ne_eq,bne_eq_false_iff_eq,beq_iff_eq,beq_eq_false_iff_ne,Decidable.not_not,eq_self,decide_true,Bool.true_and,true_and,not_true_eq_false,false_or,Nat.beq_refl,Bool.true_eq_false,Int.toNat_zero,nbeq,and_true,strOf_size] at *)<;>omega))
    all_goals (try (conv=>arg 1; whnf))
    exact ⟨_,_,rfl,by simp [readS,hc],trivial,.inr rfl,.inr rfl,trivial⟩
abbrev T_z1q : TE:=[(5,⟨.int .u8 0,1,1,.sc (.int .u8),none⟩),(9,⟨.str .empty,1,16,.sc (.string),none⟩),(84,⟨.nils,1,24,.sc (.slice 5),none⟩),(96,⟨.int .i64 0,1,8,.sc (.int .i64),none⟩),(127,⟨.agg [.nils],1,24,.st [(0,1,false)],none⟩)]
theorem T_z2p : Prg Tryz.prog T_z1q:=⟨(.cons te_5 (.cons te_9 (.cons te_84 (.cons te_96 (.cons te_127 (TEok.nil _)))))),by kernel_rfl⟩
noncomputable abbrev O_z1q {α:Type}:ORC α:=[(69,.pure checkF),(70,.pure bytesF)]
theorem O_z2p {α:Type} {I:Imm}:OOk (α:=α) Tryz.prog I O_z1q:=OOk.cons c_z2e (OOk.cons c_z2n (OOk.nil))
set_option maxHeartbeats 4000000 in
theorem c_z1q {α:Type} {I:Imm}:OrcOk (α:=α) Tryz.prog I 35 (.full writeF):=by
  refine orc_canon T_z2p (O:=O_z1q) O_z2p (L:=[]) ⟨1,[]⟩ Tryz.func35 (by kernel_rfl) (by kernel_rfl) (by kernel_rfl) FLOk.nil ?_
  intro args σ k r hk
  unfold writeF at hk
  split at hk<;>try (simp at hk; done)
  rename_i p at_ n v
  obtain ⟨b,b1,g0,g1,f,rfl,h0,h1,hne,hk'⟩:=withMem_spec hk
  clear hk; have hk:=hk'; clear hk'
  cases hg0:decide (0≤at_)<;>rw [hg0] at hk<;>simp only [cond_true,cond_false] at hk<;>try (simp at hk; done)
  refine ⟨[b,b1],[memO 1 g0,byO g1 f],[.ptr 0 [],.int .u64 at_,.int .i64 n,.int .u64 v],lay_mk rfl (nodup2 hne) rfl ⟨h0,h1,trivial⟩ (by simp [AllL,Ids,Idss]) (by simp [AllL,OIds,Ids,Idss]),?_⟩
  simp only [decide_eq_true_eq] at hg0
  refine ends_keep (v:=.int .i64 (checkS at_ n)) (bl:=[(1,byO g1 (writeS f at_ n v))]) ?_ (by simp [Ids,Idss]) (by simp [AllL,OIds,Ids]) hk
  clear hk
  by_cases hc:checkS at_ n=0
  · obtain ⟨q1,q2,q3,q4,q5⟩:=check_facts hg0 hc
    repeat' ((conv=>arg 1; whnf); split<;>try (exfalso; (try simp only [ltB_true,ltB_false,leB_true,leB_false,decide_eq_true_eq,decide_eq_false_iff_not,Bool.and_eq_true,Bool.and_eq_false_iff,Bool.or_eq_true,Bool.or_eq_false_iff,Bool.not_eq_true',Bool.not_eq_false',bne_iff_ne,ne_eq,bne_eq_false_iff_eq,beq_iff_eq,beq_eq_false_iff_ne,Decidable.not_not,eq_self,decide_true,Bool.true_and,true_and,not_true_eq_false,false_or,Nat.beq_refl,Bool.true_eq_false,Int.toNat_zero,nbeq,and_true,strOf_size] at *)<;>omega))
    all_goals (try (conv=>arg 1; whnf))
    refine ⟨_,_,rfl,?_,⟨?_,trivial⟩,.inr rfl,.inl rfl,trivial⟩
    · rw [hc]
    · refine congrArg some (congrArg (SObj.cells g1) (congrArg (SV.ints .u8 32768) ?_))
      have e:Nat.min (bytesS v n).size ((32768:Int).toNat - at_.toNat)=n.toNat:=by
        rw [bytesS_size,c8_same q1 q2]
        exact Nat.min_eq_left (by omega)
      simp only [writeS,hc,if_true]
      rw [← e,Nat.zero_add]
      rfl
  · repeat' ((conv=>arg 1; whnf); split<;>try (exfalso; (try simp only [ltB_true,ltB_false,leB_true,leB_false,decide_eq_true_eq,decide_eq_false_iff_not,Bool.and_eq_true,Bool.and_eq_false_iff,Bool.or_eq_true,Bool.or_eq_false_iff,Bool.not_eq_true',Bool.not_eq_false',bne_iff_ne,ne_eq,bne_eq_false_iff_eq,beq_iff_eq,beq_eq_false_iff_ne,Decidable.not_not,eq_self,decide_true,Bool.true_and,true_and,not_true_eq_false,false_or,Nat.beq_refl,Bool.true_eq_false,Int.toNat_zero,nbeq,and_true,strOf_size] at *)<;>omega))
    all_goals (try (conv=>arg 1; whnf))
    refine ⟨_,_,rfl,rfl,⟨?_,trivial⟩,.inr rfl,.inl rfl,trivial⟩
    simp only [writeS,hc,if_false]
    rfl
abbrev T_z1r : TE:=[(5,⟨.int .u8 0,1,1,.sc (.int .u8),none⟩),(84,⟨.nils,1,24,.sc (.slice 5),none⟩),(127,⟨.agg [.nils],1,24,.st [(0,1,false)],none⟩)]
theorem T_z2q : Prg Tryz.prog T_z1r:=⟨(.cons te_5 (.cons te_84 (.cons te_127 (TEok.nil _)))),by kernel_rfl⟩
noncomputable abbrev O_z1r {α:Type}:ORC α:=[]
theorem O_z2q {α:Type} {I:Imm}:OOk (α:=α) Tryz.prog I O_z1r:=OOk.nil
set_option maxHeartbeats 4000000 in
theorem c_z1r {α:Type} {I:Imm}:OrcOk (α:=α) Tryz.prog I 30 (.full newF):=by
  refine orc_canon T_z2q (O:=O_z1r) O_z2q (L:=[]) ⟨1,[]⟩ Tryz.func30 (by kernel_rfl) (by kernel_rfl) (by kernel_rfl) FLOk.nil ?_
  intro args σ k r hk
  unfold newF at hk
  split at hk<;>try (simp at hk; done)
  refine ⟨[],[],[],lay_mk rfl (by simp) rfl trivial trivial trivial,?_⟩
  refine ends_new (v:=.ptr 1 []) (nw:=[0,1]) (bl:=[(1,memO 0 none),(0,byO none fun _=>0)]) ?_ (by simp) (by simp [Ids]) (by simp [AllL,OIds,Ids,Idss]) hk
  conv=>arg 1; whnf
  exact ⟨_,_,rfl,rfl,⟨⟨Nat.zero_le _,by decide⟩,⟨Nat.zero_le _,by decide⟩,trivial⟩,⟨rfl,rfl,trivial⟩,trivial⟩
end Go.Proofs.YtepdlgehceipjaaGreat
