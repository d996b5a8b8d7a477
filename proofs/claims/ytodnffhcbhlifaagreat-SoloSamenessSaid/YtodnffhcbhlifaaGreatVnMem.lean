/-
  Contracts: Mem.
-/
import Derived.Test.YtodnffhcbhlifaaGreatVnWord
import Derived.Test.YtodnffhcbhlifaaGreatSpMem
set_option maxRecDepth 100000
set_option linter.unusedSimpArgs false
set_option linter.unusedVariables false
namespace Go.Proofs.YtodnffhcbhlifaaGreat
open Go Go.Sh Go.Proofs
set_option linter.unusedSimpArgs false
theorem te_5 : TyOk Tryz.prog 5 ⟨.int .u8 0,1,1,.sc (.int .u8),none⟩:=⟨fun _=>by kernel_rfl,⟨rfl,rfl,fun _ _=>by simp [Wf,Wfs]⟩,⟨Tryz.underlying5,rfl⟩,fun _ h=>by cases h⟩
theorem te_9 : TyOk Tryz.prog 9 ⟨.str .empty,1,16,.sc (.string),none⟩:=⟨fun _=>by kernel_rfl,⟨rfl,rfl,fun _ _=>by simp [Wf,Wfs]⟩,⟨Tryz.underlying9,rfl⟩,fun _ h=>by cases h⟩
theorem te_52 : TyOk Tryz.prog 52 ⟨.nils,1,24,.sc (.slice 5),none⟩:=⟨fun _=>by kernel_rfl,⟨rfl,rfl,fun _ _=>by simp [Wf,Wfs]⟩,⟨Tryz.underlying52,rfl⟩,fun _ h=>by cases h⟩
theorem te_218 : TyOk Tryz.prog 218 ⟨.ints .u8 8 (fun _=>0),8,8,.ar 8 5 1 false,some (.ar 8 1 (.it .u8))⟩:=⟨fun _=>by kernel_rfl,⟨rfl,rfl,fun _ _=>by simp [Wf,Wfs]⟩,⟨Tryz.underlying218,by kernel_rfl,by kernel_rfl⟩,fun _ h=>by cases h; exact ⟨by kernel_rfl,by kernel_rfl⟩⟩
abbrev T_z3r : TE:=[(3,⟨.int .i64 0,1,8,.sc (.int .i64),none⟩),(5,⟨.int .u8 0,1,1,.sc (.int .u8),none⟩),(9,⟨.str .empty,1,16,.sc (.string),none⟩),(22,⟨.int .u64 0,1,8,.sc (.int .u64),none⟩),(52,⟨.nils,1,24,.sc (.slice 5),none⟩),(218,⟨.ints .u8 8 (fun _=>0),8,8,.ar 8 5 1 false,some (.ar 8 1 (.it .u8))⟩)]
theorem T_z5q : Prg Tryz.prog T_z3r:=⟨(.cons te_3 (.cons te_5 (.cons te_9 (.cons te_22 (.cons te_52 (.cons te_218 (TEok.nil _))))))),by kernel_rfl⟩
noncomputable abbrev O_z3r {α:Type}:ORC α:=[]
theorem O_z5q {α:Type} {I:Imm}:OOk (α:=α) Tryz.prog I O_z3r:=OOk.nil
set_option maxHeartbeats 4000000 in
theorem c_z3r {α:Type} {I:Imm}:OrcOk (α:=α) Tryz.prog I 182 (.pure getF):=by
  refine orc_pure T_z5q (O:=O_z3r) O_z5q (L:=[]) ⟨9,[]⟩ Tryz.func182 (by kernel_rfl) (by kernel_rfl) (by kernel_rfl) FLOk.nil ?_
  intro args k r hk
  unfold getF at hk
  split at hk<;>try (simp at hk; done)
  rename_i s at_ n
  cases hg:(decide (at_=0) && (decide (0 < s.size) && decide ((s.size:Int)≤9223372036854775807)))<;>rw [hg] at hk<;>simp only [cond_true,cond_false] at hk<;>try (simp at hk; done)
  refine ⟨_,hk,by simp [Ids,Idss],by simp [Ids,Idss],?_⟩
  clear hk
  simp only [Bool.and_eq_true,decide_eq_true_eq] at hg
  obtain ⟨rfl,h0,h1⟩:=hg
  have hc:0≤pickmx false (pickmx true n 0) 8∧pickmx false (pickmx true n 0) 8≤8:=c8_bd n
  repeat' ((conv=>arg 1; whnf); split)
  all_goals (try (conv=>arg 1; whnf))
  all_goals try (exfalso; (try simp only [ltB_true,ltB_false,leB_true,leB_false,decide_eq_true_eq,decide_eq_false_iff_not,Bool.and_eq_true,Bool.and_eq_false_iff,Bool.or_eq_true,Bool.or_eq_false_iff,Bool.not_eq_true',Bool.not_eq_false',bne_iff_ne,ne_eq,bne_eq_false_iff_eq,beq_iff_eq,beq_eq_false_iff_ne,Decidable.not_not,eq_self,decide_true,Bool.true_and,true_and,not_true_eq_false,false_or,Nat.beq_refl,Bool.true_eq_false,Int.toNat_zero,nbeq,and_true,strOf_size] at *)<;>omega)
  all_goals exact ends_int (by kernel_rfl)
abbrev T_z3s : TE:=[(3,⟨.int .i64 0,1,8,.sc (.int .i64),none⟩),(5,⟨.int .u8 0,1,1,.sc (.int .u8),none⟩),(9,⟨.str .empty,1,16,.sc (.string),none⟩),(22,⟨.int .u64 0,1,8,.sc (.int .u64),none⟩),(52,⟨.nils,1,24,.sc (.slice 5),none⟩),(218,⟨.ints .u8 8 (fun _=>0),8,8,.ar 8 5 1 false,some (.ar 8 1 (.it .u8))⟩)]
theorem T_z5r : Prg Tryz.prog T_z3s:=⟨(.cons te_3 (.cons te_5 (.cons te_9 (.cons te_22 (.cons te_52 (.cons te_218 (TEok.nil _))))))),by kernel_rfl⟩
noncomputable abbrev O_z3s {α:Type}:ORC α:=[]
theorem O_z5r {α:Type} {I:Imm}:OOk (α:=α) Tryz.prog I O_z3s:=OOk.nil
set_option maxHeartbeats 4000000 in
theorem c_z3s {α:Type} {I:Imm}:OrcOk (α:=α) Tryz.prog I 80 (.pure bytesF):=by
  refine orc_pure T_z5r (O:=O_z3s) O_z5r (L:=[]) ⟨9,[]⟩ Tryz.func80 (by kernel_rfl) (by kernel_rfl) (by kernel_rfl) FLOk.nil ?_
  intro args k r hk
  unfold bytesF at hk
  split at hk<;>try (simp at hk; done)
  rename_i v n
  refine ⟨_,hk,by simp [Ids,Idss],by simp [Ids,Idss],?_⟩
  clear hk
  have hc:0≤pickmx false (pickmx true n 0) 8∧pickmx false (pickmx true n 0) 8≤8:=c8_bd n
  repeat' ((conv=>arg 1; whnf); split)
  all_goals (try (conv=>arg 1; whnf))
  all_goals try (exfalso; (try simp only [ltB_true,ltB_false,leB_true,leB_false,decide_eq_true_eq,decide_eq_false_iff_not,Bool.and_eq_true,Bool.and_eq_false_iff,Bool.or_eq_true,Bool.or_eq_false_iff,Bool.not_eq_true',Bool.not_eq_false',bne_iff_ne,ne_eq,bne_eq_false_iff_eq,beq_iff_eq,beq_eq_false_iff_ne,Decidable.not_not,eq_self,decide_true,Bool.true_and,true_and,not_true_eq_false,false_or,Nat.beq_refl,Bool.true_eq_false,Int.toNat_zero,nbeq,and_true,strOf_size] at *)<;>omega)
  all_goals clear k r
  refine ends_any (congrArg SV.str (strOf_congr (n:=(c8 n).toNat) (fun i hi=>?_)))
  have hi8:i < 8:=by (have:=c8_bd n; omega)
  match i,hi8 with | 0,_=>rfl | 1,_=>rfl | 2,_=>rfl | 3,_=>rfl | 4,_=>rfl | 5,_=>rfl | 6,_=>rfl | 7,_=>rfl
abbrev T_z3i : TE:=[(3,⟨.int .i64 0,1,8,.sc (.int .i64),none⟩),(22,⟨.int .u64 0,1,8,.sc (.int .u64),none⟩)]
theorem T_z5s : Prg Tryz.prog T_z3i:=⟨(.cons te_3 (.cons te_22 (TEok.nil _))),by kernel_rfl⟩
noncomputable abbrev O_z3i {α:Type}:ORC α:=[]
theorem O_z5s {α:Type} {I:Imm}:OOk (α:=α) Tryz.prog I O_z3i:=OOk.nil
set_option maxHeartbeats 4000000 in
theorem c_z3i {α:Type} {I:Imm}:OrcOk (α:=α) Tryz.prog I 79 (.pure checkF):=by
  refine orc_pure T_z5s (O:=O_z3i) O_z5s (L:=[]) ⟨1,[]⟩ Tryz.func79 (by kernel_rfl) (by kernel_rfl) (by kernel_rfl) FLOk.nil ?_
  intro args k r hk
  unfold checkF at hk
  split at hk<;>try (simp at hk; done)
  rename_i at_ n
  cases hg:decide (0≤at_)<;>rw [hg] at hk<;>simp only [cond_true,cond_false] at hk<;>try (simp at hk; done)
  refine ⟨_,hk,by simp [Ids,Idss],by simp [Ids,Idss],?_⟩
  clear hk
  simp only [decide_eq_true_eq] at hg
  repeat' ((conv=>arg 1; whnf); split)
  all_goals (try (conv=>arg 1; whnf))
  all_goals simp only [ltB_true,ltB_false,leB_true,leB_false,decide_eq_true_eq,decide_eq_false_iff_not,bne_iff_ne,ne_eq,bne_eq_false_iff_eq] at *
  all_goals try subst_vars
  all_goals try simp only [u64w_1,u64w_2,u64w_4,u64w_8,Int.tmod_eq_emod_of_nonneg hg] at *
  all_goals first | (exfalso; omega) | (refine ends_int ?_; unfold checkS; (repeat' split)<;>omega)
theorem te_70 : TyOk Tryz.prog 70 ⟨.int .i64 0,1,8,.sc (.int .i64),none⟩:=⟨fun _=>by kernel_rfl,⟨rfl,rfl,fun _ _=>by simp [Wf,Wfs]⟩,⟨Tryz.underlying70,rfl⟩,fun _ h=>by cases h⟩
theorem te_143 : TyOk Tryz.prog 143 ⟨.agg [.nils],1,24,.st [(0,1,false)],none⟩:=⟨fun _=>by kernel_rfl,⟨rfl,rfl,fun _ _=>by simp [Wf,Wfs]⟩,⟨_,Tryz.underlying143,by kernel_rfl⟩,fun _ h=>by cases h⟩
abbrev T_z2g : TE:=[(3,⟨.int .i64 0,1,8,.sc (.int .i64),none⟩),(5,⟨.int .u8 0,1,1,.sc (.int .u8),none⟩),(9,⟨.str .empty,1,16,.sc (.string),none⟩),(22,⟨.int .u64 0,1,8,.sc (.int .u64),none⟩),(52,⟨.nils,1,24,.sc (.slice 5),none⟩),(70,⟨.int .i64 0,1,8,.sc (.int .i64),none⟩),(143,⟨.agg [.nils],1,24,.st [(0,1,false)],none⟩)]
theorem T_z3t : Prg Tryz.prog T_z2g:=⟨(.cons te_3 (.cons te_5 (.cons te_9 (.cons te_22 (.cons te_52 (.cons te_70 (.cons te_143 (TEok.nil _)))))))),by kernel_rfl⟩
noncomputable abbrev O_z2g {α:Type}:ORC α:=[(79,.pure checkF),(182,.pure getF)]
theorem O_z3t {α:Type} {I:Imm}:OOk (α:=α) Tryz.prog I O_z2g:=OOk.cons c_z3i (OOk.cons c_z3r (OOk.nil))
set_option maxHeartbeats 4000000 in
theorem c_z2g {α:Type} {I:Imm}:OrcOk (α:=α) Tryz.prog I 165 (.full readF):=by
  refine orc_canon T_z3t (O:=O_z2g) O_z3t (L:=[]) ⟨1,[]⟩ Tryz.func165 (by kernel_rfl) (by kernel_rfl) (by kernel_rfl) FLOk.nil ?_
  intro args σ k r hk
  unfold readF at hk
  split at hk<;>try (simp at hk; done)
  rename_i p at_ n
  obtain ⟨b,b1,g0,g1,f,rfl,h0,h1,hne,hk'⟩:=withMem_spec hk
  clear hk; have hk:=hk'; clear hk'
  cases hg0:decide (0≤at_)<;>rw [hg0] at hk<;>simp only [cond_true,cond_false] at hk<;>try (simp at hk; done)
  refine ⟨[b,b1],[memO 1 g0,byO g1 f],[.ptr 0 [],.int .u64 at_,.int .i64 n],lay_mk rfl (nodup2 hne) rfl ⟨h0,h1,trivial⟩ (by simp [AllL,Ids,Idss]) (by simp [AllL,OIds,Ids,Idss]),?_⟩
  simp only [decide_eq_true_eq] at hg0
  refine ends_keep (v:=.tuple [.int .u64 (readS f at_ n),.int .i64 (checkS at_ n)]) (bl:=[]) ?_ (by simp [Ids,Idss]) trivial hk
  clear hk
  by_cases hc:checkS at_ n=0
  · obtain ⟨q1,q2,q3,q4,q5⟩:=check_facts hg0 hc
    repeat' ((conv=>arg 1; whnf); split<;>try (exfalso; (try simp only [ltB_true,ltB_false,leB_true,leB_false,decide_eq_true_eq,decide_eq_false_iff_not,Bool.and_eq_true,Bool.and_eq_false_iff,Bool.or_eq_true,Bool.or_eq_false_iff,Bool.not_eq_true',Bool.not_eq_false',bne_iff_ne,ne_eq,bne_eq_false_iff_eq,beq_iff_eq,beq_eq_false_iff_ne,Decidable.not_not,eq_self,decide_true,Bool.true_and,true_and,not_true_eq_false,false_or,Nat.beq_refl,Bool.true_eq_false,Int.toNat_zero,nbeq,and_true,strOf_size] at *)<;>omega))
    all_goals (try (conv=>arg 1; whnf))
    refine ⟨_,_,rfl,?_,trivial,.inr rfl,.inr rfl,trivial⟩
    have e:(IntKind.u64.wrap (at_+ IntKind.u64.wrap n)).toNat - at_.toNat=n.toNat:=by rw [q5]; omega
    simp only [readS,hc,if_true,e,Nat.zero_add]
  · repeat' ((conv=>arg 1; whnf); split<;>try (exfalso; (try simp only [ltB_true,ltB_false,leB_true,leB_false,decide_eq_true_eq,decide_eq_false_iff_not,Bool.and_eq_true,Bool.and_eq_false_iff,Bool.or_eq_true,Bool.or_eq_false_iff,Bool.not_eq_true',Bool.not_eq_false',bne_iff_ne,ne_eq,bne_eq_false_iff_eq,beq_iff_eq,beq_eq_false_iff_ne,Decidable.not_not,eq_self,decide_true,Bool.true_and,true_and,not_true_eq_false,false_or,Nat.beq_refl,Bool.true_eq_false,Int.toNat_zero,nbeq,and_true,strOf_size] at *)<;>omega))
    all_goals (try (conv=>arg 1; whnf))
    exact ⟨_,_,rfl,by simp [readS,hc],trivial,.inr rfl,.inr rfl,trivial⟩
abbrev T_z2h : TE:=[(5,⟨.int .u8 0,1,1,.sc (.int .u8),none⟩),(9,⟨.str .empty,1,16,.sc (.string),none⟩),(52,⟨.nils,1,24,.sc (.slice 5),none⟩),(70,⟨.int .i64 0,1,8,.sc (.int .i64),none⟩),(143,⟨.agg [.nils],1,24,.st [(0,1,false)],none⟩)]
theorem T_z3u : Prg Tryz.prog T_z2h:=⟨(.cons te_5 (.cons te_9 (.cons te_52 (.cons te_70 (.cons te_143 (TEok.nil _)))))),by kernel_rfl⟩
noncomputable abbrev O_z2h {α:Type}:ORC α:=[(79,.pure checkF),(80,.pure bytesF)]
theorem O_z3u {α:Type} {I:Imm}:OOk (α:=α) Tryz.prog I O_z2h:=OOk.cons c_z3i (OOk.cons c_z3s (OOk.nil))
set_option maxHeartbeats 4000000 in
theorem c_z2h {α:Type} {I:Imm}:OrcOk (α:=α) Tryz.prog I 59 (.full writeF):=by
  refine orc_canon T_z3u (O:=O_z2h) O_z3u (L:=[]) ⟨1,[]⟩ Tryz.func59 (by kernel_rfl) (by kernel_rfl) (by kernel_rfl) FLOk.nil ?_
  intro args σ k r hk
  unfold writeF at hk
  split at hk<;>try (simp at hk; done)
  rename_i p at_ n v
  obtain ⟨b,b1,g0,g1,f,rfl,h0,h1,hne,hk'⟩:=withMem_spec hk
  clear hk; have hk:=hk'; clear hk'
  cases hg0:decide (0≤at_)<;>rw [hg0] at hk<;>simp only [cond_true,cond_false] at hk<;>try (simp at hk; done)
  refine ⟨[b,b1],[memO 1 g0,byO g1 f],[.ptr 0 [],.int .u64 at_,.int .i64 n,.int .u64 v],lay_mk rfl (nodup2 hne) rfl ⟨h0,h1,trivial⟩ (by simp [AllL,Ids,Idss]) (by simp [AllL,OIds,Ids,Idss]),?_⟩
  simp only [decide_eq_true_eq] at hg0
  refine ends_keep (v:=.int .i64 (checkS at_ n)) (bl:=[(1,byO g1 (writeS f at_ n v))]) ?_ (by simp [Ids,Idss]) (by simp [AllL,OIds,Ids]) hk
  clear hk
  by_cases hc:checkS at_ n=0
  · obtain ⟨q1,q2,q3,q4,q5⟩:=check_facts hg0 hc
    repeat' ((conv=>arg 1; whnf); split<;>try (exfalso; (try simp only [ltB_true,ltB_false,leB_true,leB_false,decide_eq_true_eq,decide_eq_false_iff_not,Bool.and_eq_true,Bool.and_eq_false_iff,Bool.or_eq_true,Bool.or_eq_false_iff,Bool.not_eq_true',Bool.not_eq_false',bne_iff_ne,ne_eq,bne_eq_false_iff_eq,beq_iff_eq,beq_eq_false_iff_ne,Decidable.not_not,eq_self,decide_true,Bool.true_and,true_and,not_true_eq_false,false_or,Nat.beq_refl,Bool.true_eq_false,Int.toNat_zero,nbeq,and_true,strOf_size] at *)<;>omega))
    all_goals (try (conv=>arg 1; whnf))
    refine ⟨_,_,rfl,?_,⟨?_,trivial⟩,.inr rfl,.inl rfl,trivial⟩
    · rw [hc]
    · refine congrArg some (congrArg (SObj.cells (some 1)) (congrArg (SV.ints .u8 32768) ?_))
      have e:Nat.min (bytesS v n).size ((32768:Int).toNat - at_.toNat)=n.toNat:=by
        rw [bytesS_size,c8_same q1 q2]
        exact Nat.min_eq_left (by omega)
      simp only [writeS,hc,if_true]
      rw [← e,Nat.zero_add]
      rfl
  · repeat' ((conv=>arg 1; whnf); split<;>try (exfalso; (try simp only [ltB_true,ltB_false,leB_true,leB_false,decide_eq_true_eq,decide_eq_false_iff_not,Bool.and_eq_true,Bool.and_eq_false_iff,Bool.or_eq_true,Bool.or_eq_false_iff,Bool.not_eq_true',Bool.not_eq_false',bne_iff_ne,ne_eq,bne_eq_false_iff_eq,beq_iff_eq,beq_eq_false_iff_ne,Decidable.not_not,eq_self,decide_true,Bool.true_and,true_and,not_true_eq_false,false_or,Nat.beq_refl,Bool.true_eq_false,Int.toNat_zero,nbeq,and_true,strOf_size] at *)<;>omega))
    all_goals (try (conv=>arg 1; whnf))
    refine ⟨_,_,rfl,rfl,⟨?_,trivial⟩,.inr rfl,.inl rfl,trivial⟩
    simp only [writeS,hc,if_false]
    rfl
abbrev T_z2i : TE:=[(5,⟨.int .u8 0,1,1,.sc (.int .u8),none⟩),(52,⟨.nils,1,24,.sc (.slice 5),none⟩),(143,⟨.agg [.nils],1,24,.st [(0,1,false)],none⟩)]
theorem T_z3v : Prg Tryz.prog T_z2i:=⟨(.cons te_5 (.cons te_52 (.cons te_143 (TEok.nil _)))),by kernel_rfl⟩
noncomputable abbrev O_z2i {α:Type}:ORC α:=[]
theorem O_z3v {α:Type} {I:Imm}:OOk (α:=α) Tryz.prog I O_z2i:=OOk.nil
set_option maxHeartbeats 4000000 in
theorem c_z2i {α:Type} {I:Imm}:OrcOk (α:=α) Tryz.prog I 37 (.full newF):=by
  refine orc_canon T_z3v (O:=O_z2i) O_z3v (L:=[]) ⟨1,[]⟩ Tryz.func37 (by kernel_rfl) (by kernel_rfl) (by kernel_rfl) FLOk.nil ?_
  intro args σ k r hk
  unfold newF at hk
  split at hk<;>try (simp at hk; done)
  refine ⟨[],[],[],lay_mk rfl (by simp) rfl trivial trivial trivial,?_⟩
  refine ends_new (v:=.ptr 1 []) (nw:=[0,1]) (bl:=[(1,memO 0 none),(0,byO none fun _=>0)]) ?_ (by simp) (by simp [Ids]) (by simp [AllL,OIds,Ids,Idss]) hk
  conv=>arg 1; whnf
  exact ⟨_,_,rfl,rfl,⟨⟨Nat.zero_le _,by decide⟩,⟨Nat.zero_le _,by decide⟩,trivial⟩,⟨rfl,rfl,trivial⟩,trivial⟩
end Go.Proofs.YtodnffhcbhlifaaGreat
