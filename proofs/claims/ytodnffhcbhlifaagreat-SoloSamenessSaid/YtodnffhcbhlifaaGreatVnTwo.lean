/-
  Contracts: Two.
-/
import Derived.Test.YtodnffhcbhlifaaGreatVnWalk
import Derived.Test.YtodnffhcbhlifaaGreatSpTwo
set_option maxRecDepth 100000
set_option linter.unusedSimpArgs false
set_option linter.unusedVariables false
namespace Go.Proofs.YtodnffhcbhlifaaGreat
open Go Go.Sh Go.Proofs
set_option linter.unusedSimpArgs false
abbrev T_z3l : TE:=[(3,⟨.int .i64 0,1,8,.sc (.int .i64),none⟩),(22,⟨.int .u64 0,1,8,.sc (.int .u64),none⟩)]
theorem T_z5z : Prg Tryz.prog T_z3l:=⟨(.cons te_3 (.cons te_22 (TEok.nil _))),by kernel_rfl⟩
noncomputable abbrev O_z3l {α:Type}:ORC α:=[(61,.pure zextF)]
theorem O_z5z {α:Type} {I:Imm}:OOk (α:=α) Tryz.prog I O_z3l:=OOk.cons c_zk (OOk.nil)
set_option maxHeartbeats 4000000 in
theorem c_z3l {α:Type} {I:Imm}:OrcOk (α:=α) Tryz.prog I 160 (.pure joinF):=by
  refine orc_pure T_z5z (O:=O_z3l) O_z5z (L:=[]) ⟨1,[]⟩ Tryz.func160 (by kernel_rfl) (by kernel_rfl) (by kernel_rfl) FLOk.nil ?_
  intro args k r hk
  unfold joinF at hk
  split at hk<;>try (simp at hk; done)
  rename_i frame at_
  refine ⟨_,hk,by simp [Ids,Idss],by simp [Ids,Idss],?_⟩
  clear hk
  repeat' ((conv=>arg 1; whnf); split<;>try (exfalso; (try simp only [ltB_true,ltB_false,leB_true,leB_false,decide_eq_true_eq,decide_eq_false_iff_not,Bool.and_eq_true,Bool.and_eq_false_iff,Bool.or_eq_true,Bool.or_eq_false_iff,Bool.not_eq_true',Bool.not_eq_false',bne_iff_ne,ne_eq,bne_eq_false_iff_eq,beq_iff_eq,beq_eq_false_iff_ne,Decidable.not_not,eq_self,decide_true,Bool.true_and,true_and,not_true_eq_false,false_or,Nat.beq_refl,Bool.true_eq_false,Int.toNat_zero,nbeq,and_true,strOf_size] at *)<;>omega))
  all_goals (try (conv=>arg 1; whnf))
  exact ends_int rfl
theorem te_4 : TyOk Tryz.prog 4 ⟨.bool false,1,1,.sc (.bool),none⟩:=⟨fun _=>by kernel_rfl,⟨rfl,rfl,fun _ _=>by simp [Wf,Wfs]⟩,⟨Tryz.underlying4,rfl⟩,fun _ h=>by cases h⟩
theorem te_223 : TyOk Tryz.prog 223 ⟨.agg [.bool false,.bool false,.bool false,.bool false,.int .i64 0,.int .i64 0,.int .i64 0,.int .i64 0],8,40,.st [(0,1,false),(1,1,false),(2,1,false),(3,1,false),(4,1,false),(5,1,false),(6,1,false),(7,1,false)],some (.st [(0,1,false,.bl),(1,1,false,.bl),(2,1,false,.bl),(3,1,false,.bl),(4,1,false,.it .i64),(5,1,false,.it .i64),(6,1,false,.it .i64),(7,1,false,.it .i64)])⟩:=⟨fun _=>by kernel_rfl,⟨rfl,rfl,fun _ _=>by simp [Wf,Wfs]⟩,⟨_,Tryz.underlying223,by kernel_rfl⟩,fun _ h=>by cases h; exact ⟨by kernel_rfl,by kernel_rfl⟩⟩
abbrev T_z2f : TE:=[(3,⟨.int .i64 0,1,8,.sc (.int .i64),none⟩),(4,⟨.bool false,1,1,.sc (.bool),none⟩),(22,⟨.int .u64 0,1,8,.sc (.int .u64),none⟩),(223,⟨.agg [.bool false,.bool false,.bool false,.bool false,.int .i64 0,.int .i64 0,.int .i64 0,.int .i64 0],8,40,.st [(0,1,false),(1,1,false),(2,1,false),(3,1,false),(4,1,false),(5,1,false),(6,1,false),(7,1,false)],some (.st [(0,1,false,.bl),(1,1,false,.bl),(2,1,false,.bl),(3,1,false,.bl),(4,1,false,.it .i64),(5,1,false,.it .i64),(6,1,false,.it .i64),(7,1,false,.it .i64)])⟩)]
theorem T_z41 : Prg Tryz.prog T_z2f:=⟨(.cons te_3 (.cons te_4 (.cons te_22 (.cons te_223 (TEok.nil _))))),by kernel_rfl⟩
noncomputable abbrev O_z2f {α:Type}:ORC α:=[(162,.full walkF),(61,.pure zextF),(159,.pure mayF),(161,.pure frameF),(160,.pure joinF)]
theorem O_z41 {α:Type} {I:Imm}:OOk (α:=α) Tryz.prog I O_z2f:=OOk.cons c_z2m (OOk.cons c_zk (OOk.cons c_z3j (OOk.cons c_z2o (OOk.cons c_z3l (OOk.nil)))))
set_option maxHeartbeats 4000000 in
theorem c_z2f {α:Type} {I:Imm}:OrcOk (α:=α) Tryz.prog I 121 (.full secondF):=by
  refine orc_canon T_z41 (O:=O_z2f) O_z41 (L:=[]) ⟨1,[]⟩ Tryz.func121 (by kernel_rfl) (by kernel_rfl) (by kernel_rfl) FLOk.nil ?_
  intro args σ k r hk
  unfold secondF at hk
  split at hk<;>try (simp at hk; done)
  rename_i p a1 a2 a3 a4 a5 a6 a7 a8 place kind
  obtain ⟨b,b1,g0,g1,f,rfl,h0,h1,hne,hk'⟩:=withMem_spec hk
  clear hk; have hk:=hk'; clear hk'
  refine ⟨[b,b1],[memO 1 g0,byO g1 f],[.ptr 0 [],.agg [.bool a1,.bool a2,.bool a3,.bool a4,.int .i64 a5,.int .i64 a6,.int .i64 a7,.int .i64 a8],.int .u64 place,.int .i64 kind],lay_mk rfl (nodup2 hne) rfl ⟨h0,h1,trivial⟩ (by simp [AllL,Ids,Idss]) (by simp [AllL,OIds,Ids,Idss]),?_⟩
  refine ends_keep (v:=secondV (secondS f a2 a8 place kind)) (bl:=[]) ?_ (by simp [secondV,Ids,Idss]) trivial hk
  clear hk
  repeat' ((conv=>arg 1; whnf); split<;>try (exfalso; (try simp only [ltB_true,ltB_false,leB_true,leB_false,decide_eq_true_eq,decide_eq_false_iff_not,Bool.and_eq_true,Bool.and_eq_false_iff,Bool.or_eq_true,Bool.or_eq_false_iff,Bool.not_eq_true',Bool.not_eq_false',bne_iff_ne,ne_eq,bne_eq_false_iff_eq,beq_iff_eq,beq_eq_false_iff_ne,Decidable.not_not,eq_self,decide_true,Bool.true_and,true_and,not_true_eq_false,false_or,Nat.beq_refl,Bool.true_eq_false,Int.toNat_zero,nbeq,and_true,strOf_size] at *)<;>omega))
  all_goals (try (conv=>arg 1; whnf))
  all_goals (try simp only [Bool.not_eq_true',Bool.not_eq_false',u2_0,u2_1] at *)
  all_goals exact ⟨_,_,rfl,by simp only [secondV,secondS,leafBits,cond_true,cond_false, *,Bool.and_true,Bool.true_and,Bool.false_and,Bool.and_false,Bool.or_true,Bool.true_or,Bool.or_false,Bool.false_or,Bool.not_true,Bool.not_false,Bool.and_self,Bool.or_self]<;>rfl,trivial,.inr rfl,.inr rfl,trivial⟩
theorem te_42 : TyOk Tryz.prog 42 ⟨.agg [.int .u64 0,.int .u64 0,.int .u64 0,.bool false],4,32,.st [(0,1,false),(1,1,false),(2,1,false),(3,1,false)],some (.st [(0,1,false,.it .u64),(1,1,false,.it .u64),(2,1,false,.it .u64),(3,1,false,.bl)])⟩:=⟨fun _=>by kernel_rfl,⟨rfl,rfl,fun _ _=>by simp [Wf,Wfs]⟩,⟨_,Tryz.underlying42,by kernel_rfl⟩,fun _ h=>by cases h; exact ⟨by kernel_rfl,by kernel_rfl⟩⟩
theorem te_221 : TyOk Tryz.prog 221 ⟨.ints .u64 3 (fun _=>0),3,24,.ar 3 22 1 false,some (.ar 3 1 (.it .u64))⟩:=⟨fun _=>by kernel_rfl,⟨rfl,rfl,fun _ _=>by simp [Wf,Wfs]⟩,⟨Tryz.underlying221,by kernel_rfl,by kernel_rfl⟩,fun _ h=>by cases h; exact ⟨by kernel_rfl,by kernel_rfl⟩⟩
theorem te_226 : TyOk Tryz.prog 226 ⟨.agg [.int .u64 0,.int .i64 0,.bool false],3,24,.st [(0,1,false),(1,1,false),(2,1,false)],some (.st [(0,1,false,.it .u64),(1,1,false,.it .i64),(2,1,false,.bl)])⟩:=⟨fun _=>by kernel_rfl,⟨rfl,rfl,fun _ _=>by simp [Wf,Wfs]⟩,⟨_,Tryz.underlying226,by kernel_rfl⟩,fun _ h=>by cases h; exact ⟨by kernel_rfl,by kernel_rfl⟩⟩
abbrev T_z3p : TE:=[(3,⟨.int .i64 0,1,8,.sc (.int .i64),none⟩),(4,⟨.bool false,1,1,.sc (.bool),none⟩),(22,⟨.int .u64 0,1,8,.sc (.int .u64),none⟩),(42,⟨.agg [.int .u64 0,.int .u64 0,.int .u64 0,.bool false],4,32,.st [(0,1,false),(1,1,false),(2,1,false),(3,1,false)],some (.st [(0,1,false,.it .u64),(1,1,false,.it .u64),(2,1,false,.it .u64),(3,1,false,.bl)])⟩),(221,⟨.ints .u64 3 (fun _=>0),3,24,.ar 3 22 1 false,some (.ar 3 1 (.it .u64))⟩),(226,⟨.agg [.int .u64 0,.int .i64 0,.bool false],3,24,.st [(0,1,false),(1,1,false),(2,1,false)],some (.st [(0,1,false,.it .u64),(1,1,false,.it .i64),(2,1,false,.bl)])⟩)]
theorem T_z60 : Prg Tryz.prog T_z3p:=⟨(.cons te_3 (.cons te_4 (.cons te_22 (.cons te_42 (.cons te_221 (.cons te_226 (TEok.nil _))))))),by kernel_rfl⟩
noncomputable abbrev O_z3p {α:Type}:ORC α:=[]
theorem O_z60 {α:Type} {I:Imm}:OOk (α:=α) Tryz.prog I O_z3p:=OOk.nil
set_option maxHeartbeats 4000000 in
theorem c_z3p {α:Type} {I:Imm}:OrcOk (α:=α) Tryz.prog I 156 (.pure faultF):=by
  refine orc_pure T_z60 (O:=O_z3p) O_z60 (L:=[]) ⟨1,[]⟩ Tryz.func156 (by kernel_rfl) (by kernel_rfl) (by kernel_rfl) FLOk.nil ?_
  intro args k r hk
  unfold faultF at hk
  split at hk<;>try (simp at hk; done)
  rename_i at_ kind v place cs
  refine ⟨_,hk,by simp [Ids,Idss],by simp [Ids,Idss],?_⟩
  clear hk
  have hk2:=k2_bd kind
  repeat' ((conv=>arg 1; whnf); split<;>try (exfalso; (try simp only [ltB_true,ltB_false,leB_true,leB_false,decide_eq_true_eq,decide_eq_false_iff_not,Bool.and_eq_true,Bool.and_eq_false_iff,Bool.or_eq_true,Bool.or_eq_false_iff,Bool.not_eq_true',Bool.not_eq_false',bne_iff_ne,ne_eq,bne_eq_false_iff_eq,beq_iff_eq,beq_eq_false_iff_ne,Decidable.not_not,eq_self,decide_true,Bool.true_and,true_and,not_true_eq_false,false_or,Nat.beq_refl,Bool.true_eq_false,Int.toNat_zero,nbeq,and_true,strOf_size] at *)<;>omega))
  all_goals (try (conv=>arg 1; whnf))
  exact ends_any rfl
abbrev T_z3m : TE:=[(42,⟨.agg [.int .u64 0,.int .u64 0,.int .u64 0,.bool false],4,32,.st [(0,1,false),(1,1,false),(2,1,false),(3,1,false)],some (.st [(0,1,false,.it .u64),(1,1,false,.it .u64),(2,1,false,.it .u64),(3,1,false,.bl)])⟩),(221,⟨.ints .u64 3 (fun _=>0),3,24,.ar 3 22 1 false,some (.ar 3 1 (.it .u64))⟩),(226,⟨.agg [.int .u64 0,.int .i64 0,.bool false],3,24,.st [(0,1,false),(1,1,false),(2,1,false)],some (.st [(0,1,false,.it .u64),(1,1,false,.it .i64),(2,1,false,.bl)])⟩)]
theorem T_z61 : Prg Tryz.prog T_z3m:=⟨(.cons te_42 (.cons te_221 (.cons te_226 (TEok.nil _)))),by kernel_rfl⟩
noncomputable abbrev O_z3m {α:Type}:ORC α:=[(156,.pure faultF)]
theorem O_z61 {α:Type} {I:Imm}:OOk (α:=α) Tryz.prog I O_z3m:=OOk.cons c_z3p (OOk.nil)
set_option maxHeartbeats 4000000 in
theorem c_z3m {α:Type} {I:Imm}:OrcOk (α:=α) Tryz.prog I 118 (.pure pageF):=by
  refine orc_pure T_z61 (O:=O_z3m) O_z61 (L:=[]) ⟨1,[]⟩ Tryz.func118 (by kernel_rfl) (by kernel_rfl) (by kernel_rfl) FLOk.nil ?_
  intro args k r hk
  unfold pageF at hk
  split at hk<;>try (simp at hk; done)
  rename_i at_ kind v
  refine ⟨_,hk,by simp [Ids,Idss],by simp [Ids,Idss],?_⟩
  clear hk
  repeat' ((conv=>arg 1; whnf); split<;>try (exfalso; (try simp only [ltB_true,ltB_false,leB_true,leB_false,decide_eq_true_eq,decide_eq_false_iff_not,Bool.and_eq_true,Bool.and_eq_false_iff,Bool.or_eq_true,Bool.or_eq_false_iff,Bool.not_eq_true',Bool.not_eq_false',bne_iff_ne,ne_eq,bne_eq_false_iff_eq,beq_iff_eq,beq_eq_false_iff_ne,Decidable.not_not,eq_self,decide_true,Bool.true_and,true_and,not_true_eq_false,false_or,Nat.beq_refl,Bool.true_eq_false,Int.toNat_zero,nbeq,and_true,strOf_size] at *)<;>omega))
  all_goals (try (conv=>arg 1; whnf))
  refine ends_any ?_
  simp only [faultS,pageS,c3_upd]
  rfl
abbrev T_z46 : TE:=[(42,⟨.agg [.int .u64 0,.int .u64 0,.int .u64 0,.bool false],4,32,.st [(0,1,false),(1,1,false),(2,1,false),(3,1,false)],some (.st [(0,1,false,.it .u64),(1,1,false,.it .u64),(2,1,false,.it .u64),(3,1,false,.bl)])⟩),(221,⟨.ints .u64 3 (fun _=>0),3,24,.ar 3 22 1 false,some (.ar 3 1 (.it .u64))⟩),(226,⟨.agg [.int .u64 0,.int .i64 0,.bool false],3,24,.st [(0,1,false),(1,1,false),(2,1,false)],some (.st [(0,1,false,.it .u64),(1,1,false,.it .i64),(2,1,false,.bl)])⟩)]
theorem T_z62 : Prg Tryz.prog T_z46:=⟨(.cons te_42 (.cons te_221 (.cons te_226 (TEok.nil _)))),by kernel_rfl⟩
noncomputable abbrev O_z46 {α:Type}:ORC α:=[(156,.pure faultF)]
theorem O_z62 {α:Type} {I:Imm}:OOk (α:=α) Tryz.prog I O_z46:=OOk.cons c_z3p (OOk.nil)
set_option maxHeartbeats 4000000 in
theorem c_z46 {α:Type} {I:Imm}:OrcOk (α:=α) Tryz.prog I 163 (.pure accessF):=by
  refine orc_pure T_z62 (O:=O_z46) O_z62 (L:=[]) ⟨1,[]⟩ Tryz.func163 (by kernel_rfl) (by kernel_rfl) (by kernel_rfl) FLOk.nil ?_
  intro args k r hk
  unfold accessF at hk
  split at hk<;>try (simp at hk; done)
  rename_i at_ kind v
  refine ⟨_,hk,by simp [Ids,Idss],by simp [Ids,Idss],?_⟩
  clear hk
  repeat' ((conv=>arg 1; whnf); split<;>try (exfalso; (try simp only [ltB_true,ltB_false,leB_true,leB_false,decide_eq_true_eq,decide_eq_false_iff_not,Bool.and_eq_true,Bool.and_eq_false_iff,Bool.or_eq_true,Bool.or_eq_false_iff,Bool.not_eq_true',Bool.not_eq_false',bne_iff_ne,ne_eq,bne_eq_false_iff_eq,beq_iff_eq,beq_eq_false_iff_ne,Decidable.not_not,eq_self,decide_true,Bool.true_and,true_and,not_true_eq_false,false_or,Nat.beq_refl,Bool.true_eq_false,Int.toNat_zero,nbeq,and_true,strOf_size] at *)<;>omega))
  all_goals (try (conv=>arg 1; whnf))
  refine ends_any ?_
  simp only [faultS,accessS,c3_upd]
  rfl
abbrev T_z3q : TE:=[(42,⟨.agg [.int .u64 0,.int .u64 0,.int .u64 0,.bool false],4,32,.st [(0,1,false),(1,1,false),(2,1,false),(3,1,false)],some (.st [(0,1,false,.it .u64),(1,1,false,.it .u64),(2,1,false,.it .u64),(3,1,false,.bl)])⟩),(221,⟨.ints .u64 3 (fun _=>0),3,24,.ar 3 22 1 false,some (.ar 3 1 (.it .u64))⟩),(226,⟨.agg [.int .u64 0,.int .i64 0,.bool false],3,24,.st [(0,1,false),(1,1,false),(2,1,false)],some (.st [(0,1,false,.it .u64),(1,1,false,.it .i64),(2,1,false,.bl)])⟩)]
theorem T_z63 : Prg Tryz.prog T_z3q:=⟨(.cons te_42 (.cons te_221 (.cons te_226 (TEok.nil _)))),by kernel_rfl⟩
noncomputable abbrev O_z3q {α:Type}:ORC α:=[(156,.pure faultF)]
theorem O_z63 {α:Type} {I:Imm}:OOk (α:=α) Tryz.prog I O_z3q:=OOk.cons c_z3p (OOk.nil)
set_option maxHeartbeats 4000000 in
theorem c_z3q {α:Type} {I:Imm}:OrcOk (α:=α) Tryz.prog I 119 (.pure guestF):=by
  refine orc_pure T_z63 (O:=O_z3q) O_z63 (L:=[]) ⟨1,[]⟩ Tryz.func119 (by kernel_rfl) (by kernel_rfl) (by kernel_rfl) FLOk.nil ?_
  intro args k r hk
  unfold guestF at hk
  split at hk<;>try (simp at hk; done)
  rename_i at_ kind v place
  refine ⟨_,hk,by simp [Ids,Idss],by simp [Ids,Idss],?_⟩
  clear hk
  repeat' ((conv=>arg 1; whnf); split<;>try (exfalso; (try simp only [ltB_true,ltB_false,leB_true,leB_false,decide_eq_true_eq,decide_eq_false_iff_not,Bool.and_eq_true,Bool.and_eq_false_iff,Bool.or_eq_true,Bool.or_eq_false_iff,Bool.not_eq_true',Bool.not_eq_false',bne_iff_ne,ne_eq,bne_eq_false_iff_eq,beq_iff_eq,beq_eq_false_iff_ne,Decidable.not_not,eq_self,decide_true,Bool.true_and,true_and,not_true_eq_false,false_or,Nat.beq_refl,Bool.true_eq_false,Int.toNat_zero,nbeq,and_true,strOf_size] at *)<;>omega))
  all_goals (try (conv=>arg 1; whnf))
  refine ends_any ?_
  simp only [faultS,guestS,c3_upd]
abbrev T_z3n : TE:=[(3,⟨.int .i64 0,1,8,.sc (.int .i64),none⟩),(42,⟨.agg [.int .u64 0,.int .u64 0,.int .u64 0,.bool false],4,32,.st [(0,1,false),(1,1,false),(2,1,false),(3,1,false)],some (.st [(0,1,false,.it .u64),(1,1,false,.it .u64),(2,1,false,.it .u64),(3,1,false,.bl)])⟩),(226,⟨.agg [.int .u64 0,.int .i64 0,.bool false],3,24,.st [(0,1,false),(1,1,false),(2,1,false)],some (.st [(0,1,false,.it .u64),(1,1,false,.it .i64),(2,1,false,.bl)])⟩)]
theorem T_z64 : Prg Tryz.prog T_z3n:=⟨(.cons te_3 (.cons te_42 (.cons te_226 (TEok.nil _)))),by kernel_rfl⟩
noncomputable abbrev O_z3n {α:Type}:ORC α:=[(119,.pure guestF),(163,.pure accessF)]
theorem O_z64 {α:Type} {I:Imm}:OOk (α:=α) Tryz.prog I O_z3n:=OOk.cons c_z3q (OOk.cons c_z46 (OOk.nil))
set_option maxHeartbeats 4000000 in
theorem c_z3n {α:Type} {I:Imm}:OrcOk (α:=α) Tryz.prog I 122 (.pure ofF):=by
  refine orc_pure T_z64 (O:=O_z3n) O_z64 (L:=[]) ⟨1,[]⟩ Tryz.func122 (by kernel_rfl) (by kernel_rfl) (by kernel_rfl) FLOk.nil ?_
  intro args k r hk
  unfold ofF at hk
  split at hk<;>try (simp at hk; done)
  rename_i at_ kind v code place
  refine ⟨_,hk,by simp [Ids,Idss],by simp [Ids,Idss],?_⟩
  clear hk
  repeat' ((conv=>arg 1; whnf); split<;>try (exfalso; (try simp only [ltB_true,ltB_false,leB_true,leB_false,decide_eq_true_eq,decide_eq_false_iff_not,Bool.and_eq_true,Bool.and_eq_false_iff,Bool.or_eq_true,Bool.or_eq_false_iff,Bool.not_eq_true',Bool.not_eq_false',bne_iff_ne,ne_eq,bne_eq_false_iff_eq,beq_iff_eq,beq_eq_false_iff_ne,Decidable.not_not,eq_self,decide_true,Bool.true_and,true_and,not_true_eq_false,false_or,Nat.beq_refl,Bool.true_eq_false,Int.toNat_zero,nbeq,and_true,strOf_size] at *)<;>omega))
  all_goals (try (conv=>arg 1; whnf))
  all_goals (refine ends_any ?_; simp only [ofS,cond_true,cond_false, *,Bool.and_true,Bool.true_and,Bool.false_and,Bool.and_false,Bool.or_true,Bool.true_or,Bool.or_false,Bool.false_or,Bool.not_true,Bool.not_false,Bool.and_self,Bool.or_self])
theorem te_265 : TyOk Tryz.prog 265 ⟨.agg [.nilp,.agg [.bool false,.bool false,.bool false,.bool false,.int .i64 0,.int .i64 0,.int .i64 0,.int .i64 0],.int .u64 0],10,56,.st [(0,1,false),(1,8,true),(9,1,false)],none⟩:=⟨fun _=>by kernel_rfl,⟨rfl,rfl,fun _ _=>by simp [Wf,Wfs]⟩,⟨_,Tryz.underlying265,by kernel_rfl⟩,fun _ h=>by cases h⟩
abbrev T_z2j : TE:=[(3,⟨.int .i64 0,1,8,.sc (.int .i64),none⟩),(22,⟨.int .u64 0,1,8,.sc (.int .u64),none⟩),(73,⟨.nilp,1,8,.sc (.pointer 143),none⟩),(223,⟨.agg [.bool false,.bool false,.bool false,.bool false,.int .i64 0,.int .i64 0,.int .i64 0,.int .i64 0],8,40,.st [(0,1,false),(1,1,false),(2,1,false),(3,1,false),(4,1,false),(5,1,false),(6,1,false),(7,1,false)],some (.st [(0,1,false,.bl),(1,1,false,.bl),(2,1,false,.bl),(3,1,false,.bl),(4,1,false,.it .i64),(5,1,false,.it .i64),(6,1,false,.it .i64),(7,1,false,.it .i64)])⟩),(265,⟨.agg [.nilp,.agg [.bool false,.bool false,.bool false,.bool false,.int .i64 0,.int .i64 0,.int .i64 0,.int .i64 0],.int .u64 0],10,56,.st [(0,1,false),(1,8,true),(9,1,false)],none⟩)]
theorem T_z42 : Prg Tryz.prog T_z2j:=⟨(.cons te_3 (.cons te_22 (.cons te_73 (.cons te_223 (.cons te_265 (TEok.nil _)))))),by kernel_rfl⟩
noncomputable abbrev O_z2j {α:Type}:ORC α:=[(121,.full secondF),(178,.full entryF)]
theorem O_z42 {α:Type} {I:Imm}:OOk (α:=α) Tryz.prog I O_z2j:=OOk.cons c_z2f (OOk.cons c_z2e (OOk.nil))
set_option maxHeartbeats 4000000 in
theorem c_z2j {α:Type} {I:Imm}:OrcOk (α:=α) Tryz.prog I 158 (.full rdrF):=by
  refine orc_canon T_z42 (O:=O_z2j) O_z42 (L:=[]) ⟨1,[]⟩ Tryz.func158 (by kernel_rfl) (by kernel_rfl) (by kernel_rfl) FLOk.nil ?_
  intro args σ k r hk
  unfold rdrF at hk
  split at hk<;>try (simp at hk; done)
  rename_i rb frame index
  split at hk<;>try (simp at hk; done)
  rename_i g p a1 a2 a3 a4 a5 a6 a7 a8 la hr
  obtain ⟨b,b1,g0,g1,f,rfl,h0,h1,hne,hk'⟩:=withMem_spec hk
  clear hk; have hk:=hk'; clear hk'
  cases hg:(Nat.beq rb b || Nat.beq rb b1)<;>rw [hg] at hk<;>simp only [cond_true,cond_false] at hk<;>try (simp at hk; done)
  simp only [nbeq,Bool.or_eq_false_iff,decide_eq_false_iff_not] at hg
  refine ⟨[rb,b,b1],[.cells g (.agg [.ptr 1 [],.agg [.bool a1,.bool a2,.bool a3,.bool a4,.int .i64 a5,.int .i64 a6,.int .i64 a7,.int .i64 a8],.int .u64 la]),memO 2 g0,byO g1 f],[.ptr 0 [],.int .i64 frame,.int .i64 index],lay_mk rfl (by simp [hg.1,hg.2,hne]) rfl ⟨hr,h0,h1,trivial⟩ (by simp [AllL,Ids]) (by simp [AllL,OIds,Ids,Idss]),?_⟩
  refine ends_keep (v:=.tuple [.int .u64 (rdr f a2 a8 frame index).1,.int .i64 (rdr f a2 a8 frame index).2]) (bl:=[(0,.cells g (.agg [.ptr 1 [],.agg [.bool a1,.bool a2,.bool a3,.bool a4,.int .i64 a5,.int .i64 a6,.int .i64 a7,.int .i64 a8],.int .u64 (placeS frame index)]))]) ?_ (by simp [Ids,Idss]) (by simp [AllL,OIds,Ids,Idss]) hk
  clear hk
  repeat' ((conv=>arg 1; whnf); split<;>try (exfalso; (try simp only [ltB_true,ltB_false,leB_true,leB_false,decide_eq_true_eq,decide_eq_false_iff_not,Bool.and_eq_true,Bool.and_eq_false_iff,Bool.or_eq_true,Bool.or_eq_false_iff,Bool.not_eq_true',Bool.not_eq_false',bne_iff_ne,ne_eq,bne_eq_false_iff_eq,beq_iff_eq,beq_eq_false_iff_ne,Decidable.not_not,eq_self,decide_true,Bool.true_and,true_and,not_true_eq_false,false_or,Nat.beq_refl,Bool.true_eq_false,Int.toNat_zero,nbeq,and_true,strOf_size] at *)<;>omega))
  all_goals (try (conv=>arg 1; whnf))
  all_goals (try simp only [Bool.not_eq_true',Bool.not_eq_false',u2_0,u2_1] at *)
  all_goals exact ⟨_,_,rfl,by simp only [rdr,placeS,cond_true,cond_false, *,Bool.and_true,Bool.true_and,Bool.false_and,Bool.and_false,Bool.or_true,Bool.true_or,Bool.or_false,Bool.false_or,Bool.not_true,Bool.not_false,Bool.and_self,Bool.or_self]<;>rfl,⟨rfl,trivial⟩,.inl rfl,.inr rfl,.inr rfl,trivial⟩
abbrev T_z2w : TE:=[(3,⟨.int .i64 0,1,8,.sc (.int .i64),none⟩),(22,⟨.int .u64 0,1,8,.sc (.int .u64),none⟩),(293,⟨.ints .u64 2 (fun _=>0),2,16,.ar 2 22 1 false,some (.ar 2 1 (.it .u64))⟩)]
theorem T_z65 : Prg Tryz.prog T_z2w:=⟨(.cons te_3 (.cons te_22 (.cons te_293 (TEok.nil _)))),by kernel_rfl⟩
noncomputable abbrev O_z2w {α:Type}:ORC α:=[(158,.full rdrF),(176,.pure isF),(177,.pure leafF),(161,.pure frameF),(68,.pure bitsF),(60,.pure setF)]
theorem O_z65 {α:Type} {I:Imm}:OOk (α:=α) Tryz.prog I O_z2w:=OOk.cons c_z2j (OOk.cons c_z3k (OOk.cons c_z3o (OOk.cons c_z2o (OOk.cons c_z1 (OOk.cons c_zb (OOk.nil))))))
noncomputable abbrev B_z2w {α:Type}:FF α:=byBody T_z2w O_z2w ⟨3,[]⟩ Tryz.f157
theorem c_z2w {α:Type} {I:Imm}:OrcOk (α:=α) Tryz.prog I 157 (.full B_z2w):=orc_body T_z65 O_z65 ⟨3,[]⟩ Tryz.func157 (by kernel_rfl) (by kernel_rfl) (by kernel_rfl)
abbrev T_z2n : TE:=[(3,⟨.int .i64 0,1,8,.sc (.int .i64),none⟩),(4,⟨.bool false,1,1,.sc (.bool),none⟩),(22,⟨.int .u64 0,1,8,.sc (.int .u64),none⟩),(42,⟨.agg [.int .u64 0,.int .u64 0,.int .u64 0,.bool false],4,32,.st [(0,1,false),(1,1,false),(2,1,false),(3,1,false)],some (.st [(0,1,false,.it .u64),(1,1,false,.it .u64),(2,1,false,.it .u64),(3,1,false,.bl)])⟩),(223,⟨.agg [.bool false,.bool false,.bool false,.bool false,.int .i64 0,.int .i64 0,.int .i64 0,.int .i64 0],8,40,.st [(0,1,false),(1,1,false),(2,1,false),(3,1,false),(4,1,false),(5,1,false),(6,1,false),(7,1,false)],some (.st [(0,1,false,.bl),(1,1,false,.bl),(2,1,false,.bl),(3,1,false,.bl),(4,1,false,.it .i64),(5,1,false,.it .i64),(6,1,false,.it .i64),(7,1,false,.it .i64)])⟩),(226,⟨.agg [.int .u64 0,.int .i64 0,.bool false],3,24,.st [(0,1,false),(1,1,false),(2,1,false)],some (.st [(0,1,false,.it .u64),(1,1,false,.it .i64),(2,1,false,.bl)])⟩),(265,⟨.agg [.nilp,.agg [.bool false,.bool false,.bool false,.bool false,.int .i64 0,.int .i64 0,.int .i64 0,.int .i64 0],.int .u64 0],10,56,.st [(0,1,false),(1,8,true),(9,1,false)],none⟩)]
theorem T_z43 : Prg Tryz.prog T_z2n:=⟨(.cons te_3 (.cons te_4 (.cons te_22 (.cons te_42 (.cons te_223 (.cons te_226 (.cons te_265 (TEok.nil _)))))))),by kernel_rfl⟩
noncomputable abbrev O_z2n {α:Type}:ORC α:=[(157,.full B_z2w),(158,.full rdrF),(61,.pure zextF),(122,.pure ofF),(118,.pure pageF),(159,.pure mayF),(161,.pure frameF),(160,.pure joinF)]
theorem O_z43 {α:Type} {I:Imm}:OOk (α:=α) Tryz.prog I O_z2n:=OOk.cons c_z2w (OOk.cons c_z2j (OOk.cons c_zk (OOk.cons c_z3n (OOk.cons c_z3m (OOk.cons c_z3j (OOk.cons c_z2o (OOk.cons c_z3l (OOk.nil))))))))
set_option maxHeartbeats 4000000 in
theorem c_z2n {α:Type} {I:Imm}:OrcOk (α:=α) Tryz.prog I 120 (.full firstF):=by
  refine orc_canon T_z43 (O:=O_z2n) O_z43 (L:=[]) ⟨1,[]⟩ Tryz.func120 (by kernel_rfl) (by kernel_rfl) (by kernel_rfl) FLOk.nil ?_
  intro args σ k r hk
  unfold firstF at hk
  split at hk<;>try (simp at hk; done)
  rename_i p a1 a2 a3 a4 a5 a6 a7 a8 at_ kind v user
  obtain ⟨b,b1,g0,g1,f,rfl,h0,h1,hne,hk'⟩:=withMem_spec hk
  clear hk; have hk:=hk'; clear hk'
  cases hg0:decide (at_ < 65536)<;>rw [hg0] at hk<;>simp only [cond_true,cond_false] at hk<;>try (simp at hk; done)
  refine ⟨[b,b1],[memO 1 g0,byO g1 f],[.ptr 0 [],.agg [.bool a1,.bool a2,.bool a3,.bool a4,.int .i64 a5,.int .i64 a6,.int .i64 a7,.int .i64 a8],.agg [.int .u64 at_,.int .i64 kind,.bool v],.bool user],lay_mk rfl (nodup2 hne) rfl ⟨h0,h1,trivial⟩ (by simp [AllL,Ids,Idss]) (by simp [AllL,OIds,Ids,Idss]),?_⟩
  refine ends_keep (v:=(firstS f a1 a2 a3 a4 a7 a8 at_ kind v user).sv) (bl:=[]) ?_ (by simp [Ids,Idss]) trivial hk
  clear hk
  repeat' ((conv=>arg 1; whnf); split<;>try (exfalso; (try simp only [ltB_true,ltB_false,leB_true,leB_false,decide_eq_true_eq,decide_eq_false_iff_not,Bool.and_eq_true,Bool.and_eq_false_iff,Bool.or_eq_true,Bool.or_eq_false_iff,Bool.not_eq_true',Bool.not_eq_false',bne_iff_ne,ne_eq,bne_eq_false_iff_eq,beq_iff_eq,beq_eq_false_iff_ne,Decidable.not_not,eq_self,decide_true,Bool.true_and,true_and,not_true_eq_false,false_or,Nat.beq_refl,Bool.true_eq_false,Int.toNat_zero,nbeq,and_true,strOf_size] at *)<;>omega))
  all_goals (try (conv=>arg 1; whnf))
  all_goals (try simp only [Bool.not_eq_true',Bool.not_eq_false',u2_0,u2_1] at *)
  all_goals exact ⟨_,_,rfl,by simp only [firstS,thr,lastR,leafBits,Firsts.sv,cond_true,cond_false, *,Bool.and_true,Bool.true_and,Bool.false_and,Bool.and_false,Bool.or_true,Bool.true_or,Bool.or_false,Bool.false_or,Bool.not_true,Bool.not_false,Bool.and_self,Bool.or_self]<;>rfl,trivial,.inr rfl,.inr rfl,trivial⟩
abbrev T_z47 : TE:=[(3,⟨.int .i64 0,1,8,.sc (.int .i64),none⟩),(22,⟨.int .u64 0,1,8,.sc (.int .u64),none⟩),(24,⟨.ints .u64 29 (fun _=>0),29,232,.ar 29 22 1 false,some (.ar 29 1 (.it .u64))⟩),(26,⟨.agg [.ints .u64 32 (fun _=>0),.int .u64 0,.int .i64 0,.bool false,.ints .u64 29 (fun _=>0),.int .u64 0],65,520,.st [(0,32,true),(32,1,false),(33,1,false),(34,1,false),(35,29,true),(64,1,false)],some (.st [(0,32,true,.ar 32 1 (.it .u64)),(32,1,false,.it .u64),(33,1,false,.it .i64),(34,1,false,.bl),(35,29,true,.ar 29 1 (.it .u64)),(64,1,false,.it .u64)])⟩)]
theorem T_z66 : Prg Tryz.prog T_z47:=⟨(.cons te_3 (.cons te_22 (.cons te_24 (.cons te_26 (TEok.nil _))))),by kernel_rfl⟩
noncomputable abbrev O_z47 {α:Type}:ORC α:=[(69,.pure bitF),(68,.pure bitsF)]
theorem O_z66 {α:Type} {I:Imm}:OOk (α:=α) Tryz.prog I O_z47:=OOk.cons c_z3 (OOk.cons c_z1 (OOk.nil))
set_option maxHeartbeats 4000000 in
theorem c_z47 {α:Type} {I:Imm}:OrcOk (α:=α) Tryz.prog I 155 (.pure onF):=by
  refine orc_pure T_z66 (O:=O_z47) O_z66 (L:=[]) ⟨1,[]⟩ Tryz.func155 (by kernel_rfl) (by kernel_rfl) (by kernel_rfl) FLOk.nil ?_
  intro args k r hk
  unfold onF at hk
  split at hk<;>try (simp at hk; done)
  rename_i x pc lv vv c dn i
  cases hg:(decide (0≤i) && decide (i < 29))<;>rw [hg] at hk<;>simp only [cond_true,cond_false] at hk<;>try (simp at hk; done)
  refine ⟨_,hk,by simp [Ids,Idss],by simp [Ids,Idss],?_⟩
  clear hk
  repeat' ((conv=>arg 1; whnf); split<;>try (exfalso; (try simp only [ltB_true,ltB_false,leB_true,leB_false,decide_eq_true_eq,decide_eq_false_iff_not,Bool.and_eq_true,Bool.and_eq_false_iff,Bool.or_eq_true,Bool.or_eq_false_iff,Bool.not_eq_true',Bool.not_eq_false',bne_iff_ne,ne_eq,bne_eq_false_iff_eq,beq_iff_eq,beq_eq_false_iff_ne,Decidable.not_not,eq_self,decide_true,Bool.true_and,true_and,not_true_eq_false,false_or,Nat.beq_refl,Bool.true_eq_false,Int.toNat_zero,nbeq,and_true,strOf_size] at *)<;>omega))
  all_goals (try (conv=>arg 1; whnf))
  all_goals (try simp only [Bool.not_eq_true',Bool.not_eq_false',u2_0,u2_1] at *)
  all_goals (refine ends_any ?_; simp only [onA,onR,cond_true,cond_false, *,Bool.and_true,Bool.true_and,Bool.false_and,Bool.and_false,Bool.or_true,Bool.true_or,Bool.or_false,Bool.false_or,Bool.not_true,Bool.not_false,Bool.and_self,Bool.or_self])
abbrev T_z44 : TE:=[(3,⟨.int .i64 0,1,8,.sc (.int .i64),none⟩),(4,⟨.bool false,1,1,.sc (.bool),none⟩),(26,⟨.agg [.ints .u64 32 (fun _=>0),.int .u64 0,.int .i64 0,.bool false,.ints .u64 29 (fun _=>0),.int .u64 0],65,520,.st [(0,32,true),(32,1,false),(33,1,false),(34,1,false),(35,29,true),(64,1,false)],some (.st [(0,32,true,.ar 32 1 (.it .u64)),(32,1,false,.it .u64),(33,1,false,.it .i64),(34,1,false,.bl),(35,29,true,.ar 29 1 (.it .u64)),(64,1,false,.it .u64)])⟩),(223,⟨.agg [.bool false,.bool false,.bool false,.bool false,.int .i64 0,.int .i64 0,.int .i64 0,.int .i64 0],8,40,.st [(0,1,false),(1,1,false),(2,1,false),(3,1,false),(4,1,false),(5,1,false),(6,1,false),(7,1,false)],some (.st [(0,1,false,.bl),(1,1,false,.bl),(2,1,false,.bl),(3,1,false,.bl),(4,1,false,.it .i64),(5,1,false,.it .i64),(6,1,false,.it .i64),(7,1,false,.it .i64)])⟩)]
theorem T_z67 : Prg Tryz.prog T_z44:=⟨(.cons te_3 (.cons te_4 (.cons te_26 (.cons te_223 (TEok.nil _))))),by kernel_rfl⟩
noncomputable abbrev O_z44 {α:Type}:ORC α:=[(155,.pure onF),(69,.pure bitF)]
theorem O_z67 {α:Type} {I:Imm}:OOk (α:=α) Tryz.prog I O_z44:=OOk.cons c_z47 (OOk.cons c_z3 (OOk.nil))
set_option maxHeartbeats 4000000 in
theorem c_z44 {α:Type} {I:Imm}:OrcOk (α:=α) Tryz.prog I 117 (.pure askF):=by
  refine orc_pure T_z67 (O:=O_z44) O_z67 (L:=[]) ⟨1,[]⟩ Tryz.func117 (by kernel_rfl) (by kernel_rfl) (by kernel_rfl) FLOk.nil ?_
  intro args k r hk
  unfold askF at hk
  split at hk<;>try (simp at hk; done)
  rename_i x pc lv vv c dn level v
  refine ⟨_,hk,by simp [Ids,Idss],by simp [Ids,Idss],?_⟩
  clear hk
  repeat' ((conv=>arg 1; whnf); split<;>try (exfalso; (try simp only [ltB_true,ltB_false,leB_true,leB_false,decide_eq_true_eq,decide_eq_false_iff_not,Bool.and_eq_true,Bool.and_eq_false_iff,Bool.or_eq_true,Bool.or_eq_false_iff,Bool.not_eq_true',Bool.not_eq_false',bne_iff_ne,ne_eq,bne_eq_false_iff_eq,beq_iff_eq,beq_eq_false_iff_ne,Decidable.not_not,eq_self,decide_true,Bool.true_and,true_and,not_true_eq_false,false_or,Nat.beq_refl,Bool.true_eq_false,Int.toNat_zero,nbeq,and_true,strOf_size] at *)<;>omega))
  all_goals (try (conv=>arg 1; whnf))
  all_goals (try simp only [Bool.not_eq_true',Bool.not_eq_false',u2_0,u2_1] at *)
  all_goals (refine ends_any ?_; simp only [askS,Asking.sv,cond_true,cond_false, *,Bool.and_true,Bool.true_and,Bool.false_and,Bool.and_false,Bool.or_true,Bool.true_or,Bool.or_false,Bool.false_or,Bool.not_true,Bool.not_false,Bool.and_self,Bool.or_self])
theorem te_196 : TyOk Tryz.prog 196 ⟨.agg [.bool false,.bool false,.int .i64 0,.int .i64 0,.int .i64 0,.int .i64 0,.int .i64 0,.int .i64 0,.int .i64 0],9,64,.st [(0,1,false),(1,1,false),(2,1,false),(3,1,false),(4,1,false),(5,1,false),(6,1,false),(7,1,false),(8,1,false)],some (.st [(0,1,false,.bl),(1,1,false,.bl),(2,1,false,.it .i64),(3,1,false,.it .i64),(4,1,false,.it .i64),(5,1,false,.it .i64),(6,1,false,.it .i64),(7,1,false,.it .i64),(8,1,false,.it .i64)])⟩:=⟨fun _=>by kernel_rfl,⟨rfl,rfl,fun _ _=>by simp [Wf,Wfs]⟩,⟨_,Tryz.underlying196,by kernel_rfl⟩,fun _ h=>by cases h; exact ⟨by kernel_rfl,by kernel_rfl⟩⟩
abbrev T_z2k : TE:=[(3,⟨.int .i64 0,1,8,.sc (.int .i64),none⟩),(4,⟨.bool false,1,1,.sc (.bool),none⟩),(22,⟨.int .u64 0,1,8,.sc (.int .u64),none⟩),(26,⟨.agg [.ints .u64 32 (fun _=>0),.int .u64 0,.int .i64 0,.bool false,.ints .u64 29 (fun _=>0),.int .u64 0],65,520,.st [(0,32,true),(32,1,false),(33,1,false),(34,1,false),(35,29,true),(64,1,false)],some (.st [(0,32,true,.ar 32 1 (.it .u64)),(32,1,false,.it .u64),(33,1,false,.it .i64),(34,1,false,.bl),(35,29,true,.ar 29 1 (.it .u64)),(64,1,false,.it .u64)])⟩),(42,⟨.agg [.int .u64 0,.int .u64 0,.int .u64 0,.bool false],4,32,.st [(0,1,false),(1,1,false),(2,1,false),(3,1,false)],some (.st [(0,1,false,.it .u64),(1,1,false,.it .u64),(2,1,false,.it .u64),(3,1,false,.bl)])⟩),(196,⟨.agg [.bool false,.bool false,.int .i64 0,.int .i64 0,.int .i64 0,.int .i64 0,.int .i64 0,.int .i64 0,.int .i64 0],9,64,.st [(0,1,false),(1,1,false),(2,1,false),(3,1,false),(4,1,false),(5,1,false),(6,1,false),(7,1,false),(8,1,false)],some (.st [(0,1,false,.bl),(1,1,false,.bl),(2,1,false,.it .i64),(3,1,false,.it .i64),(4,1,false,.it .i64),(5,1,false,.it .i64),(6,1,false,.it .i64),(7,1,false,.it .i64),(8,1,false,.it .i64)])⟩),(223,⟨.agg [.bool false,.bool false,.bool false,.bool false,.int .i64 0,.int .i64 0,.int .i64 0,.int .i64 0],8,40,.st [(0,1,false),(1,1,false),(2,1,false),(3,1,false),(4,1,false),(5,1,false),(6,1,false),(7,1,false)],some (.st [(0,1,false,.bl),(1,1,false,.bl),(2,1,false,.bl),(3,1,false,.bl),(4,1,false,.it .i64),(5,1,false,.it .i64),(6,1,false,.it .i64),(7,1,false,.it .i64)])⟩),(226,⟨.agg [.int .u64 0,.int .i64 0,.bool false],3,24,.st [(0,1,false),(1,1,false),(2,1,false)],some (.st [(0,1,false,.it .u64),(1,1,false,.it .i64),(2,1,false,.bl)])⟩)]
theorem T_z45 : Prg Tryz.prog T_z2k:=⟨(.cons te_3 (.cons te_4 (.cons te_22 (.cons te_26 (.cons te_42 (.cons te_196 (.cons te_223 (.cons te_226 (TEok.nil _))))))))),by kernel_rfl⟩
noncomputable abbrev O_z2k {α:Type}:ORC α:=[(117,.pure askF),(118,.pure pageF),(119,.pure guestF),(120,.full firstF),(121,.full secondF),(122,.pure ofF)]
theorem O_z45 {α:Type} {I:Imm}:OOk (α:=α) Tryz.prog I O_z2k:=OOk.cons c_z44 (OOk.cons c_z3m (OOk.cons c_z3q (OOk.cons c_z2n (OOk.cons c_z2f (OOk.cons c_z3n (OOk.nil))))))
set_option maxHeartbeats 4000000 in
theorem c_z2k {α:Type} {I:Imm}:OrcOk (α:=α) Tryz.prog I 92 (.full transF):=by
  refine orc_canon T_z45 (O:=O_z2k) O_z45 (L:=[]) ⟨1,[]⟩ Tryz.func92 (by kernel_rfl) (by kernel_rfl) (by kernel_rfl) FLOk.nil ?_
  intro args σ k r hk
  unfold transF at hk
  split at hk<;>try (simp at hk; done)
  rename_i p x pc lv vv c dn at_ kind level v
  obtain ⟨b,b1,g0,g1,f,rfl,h0,h1,hne,hk'⟩:=withMem_spec hk
  clear hk; have hk:=hk'; clear hk'
  refine ⟨[b,b1],[memO 1 g0,byO g1 f],[.ptr 0 [],.agg [.ints .u64 32 x,.int .u64 pc,.int .i64 lv,.bool vv,.ints .u64 29 c,.int .u64 dn],.int .u64 at_,.int .i64 kind,.int .i64 level,.bool v],lay_mk rfl (nodup2 hne) rfl ⟨h0,h1,trivial⟩ (by simp [AllL,Ids,Idss]) (by simp [AllL,OIds,Ids,Idss]),?_⟩
  refine ends_keep (v:=(transA f (askS c level v) at_ kind (level==0) v).sv) (bl:=[]) ?_ (by simp [Ids,Idss]) trivial hk
  clear hk
  repeat' ((conv=>arg 1; whnf); split<;>try (exfalso; (try simp only [ltB_true,ltB_false,leB_true,leB_false,decide_eq_true_eq,decide_eq_false_iff_not,Bool.and_eq_true,Bool.and_eq_false_iff,Bool.or_eq_true,Bool.or_eq_false_iff,Bool.not_eq_true',Bool.not_eq_false',bne_iff_ne,ne_eq,bne_eq_false_iff_eq,beq_iff_eq,beq_eq_false_iff_ne,Decidable.not_not,eq_self,decide_true,Bool.true_and,true_and,not_true_eq_false,false_or,Nat.beq_refl,Bool.true_eq_false,Int.toNat_zero,nbeq,and_true,strOf_size] at *)<;>omega))
  all_goals (try (conv=>arg 1; whnf))
  all_goals (try simp only [Bool.not_eq_true',Bool.not_eq_false',u2_0,u2_1] at *)
  all_goals refine ⟨_,_,rfl,?_,trivial,.inr rfl,.inr rfl,trivial⟩
  all_goals try simp only [offA_eq] at *
  all_goals simp only [transA,Trans.sv,Entry.sv,pageOf,Firsts.sv,cond_true,cond_false, *,Bool.and_true,Bool.true_and,Bool.false_and,Bool.and_false,Bool.or_true,Bool.true_or,Bool.or_false,Bool.false_or,Bool.not_true,Bool.not_false,Bool.and_self,Bool.or_self]
  all_goals first | done | rfl | trace_state
end Go.Proofs.YtodnffhcbhlifaaGreat
