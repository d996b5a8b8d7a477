/-
  Contracts: Two.
-/
import Derived.Test.YtepdlgehceipjaaGreatInWalk
import Derived.Test.YtepdlgehceipjaaGreatSpTwo
set_option maxRecDepth 100000
set_option linter.unusedSimpArgs false
set_option linter.unusedVariables false
namespace Go.Proofs.YtepdlgehceipjaaGreat
open Go Go.Sh Go.Proofs
set_option linter.unusedSimpArgs false
abbrev T_z2u : TE:=[(3,⟨.int .i64 0,1,8,.sc (.int .i64),none⟩),(22,⟨.int .u64 0,1,8,.sc (.int .u64),none⟩)]
theorem T_z4v : Prg Tryz.prog T_z2u:=⟨(.cons te_3 (.cons te_22 (TEok.nil _))),by kernel_rfl⟩
noncomputable abbrev O_z2u {α:Type}:ORC α:=[(211,.pure zextF)]
theorem O_z4v {α:Type} {I:Imm}:OOk (α:=α) Tryz.prog I O_z2u:=OOk.cons c_z2g (OOk.nil)
set_option maxHeartbeats 4000000 in
theorem c_z2u {α:Type} {I:Imm}:OrcOk (α:=α) Tryz.prog I 231 (.pure joinF):=by
  refine orc_pure T_z4v (O:=O_z2u) O_z4v (L:=[]) ⟨1,[]⟩ Tryz.func231 (by kernel_rfl) (by kernel_rfl) (by kernel_rfl) FLOk.nil ?_
  intro args k r hk
  unfold joinF at hk
  split at hk<;>try (simp at hk; done)
  rename_i frame at_
  refine ⟨_,hk,by simp [Ids,Idss],by simp [Ids,Idss],?_⟩
  clear hk
  repeat' ((conv=>arg 1; whnf); split<;>try (exfalso; (try simp only [ltB_true,ltB_false,leB_true,leB_false,decide_eq_true_eq,decide_eq_false_iff_not,Bool.and_eq_true,Bool.and_eq_false_iff,Bool.or_eq_true,Bool.or_eq_false_iff,Bool.not_eq_true',Bool.not_eq_false',bne_iff_ne,ne_eq,bne_eq_false_iff_eq,beq_iff_eq,beq_eq_false_iff_ne,Decidable.not_not,eq_self,decide_true,Bool.true_and,true_and,not_true_eq_false,false_or,Nat.beq_refl,Bool.true_eq_false,Int.toNat_zero,nbeq,and_true,strOf_size] at *)<;>omega))
  all_goals (try (conv=>arg 1; whnf))
  exact ends_int rfl
theorem te_4 : TyOk Tryz.prog 4 ⟨.bool false,1,1,.sc (.bool),none⟩:=⟨fun _=>by kernel_rfl,⟨rfl,rfl,fun _ _=>by simp [Wf,Wfs]⟩,⟨Tryz.underlying4,rfl⟩,fun _ h=>by cases h⟩
theorem te_243 : TyOk Tryz.prog 243 ⟨.agg [.bool false,.bool false,.bool false,.bool false,.int .i64 0,.int .i64 0,.int .i64 0,.int .i64 0],8,40,.st [(0,1,false),(1,1,false),(2,1,false),(3,1,false),(4,1,false),(5,1,false),(6,1,false),(7,1,false)],some (.st [(0,1,false,.bl),(1,1,false,.bl),(2,1,false,.bl),(3,1,false,.bl),(4,1,false,.it .i64),(5,1,false,.it .i64),(6,1,false,.it .i64),(7,1,false,.it .i64)])⟩:=⟨fun _=>by kernel_rfl,⟨rfl,rfl,fun _ _=>by simp [Wf,Wfs]⟩,⟨_,Tryz.underlying243,by kernel_rfl⟩,fun _ h=>by cases h; exact ⟨by kernel_rfl,by kernel_rfl⟩⟩
abbrev T_z2v : TE:=[(3,⟨.int .i64 0,1,8,.sc (.int .i64),none⟩),(4,⟨.bool false,1,1,.sc (.bool),none⟩),(22,⟨.int .u64 0,1,8,.sc (.int .u64),none⟩),(243,⟨.agg [.bool false,.bool false,.bool false,.bool false,.int .i64 0,.int .i64 0,.int .i64 0,.int .i64 0],8,40,.st [(0,1,false),(1,1,false),(2,1,false),(3,1,false),(4,1,false),(5,1,false),(6,1,false),(7,1,false)],some (.st [(0,1,false,.bl),(1,1,false,.bl),(2,1,false,.bl),(3,1,false,.bl),(4,1,false,.it .i64),(5,1,false,.it .i64),(6,1,false,.it .i64),(7,1,false,.it .i64)])⟩)]
theorem T_z4w : Prg Tryz.prog T_z2v:=⟨(.cons te_3 (.cons te_4 (.cons te_22 (.cons te_243 (TEok.nil _))))),by kernel_rfl⟩
noncomputable abbrev O_z2v {α:Type}:ORC α:=[(233,.full walkF),(211,.pure zextF),(230,.pure mayF),(232,.pure frameF),(231,.pure joinF)]
theorem O_z4w {α:Type} {I:Imm}:OOk (α:=α) Tryz.prog I O_z2v:=OOk.cons c_z2z (OOk.cons c_z2g (OOk.cons c_z2r (OOk.cons c_z2f (OOk.cons c_z2u (OOk.nil)))))
set_option maxHeartbeats 4000000 in
theorem c_z2v {α:Type} {I:Imm}:OrcOk (α:=α) Tryz.prog I 185 (.full secondF):=by
  refine orc_canon T_z4w (O:=O_z2v) O_z4w (L:=[]) ⟨1,[]⟩ Tryz.func185 (by kernel_rfl) (by kernel_rfl) (by kernel_rfl) FLOk.nil ?_
  intro args σ k r hk
  unfold secondF at hk
  split at hk<;>try (simp at hk; done)
  rename_i p a1 a2 a3 a4 a5 a6 a7 a8 place kind
  obtain ⟨b,b1,g0,g1,f,rfl,h0,h1,hne,hk'⟩:=withMem_spec hk
  clear hk; have hk:=hk'; clear hk'
  refine ⟨[b,b1],[memO 1 g0,byO g1 f],[.ptr 0 [],.agg [.bool a1,.bool a2,.bool a3,.bool a4,.int .i64 a5,.int .i64 a6,.int .i64 a7,.int .i64 a8],.int .u64 place,.int .i64 kind],lay_mk rfl (nodup2 hne) rfl ⟨h0,h1,trivial⟩ (by simp [AllL,Ids,Idss]) (by simp [AllL,OIds,Ids,Idss]),?_⟩
  refine ends_keep (v:=secondV (secondS f a2 a8 place kind)) (bl:=[]) ?_ (by simp [secondV,Ids,Idss]) trivial hk
  clear hk
  repeat' ((conv=>arg 1; whnf); split<;>try (exfalso; (try simp only [ltB_true,ltB_false,leB_true,leB_false,decide_eq_true_eq,decide_eq_false_iff_not,Bool.and_eq_true,Bool.and_eq_false_iff,Bool.or_eq_true,Bool.or_eq_false_iff,Bool.not_eq_true',Bool.not_eq_false',bne_iff_ne,ne_eq,bne_eq_false_iff_eq,beq_iff_eq,beq_eq_false_iff_ne,Decidable.not_not,eq_self,decide_true,Bool.true_and,true_and,not_true_eq_false,false_or,Nat.beq_refl,Bool.true_eq_false,Int.toNat_zero,nbeq,and_true,strOf_size] at *)<;>omega))
  all_goals (try (conv=>arg 1; whnf))
  all_goals (try simp only [Bool.not_eq_true',Bool.not_eq_false',u2_0,u2_1] at *)
  all_goals exact ⟨_,_,rfl,by simp only [secondV,secondS,leafBits,cond_true,cond_false, *,Bool.and_true,Bool.true_and,Bool.false_and,Bool.and_false,Bool.or_true,Bool.true_or,Bool.or_false,Bool.false_or,Bool.not_true,Bool.not_false,Bool.and_self,Bool.or_self]<;>rfl,trivial,.inr rfl,.inr rfl,trivial⟩
theorem te_45 : TyOk Tryz.prog 45 ⟨.agg [.int .u64 0,.int .u64 0,.int .u64 0,.bool false],4,32,.st [(0,1,false),(1,1,false),(2,1,false),(3,1,false)],some (.st [(0,1,false,.it .u64),(1,1,false,.it .u64),(2,1,false,.it .u64),(3,1,false,.bl)])⟩:=⟨fun _=>by kernel_rfl,⟨rfl,rfl,fun _ _=>by simp [Wf,Wfs]⟩,⟨_,Tryz.underlying45,by kernel_rfl⟩,fun _ h=>by cases h; exact ⟨by kernel_rfl,by kernel_rfl⟩⟩
theorem te_241 : TyOk Tryz.prog 241 ⟨.ints .u64 3 (fun _=>0),3,24,.ar 3 22 1 false,some (.ar 3 1 (.it .u64))⟩:=⟨fun _=>by kernel_rfl,⟨rfl,rfl,fun _ _=>by simp [Wf,Wfs]⟩,⟨Tryz.underlying241,by kernel_rfl,by kernel_rfl⟩,fun _ h=>by cases h; exact ⟨by kernel_rfl,by kernel_rfl⟩⟩
theorem te_266 : TyOk Tryz.prog 266 ⟨.agg [.int .u64 0,.int .i64 0,.bool false],3,24,.st [(0,1,false),(1,1,false),(2,1,false)],some (.st [(0,1,false,.it .u64),(1,1,false,.it .i64),(2,1,false,.bl)])⟩:=⟨fun _=>by kernel_rfl,⟨rfl,rfl,fun _ _=>by simp [Wf,Wfs]⟩,⟨_,Tryz.underlying266,by kernel_rfl⟩,fun _ h=>by cases h; exact ⟨by kernel_rfl,by kernel_rfl⟩⟩
abbrev T_z2i : TE:=[(3,⟨.int .i64 0,1,8,.sc (.int .i64),none⟩),(4,⟨.bool false,1,1,.sc (.bool),none⟩),(22,⟨.int .u64 0,1,8,.sc (.int .u64),none⟩),(45,⟨.agg [.int .u64 0,.int .u64 0,.int .u64 0,.bool false],4,32,.st [(0,1,false),(1,1,false),(2,1,false),(3,1,false)],some (.st [(0,1,false,.it .u64),(1,1,false,.it .u64),(2,1,false,.it .u64),(3,1,false,.bl)])⟩),(241,⟨.ints .u64 3 (fun _=>0),3,24,.ar 3 22 1 false,some (.ar 3 1 (.it .u64))⟩),(266,⟨.agg [.int .u64 0,.int .i64 0,.bool false],3,24,.st [(0,1,false),(1,1,false),(2,1,false)],some (.st [(0,1,false,.it .u64),(1,1,false,.it .i64),(2,1,false,.bl)])⟩)]
theorem T_z4x : Prg Tryz.prog T_z2i:=⟨(.cons te_3 (.cons te_4 (.cons te_22 (.cons te_45 (.cons te_241 (.cons te_266 (TEok.nil _))))))),by kernel_rfl⟩
noncomputable abbrev O_z2i {α:Type}:ORC α:=[]
theorem O_z4x {α:Type} {I:Imm}:OOk (α:=α) Tryz.prog I O_z2i:=OOk.nil
set_option maxHeartbeats 4000000 in
theorem c_z2i {α:Type} {I:Imm}:OrcOk (α:=α) Tryz.prog I 227 (.pure faultF):=by
  refine orc_pure T_z4x (O:=O_z2i) O_z4x (L:=[]) ⟨1,[]⟩ Tryz.func227 (by kernel_rfl) (by kernel_rfl) (by kernel_rfl) FLOk.nil ?_
  intro args k r hk
  unfold faultF at hk
  split at hk<;>try (simp at hk; done)
  rename_i at_ kind v place cs
  refine ⟨_,hk,by simp [Ids,Idss],by simp [Ids,Idss],?_⟩
  clear hk
  have hk2:=k2_bd kind
  repeat' ((conv=>arg 1; whnf); split<;>try (exfalso; (try simp only [ltB_true,ltB_false,leB_true,leB_false,decide_eq_true_eq,decide_eq_false_iff_not,Bool.and_eq_true,Bool.and_eq_false_iff,Bool.or_eq_true,Bool.or_eq_false_iff,Bool.not_eq_true',Bool.not_eq_false',bne_iff_ne,ne_eq,bne_eq_false_iff_eq,beq_iff_eq,beq_eq_false_iff_ne,Decidable.not_not,eq_self,decide_true,Bool.true_and,true_and,not_true_eq_false,false_or,Nat.beq_refl,Bool.true_eq_false,Int.toNat_zero,nbeq,and_true,strOf_size] at *)<;>omega))
  all_goals (try (conv=>arg 1; whnf))
  exact ends_any rfl
abbrev T_z2j : TE:=[(45,⟨.agg [.int .u64 0,.int .u64 0,.int .u64 0,.bool false],4,32,.st [(0,1,false),(1,1,false),(2,1,false),(3,1,false)],some (.st [(0,1,false,.it .u64),(1,1,false,.it .u64),(2,1,false,.it .u64),(3,1,false,.bl)])⟩),(241,⟨.ints .u64 3 (fun _=>0),3,24,.ar 3 22 1 false,some (.ar 3 1 (.it .u64))⟩),(266,⟨.agg [.int .u64 0,.int .i64 0,.bool false],3,24,.st [(0,1,false),(1,1,false),(2,1,false)],some (.st [(0,1,false,.it .u64),(1,1,false,.it .i64),(2,1,false,.bl)])⟩)]
theorem T_z4y : Prg Tryz.prog T_z2j:=⟨(.cons te_45 (.cons te_241 (.cons te_266 (TEok.nil _)))),by kernel_rfl⟩
noncomputable abbrev O_z2j {α:Type}:ORC α:=[(227,.pure faultF)]
theorem O_z4y {α:Type} {I:Imm}:OOk (α:=α) Tryz.prog I O_z2j:=OOk.cons c_z2i (OOk.nil)
set_option maxHeartbeats 4000000 in
theorem c_z2j {α:Type} {I:Imm}:OrcOk (α:=α) Tryz.prog I 182 (.pure pageF):=by
  refine orc_pure T_z4y (O:=O_z2j) O_z4y (L:=[]) ⟨1,[]⟩ Tryz.func182 (by kernel_rfl) (by kernel_rfl) (by kernel_rfl) FLOk.nil ?_
  intro args k r hk
  unfold pageF at hk
  split at hk<;>try (simp at hk; done)
  rename_i at_ kind v
  refine ⟨_,hk,by simp [Ids,Idss],by simp [Ids,Idss],?_⟩
  clear hk
  repeat' ((conv=>arg 1; whnf); split<;>try (exfalso; (try simp only [ltB_true,ltB_false,leB_true,leB_false,decide_eq_true_eq,decide_eq_false_iff_not,Bool.and_eq_true,Bool.and_eq_false_iff,Bool.or_eq_true,Bool.or_eq_false_iff,Bool.not_eq_true',Bool.not_eq_false',bne_iff_ne,ne_eq,bne_eq_false_iff_eq,beq_iff_eq,beq_eq_false_iff_ne,Decidable.not_not,eq_self,decide_true,Bool.true_and,true_and,not_true_eq_false,false_or,Nat.beq_refl,Bool.true_eq_false,Int.toNat_zero,nbeq,and_true,strOf_size] at *)<;>omega))
  all_goals (try (conv=>arg 1; whnf))
  refine ends_any ?_
  simp only [faultS,pageS,c3_upd]
  rfl
abbrev T_z30 : TE:=[(45,⟨.agg [.int .u64 0,.int .u64 0,.int .u64 0,.bool false],4,32,.st [(0,1,false),(1,1,false),(2,1,false),(3,1,false)],some (.st [(0,1,false,.it .u64),(1,1,false,.it .u64),(2,1,false,.it .u64),(3,1,false,.bl)])⟩),(241,⟨.ints .u64 3 (fun _=>0),3,24,.ar 3 22 1 false,some (.ar 3 1 (.it .u64))⟩),(266,⟨.agg [.int .u64 0,.int .i64 0,.bool false],3,24,.st [(0,1,false),(1,1,false),(2,1,false)],some (.st [(0,1,false,.it .u64),(1,1,false,.it .i64),(2,1,false,.bl)])⟩)]
theorem T_z4z : Prg Tryz.prog T_z30:=⟨(.cons te_45 (.cons te_241 (.cons te_266 (TEok.nil _)))),by kernel_rfl⟩
noncomputable abbrev O_z30 {α:Type}:ORC α:=[(227,.pure faultF)]
theorem O_z4z {α:Type} {I:Imm}:OOk (α:=α) Tryz.prog I O_z30:=OOk.cons c_z2i (OOk.nil)
set_option maxHeartbeats 4000000 in
theorem c_z30 {α:Type} {I:Imm}:OrcOk (α:=α) Tryz.prog I 234 (.pure accessF):=by
  refine orc_pure T_z4z (O:=O_z30) O_z4z (L:=[]) ⟨1,[]⟩ Tryz.func234 (by kernel_rfl) (by kernel_rfl) (by kernel_rfl) FLOk.nil ?_
  intro args k r hk
  unfold accessF at hk
  split at hk<;>try (simp at hk; done)
  rename_i at_ kind v
  refine ⟨_,hk,by simp [Ids,Idss],by simp [Ids,Idss],?_⟩
  clear hk
  repeat' ((conv=>arg 1; whnf); split<;>try (exfalso; (try simp only [ltB_true,ltB_false,leB_true,leB_false,decide_eq_true_eq,decide_eq_false_iff_not,Bool.and_eq_true,Bool.and_eq_false_iff,Bool.or_eq_true,Bool.or_eq_false_iff,Bool.not_eq_true',Bool.not_eq_false',bne_iff_ne,ne_eq,bne_eq_false_iff_eq,beq_iff_eq,beq_eq_false_iff_ne,Decidable.not_not,eq_self,decide_true,Bool.true_and,true_and,not_true_eq_false,false_or,Nat.beq_refl,Bool.true_eq_false,Int.toNat_zero,nbeq,and_true,strOf_size] at *)<;>omega))
  all_goals (try (conv=>arg 1; whnf))
  refine ends_any ?_
  simp only [faultS,accessS,c3_upd]
  rfl
abbrev T_z2k : TE:=[(45,⟨.agg [.int .u64 0,.int .u64 0,.int .u64 0,.bool false],4,32,.st [(0,1,false),(1,1,false),(2,1,false),(3,1,false)],some (.st [(0,1,false,.it .u64),(1,1,false,.it .u64),(2,1,false,.it .u64),(3,1,false,.bl)])⟩),(241,⟨.ints .u64 3 (fun _=>0),3,24,.ar 3 22 1 false,some (.ar 3 1 (.it .u64))⟩),(266,⟨.agg [.int .u64 0,.int .i64 0,.bool false],3,24,.st [(0,1,false),(1,1,false),(2,1,false)],some (.st [(0,1,false,.it .u64),(1,1,false,.it .i64),(2,1,false,.bl)])⟩)]
theorem T_z50 : Prg Tryz.prog T_z2k:=⟨(.cons te_45 (.cons te_241 (.cons te_266 (TEok.nil _)))),by kernel_rfl⟩
noncomputable abbrev O_z2k {α:Type}:ORC α:=[(227,.pure faultF)]
theorem O_z50 {α:Type} {I:Imm}:OOk (α:=α) Tryz.prog I O_z2k:=OOk.cons c_z2i (OOk.nil)
set_option maxHeartbeats 4000000 in
theorem c_z2k {α:Type} {I:Imm}:OrcOk (α:=α) Tryz.prog I 183 (.pure guestF):=by
  refine orc_pure T_z50 (O:=O_z2k) O_z50 (L:=[]) ⟨1,[]⟩ Tryz.func183 (by kernel_rfl) (by kernel_rfl) (by kernel_rfl) FLOk.nil ?_
  intro args k r hk
  unfold guestF at hk
  split at hk<;>try (simp at hk; done)
  rename_i at_ kind v place
  refine ⟨_,hk,by simp [Ids,Idss],by simp [Ids,Idss],?_⟩
  clear hk
  repeat' ((conv=>arg 1; whnf); split<;>try (exfalso; (try simp only [ltB_true,ltB_false,leB_true,leB_false,decide_eq_true_eq,decide_eq_false_iff_not,Bool.and_eq_true,Bool.and_eq_false_iff,Bool.or_eq_true,Bool.or_eq_false_iff,Bool.not_eq_true',Bool.not_eq_false',bne_iff_ne,ne_eq,bne_eq_false_iff_eq,beq_iff_eq,beq_eq_false_iff_ne,Decidable.not_not,eq_self,decide_true,Bool.true_and,true_and,not_true_eq_false,false_or,Nat.beq_refl,Bool.true_eq_false,Int.toNat_zero,nbeq,and_true,strOf_size] at *)<;>omega))
  all_goals (try (conv=>arg 1; whnf))
  refine ends_any ?_
  simp only [faultS,guestS,c3_upd]
abbrev T_z2l : TE:=[(3,⟨.int .i64 0,1,8,.sc (.int .i64),none⟩),(45,⟨.agg [.int .u64 0,.int .u64 0,.int .u64 0,.bool false],4,32,.st [(0,1,false),(1,1,false),(2,1,false),(3,1,false)],some (.st [(0,1,false,.it .u64),(1,1,false,.it .u64),(2,1,false,.it .u64),(3,1,false,.bl)])⟩),(266,⟨.agg [.int .u64 0,.int .i64 0,.bool false],3,24,.st [(0,1,false),(1,1,false),(2,1,false)],some (.st [(0,1,false,.it .u64),(1,1,false,.it .i64),(2,1,false,.bl)])⟩)]
theorem T_z51 : Prg Tryz.prog T_z2l:=⟨(.cons te_3 (.cons te_45 (.cons te_266 (TEok.nil _)))),by kernel_rfl⟩
noncomputable abbrev O_z2l {α:Type}:ORC α:=[(183,.pure guestF),(234,.pure accessF)]
theorem O_z51 {α:Type} {I:Imm}:OOk (α:=α) Tryz.prog I O_z2l:=OOk.cons c_z2k (OOk.cons c_z30 (OOk.nil))
set_option maxHeartbeats 4000000 in
theorem c_z2l {α:Type} {I:Imm}:OrcOk (α:=α) Tryz.prog I 186 (.pure ofF):=by
  refine orc_pure T_z51 (O:=O_z2l) O_z51 (L:=[]) ⟨1,[]⟩ Tryz.func186 (by kernel_rfl) (by kernel_rfl) (by kernel_rfl) FLOk.nil ?_
  intro args k r hk
  unfold ofF at hk
  split at hk<;>try (simp at hk; done)
  rename_i at_ kind v code place
  refine ⟨_,hk,by simp [Ids,Idss],by simp [Ids,Idss],?_⟩
  clear hk
  repeat' ((conv=>arg 1; whnf); split<;>try (exfalso; (try simp only [ltB_true,ltB_false,leB_true,leB_false,decide_eq_true_eq,decide_eq_false_iff_not,Bool.and_eq_true,Bool.and_eq_false_iff,Bool.or_eq_true,Bool.or_eq_false_iff,Bool.not_eq_true',Bool.not_eq_false',bne_iff_ne,ne_eq,bne_eq_false_iff_eq,beq_iff_eq,beq_eq_false_iff_ne,Decidable.not_not,eq_self,decide_true,Bool.true_and,true_and,not_true_eq_false,false_or,Nat.beq_refl,Bool.true_eq_false,Int.toNat_zero,nbeq,and_true,strOf_size] at *)<;>omega))
  all_goals (try (conv=>arg 1; whnf))
  all_goals (refine ends_any ?_; simp only [ofS,cond_true,cond_false, *,Bool.and_true,Bool.true_and,Bool.false_and,Bool.and_false,Bool.or_true,Bool.true_or,Bool.or_false,Bool.false_or,Bool.not_true,Bool.not_false,Bool.and_self,Bool.or_self])
theorem te_300 : TyOk Tryz.prog 300 ⟨.agg [.nilp,.agg [.bool false,.bool false,.bool false,.bool false,.int .i64 0,.int .i64 0,.int .i64 0,.int .i64 0],.int .u64 0],10,56,.st [(0,1,false),(1,8,true),(9,1,false)],none⟩:=⟨fun _=>by kernel_rfl,⟨rfl,rfl,fun _ _=>by simp [Wf,Wfs]⟩,⟨_,Tryz.underlying300,by kernel_rfl⟩,fun _ h=>by cases h⟩
abbrev T_z2w : TE:=[(3,⟨.int .i64 0,1,8,.sc (.int .i64),none⟩),(22,⟨.int .u64 0,1,8,.sc (.int .u64),none⟩),(61,⟨.nilp,1,8,.sc (.pointer 127),none⟩),(243,⟨.agg [.bool false,.bool false,.bool false,.bool false,.int .i64 0,.int .i64 0,.int .i64 0,.int .i64 0],8,40,.st [(0,1,false),(1,1,false),(2,1,false),(3,1,false),(4,1,false),(5,1,false),(6,1,false),(7,1,false)],some (.st [(0,1,false,.bl),(1,1,false,.bl),(2,1,false,.bl),(3,1,false,.bl),(4,1,false,.it .i64),(5,1,false,.it .i64),(6,1,false,.it .i64),(7,1,false,.it .i64)])⟩),(300,⟨.agg [.nilp,.agg [.bool false,.bool false,.bool false,.bool false,.int .i64 0,.int .i64 0,.int .i64 0,.int .i64 0],.int .u64 0],10,56,.st [(0,1,false),(1,8,true),(9,1,false)],none⟩)]
theorem T_z52 : Prg Tryz.prog T_z2w:=⟨(.cons te_3 (.cons te_22 (.cons te_61 (.cons te_243 (.cons te_300 (TEok.nil _)))))),by kernel_rfl⟩
noncomputable abbrev O_z2w {α:Type}:ORC α:=[(185,.full secondF),(250,.full entryF)]
theorem O_z52 {α:Type} {I:Imm}:OOk (α:=α) Tryz.prog I O_z2w:=OOk.cons c_z2v (OOk.cons c_z2t (OOk.nil))
set_option maxHeartbeats 4000000 in
theorem c_z2w {α:Type} {I:Imm}:OrcOk (α:=α) Tryz.prog I 229 (.full rdrF):=by
  refine orc_canon T_z52 (O:=O_z2w) O_z52 (L:=[]) ⟨1,[]⟩ Tryz.func229 (by kernel_rfl) (by kernel_rfl) (by kernel_rfl) FLOk.nil ?_
  intro args σ k r hk
  unfold rdrF at hk
  split at hk<;>try (simp at hk; done)
  rename_i rb frame index
  split at hk<;>try (simp at hk; done)
  rename_i g p a1 a2 a3 a4 a5 a6 a7 a8 la hr
  obtain ⟨b,b1,g0,g1,f,rfl,h0,h1,hne,hk'⟩:=withMem_spec hk
  clear hk; have hk:=hk'; clear hk'
  cases hg:(Nat.beq rb b || Nat.beq rb b1)<;>rw [hg] at hk<;>simp only [cond_true,cond_false] at hk<;>try (simp at hk; done)
  simp only [nbeq,Bool.or_eq_false_iff,decide_eq_false_iff_not] at hg
  refine ⟨[rb,b,b1],[.cells g (.agg [.ptr 1 [],.agg [.bool a1,.bool a2,.bool a3,.bool a4,.int .i64 a5,.int .i64 a6,.int .i64 a7,.int .i64 a8],.int .u64 la]),memO 2 g0,byO g1 f],[.ptr 0 [],.int .i64 frame,.int .i64 index],lay_mk rfl (by simp [hg.1,hg.2,hne]) rfl ⟨hr,h0,h1,trivial⟩ (by simp [AllL,Ids]) (by simp [AllL,OIds,Ids,Idss]),?_⟩
  refine ends_keep (v:=.tuple [.int .u64 (rdr f a2 a8 frame index).1,.int .i64 (rdr f a2 a8 frame index).2]) (bl:=[(0,.cells g (.agg [.ptr 1 [],.agg [.bool a1,.bool a2,.bool a3,.bool a4,.int .i64 a5,.int .i64 a6,.int .i64 a7,.int .i64 a8],.int .u64 (placeS frame index)]))]) ?_ (by simp [Ids,Idss]) (by simp [AllL,OIds,Ids,Idss]) hk
  clear hk
  repeat' ((conv=>arg 1; whnf); split<;>try (exfalso; (try simp only [ltB_true,ltB_false,leB_true,leB_false,decide_eq_true_eq,decide_eq_false_iff_not,Bool.and_eq_true,Bool.and_eq_false_iff,Bool.or_eq_true,Bool.or_eq_false_iff,Bool.not_eq_true',Bool.not_eq_false',bne_iff_ne,ne_eq,bne_eq_false_iff_eq,beq_iff_eq,beq_eq_false_iff_ne,Decidable.not_not,eq_self,decide_true,Bool.true_and,true_and,not_true_eq_false,false_or,Nat.beq_refl,Bool.true_eq_false,Int.toNat_zero,nbeq,and_true,strOf_size] at *)<;>omega))
  all_goals (try (conv=>arg 1; whnf))
  all_goals (try simp only [Bool.not_eq_true',Bool.not_eq_false',u2_0,u2_1] at *)
  all_goals exact ⟨_,_,rfl,by simp only [rdr,placeS,cond_true,cond_false, *,Bool.and_true,Bool.true_and,Bool.false_and,Bool.and_false,Bool.or_true,Bool.true_or,Bool.or_false,Bool.false_or,Bool.not_true,Bool.not_false,Bool.and_self,Bool.or_self]<;>rfl,⟨rfl,trivial⟩,.inl rfl,.inr rfl,.inr rfl,trivial⟩
abbrev T_z20 : TE:=[(3,⟨.int .i64 0,1,8,.sc (.int .i64),none⟩),(22,⟨.int .u64 0,1,8,.sc (.int .u64),none⟩),(323,⟨.ints .u64 2 (fun _=>0),2,16,.ar 2 22 1 false,some (.ar 2 1 (.it .u64))⟩)]
theorem T_z53 : Prg Tryz.prog T_z20:=⟨(.cons te_3 (.cons te_22 (.cons te_323 (TEok.nil _)))),by kernel_rfl⟩
noncomputable abbrev O_z20 {α:Type}:ORC α:=[(229,.full rdrF),(248,.pure isF),(249,.pure leafF),(232,.pure frameF),(79,.pure bitsF),(113,.pure setF)]
theorem O_z53 {α:Type} {I:Imm}:OOk (α:=α) Tryz.prog I O_z20:=OOk.cons c_z2w (OOk.cons c_z2h (OOk.cons c_z2s (OOk.cons c_z2f (OOk.cons c_z1 (OOk.cons c_ze (OOk.nil))))))
noncomputable abbrev B_z20 {α:Type}:FF α:=byBody T_z20 O_z20 ⟨3,[]⟩ Tryz.f228
theorem c_z20 {α:Type} {I:Imm}:OrcOk (α:=α) Tryz.prog I 228 (.full B_z20):=orc_body T_z53 O_z53 ⟨3,[]⟩ Tryz.func228 (by kernel_rfl) (by kernel_rfl) (by kernel_rfl)
abbrev T_z31 : TE:=[(3,⟨.int .i64 0,1,8,.sc (.int .i64),none⟩),(4,⟨.bool false,1,1,.sc (.bool),none⟩),(22,⟨.int .u64 0,1,8,.sc (.int .u64),none⟩),(45,⟨.agg [.int .u64 0,.int .u64 0,.int .u64 0,.bool false],4,32,.st [(0,1,false),(1,1,false),(2,1,false),(3,1,false)],some (.st [(0,1,false,.it .u64),(1,1,false,.it .u64),(2,1,false,.it .u64),(3,1,false,.bl)])⟩),(243,⟨.agg [.bool false,.bool false,.bool false,.bool false,.int .i64 0,.int .i64 0,.int .i64 0,.int .i64 0],8,40,.st [(0,1,false),(1,1,false),(2,1,false),(3,1,false),(4,1,false),(5,1,false),(6,1,false),(7,1,false)],some (.st [(0,1,false,.bl),(1,1,false,.bl),(2,1,false,.bl),(3,1,false,.bl),(4,1,false,.it .i64),(5,1,false,.it .i64),(6,1,false,.it .i64),(7,1,false,.it .i64)])⟩),(266,⟨.agg [.int .u64 0,.int .i64 0,.bool false],3,24,.st [(0,1,false),(1,1,false),(2,1,false)],some (.st [(0,1,false,.it .u64),(1,1,false,.it .i64),(2,1,false,.bl)])⟩),(300,⟨.agg [.nilp,.agg [.bool false,.bool false,.bool false,.bool false,.int .i64 0,.int .i64 0,.int .i64 0,.int .i64 0],.int .u64 0],10,56,.st [(0,1,false),(1,8,true),(9,1,false)],none⟩)]
theorem T_z54 : Prg Tryz.prog T_z31:=⟨(.cons te_3 (.cons te_4 (.cons te_22 (.cons te_45 (.cons te_243 (.cons te_266 (.cons te_300 (TEok.nil _)))))))),by kernel_rfl⟩
noncomputable abbrev O_z31 {α:Type}:ORC α:=[(228,.full B_z20),(229,.full rdrF),(211,.pure zextF),(186,.pure ofF),(182,.pure pageF),(230,.pure mayF),(232,.pure frameF),(231,.pure joinF)]
theorem O_z54 {α:Type} {I:Imm}:OOk (α:=α) Tryz.prog I O_z31:=OOk.cons c_z20 (OOk.cons c_z2w (OOk.cons c_z2g (OOk.cons c_z2l (OOk.cons c_z2j (OOk.cons c_z2r (OOk.cons c_z2f (OOk.cons c_z2u (OOk.nil))))))))
set_option maxHeartbeats 4000000 in
theorem c_z31 {α:Type} {I:Imm}:OrcOk (α:=α) Tryz.prog I 184 (.full firstF):=by
  refine orc_canon T_z54 (O:=O_z31) O_z54 (L:=[]) ⟨1,[]⟩ Tryz.func184 (by kernel_rfl) (by kernel_rfl) (by kernel_rfl) FLOk.nil ?_
  intro args σ k r hk
  unfold firstF at hk
  split at hk<;>try (simp at hk; done)
  rename_i p a1 a2 a3 a4 a5 a6 a7 a8 at_ kind v user
  obtain ⟨b,b1,g0,g1,f,rfl,h0,h1,hne,hk'⟩:=withMem_spec hk
  clear hk; have hk:=hk'; clear hk'
  cases hg0:decide (at_ < 65536)<;>rw [hg0] at hk<;>simp only [cond_true,cond_false] at hk<;>try (simp at hk; done)
  refine ⟨[b,b1],[memO 1 g0,byO g1 f],[.ptr 0 [],.agg [.bool a1,.bool a2,.bool a3,.bool a4,.int .i64 a5,.int .i64 a6,.int .i64 a7,.int .i64 a8],.agg [.int .u64 at_,.int .i64 kind,.bool v],.bool user],lay_mk rfl (nodup2 hne) rfl ⟨h0,h1,trivial⟩ (by simp [AllL,Ids,Idss]) (by simp [AllL,OIds,Ids,Idss]),?_⟩
  refine ends_keep (v:=(firstS f a1 a2 a3 a4 a7 a8 at_ kind v user).sv) (bl:=[]) ?_ (by simp [Ids,Idss]) trivial hk
  clear hk
  repeat' ((conv=>arg 1; whnf); split<;>try (exfalso; (try simp only [ltB_true,ltB_false,leB_true,leB_false,decide_eq_true_eq,decide_eq_false_iff_not,Bool.and_eq_true,Bool.and_eq_false_iff,Bool.or_eq_true,Bool.or_eq_false_iff,Bool.not_eq_true',Bool.not_eq_false',bne_iff_ne,ne_eq,bne_eq_false_iff_eq,beq_iff_eq,beq_eq_false_iff_ne,Decidable.not_not,eq_self,decide_true,Bool.true_and,true_and,not_true_eq_false,false_or,Nat.beq_refl,Bool.true_eq_false,Int.toNat_zero,nbeq,and_true,strOf_size] at *)<;>omega))
  all_goals (try (conv=>arg 1; whnf))
  all_goals (try simp only [Bool.not_eq_true',Bool.not_eq_false',u2_0,u2_1] at *)
  all_goals exact ⟨_,_,rfl,by simp only [firstS,thr,lastR,leafBits,Firsts.sv,cond_true,cond_false, *,Bool.and_true,Bool.true_and,Bool.false_and,Bool.and_false,Bool.or_true,Bool.true_or,Bool.or_false,Bool.false_or,Bool.not_true,Bool.not_false,Bool.and_self,Bool.or_self]<;>rfl,trivial,.inr rfl,.inr rfl,trivial⟩
abbrev T_z32 : TE:=[(3,⟨.int .i64 0,1,8,.sc (.int .i64),none⟩),(22,⟨.int .u64 0,1,8,.sc (.int .u64),none⟩),(24,⟨.ints .u64 29 (fun _=>0),29,232,.ar 29 22 1 false,some (.ar 29 1 (.it .u64))⟩),(26,⟨.agg [.ints .u64 32 (fun _=>0),.int .u64 0,.int .i64 0,.bool false,.ints .u64 29 (fun _=>0),.int .u64 0],65,520,.st [(0,32,true),(32,1,false),(33,1,false),(34,1,false),(35,29,true),(64,1,false)],some (.st [(0,32,true,.ar 32 1 (.it .u64)),(32,1,false,.it .u64),(33,1,false,.it .i64),(34,1,false,.bl),(35,29,true,.ar 29 1 (.it .u64)),(64,1,false,.it .u64)])⟩)]
theorem T_z55 : Prg Tryz.prog T_z32:=⟨(.cons te_3 (.cons te_22 (.cons te_24 (.cons te_26 (TEok.nil _))))),by kernel_rfl⟩
noncomputable abbrev O_z32 {α:Type}:ORC α:=[(80,.pure bitF),(79,.pure bitsF)]
theorem O_z55 {α:Type} {I:Imm}:OOk (α:=α) Tryz.prog I O_z32:=OOk.cons c_z3 (OOk.cons c_z1 (OOk.nil))
set_option maxHeartbeats 4000000 in
theorem c_z32 {α:Type} {I:Imm}:OrcOk (α:=α) Tryz.prog I 226 (.pure onF):=by
  refine orc_pure T_z55 (O:=O_z32) O_z55 (L:=[]) ⟨1,[]⟩ Tryz.func226 (by kernel_rfl) (by kernel_rfl) (by kernel_rfl) FLOk.nil ?_
  intro args k r hk
  unfold onF at hk
  split at hk<;>try (simp at hk; done)
  rename_i x pc lv vv c dn i
  cases hg:(decide (0≤i) && decide (i < 29))<;>rw [hg] at hk<;>simp only [cond_true,cond_false] at hk<;>try (simp at hk; done)
  refine ⟨_,hk,by simp [Ids,Idss],by simp [Ids,Idss],?_⟩
  clear hk
  repeat' ((conv=>arg 1; whnf); split<;>try (exfalso; (try simp only [ltB_true,ltB_false,leB_true,leB_false,decide_eq_true_eq,decide_eq_false_iff_not,Bool.and_eq_true,Bool.and_eq_false_iff,Bool.or_eq_true,Bool.or_eq_false_iff,Bool.not_eq_true',Bool.not_eq_false',bne_iff_ne,ne_eq,bne_eq_false_iff_eq,beq_iff_eq,beq_eq_false_iff_ne,Decidable.not_not,eq_self,decide_true,Bool.true_and,true_and,not_true_eq_false,false_or,Nat.beq_refl,Bool.true_eq_false,Int.toNat_zero,nbeq,and_true,strOf_size] at *)<;>omega))
  all_goals (try (conv=>arg 1; whnf))
  all_goals (try simp only [Bool.not_eq_true',Bool.not_eq_false',u2_0,u2_1] at *)
  all_goals (refine ends_any ?_; simp only [onA,onR,cond_true,cond_false, *,Bool.and_true,Bool.true_and,Bool.false_and,Bool.and_false,Bool.or_true,Bool.true_or,Bool.or_false,Bool.false_or,Bool.not_true,Bool.not_false,Bool.and_self,Bool.or_self])
abbrev T_z2x : TE:=[(3,⟨.int .i64 0,1,8,.sc (.int .i64),none⟩),(4,⟨.bool false,1,1,.sc (.bool),none⟩),(26,⟨.agg [.ints .u64 32 (fun _=>0),.int .u64 0,.int .i64 0,.bool false,.ints .u64 29 (fun _=>0),.int .u64 0],65,520,.st [(0,32,true),(32,1,false),(33,1,false),(34,1,false),(35,29,true),(64,1,false)],some (.st [(0,32,true,.ar 32 1 (.it .u64)),(32,1,false,.it .u64),(33,1,false,.it .i64),(34,1,false,.bl),(35,29,true,.ar 29 1 (.it .u64)),(64,1,false,.it .u64)])⟩),(243,⟨.agg [.bool false,.bool false,.bool false,.bool false,.int .i64 0,.int .i64 0,.int .i64 0,.int .i64 0],8,40,.st [(0,1,false),(1,1,false),(2,1,false),(3,1,false),(4,1,false),(5,1,false),(6,1,false),(7,1,false)],some (.st [(0,1,false,.bl),(1,1,false,.bl),(2,1,false,.bl),(3,1,false,.bl),(4,1,false,.it .i64),(5,1,false,.it .i64),(6,1,false,.it .i64),(7,1,false,.it .i64)])⟩)]
theorem T_z56 : Prg Tryz.prog T_z2x:=⟨(.cons te_3 (.cons te_4 (.cons te_26 (.cons te_243 (TEok.nil _))))),by kernel_rfl⟩
noncomputable abbrev O_z2x {α:Type}:ORC α:=[(226,.pure onF),(80,.pure bitF)]
theorem O_z56 {α:Type} {I:Imm}:OOk (α:=α) Tryz.prog I O_z2x:=OOk.cons c_z32 (OOk.cons c_z3 (OOk.nil))
set_option maxHeartbeats 4000000 in
theorem c_z2x {α:Type} {I:Imm}:OrcOk (α:=α) Tryz.prog I 181 (.pure askF):=by
  refine orc_pure T_z56 (O:=O_z2x) O_z56 (L:=[]) ⟨1,[]⟩ Tryz.func181 (by kernel_rfl) (by kernel_rfl) (by kernel_rfl) FLOk.nil ?_
  intro args k r hk
  unfold askF at hk
  split at hk<;>try (simp at hk; done)
  rename_i x pc lv vv c dn level v
  refine ⟨_,hk,by simp [Ids,Idss],by simp [Ids,Idss],?_⟩
  clear hk
  repeat' ((conv=>arg 1; whnf); split<;>try (exfalso; (try simp only [ltB_true,ltB_false,leB_true,leB_false,decide_eq_true_eq,decide_eq_false_iff_not,Bool.and_eq_true,Bool.and_eq_false_iff,Bool.or_eq_true,Bool.or_eq_false_iff,Bool.not_eq_true',Bool.not_eq_false',bne_iff_ne,ne_eq,bne_eq_false_iff_eq,beq_iff_eq,beq_eq_false_iff_ne,Decidable.not_not,eq_self,decide_true,Bool.true_and,true_and,not_true_eq_false,false_or,Nat.beq_refl,Bool.true_eq_false,Int.toNat_zero,nbeq,and_true,strOf_size] at *)<;>omega))
  all_goals (try (conv=>arg 1; whnf))
  all_goals (try simp only [Bool.not_eq_true',Bool.not_eq_false',u2_0,u2_1] at *)
  all_goals (refine ends_any ?_; simp only [askS,Asking.sv,cond_true,cond_false, *,Bool.and_true,Bool.true_and,Bool.false_and,Bool.and_false,Bool.or_true,Bool.true_or,Bool.or_false,Bool.false_or,Bool.not_true,Bool.not_false,Bool.and_self,Bool.or_self])
theorem te_172 : TyOk Tryz.prog 172 ⟨.agg [.bool false,.bool false,.int .i64 0,.int .i64 0,.int .i64 0,.int .i64 0,.int .i64 0,.int .i64 0,.int .i64 0],9,64,.st [(0,1,false),(1,1,false),(2,1,false),(3,1,false),(4,1,false),(5,1,false),(6,1,false),(7,1,false),(8,1,false)],some (.st [(0,1,false,.bl),(1,1,false,.bl),(2,1,false,.it .i64),(3,1,false,.it .i64),(4,1,false,.it .i64),(5,1,false,.it .i64),(6,1,false,.it .i64),(7,1,false,.it .i64),(8,1,false,.it .i64)])⟩:=⟨fun _=>by kernel_rfl,⟨rfl,rfl,fun _ _=>by simp [Wf,Wfs]⟩,⟨_,Tryz.underlying172,by kernel_rfl⟩,fun _ h=>by cases h; exact ⟨by kernel_rfl,by kernel_rfl⟩⟩
abbrev T_z1s : TE:=[(3,⟨.int .i64 0,1,8,.sc (.int .i64),none⟩),(4,⟨.bool false,1,1,.sc (.bool),none⟩),(22,⟨.int .u64 0,1,8,.sc (.int .u64),none⟩),(26,⟨.agg [.ints .u64 32 (fun _=>0),.int .u64 0,.int .i64 0,.bool false,.ints .u64 29 (fun _=>0),.int .u64 0],65,520,.st [(0,32,true),(32,1,false),(33,1,false),(34,1,false),(35,29,true),(64,1,false)],some (.st [(0,32,true,.ar 32 1 (.it .u64)),(32,1,false,.it .u64),(33,1,false,.it .i64),(34,1,false,.bl),(35,29,true,.ar 29 1 (.it .u64)),(64,1,false,.it .u64)])⟩),(45,⟨.agg [.int .u64 0,.int .u64 0,.int .u64 0,.bool false],4,32,.st [(0,1,false),(1,1,false),(2,1,false),(3,1,false)],some (.st [(0,1,false,.it .u64),(1,1,false,.it .u64),(2,1,false,.it .u64),(3,1,false,.bl)])⟩),(172,⟨.agg [.bool false,.bool false,.int .i64 0,.int .i64 0,.int .i64 0,.int .i64 0,.int .i64 0,.int .i64 0,.int .i64 0],9,64,.st [(0,1,false),(1,1,false),(2,1,false),(3,1,false),(4,1,false),(5,1,false),(6,1,false),(7,1,false),(8,1,false)],some (.st [(0,1,false,.bl),(1,1,false,.bl),(2,1,false,.it .i64),(3,1,false,.it .i64),(4,1,false,.it .i64),(5,1,false,.it .i64),(6,1,false,.it .i64),(7,1,false,.it .i64),(8,1,false,.it .i64)])⟩),(243,⟨.agg [.bool false,.bool false,.bool false,.bool false,.int .i64 0,.int .i64 0,.int .i64 0,.int .i64 0],8,40,.st [(0,1,false),(1,1,false),(2,1,false),(3,1,false),(4,1,false),(5,1,false),(6,1,false),(7,1,false)],some (.st [(0,1,false,.bl),(1,1,false,.bl),(2,1,false,.bl),(3,1,false,.bl),(4,1,false,.it .i64),(5,1,false,.it .i64),(6,1,false,.it .i64),(7,1,false,.it .i64)])⟩),(266,⟨.agg [.int .u64 0,.int .i64 0,.bool false],3,24,.st [(0,1,false),(1,1,false),(2,1,false)],some (.st [(0,1,false,.it .u64),(1,1,false,.it .i64),(2,1,false,.bl)])⟩)]
theorem T_z2y : Prg Tryz.prog T_z1s:=⟨(.cons te_3 (.cons te_4 (.cons te_22 (.cons te_26 (.cons te_45 (.cons te_172 (.cons te_243 (.cons te_266 (TEok.nil _))))))))),by kernel_rfl⟩
noncomputable abbrev O_z1s {α:Type}:ORC α:=[(181,.pure askF),(182,.pure pageF),(183,.pure guestF),(184,.full firstF),(185,.full secondF),(186,.pure ofF)]
theorem O_z2y {α:Type} {I:Imm}:OOk (α:=α) Tryz.prog I O_z1s:=OOk.cons c_z2x (OOk.cons c_z2j (OOk.cons c_z2k (OOk.cons c_z31 (OOk.cons c_z2v (OOk.cons c_z2l (OOk.nil))))))
set_option maxHeartbeats 4000000 in
theorem c_z1s {α:Type} {I:Imm}:OrcOk (α:=α) Tryz.prog I 128 (.full transF):=by
  refine orc_canon T_z2y (O:=O_z1s) O_z2y (L:=[]) ⟨1,[]⟩ Tryz.func128 (by kernel_rfl) (by kernel_rfl) (by kernel_rfl) FLOk.nil ?_
  intro args σ k r hk
  unfold transF at hk
  split at hk<;>try (simp at hk; done)
  rename_i p x pc lv vv c dn at_ kind level v
  obtain ⟨b,b1,g0,g1,f,rfl,h0,h1,hne,hk'⟩:=withMem_spec hk
  clear hk; have hk:=hk'; clear hk'
  refine ⟨[b,b1],[memO 1 g0,byO g1 f],[.ptr 0 [],.agg [.ints .u64 32 x,.int .u64 pc,.int .i64 lv,.bool vv,.ints .u64 29 c,.int .u64 dn],.int .u64 at_,.int .i64 kind,.int .i64 level,.bool v],lay_mk rfl (nodup2 hne) rfl ⟨h0,h1,trivial⟩ (by simp [AllL,Ids,Idss]) (by simp [AllL,OIds,Ids,Idss]),?_⟩
  refine ends_keep (v:=(transA f (askS c level v) at_ kind (level==0) v).sv) (bl:=[]) ?_ (by simp [Ids,Idss]) trivial hk
  clear hk
  repeat' ((conv=>arg 1; whnf); split<;>try (exfalso; (try simp only [ltB_true,ltB_false,leB_true,leB_false,decide_eq_true_eq,decide_eq_false_iff_not,Bool.and_eq_true,Bool.and_eq_false_iff,Bool.or_eq_true,Bool.or_eq_false_iff,Bool.not_eq_true',Bool.not_eq_false',bne_iff_ne,ne_eq,bne_eq_false_iff_eq,beq_iff_eq,beq_eq_false_iff_ne,Decidable.not_not,eq_self,decide_true,Bool.true_and,true_and,not_true_eq_false,false_or,Nat.beq_refl,Bool.true_eq_false,Int.toNat_zero,nbeq,and_true,strOf_size] at *)<;>omega))
  all_goals (try (conv=>arg 1; whnf))
  all_goals (try simp only [Bool.not_eq_true',Bool.not_eq_false',u2_0,u2_1] at *)
  all_goals refine ⟨_,_,rfl,?_,trivial,.inr rfl,.inr rfl,trivial⟩
  all_goals try simp only [offA_eq] at *
  all_goals simp only [transA,Trans.sv,Entry.sv,pageOf,Firsts.sv,cond_true,cond_false, *,Bool.and_true,Bool.true_and,Bool.false_and,Bool.and_false,Bool.or_true,Bool.true_or,Bool.or_false,Bool.false_or,Bool.not_true,Bool.not_false,Bool.and_self,Bool.or_self]
  all_goals first | done | rfl | trace_state
end Go.Proofs.YtepdlgehceipjaaGreat
