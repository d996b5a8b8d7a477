/-
  Contracts: Pte.
-/
import Derived.Test.YtepdlgehceipjaaGreatInMem
import Derived.Test.YtepdlgehceipjaaGreatSpPte
set_option maxRecDepth 100000
set_option linter.unusedSimpArgs false
set_option linter.unusedVariables false
namespace Go.Proofs.YtepdlgehceipjaaGreat
open Go Go.Sh Go.Proofs
set_option linter.unusedSimpArgs false
abbrev T_z1y : TE:=[(3,⟨.int .i64 0,1,8,.sc (.int .i64),none⟩)]
theorem T_z4m : Prg Tryz.prog T_z1y:=⟨(.cons te_3 (TEok.nil _)),by kernel_rfl⟩
noncomputable abbrev O_z1y {α:Type}:ORC α:=[]
theorem O_z4m {α:Type} {I:Imm}:OOk (α:=α) Tryz.prog I O_z1y:=OOk.nil
noncomputable abbrev B_z1y {α:Type}:FF α:=byBody T_z1y O_z1y ⟨1,[]⟩ Tryz.f251
theorem c_z1y {α:Type} {I:Imm}:OrcOk (α:=α) Tryz.prog I 251 (.full B_z1y):=orc_body T_z4m O_z4m ⟨1,[]⟩ Tryz.func251 (by kernel_rfl) (by kernel_rfl) (by kernel_rfl)
theorem te_325 : TyOk Tryz.prog 325 ⟨.bools 3 (fun _=>false),3,3,.ar 3 4 1 false,none⟩:=⟨fun _=>by kernel_rfl,⟨rfl,rfl,fun _ _=>by simp [Wf,Wfs]⟩,⟨Tryz.underlying325,by kernel_rfl,by kernel_rfl⟩,fun _ h=>by cases h⟩
abbrev T_z2r : TE:=[(3,⟨.int .i64 0,1,8,.sc (.int .i64),none⟩),(325,⟨.bools 3 (fun _=>false),3,3,.ar 3 4 1 false,none⟩)]
theorem T_z4n : Prg Tryz.prog T_z2r:=⟨(.cons te_3 (.cons te_325 (TEok.nil _))),by kernel_rfl⟩
noncomputable abbrev O_z2r {α:Type}:ORC α:=[(251,.full B_z1y)]
theorem O_z4n {α:Type} {I:Imm}:OOk (α:=α) Tryz.prog I O_z2r:=OOk.cons c_z1y (OOk.nil)
set_option maxHeartbeats 4000000 in
theorem c_z2r {α:Type} {I:Imm}:OrcOk (α:=α) Tryz.prog I 230 (.pure mayF):=by
  refine orc_pure T_z4n (O:=O_z2r) O_z4n (L:=[]) ⟨1,[]⟩ Tryz.func230 (by kernel_rfl) (by kernel_rfl) (by kernel_rfl) FLOk.nil ?_
  intro args k r hk
  unfold mayF at hk
  split at hk<;>try (simp at hk; done)
  rename_i b kind user sum mxr
  refine ⟨_,hk,by simp [Ids,Idss],by simp [Ids,Idss],?_⟩
  clear hk
  rcases kinds kind with hk | rfl | rfl | rfl | hk<;>cases user<;>cases sum<;>cases mxr
  all_goals repeat' ((conv=>arg 1; whnf); split<;>try (exfalso; (try simp only [ltB_true,ltB_false,leB_true,leB_false,decide_eq_true_eq,decide_eq_false_iff_not,Bool.and_eq_true,Bool.and_eq_false_iff,Bool.or_eq_true,Bool.or_eq_false_iff,Bool.not_eq_true',Bool.not_eq_false',bne_iff_ne,ne_eq,bne_eq_false_iff_eq,beq_iff_eq,beq_eq_false_iff_ne,Decidable.not_not,eq_self,decide_true,Bool.true_and,true_and,not_true_eq_false,false_or,Nat.beq_refl,Bool.true_eq_false,Int.toNat_zero,nbeq,and_true,strOf_size] at *)<;>omega))
  all_goals (try (conv=>arg 1; whnf))
  all_goals clear k r
  all_goals refine ends_bool ?_
  all_goals try simp only [ltB_true,ltB_false,leB_true,leB_false,decide_eq_true_eq,decide_eq_false_iff_not] at *
  all_goals first | (simp_all [mayS,whoS,hasS,upd3_0,upd3_1,upd3_2]; done) | (simp_all [mayS,whoS,hasS,upd3_0,upd3_1,upd3_2]; omega) | (cases h8:(bitop BinOp.and IntKind.i64 b 8==8)<;>simp_all [mayS,whoS,hasS,upd3_0,upd3_1,upd3_2])
abbrev T_z2h : TE:=[(22,⟨.int .u64 0,1,8,.sc (.int .u64),none⟩)]
theorem T_z4o : Prg Tryz.prog T_z2h:=⟨(.cons te_22 (TEok.nil _)),by kernel_rfl⟩
noncomputable abbrev O_z2h {α:Type}:ORC α:=[]
theorem O_z4o {α:Type} {I:Imm}:OOk (α:=α) Tryz.prog I O_z2h:=OOk.nil
set_option maxHeartbeats 4000000 in
theorem c_z2h {α:Type} {I:Imm}:OrcOk (α:=α) Tryz.prog I 248 (.pure isF):=by
  refine orc_pure T_z4o (O:=O_z2h) O_z4o (L:=[]) ⟨1,[]⟩ Tryz.func248 (by kernel_rfl) (by kernel_rfl) (by kernel_rfl) FLOk.nil ?_
  intro args k r hk
  unfold isF at hk
  split at hk<;>try (simp at hk; done)
  rename_i e
  refine ⟨_,hk,by simp [Ids,Idss],by simp [Ids,Idss],?_⟩
  clear hk
  repeat' ((conv=>arg 1; whnf); split<;>try (exfalso; (try simp only [ltB_true,ltB_false,leB_true,leB_false,decide_eq_true_eq,decide_eq_false_iff_not,Bool.and_eq_true,Bool.and_eq_false_iff,Bool.or_eq_true,Bool.or_eq_false_iff,Bool.not_eq_true',Bool.not_eq_false',bne_iff_ne,ne_eq,bne_eq_false_iff_eq,beq_iff_eq,beq_eq_false_iff_ne,Decidable.not_not,eq_self,decide_true,Bool.true_and,true_and,not_true_eq_false,false_or,Nat.beq_refl,Bool.true_eq_false,Int.toNat_zero,nbeq,and_true,strOf_size] at *)<;>omega))
  all_goals (try (conv=>arg 1; whnf))
  all_goals refine ends_bool ?_
  all_goals (simp only [isS, *,Bool.and_true,Bool.true_and,Bool.false_and,Bool.and_false,Bool.or_true,Bool.true_or,Bool.or_false,Bool.false_or,Bool.not_true,Bool.not_false,Bool.and_self,Bool.or_self])
abbrev T_z2s : TE:=[(22,⟨.int .u64 0,1,8,.sc (.int .u64),none⟩)]
theorem T_z4p : Prg Tryz.prog T_z2s:=⟨(.cons te_22 (TEok.nil _)),by kernel_rfl⟩
noncomputable abbrev O_z2s {α:Type}:ORC α:=[(248,.pure isF)]
theorem O_z4p {α:Type} {I:Imm}:OOk (α:=α) Tryz.prog I O_z2s:=OOk.cons c_z2h (OOk.nil)
set_option maxHeartbeats 4000000 in
theorem c_z2s {α:Type} {I:Imm}:OrcOk (α:=α) Tryz.prog I 249 (.pure leafF):=by
  refine orc_pure T_z4p (O:=O_z2s) O_z4p (L:=[]) ⟨1,[]⟩ Tryz.func249 (by kernel_rfl) (by kernel_rfl) (by kernel_rfl) FLOk.nil ?_
  intro args k r hk
  unfold leafF at hk
  split at hk<;>try (simp at hk; done)
  rename_i e
  refine ⟨_,hk,by simp [Ids,Idss],by simp [Ids,Idss],?_⟩
  clear hk
  repeat' ((conv=>arg 1; whnf); split<;>try (exfalso; (try simp only [ltB_true,ltB_false,leB_true,leB_false,decide_eq_true_eq,decide_eq_false_iff_not,Bool.and_eq_true,Bool.and_eq_false_iff,Bool.or_eq_true,Bool.or_eq_false_iff,Bool.not_eq_true',Bool.not_eq_false',bne_iff_ne,ne_eq,bne_eq_false_iff_eq,beq_iff_eq,beq_eq_false_iff_ne,Decidable.not_not,eq_self,decide_true,Bool.true_and,true_and,not_true_eq_false,false_or,Nat.beq_refl,Bool.true_eq_false,Int.toNat_zero,nbeq,and_true,strOf_size] at *)<;>omega))
  all_goals (try (conv=>arg 1; whnf))
  all_goals refine ends_bool ?_
  all_goals (simp only [leafS, *,Bool.and_true,Bool.true_and,Bool.false_and,Bool.and_false,Bool.or_true,Bool.true_or,Bool.or_false,Bool.false_or,Bool.not_true,Bool.not_false,Bool.and_self,Bool.or_self])
abbrev T_z2f : TE:=[(3,⟨.int .i64 0,1,8,.sc (.int .i64),none⟩),(22,⟨.int .u64 0,1,8,.sc (.int .u64),none⟩)]
theorem T_z4q : Prg Tryz.prog T_z2f:=⟨(.cons te_3 (.cons te_22 (TEok.nil _))),by kernel_rfl⟩
noncomputable abbrev O_z2f {α:Type}:ORC α:=[(79,.pure bitsF)]
theorem O_z4q {α:Type} {I:Imm}:OOk (α:=α) Tryz.prog I O_z2f:=OOk.cons c_z1 (OOk.nil)
set_option maxHeartbeats 4000000 in
theorem c_z2f {α:Type} {I:Imm}:OrcOk (α:=α) Tryz.prog I 232 (.pure frameF):=by
  refine orc_pure T_z4q (O:=O_z2f) O_z4q (L:=[]) ⟨1,[]⟩ Tryz.func232 (by kernel_rfl) (by kernel_rfl) (by kernel_rfl) FLOk.nil ?_
  intro args k r hk
  unfold frameF at hk
  split at hk<;>try (simp at hk; done)
  rename_i e
  refine ⟨_,hk,by simp [Ids,Idss],by simp [Ids,Idss],?_⟩
  clear hk
  repeat' ((conv=>arg 1; whnf); split<;>try (exfalso; (try simp only [ltB_true,ltB_false,leB_true,leB_false,decide_eq_true_eq,decide_eq_false_iff_not,Bool.and_eq_true,Bool.and_eq_false_iff,Bool.or_eq_true,Bool.or_eq_false_iff,Bool.not_eq_true',Bool.not_eq_false',bne_iff_ne,ne_eq,bne_eq_false_iff_eq,beq_iff_eq,beq_eq_false_iff_ne,Decidable.not_not,eq_self,decide_true,Bool.true_and,true_and,not_true_eq_false,false_or,Nat.beq_refl,Bool.true_eq_false,Int.toNat_zero,nbeq,and_true,strOf_size] at *)<;>omega))
  all_goals (try (conv=>arg 1; whnf))
  exact ends_int rfl
end Go.Proofs.YtepdlgehceipjaaGreat
