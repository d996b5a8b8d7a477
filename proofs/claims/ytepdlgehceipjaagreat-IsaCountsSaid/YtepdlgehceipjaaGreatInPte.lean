/-
  Contracts: Pte.
-/
import Derived.Test.YtepdlgehceipjaaGreatInMem
import Derived.Test.YtepdlgehceipjaaGreatSpPte
set_option maxRecDepth 100000
set_option linter.unusedSimpArgs false
set_option linter.unusedVariables false
namespace Go.Proofs.YtepdlgehceipjaaGreat
open Go Go.Sh Go.Proofs
set_option linter.unusedSimpArgs false
abbrev T_z34 : TE:=[(3,⟨.int .i64 0,1,8,.sc (.int .i64),none⟩)]
theorem T_z8m : Prg Tryz.prog T_z34:=⟨(.cons te_3 (TEok.nil _)),by kernel_rfl⟩
noncomputable abbrev O_z34 {α:Type}:ORC α:=[]
theorem O_z8m {α:Type} {I:Imm}:OOk (α:=α) Tryz.prog I O_z34:=OOk.nil
noncomputable abbrev B_z34 {α:Type}:FF α:=byBody T_z34 O_z34 ⟨1,[]⟩ Tryz.f251
theorem c_z34 {α:Type} {I:Imm}:OrcOk (α:=α) Tryz.prog I 251 (.full B_z34):=orc_body T_z8m O_z8m ⟨1,[]⟩ Tryz.func251 (by kernel_rfl) (by kernel_rfl) (by kernel_rfl)
theorem te_325 : TyOk Tryz.prog 325 ⟨.bools 3 (fun _=>false),3,3,.ar 3 4 1 false,none⟩:=⟨fun _=>by kernel_rfl,⟨rfl,rfl,fun _ _=>by simp [Wf,Wfs]⟩,⟨Tryz.underlying325,by kernel_rfl,by kernel_rfl⟩,fun _ h=>by cases h⟩
abbrev T_z3b : TE:=[(3,⟨.int .i64 0,1,8,.sc (.int .i64),none⟩),(325,⟨.bools 3 (fun _=>false),3,3,.ar 3 4 1 false,none⟩)]
theorem T_z8n : Prg Tryz.prog T_z3b:=⟨(.cons te_3 (.cons te_325 (TEok.nil _))),by kernel_rfl⟩
noncomputable abbrev O_z3b {α:Type}:ORC α:=[(251,.full B_z34)]
theorem O_z8n {α:Type} {I:Imm}:OOk (α:=α) Tryz.prog I O_z3b:=OOk.cons c_z34 (OOk.nil)
set_option maxHeartbeats 4000000 in
theorem c_z3b {α:Type} {I:Imm}:OrcOk (α:=α) Tryz.prog I 230 (.pure mayF):=by
  refine orc_pure T_z8n (O:=O_z3b) O_z8n (L:=[]) ⟨1,[]⟩ Tryz.func230 (by kernel_rfl) (by kernel_rfl) (by kernel_rfl) FLOk.nil ?_
  intro args k r hk
  unfold mayF at hk
  split at hk<;>try (simp at hk; done)
  rename_i b kind user sum mxr
  refine ⟨_,hk,by simp [Ids,Idss],by simp [Ids,Idss],?_⟩
  clear hk
  rcases kinds kind with hk | rfl | rfl | rfl | hk<;>cases user<;>cases sum<;>cases mxr
  all_goals repeat' ((conv=>arg 1; whnf); split<;>try (exfalso; (try simp only [ltB_true,ltB_false,leB_true,leB_false,decide_eq_true_eq,decide_eq_false_iff_not,Bool.and_eq_true,Bool.and_eq_false_iff,Bool.or_eq_true,Bool.or_eq_false_iff,Bool.not_eq_true',Bool.not_eq_false',bne_iff_ne,ne_eq,bne_eq_false_iff_eq,beq_iff_eq,beq_eq_false_iff_ne,Decidable.not_not,eq_self,decide_true,Bool.true_and,true_and,not_true_eq_false,false_or,Nat.beq_refl,Bool.true_eq_false,Int.toNat_zero,nbeq,and_true,strOf_size] at *)<;>omega))
  all_goals (try (conv=>arg 1; whnf))
  all_goals clear k r
  all_goals refine ends_bool ?_
  all_goals try simp only [ltB_true,ltB_false,leB_true,leB_false,decide_eq_true_eq,decide_eq_false_iff_not] at *
  all_goals first | (simp_all [mayS,whoS,hasS,upd3_0,upd3_1,upd3_2]; done) | (simp_all [mayS,whoS,hasS,upd3_0,upd3_1,upd3_2]; omega) | (cases h8:(bitop BinOp.and IntKind.i64 b 8==8)<;>simp_all [mayS,whoS,hasS,upd3_0,upd3_1,upd3_2])
abbrev T_z38 : TE:=[(22,⟨.int .u64 0,1,8,.sc (.int .u64),none⟩)]
theorem T_z8o : Prg Tryz.prog T_z38:=⟨(.cons te_22 (TEok.nil _)),by kernel_rfl⟩
noncomputable abbrev O_z38 {α:Type}:ORC α:=[]
theorem O_z8o {α:Type} {I:Imm}:OOk (α:=α) Tryz.prog I O_z38:=OOk.nil
set_option maxHeartbeats 4000000 in
theorem c_z38 {α:Type} {I:Imm}:OrcOk (α:=α) Tryz.prog I 248 (.pure isF):=by
  refine orc_pure T_z8o (O:=O_z38) O_z8o (L:=[]) ⟨1,[]⟩ Tryz.func248 (by kernel_rfl) (by kernel_rfl) (by kernel_rfl) FLOk.nil ?_
  intro args k r hk
  unfold isF at hk
  split at hk<;>try (simp at hk; done)
  rename_i e
  refine ⟨_,hk,by simp [Ids,Idss],by simp [Ids,Idss],?_⟩
  clear hk
  repeat' ((conv=>arg 1; whnf); split<;>try (exfalso; (try simp only [ltB_true,ltB_false,leB_true,leB_false,decide_eq_true_eq,decide_eq_false_iff_not,Bool.and_eq_true,Bool.and_eq_false_iff,Bool.or_eq_true,Bool.or_eq_false_iff,Bool.not_eq_true',Bool.not_eq_false',bne_iff_ne,ne_eq,bne_eq_false_iff_eq,beq_iff_eq,beq_eq_false_iff_ne,Decidable.not_not,eq_self,decide_true,Bool.true_and,true_and,not_true_eq_false,false_or,Nat.beq_refl,Bool.true_eq_false,Int.toNat_zero,nbeq,and_true,strOf_size] at *)<;>omega))
  all_goals (try (conv=>arg 1; whnf))
  all_goals refine ends_bool ?_
  all_goals (simp only [isS, *,Bool.and_true,Bool.true_and,Bool.false_and,Bool.and_false,Bool.or_true,Bool.true_or,Bool.or_false,Bool.false_or,Bool.not_true,Bool.not_false,Bool.and_self,Bool.or_self])
abbrev T_z3c : TE:=[(22,⟨.int .u64 0,1,8,.sc (.int .u64),none⟩)]
theorem T_z8p : Prg Tryz.prog T_z3c:=⟨(.cons te_22 (TEok.nil _)),by kernel_rfl⟩
noncomputable abbrev O_z3c {α:Type}:ORC α:=[(248,.pure isF)]
theorem O_z8p {α:Type} {I:Imm}:OOk (α:=α) Tryz.prog I O_z3c:=OOk.cons c_z38 (OOk.nil)
set_option maxHeartbeats 4000000 in
theorem c_z3c {α:Type} {I:Imm}:OrcOk (α:=α) Tryz.prog I 249 (.pure leafF):=by
  refine orc_pure T_z8p (O:=O_z3c) O_z8p (L:=[]) ⟨1,[]⟩ Tryz.func249 (by kernel_rfl) (by kernel_rfl) (by kernel_rfl) FLOk.nil ?_
  intro args k r hk
  unfold leafF at hk
  split at hk<;>try (simp at hk; done)
  rename_i e
  refine ⟨_,hk,by simp [Ids,Idss],by simp [Ids,Idss],?_⟩
  clear hk
  repeat' ((conv=>arg 1; whnf); split<;>try (exfalso; (try simp only [ltB_true,ltB_false,leB_true,leB_false,decide_eq_true_eq,decide_eq_false_iff_not,Bool.and_eq_true,Bool.and_eq_false_iff,Bool.or_eq_true,Bool.or_eq_false_iff,Bool.not_eq_true',Bool.not_eq_false',bne_iff_ne,ne_eq,bne_eq_false_iff_eq,beq_iff_eq,beq_eq_false_iff_ne,Decidable.not_not,eq_self,decide_true,Bool.true_and,true_and,not_true_eq_false,false_or,Nat.beq_refl,Bool.true_eq_false,Int.toNat_zero,nbeq,and_true,strOf_size] at *)<;>omega))
  all_goals (try (conv=>arg 1; whnf))
  all_goals refine ends_bool ?_
  all_goals (simp only [leafS, *,Bool.and_true,Bool.true_and,Bool.false_and,Bool.and_false,Bool.or_true,Bool.true_or,Bool.or_false,Bool.false_or,Bool.not_true,Bool.not_false,Bool.and_self,Bool.or_self])
abbrev T_z37 : TE:=[(3,⟨.int .i64 0,1,8,.sc (.int .i64),none⟩),(22,⟨.int .u64 0,1,8,.sc (.int .u64),none⟩)]
theorem T_z8q : Prg Tryz.prog T_z37:=⟨(.cons te_3 (.cons te_22 (TEok.nil _))),by kernel_rfl⟩
noncomputable abbrev O_z37 {α:Type}:ORC α:=[(79,.pure bitsF)]
theorem O_z8q {α:Type} {I:Imm}:OOk (α:=α) Tryz.prog I O_z37:=OOk.cons c_z2 (OOk.nil)
set_option maxHeartbeats 4000000 in
theorem c_z37 {α:Type} {I:Imm}:OrcOk (α:=α) Tryz.prog I 232 (.pure frameF):=by
  refine orc_pure T_z8q (O:=O_z37) O_z8q (L:=[]) ⟨1,[]⟩ Tryz.func232 (by kernel_rfl) (by kernel_rfl) (by kernel_rfl) FLOk.nil ?_
  intro args k r hk
  unfold frameF at hk
  split at hk<;>try (simp at hk; done)
  rename_i e
  refine ⟨_,hk,by simp [Ids,Idss],by simp [Ids,Idss],?_⟩
  clear hk
  repeat' ((conv=>arg 1; whnf); split<;>try (exfalso; (try simp only [ltB_true,ltB_false,leB_true,leB_false,decide_eq_true_eq,decide_eq_false_iff_not,Bool.and_eq_true,Bool.and_eq_false_iff,Bool.or_eq_true,Bool.or_eq_false_iff,Bool.not_eq_true',Bool.not_eq_false',bne_iff_ne,ne_eq,bne_eq_false_iff_eq,beq_iff_eq,beq_eq_false_iff_ne,Decidable.not_not,eq_self,decide_true,Bool.true_and,true_and,not_true_eq_false,false_or,Nat.beq_refl,Bool.true_eq_false,Int.toNat_zero,nbeq,and_true,strOf_size] at *)<;>omega))
  all_goals (try (conv=>arg 1; whnf))
  exact ends_int rfl
end Go.Proofs.YtepdlgehceipjaaGreat
