/-
  Contracts: Pte.
-/
import Derived.Test.YtodnffhcbhlifaaGreatVnMem
import Derived.Test.YtodnffhcbhlifaaGreatSpPte
import Derived.Test.YtodnffhcbhlifaaGreatSpMk
set_option maxRecDepth 100000
set_option linter.unusedSimpArgs false
set_option linter.unusedVariables false
namespace Go.Proofs.YtodnffhcbhlifaaGreat
open Go Go.Sh Go.Proofs
set_option linter.unusedSimpArgs false
abbrev T_z2v : TE:=[(3,⟨.int .i64 0,1,8,.sc (.int .i64),none⟩)]
theorem T_z5t : Prg Tryz.prog T_z2v:=⟨(.cons te_3 (TEok.nil _)),by kernel_rfl⟩
noncomputable abbrev O_z2v {α:Type}:ORC α:=[]
theorem O_z5t {α:Type} {I:Imm}:OOk (α:=α) Tryz.prog I O_z2v:=OOk.nil
noncomputable abbrev B_z2v {α:Type}:FF α:=byBody T_z2v O_z2v ⟨1,[]⟩ Tryz.f179
theorem c_z2v {α:Type} {I:Imm}:OrcOk (α:=α) Tryz.prog I 179 (.full B_z2v):=orc_body T_z5t O_z5t ⟨1,[]⟩ Tryz.func179 (by kernel_rfl) (by kernel_rfl) (by kernel_rfl)
theorem te_295 : TyOk Tryz.prog 295 ⟨.bools 3 (fun _=>false),3,3,.ar 3 4 1 false,none⟩:=⟨fun _=>by kernel_rfl,⟨rfl,rfl,fun _ _=>by simp [Wf,Wfs]⟩,⟨Tryz.underlying295,by kernel_rfl,by kernel_rfl⟩,fun _ h=>by cases h⟩
abbrev T_z3j : TE:=[(3,⟨.int .i64 0,1,8,.sc (.int .i64),none⟩),(295,⟨.bools 3 (fun _=>false),3,3,.ar 3 4 1 false,none⟩)]
theorem T_z5u : Prg Tryz.prog T_z3j:=⟨(.cons te_3 (.cons te_295 (TEok.nil _))),by kernel_rfl⟩
noncomputable abbrev O_z3j {α:Type}:ORC α:=[(179,.full B_z2v)]
theorem O_z5u {α:Type} {I:Imm}:OOk (α:=α) Tryz.prog I O_z3j:=OOk.cons c_z2v (OOk.nil)
set_option maxHeartbeats 4000000 in
theorem c_z3j {α:Type} {I:Imm}:OrcOk (α:=α) Tryz.prog I 159 (.pure mayF):=by
  refine orc_pure T_z5u (O:=O_z3j) O_z5u (L:=[]) ⟨1,[]⟩ Tryz.func159 (by kernel_rfl) (by kernel_rfl) (by kernel_rfl) FLOk.nil ?_
  intro args k r hk
  unfold mayF at hk
  split at hk<;>try (simp at hk; done)
  rename_i b kind user sum mxr
  refine ⟨_,hk,by simp [Ids,Idss],by simp [Ids,Idss],?_⟩
  clear hk
  rcases kinds kind with hk | rfl | rfl | rfl | hk<;>cases user<;>cases sum<;>cases mxr
  all_goals repeat' ((conv=>arg 1; whnf); split<;>try (exfalso; (try simp only [ltB_true,ltB_false,leB_true,leB_false,decide_eq_true_eq,decide_eq_false_iff_not,Bool.and_eq_true,Bool.and_eq_false_iff,Bool.or_eq_true,Bool.or_eq_false_iff,Bool.not_eq_true',Bool.not_eq_false',bne_iff_ne,ne_eq,bne_eq_false_iff_eq,beq_iff_eq,beq_eq_false_iff_ne,Decidable.not_not,eq_self,decide_true,Bool.true_and,true_and,not_true_eq_false,false_or,Nat.beq_refl,Bool.true_eq_false,Int.toNat_zero,nbeq,and_true,strOf_size] at *)<;>omega))
  all_goals (try (conv=>arg 1; whnf))
  all_goals clear k r
  all_goals refine ends_bool ?_
  all_goals try simp only [ltB_true,ltB_false,leB_true,leB_false,decide_eq_true_eq,decide_eq_false_iff_not] at *
  all_goals first | (simp_all [mayS,whoS,hasS,upd3_0,upd3_1,upd3_2]; done) | (simp_all [mayS,whoS,hasS,upd3_0,upd3_1,upd3_2]; omega) | (cases h8:(bitop BinOp.and IntKind.i64 b 8==8)<;>simp_all [mayS,whoS,hasS,upd3_0,upd3_1,upd3_2])
abbrev T_z3k : TE:=[(22,⟨.int .u64 0,1,8,.sc (.int .u64),none⟩)]
theorem T_z5v : Prg Tryz.prog T_z3k:=⟨(.cons te_22 (TEok.nil _)),by kernel_rfl⟩
noncomputable abbrev O_z3k {α:Type}:ORC α:=[]
theorem O_z5v {α:Type} {I:Imm}:OOk (α:=α) Tryz.prog I O_z3k:=OOk.nil
set_option maxHeartbeats 4000000 in
theorem c_z3k {α:Type} {I:Imm}:OrcOk (α:=α) Tryz.prog I 176 (.pure isF):=by
  refine orc_pure T_z5v (O:=O_z3k) O_z5v (L:=[]) ⟨1,[]⟩ Tryz.func176 (by kernel_rfl) (by kernel_rfl) (by kernel_rfl) FLOk.nil ?_
  intro args k r hk
  unfold isF at hk
  split at hk<;>try (simp at hk; done)
  rename_i e
  refine ⟨_,hk,by simp [Ids,Idss],by simp [Ids,Idss],?_⟩
  clear hk
  repeat' ((conv=>arg 1; whnf); split<;>try (exfalso; (try simp only [ltB_true,ltB_false,leB_true,leB_false,decide_eq_true_eq,decide_eq_false_iff_not,Bool.and_eq_true,Bool.and_eq_false_iff,Bool.or_eq_true,Bool.or_eq_false_iff,Bool.not_eq_true',Bool.not_eq_false',bne_iff_ne,ne_eq,bne_eq_false_iff_eq,beq_iff_eq,beq_eq_false_iff_ne,Decidable.not_not,eq_self,decide_true,Bool.true_and,true_and,not_true_eq_false,false_or,Nat.beq_refl,Bool.true_eq_false,Int.toNat_zero,nbeq,and_true,strOf_size] at *)<;>omega))
  all_goals (try (conv=>arg 1; whnf))
  all_goals refine ends_bool ?_
  all_goals (simp only [isS, *,Bool.and_true,Bool.true_and,Bool.false_and,Bool.and_false,Bool.or_true,Bool.true_or,Bool.or_false,Bool.false_or,Bool.not_true,Bool.not_false,Bool.and_self,Bool.or_self])
abbrev T_z3o : TE:=[(22,⟨.int .u64 0,1,8,.sc (.int .u64),none⟩)]
theorem T_z5w : Prg Tryz.prog T_z3o:=⟨(.cons te_22 (TEok.nil _)),by kernel_rfl⟩
noncomputable abbrev O_z3o {α:Type}:ORC α:=[(176,.pure isF)]
theorem O_z5w {α:Type} {I:Imm}:OOk (α:=α) Tryz.prog I O_z3o:=OOk.cons c_z3k (OOk.nil)
set_option maxHeartbeats 4000000 in
theorem c_z3o {α:Type} {I:Imm}:OrcOk (α:=α) Tryz.prog I 177 (.pure leafF):=by
  refine orc_pure T_z5w (O:=O_z3o) O_z5w (L:=[]) ⟨1,[]⟩ Tryz.func177 (by kernel_rfl) (by kernel_rfl) (by kernel_rfl) FLOk.nil ?_
  intro args k r hk
  unfold leafF at hk
  split at hk<;>try (simp at hk; done)
  rename_i e
  refine ⟨_,hk,by simp [Ids,Idss],by simp [Ids,Idss],?_⟩
  clear hk
  repeat' ((conv=>arg 1; whnf); split<;>try (exfalso; (try simp only [ltB_true,ltB_false,leB_true,leB_false,decide_eq_true_eq,decide_eq_false_iff_not,Bool.and_eq_true,Bool.and_eq_false_iff,Bool.or_eq_true,Bool.or_eq_false_iff,Bool.not_eq_true',Bool.not_eq_false',bne_iff_ne,ne_eq,bne_eq_false_iff_eq,beq_iff_eq,beq_eq_false_iff_ne,Decidable.not_not,eq_self,decide_true,Bool.true_and,true_and,not_true_eq_false,false_or,Nat.beq_refl,Bool.true_eq_false,Int.toNat_zero,nbeq,and_true,strOf_size] at *)<;>omega))
  all_goals (try (conv=>arg 1; whnf))
  all_goals refine ends_bool ?_
  all_goals (simp only [leafS, *,Bool.and_true,Bool.true_and,Bool.false_and,Bool.and_false,Bool.or_true,Bool.true_or,Bool.or_false,Bool.false_or,Bool.not_true,Bool.not_false,Bool.and_self,Bool.or_self])
abbrev T_z2o : TE:=[(3,⟨.int .i64 0,1,8,.sc (.int .i64),none⟩),(22,⟨.int .u64 0,1,8,.sc (.int .u64),none⟩)]
theorem T_z5x : Prg Tryz.prog T_z2o:=⟨(.cons te_3 (.cons te_22 (TEok.nil _))),by kernel_rfl⟩
noncomputable abbrev O_z2o {α:Type}:ORC α:=[(68,.pure bitsF)]
theorem O_z5x {α:Type} {I:Imm}:OOk (α:=α) Tryz.prog I O_z2o:=OOk.cons c_z1 (OOk.nil)
set_option maxHeartbeats 4000000 in
theorem c_z2o {α:Type} {I:Imm}:OrcOk (α:=α) Tryz.prog I 161 (.pure frameF):=by
  refine orc_pure T_z5x (O:=O_z2o) O_z5x (L:=[]) ⟨1,[]⟩ Tryz.func161 (by kernel_rfl) (by kernel_rfl) (by kernel_rfl) FLOk.nil ?_
  intro args k r hk
  unfold frameF at hk
  split at hk<;>try (simp at hk; done)
  rename_i e
  refine ⟨_,hk,by simp [Ids,Idss],by simp [Ids,Idss],?_⟩
  clear hk
  repeat' ((conv=>arg 1; whnf); split<;>try (exfalso; (try simp only [ltB_true,ltB_false,leB_true,leB_false,decide_eq_true_eq,decide_eq_false_iff_not,Bool.and_eq_true,Bool.and_eq_false_iff,Bool.or_eq_true,Bool.or_eq_false_iff,Bool.not_eq_true',Bool.not_eq_false',bne_iff_ne,ne_eq,bne_eq_false_iff_eq,beq_iff_eq,beq_eq_false_iff_ne,Decidable.not_not,eq_self,decide_true,Bool.true_and,true_and,not_true_eq_false,false_or,Nat.beq_refl,Bool.true_eq_false,Int.toNat_zero,nbeq,and_true,strOf_size] at *)<;>omega))
  all_goals (try (conv=>arg 1; whnf))
  exact ends_int rfl
abbrev T_z3w : TE:=[(3,⟨.int .i64 0,1,8,.sc (.int .i64),none⟩),(22,⟨.int .u64 0,1,8,.sc (.int .u64),none⟩)]
theorem T_z5y : Prg Tryz.prog T_z3w:=⟨(.cons te_3 (.cons te_22 (TEok.nil _))),by kernel_rfl⟩
noncomputable abbrev O_z3w {α:Type}:ORC α:=[(61,.pure zextF),(60,.pure setF)]
theorem O_z5y {α:Type} {I:Imm}:OOk (α:=α) Tryz.prog I O_z3w:=OOk.cons c_zk (OOk.cons c_zb (OOk.nil))
set_option maxHeartbeats 4000000 in
theorem c_z3w {α:Type} {I:Imm}:OrcOk (α:=α) Tryz.prog I 40 (.pure makeF):=by
  refine orc_pure T_z5y (O:=O_z3w) O_z5y (L:=[]) ⟨1,[]⟩ Tryz.func40 (by kernel_rfl) (by kernel_rfl) (by kernel_rfl) FLOk.nil ?_
  intro args k r hk
  unfold makeF at hk
  split at hk<;>try (simp at hk; done)
  rename_i frame b
  refine ⟨_,hk,by simp [Ids,Idss],by simp [Ids,Idss],?_⟩
  clear hk
  repeat' ((conv=>arg 1; whnf); split<;>try (exfalso; (try simp only [ltB_true,ltB_false,leB_true,leB_false,decide_eq_true_eq,decide_eq_false_iff_not,Bool.and_eq_true,Bool.and_eq_false_iff,Bool.or_eq_true,Bool.or_eq_false_iff,Bool.not_eq_true',Bool.not_eq_false',bne_iff_ne,ne_eq,bne_eq_false_iff_eq,beq_iff_eq,beq_eq_false_iff_ne,Decidable.not_not,eq_self,decide_true,Bool.true_and,true_and,not_true_eq_false,false_or,Nat.beq_refl,Bool.true_eq_false,Int.toNat_zero,nbeq,and_true,strOf_size] at *)<;>omega))
  all_goals (try (conv=>arg 1; whnf))
  exact ends_int rfl
end Go.Proofs.YtodnffhcbhlifaaGreat
