/-
  Contracts: Word.
-/
import Derived.Test.YtodnffhcbhlifaaGreatProg
import Derived.Test.YtodnffhcbhlifaaGreatSpWord
set_option maxRecDepth 100000
set_option linter.unusedSimpArgs false
set_option linter.unusedVariables false
namespace Go.Proofs.YtodnffhcbhlifaaGreat
open Go Go.Sh Go.Proofs
set_option linter.unusedSimpArgs false
theorem te_3 : TyOk Tryz.prog 3 ⟨.int .i64 0,1,8,.sc (.int .i64),none⟩:=⟨fun _=>by kernel_rfl,⟨rfl,rfl,fun _ _=>by simp [Wf,Wfs]⟩,⟨Tryz.underlying3,rfl⟩,fun _ h=>by cases h⟩
theorem te_22 : TyOk Tryz.prog 22 ⟨.int .u64 0,1,8,.sc (.int .u64),none⟩:=⟨fun _=>by kernel_rfl,⟨rfl,rfl,fun _ _=>by simp [Wf,Wfs]⟩,⟨Tryz.underlying22,rfl⟩,fun _ h=>by cases h⟩
abbrev T_zg : TE:=[(3,⟨.int .i64 0,1,8,.sc (.int .i64),none⟩),(22,⟨.int .u64 0,1,8,.sc (.int .u64),none⟩)]
theorem T_z5k : Prg Tryz.prog T_zg:=⟨(.cons te_3 (.cons te_22 (TEok.nil _))),by kernel_rfl⟩
noncomputable abbrev O_zg {α:Type}:ORC α:=[]
theorem O_z5k {α:Type} {I:Imm}:OOk (α:=α) Tryz.prog I O_zg:=OOk.nil
set_option maxHeartbeats 4000000 in
theorem c_zg {α:Type} {I:Imm}:OrcOk (α:=α) Tryz.prog I 82 (.pure maskF):=by
  refine orc_pure T_z5k (O:=O_zg) O_z5k (L:=[]) ⟨1,[]⟩ Tryz.func82 (by kernel_rfl) (by kernel_rfl) (by kernel_rfl) FLOk.nil ?_
  intro args k r hk
  unfold maskF at hk
  split at hk<;>try (simp at hk; done)
  rename_i b
  cases hg:decide (b < 0)<;>rw [hg] at hk<;>simp only [cond_true,cond_false] at hk<;>try (simp at hk; done)
  refine ⟨_,hk,by simp [Ids,Idss],by simp [Ids,Idss],?_⟩
  clear hk
  repeat' ((conv=>arg 1; whnf); split)
  all_goals (try (conv=>arg 1; whnf))
  all_goals first | refine ends_int ?_ | (exfalso; simp [ltB_true,ltB_false,leB_true,leB_false] at *; omega)
  all_goals (simp [maskS,ltB_true,ltB_false,leB_true,leB_false] at *; try omega)
abbrev T_zk : TE:=[(3,⟨.int .i64 0,1,8,.sc (.int .i64),none⟩),(22,⟨.int .u64 0,1,8,.sc (.int .u64),none⟩)]
theorem T_z5l : Prg Tryz.prog T_zk:=⟨(.cons te_3 (.cons te_22 (TEok.nil _))),by kernel_rfl⟩
noncomputable abbrev O_zk {α:Type}:ORC α:=[(82,.pure maskF)]
theorem O_z5l {α:Type} {I:Imm}:OOk (α:=α) Tryz.prog I O_zk:=OOk.cons c_zg (OOk.nil)
set_option maxHeartbeats 4000000 in
theorem c_zk {α:Type} {I:Imm}:OrcOk (α:=α) Tryz.prog I 61 (.pure zextF):=by
  refine orc_pure T_z5l (O:=O_zk) O_z5l (L:=[]) ⟨1,[]⟩ Tryz.func61 (by kernel_rfl) (by kernel_rfl) (by kernel_rfl) FLOk.nil ?_
  intro args k r hk
  unfold zextF at hk
  split at hk<;>try (simp at hk; done)
  rename_i v b
  refine ⟨_,hk,by simp [Ids,Idss],by simp [Ids,Idss],?_⟩
  clear hk
  have hc:1≤pickmx false (pickmx true b 1) 64∧pickmx false (pickmx true b 1) 64≤64:=clamp_bd b
  repeat' ((conv=>arg 1; whnf); split)
  all_goals (try (conv=>arg 1; whnf))
  all_goals first | refine ends_int ?_ | (exfalso; simp [ltB_true,ltB_false,leB_true,leB_false] at *; omega)
  all_goals rfl
theorem te_2 : TyOk Tryz.prog 2 ⟨.int .i64 0,1,8,.sc (.int .i64),none⟩:=⟨fun _=>by kernel_rfl,⟨rfl,rfl,fun _ _=>by simp [Wf,Wfs]⟩,⟨Tryz.underlying2,rfl⟩,fun _ h=>by cases h⟩
abbrev T_zr : TE:=[(3,⟨.int .i64 0,1,8,.sc (.int .i64),none⟩)]
theorem T_z5m : Prg Tryz.prog T_zr:=⟨(.cons te_3 (TEok.nil _)),by kernel_rfl⟩
noncomputable abbrev O_zr {α:Type}:ORC α:=[]
theorem O_z5m {α:Type} {I:Imm}:OOk (α:=α) Tryz.prog I O_zr:=OOk.nil
set_option maxHeartbeats 4000000 in
theorem c_zr {α:Type} {I:Imm}:OrcOk (α:=α) Tryz.prog I 81 (.pure partF):=by
  refine orc_pure T_z5m (O:=O_zr) O_z5m (L:=[]) ⟨1,[]⟩ Tryz.func81 (by kernel_rfl) (by kernel_rfl) (by kernel_rfl) FLOk.nil ?_
  intro args k r hk
  unfold partF at hk
  split at hk<;>try (simp at hk; done)
  rename_i lo n
  refine ⟨_,hk,by simp [Ids,Idss],by simp [Ids,Idss],?_⟩
  clear hk
  all_goals (try (conv=>arg 1; whnf))
  exact ends_any rfl
abbrev T_z1 : TE:=[(22,⟨.int .u64 0,1,8,.sc (.int .u64),none⟩)]
theorem T_z5n : Prg Tryz.prog T_z1:=⟨(.cons te_22 (TEok.nil _)),by kernel_rfl⟩
noncomputable abbrev O_z1 {α:Type}:ORC α:=[(81,.pure partF),(82,.pure maskF)]
theorem O_z5n {α:Type} {I:Imm}:OOk (α:=α) Tryz.prog I O_z1:=OOk.cons c_zr (OOk.cons c_zg (OOk.nil))
set_option maxHeartbeats 4000000 in
theorem c_z1 {α:Type} {I:Imm}:OrcOk (α:=α) Tryz.prog I 68 (.pure bitsF):=by
  refine orc_pure T_z5n (O:=O_z1) O_z5n (L:=[]) ⟨1,[]⟩ Tryz.func68 (by kernel_rfl) (by kernel_rfl) (by kernel_rfl) FLOk.nil ?_
  intro args k r hk
  unfold bitsF at hk
  split at hk<;>try (simp at hk; done)
  rename_i v lo n
  refine ⟨_,hk,by simp [Ids,Idss],by simp [Ids,Idss],?_⟩
  clear hk
  have h1:=loS_bd lo
  have h2:=nS_bd lo n
  repeat' ((conv=>arg 1; whnf); split)
  all_goals (try (conv=>arg 1; whnf))
  all_goals first | refine ends_int ?_ | (exfalso; simp [ltB_true,ltB_false,leB_true,leB_false] at *; omega)
  all_goals rfl
abbrev T_zb : TE:=[(22,⟨.int .u64 0,1,8,.sc (.int .u64),none⟩)]
theorem T_z5o : Prg Tryz.prog T_zb:=⟨(.cons te_22 (TEok.nil _)),by kernel_rfl⟩
noncomputable abbrev O_zb {α:Type}:ORC α:=[(81,.pure partF),(82,.pure maskF)]
theorem O_z5o {α:Type} {I:Imm}:OOk (α:=α) Tryz.prog I O_zb:=OOk.cons c_zr (OOk.cons c_zg (OOk.nil))
set_option maxHeartbeats 4000000 in
theorem c_zb {α:Type} {I:Imm}:OrcOk (α:=α) Tryz.prog I 60 (.pure setF):=by
  refine orc_pure T_z5o (O:=O_zb) O_z5o (L:=[]) ⟨1,[]⟩ Tryz.func60 (by kernel_rfl) (by kernel_rfl) (by kernel_rfl) FLOk.nil ?_
  intro args k r hk
  unfold setF at hk
  split at hk<;>try (simp at hk; done)
  rename_i v lo n x
  refine ⟨_,hk,by simp [Ids,Idss],by simp [Ids,Idss],?_⟩
  clear hk
  have h1:=loS_bd lo
  have h2:=nS_bd lo n
  repeat' ((conv=>arg 1; whnf); split)
  all_goals (try (conv=>arg 1; whnf))
  all_goals first | refine ends_int ?_ | (exfalso; simp [ltB_true,ltB_false,leB_true,leB_false] at *; omega)
  all_goals rfl
theorem te_24 : TyOk Tryz.prog 24 ⟨.ints .u64 29 (fun _=>0),29,232,.ar 29 22 1 false,some (.ar 29 1 (.it .u64))⟩:=⟨fun _=>by kernel_rfl,⟨rfl,rfl,fun _ _=>by simp [Wf,Wfs]⟩,⟨Tryz.underlying24,by kernel_rfl,by kernel_rfl⟩,fun _ h=>by cases h; exact ⟨by kernel_rfl,by kernel_rfl⟩⟩
theorem te_26 : TyOk Tryz.prog 26 ⟨.agg [.ints .u64 32 (fun _=>0),.int .u64 0,.int .i64 0,.bool false,.ints .u64 29 (fun _=>0),.int .u64 0],65,520,.st [(0,32,true),(32,1,false),(33,1,false),(34,1,false),(35,29,true),(64,1,false)],some (.st [(0,32,true,.ar 32 1 (.it .u64)),(32,1,false,.it .u64),(33,1,false,.it .i64),(34,1,false,.bl),(35,29,true,.ar 29 1 (.it .u64)),(64,1,false,.it .u64)])⟩:=⟨fun _=>by kernel_rfl,⟨rfl,rfl,fun _ _=>by simp [Wf,Wfs]⟩,⟨_,Tryz.underlying26,by kernel_rfl⟩,fun _ h=>by cases h; exact ⟨by kernel_rfl,by kernel_rfl⟩⟩
abbrev T_z3 : TE:=[(22,⟨.int .u64 0,1,8,.sc (.int .u64),none⟩),(24,⟨.ints .u64 29 (fun _=>0),29,232,.ar 29 22 1 false,some (.ar 29 1 (.it .u64))⟩),(26,⟨.agg [.ints .u64 32 (fun _=>0),.int .u64 0,.int .i64 0,.bool false,.ints .u64 29 (fun _=>0),.int .u64 0],65,520,.st [(0,32,true),(32,1,false),(33,1,false),(34,1,false),(35,29,true),(64,1,false)],some (.st [(0,32,true,.ar 32 1 (.it .u64)),(32,1,false,.it .u64),(33,1,false,.it .i64),(34,1,false,.bl),(35,29,true,.ar 29 1 (.it .u64)),(64,1,false,.it .u64)])⟩)]
theorem T_z5p : Prg Tryz.prog T_z3:=⟨(.cons te_22 (.cons te_24 (.cons te_26 (TEok.nil _)))),by kernel_rfl⟩
noncomputable abbrev O_z3 {α:Type}:ORC α:=[(68,.pure bitsF)]
theorem O_z5p {α:Type} {I:Imm}:OOk (α:=α) Tryz.prog I O_z3:=OOk.cons c_z1 (OOk.nil)
set_option maxHeartbeats 4000000 in
theorem c_z3 {α:Type} {I:Imm}:OrcOk (α:=α) Tryz.prog I 69 (.pure bitF):=by
  refine orc_pure T_z5p (O:=O_z3) O_z5p (L:=[]) ⟨1,[]⟩ Tryz.func69 (by kernel_rfl) (by kernel_rfl) (by kernel_rfl) FLOk.nil ?_
  intro args k r hk
  unfold bitF at hk
  split at hk<;>try (simp at hk; done)
  rename_i x pc lv vv c dn i b
  cases hg:(decide (0≤i) && decide (i < 29))<;>rw [hg] at hk<;>simp only [cond_true,cond_false] at hk<;>try (simp at hk; done)
  refine ⟨_,hk,by simp [Ids,Idss],by simp [Ids,Idss],?_⟩
  clear hk
  simp only [Bool.and_eq_true,decide_eq_true_eq] at hg
  repeat' ((conv=>arg 1; whnf); split)
  all_goals (try (conv=>arg 1; whnf))
  all_goals first | refine ends_bool ?_ | (exfalso; simp [ltB_true,ltB_false,leB_true,leB_false] at *; omega)
  all_goals rfl
end Go.Proofs.YtodnffhcbhlifaaGreat
