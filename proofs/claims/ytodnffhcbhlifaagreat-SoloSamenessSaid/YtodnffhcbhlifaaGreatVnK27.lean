/-
  Contracts: K27.
-/
import Derived.Test.YtodnffhcbhlifaaGreatVnS27
import Derived.Test.YtodnffhcbhlifaaGreatVnTwo
set_option linter.unusedSimpArgs false
set_option linter.unusedVariables false
namespace Go.Proofs.YtodnffhcbhlifaaGreat.K27
open Go Go.Sh Go.Proofs
set_option linter.unusedSimpArgs false
theorem c_z1w {α:Type} {I:Imm}:OrcOk (α:=α) Tryz.prog I 115 (.pure (ad_z1w sBad)):=d_z1w
theorem c_z10 {α:Type} {I:Imm}:OrcOk (α:=α) Tryz.prog I 116 (.pure (ad_z10 sCause)):=d_z10
theorem c_z28 {α:Type} {I:Imm}:OrcOk (α:=α) Tryz.prog I 173 (.pure (ad_z28 s_access_sort)):=d_z28
theorem c_z29 {α:Type} {I:Imm}:OrcOk (α:=α) Tryz.prog I 111 (.pure (ad_z29 s_alu_Do)):=d_z29
theorem c_z21 {α:Type} {I:Imm}:OrcOk (α:=α) Tryz.prog I 144 (.pure (ad_z21 s_alu_Extend)):=d_z21
theorem c_z6 {α:Type} {I:Imm}:OrcOk (α:=α) Tryz.prog I 42 (.pure (ad_z6 s_csr_Mask)):=d_z6
theorem c_z7 {α:Type} {I:Imm}:OrcOk (α:=α) Tryz.prog I 44 (.pure (ad_z7 s_csr_Put)):=d_z7
theorem c_z26 {α:Type} {I:Imm}:OrcOk (α:=α) Tryz.prog I 75 (.pure (ad_z26 s_decode_Decode)):=d_z26
theorem c_z20 {α:Type} {I:Imm}:OrcOk (α:=α) Tryz.prog I 52 (.pure (ad_z20 s_exec_Fault)):=d_z20
theorem c_z25 {α:Type} {I:Imm}:OrcOk (α:=α) Tryz.prog I 50 (.pure (ad_z25 s_exec_Interrupt)):=d_z25
theorem c_z2a {α:Type} {I:Imm}:OrcOk (α:=α) Tryz.prog I 112 (.pure (ad_z2a s_exec_calls)):=d_z2a
theorem c_z2b {α:Type} {I:Imm}:OrcOk (α:=α) Tryz.prog I 113 (.pure (ad_z2b s_exec_control)):=d_z2b
theorem c_z13 {α:Type} {I:Imm}:OrcOk (α:=α) Tryz.prog I 109 (.pure (ad_z13 s_exec_failed)):=d_z13
theorem c_z27 {α:Type} {I:Imm}:OrcOk (α:=α) Tryz.prog I 107 (.pure (ad_z27 s_exec_jumps)):=d_z27
theorem c_zf {α:Type} {I:Imm}:OrcOk (α:=α) Tryz.prog I 110 (.pure (ad_zf s_exec_next)):=d_zf
theorem c_z2c {α:Type} {I:Imm}:OrcOk (α:=α) Tryz.prog I 114 (.pure (ad_z2c s_exec_returns)):=d_z2c
theorem c_z4 {α:Type} {I:Imm}:OrcOk (α:=α) Tryz.prog I 100 (.pure (ad_z4 s_insn_Class)):=d_z4
theorem c_zd {α:Type} {I:Imm}:OrcOk (α:=α) Tryz.prog I 98 (.pure (ad_zd s_insn_Is)):=d_zd
theorem c_z16 {α:Type} {I:Imm}:OrcOk (α:=α) Tryz.prog I 143 (.pure (ad_z16 s_insn_Size)):=d_z16
theorem c_z2d {α:Type} {I:Imm}:OrcOk (α:=α) Tryz.prog I 78 (.pure (ad_z2d s_insn_Writes)):=d_z2d
theorem c_z22 {α:Type} {I:Imm}:OrcOk (α:=α) Tryz.prog I 45 (.pure (ad_z22 s_isa_Clean)):=d_z22
theorem c_zt {α:Type} {I:Imm}:OrcOk (α:=α) Tryz.prog I 76 (.pure (ad_zt s_legal_Insn)):=d_zt
theorem c_z24 {α:Type} {I:Imm}:OrcOk (α:=α) Tryz.prog I 48 (.pure (ad_z24 s_route_Interrupt)):=d_z24
theorem c_sync_atomic_AddInt64 {α:Type} {I:Imm}:OrcOk (α:=α) Tryz.prog I 64 (.ext (xAdd .i64)):=d_sync_atomic_AddInt64
theorem c_sync_atomic_LoadUint64 {α:Type} {I:Imm}:OrcOk (α:=α) Tryz.prog I 87 (.ext (xLoad .u64)):=d_sync_atomic_LoadUint64
theorem c_sync_atomic_StoreUint64 {α:Type} {I:Imm}:OrcOk (α:=α) Tryz.prog I 85 (.ext (xStore .u64)):=d_sync_atomic_StoreUint64
theorem c_zs {α:Type} {I:Imm}:OrcOk (α:=α) Tryz.prog I 72 (.pure (ad_zs s_trap_Enter)):=d_zs
theorem te_3 : TyOk Tryz.prog 3 ⟨.int .i64 0,1,8,.sc (.int .i64),none⟩:=⟨fun _=>by kernel_rfl,⟨rfl,rfl,fun _ _=>by simp [Wf,Wfs]⟩,⟨Tryz.underlying3,rfl⟩,fun _ h=>by cases h⟩
abbrev T_z2l : TE:=[(3,⟨.int .i64 0,1,8,.sc (.int .i64),none⟩)]
theorem T_z68 : Prg Tryz.prog T_z2l:=⟨(.cons te_3 (TEok.nil _)),by kernel_rfl⟩
noncomputable abbrev O_z2l {α:Type}:ORC α:=[]
theorem O_z68 {α:Type} {I:Imm}:OOk (α:=α) Tryz.prog I O_z2l:=OOk.nil
noncomputable abbrev B_z2l {α:Type}:FF α:=byBody T_z2l O_z2l ⟨40,[]⟩ Tryz.f18
theorem c_z2l {α:Type} {I:Imm}:OrcOk (α:=α) Tryz.prog I 18 (.full B_z2l):=orc_body T_z68 O_z68 ⟨40,[]⟩ Tryz.func18 (by kernel_rfl) (by kernel_rfl) (by kernel_rfl)
abbrev T_z2x : TE:=[(3,⟨.int .i64 0,1,8,.sc (.int .i64),none⟩)]
theorem T_z69 : Prg Tryz.prog T_z2x:=⟨(.cons te_3 (TEok.nil _)),by kernel_rfl⟩
noncomputable abbrev O_z2x {α:Type}:ORC α:=[(18,.full B_z2l)]
theorem O_z69 {α:Type} {I:Imm}:OOk (α:=α) Tryz.prog I O_z2x:=OOk.cons c_z2l (OOk.nil)
noncomputable abbrev B_z2x {α:Type}:FF α:=byBody T_z2x O_z2x ⟨40,[]⟩ Tryz.f30
theorem c_z2x {α:Type} {I:Imm}:OrcOk (α:=α) Tryz.prog I 30 (.full B_z2x):=orc_body T_z69 O_z69 ⟨40,[]⟩ Tryz.func30 (by kernel_rfl) (by kernel_rfl) (by kernel_rfl)
abbrev T_z2y : TE:=[(3,⟨.int .i64 0,1,8,.sc (.int .i64),none⟩)]
theorem T_z6a : Prg Tryz.prog T_z2y:=⟨(.cons te_3 (TEok.nil _)),by kernel_rfl⟩
noncomputable abbrev O_z2y {α:Type}:ORC α:=[]
theorem O_z6a {α:Type} {I:Imm}:OOk (α:=α) Tryz.prog I O_z2y:=OOk.nil
noncomputable abbrev B_z2y {α:Type}:FF α:=byBody T_z2y O_z2y ⟨40,[]⟩ Tryz.f31
theorem c_z2y {α:Type} {I:Imm}:OrcOk (α:=α) Tryz.prog I 31 (.full B_z2y):=orc_body T_z6a O_z6a ⟨40,[]⟩ Tryz.func31 (by kernel_rfl) (by kernel_rfl) (by kernel_rfl)
theorem te_2 : TyOk Tryz.prog 2 ⟨.int .i64 0,1,8,.sc (.int .i64),none⟩:=⟨fun _=>by kernel_rfl,⟨rfl,rfl,fun _ _=>by simp [Wf,Wfs]⟩,⟨Tryz.underlying2,rfl⟩,fun _ h=>by cases h⟩
abbrev T_z2z : TE:=[(2,⟨.int .i64 0,1,8,.sc (.int .i64),none⟩)]
theorem T_z6b : Prg Tryz.prog T_z2z:=⟨(.cons te_2 (TEok.nil _)),by kernel_rfl⟩
noncomputable abbrev O_z2z {α:Type}:ORC α:=[]
theorem O_z6b {α:Type} {I:Imm}:OOk (α:=α) Tryz.prog I O_z2z:=OOk.nil
noncomputable abbrev B_z2z {α:Type}:FF α:=byBody T_z2z O_z2z ⟨40,[]⟩ Tryz.f56
theorem c_z2z {α:Type} {I:Imm}:OrcOk (α:=α) Tryz.prog I 56 (.full B_z2z):=orc_body T_z6b O_z6b ⟨40,[]⟩ Tryz.func56 (by kernel_rfl) (by kernel_rfl) (by kernel_rfl)
theorem te_33 : TyOk Tryz.prog 33 ⟨.agg [.int .i64 0,.int .i64 0,.int .i64 0,.int .i64 0,.int .i64 0,.int .i64 0],6,48,.st [(0,1,false),(1,1,false),(2,1,false),(3,1,false),(4,1,false),(5,1,false)],some (.st [(0,1,false,.it .i64),(1,1,false,.it .i64),(2,1,false,.it .i64),(3,1,false,.it .i64),(4,1,false,.it .i64),(5,1,false,.it .i64)])⟩:=⟨fun _=>by kernel_rfl,⟨rfl,rfl,fun _ _=>by simp [Wf,Wfs]⟩,⟨_,Tryz.underlying33,by kernel_rfl⟩,fun _ h=>by cases h; exact ⟨by kernel_rfl,by kernel_rfl⟩⟩
abbrev T_z30 : TE:=[(2,⟨.int .i64 0,1,8,.sc (.int .i64),none⟩),(3,⟨.int .i64 0,1,8,.sc (.int .i64),none⟩),(33,⟨.agg [.int .i64 0,.int .i64 0,.int .i64 0,.int .i64 0,.int .i64 0,.int .i64 0],6,48,.st [(0,1,false),(1,1,false),(2,1,false),(3,1,false),(4,1,false),(5,1,false)],some (.st [(0,1,false,.it .i64),(1,1,false,.it .i64),(2,1,false,.it .i64),(3,1,false,.it .i64),(4,1,false,.it .i64),(5,1,false,.it .i64)])⟩)]
theorem T_z6c : Prg Tryz.prog T_z30:=⟨(.cons te_2 (.cons te_3 (.cons te_33 (TEok.nil _)))),by kernel_rfl⟩
noncomputable abbrev O_z30 {α:Type}:ORC α:=[(56,.full B_z2z),(18,.full B_z2l)]
theorem O_z6c {α:Type} {I:Imm}:OOk (α:=α) Tryz.prog I O_z30:=OOk.cons c_z2z (OOk.cons c_z2l (OOk.nil))
noncomputable abbrev B_z30 {α:Type}:FF α:=byBody T_z30 O_z30 ⟨40,[]⟩ Tryz.f32
theorem c_z30 {α:Type} {I:Imm}:OrcOk (α:=α) Tryz.prog I 32 (.full B_z30):=orc_body T_z6c O_z6c ⟨40,[]⟩ Tryz.func32 (by kernel_rfl) (by kernel_rfl) (by kernel_rfl)
abbrev T_z31 : TE:=[(2,⟨.int .i64 0,1,8,.sc (.int .i64),none⟩),(3,⟨.int .i64 0,1,8,.sc (.int .i64),none⟩),(33,⟨.agg [.int .i64 0,.int .i64 0,.int .i64 0,.int .i64 0,.int .i64 0,.int .i64 0],6,48,.st [(0,1,false),(1,1,false),(2,1,false),(3,1,false),(4,1,false),(5,1,false)],some (.st [(0,1,false,.it .i64),(1,1,false,.it .i64),(2,1,false,.it .i64),(3,1,false,.it .i64),(4,1,false,.it .i64),(5,1,false,.it .i64)])⟩)]
theorem T_z6d : Prg Tryz.prog T_z31:=⟨(.cons te_2 (.cons te_3 (.cons te_33 (TEok.nil _)))),by kernel_rfl⟩
noncomputable abbrev O_z31 {α:Type}:ORC α:=[(18,.full B_z2l),(30,.full B_z2x),(31,.full B_z2y),(32,.full B_z30)]
theorem O_z6d {α:Type} {I:Imm}:OOk (α:=α) Tryz.prog I O_z31:=OOk.cons c_z2l (OOk.cons c_z2x (OOk.cons c_z2y (OOk.cons c_z30 (OOk.nil))))
noncomputable abbrev B_z31 {α:Type}:FF α:=byBody T_z31 O_z31 ⟨40,[]⟩ Tryz.f15
theorem c_z31 {α:Type} {I:Imm}:OrcOk (α:=α) Tryz.prog I 15 (.full B_z31):=orc_body T_z6d O_z6d ⟨40,[]⟩ Tryz.func15 (by kernel_rfl) (by kernel_rfl) (by kernel_rfl)
abbrev T_z32 : TE:=[(3,⟨.int .i64 0,1,8,.sc (.int .i64),none⟩)]
theorem T_z6e : Prg Tryz.prog T_z32:=⟨(.cons te_3 (TEok.nil _)),by kernel_rfl⟩
noncomputable abbrev O_z32 {α:Type}:ORC α:=[]
theorem O_z6e {α:Type} {I:Imm}:OOk (α:=α) Tryz.prog I O_z32:=OOk.nil
noncomputable abbrev B_z32 {α:Type}:FF α:=byBody T_z32 O_z32 ⟨40,[]⟩ Tryz.f16
theorem c_z32 {α:Type} {I:Imm}:OrcOk (α:=α) Tryz.prog I 16 (.full B_z32):=orc_body T_z6e O_z6e ⟨40,[]⟩ Tryz.func16 (by kernel_rfl) (by kernel_rfl) (by kernel_rfl)
theorem te_40 : TyOk Tryz.prog 40 ⟨.int .u32 0,1,4,.sc (.int .u32),none⟩:=⟨fun _=>by kernel_rfl,⟨rfl,rfl,fun _ _=>by simp [Wf,Wfs]⟩,⟨Tryz.underlying40,rfl⟩,fun _ h=>by cases h⟩
theorem te_89 : TyOk Tryz.prog 89 ⟨.ints .u32 6 (fun _=>0),6,24,.ar 6 40 1 false,some (.ar 6 1 (.it .u32))⟩:=⟨fun _=>by kernel_rfl,⟨rfl,rfl,fun _ _=>by simp [Wf,Wfs]⟩,⟨Tryz.underlying89,by kernel_rfl,by kernel_rfl⟩,fun _ h=>by cases h; exact ⟨by kernel_rfl,by kernel_rfl⟩⟩
theorem te_90 : TyOk Tryz.prog 90 ⟨.ints .u32 2 (fun _=>0),2,8,.ar 2 40 1 false,some (.ar 2 1 (.it .u32))⟩:=⟨fun _=>by kernel_rfl,⟨rfl,rfl,fun _ _=>by simp [Wf,Wfs]⟩,⟨Tryz.underlying90,by kernel_rfl,by kernel_rfl⟩,fun _ h=>by cases h; exact ⟨by kernel_rfl,by kernel_rfl⟩⟩
theorem te_91 : TyOk Tryz.prog 91 ⟨.arr 2 3 (fun _=>.ints .u32 2 (fun _=>0)),6,24,.ar 3 90 2 true,none⟩:=⟨fun _=>by kernel_rfl,⟨rfl,rfl,fun _ _=>by simp [Wf,Wfs]⟩,⟨Tryz.underlying91,by kernel_rfl,by kernel_rfl⟩,fun _ h=>by cases h⟩
theorem te_92 : TyOk Tryz.prog 92 ⟨.arr 2 4 (fun _=>.ints .u32 2 (fun _=>0)),8,32,.ar 4 90 2 true,none⟩:=⟨fun _=>by kernel_rfl,⟨rfl,rfl,fun _ _=>by simp [Wf,Wfs]⟩,⟨Tryz.underlying92,by kernel_rfl,by kernel_rfl⟩,fun _ h=>by cases h⟩
theorem te_93 : TyOk Tryz.prog 93 ⟨.arr 2 10 (fun _=>.ints .u32 2 (fun _=>0)),20,80,.ar 10 90 2 true,none⟩:=⟨fun _=>by kernel_rfl,⟨rfl,rfl,fun _ _=>by simp [Wf,Wfs]⟩,⟨Tryz.underlying93,by kernel_rfl,by kernel_rfl⟩,fun _ h=>by cases h⟩
theorem te_94 : TyOk Tryz.prog 94 ⟨.arr 2 5 (fun _=>.ints .u32 2 (fun _=>0)),10,40,.ar 5 90 2 true,none⟩:=⟨fun _=>by kernel_rfl,⟨rfl,rfl,fun _ _=>by simp [Wf,Wfs]⟩,⟨Tryz.underlying94,by kernel_rfl,by kernel_rfl⟩,fun _ h=>by cases h⟩
theorem te_95 : TyOk Tryz.prog 95 ⟨.ints .u32 3 (fun _=>0),3,12,.ar 3 40 1 false,some (.ar 3 1 (.it .u32))⟩:=⟨fun _=>by kernel_rfl,⟨rfl,rfl,fun _ _=>by simp [Wf,Wfs]⟩,⟨Tryz.underlying95,by kernel_rfl,by kernel_rfl⟩,fun _ h=>by cases h; exact ⟨by kernel_rfl,by kernel_rfl⟩⟩
abbrev T_z33 : TE:=[(3,⟨.int .i64 0,1,8,.sc (.int .i64),none⟩),(40,⟨.int .u32 0,1,4,.sc (.int .u32),none⟩),(89,⟨.ints .u32 6 (fun _=>0),6,24,.ar 6 40 1 false,some (.ar 6 1 (.it .u32))⟩),(90,⟨.ints .u32 2 (fun _=>0),2,8,.ar 2 40 1 false,some (.ar 2 1 (.it .u32))⟩),(91,⟨.arr 2 3 (fun _=>.ints .u32 2 (fun _=>0)),6,24,.ar 3 90 2 true,none⟩),(92,⟨.arr 2 4 (fun _=>.ints .u32 2 (fun _=>0)),8,32,.ar 4 90 2 true,none⟩),(93,⟨.arr 2 10 (fun _=>.ints .u32 2 (fun _=>0)),20,80,.ar 10 90 2 true,none⟩),(94,⟨.arr 2 5 (fun _=>.ints .u32 2 (fun _=>0)),10,40,.ar 5 90 2 true,none⟩),(95,⟨.ints .u32 3 (fun _=>0),3,12,.ar 3 40 1 false,some (.ar 3 1 (.it .u32))⟩)]
theorem T_z6f : Prg Tryz.prog T_z33:=⟨(.cons te_3 (.cons te_40 (.cons te_89 (.cons te_90 (.cons te_91 (.cons te_92 (.cons te_93 (.cons te_94 (.cons te_95 (TEok.nil _)))))))))),by kernel_rfl⟩
noncomputable abbrev O_z33 {α:Type}:ORC α:=[(18,.full B_z2l)]
theorem O_z6f {α:Type} {I:Imm}:OOk (α:=α) Tryz.prog I O_z33:=OOk.cons c_z2l (OOk.nil)
noncomputable abbrev B_z33 {α:Type}:FF α:=byBody T_z33 O_z33 ⟨40,[]⟩ Tryz.f17
theorem c_z33 {α:Type} {I:Imm}:OrcOk (α:=α) Tryz.prog I 17 (.full B_z33):=orc_body T_z6f O_z6f ⟨40,[]⟩ Tryz.func17 (by kernel_rfl) (by kernel_rfl) (by kernel_rfl)
abbrev T_z34 : TE:=[(2,⟨.int .i64 0,1,8,.sc (.int .i64),none⟩),(3,⟨.int .i64 0,1,8,.sc (.int .i64),none⟩),(33,⟨.agg [.int .i64 0,.int .i64 0,.int .i64 0,.int .i64 0,.int .i64 0,.int .i64 0],6,48,.st [(0,1,false),(1,1,false),(2,1,false),(3,1,false),(4,1,false),(5,1,false)],some (.st [(0,1,false,.it .i64),(1,1,false,.it .i64),(2,1,false,.it .i64),(3,1,false,.it .i64),(4,1,false,.it .i64),(5,1,false,.it .i64)])⟩),(40,⟨.int .u32 0,1,4,.sc (.int .u32),none⟩)]
theorem T_z6g : Prg Tryz.prog T_z34:=⟨(.cons te_2 (.cons te_3 (.cons te_33 (.cons te_40 (TEok.nil _))))),by kernel_rfl⟩
noncomputable abbrev O_z34 {α:Type}:ORC α:=[(15,.full B_z31),(16,.full B_z32),(17,.full B_z33),(18,.full B_z2l)]
theorem O_z6g {α:Type} {I:Imm}:OOk (α:=α) Tryz.prog I O_z34:=OOk.cons c_z31 (OOk.cons c_z32 (OOk.cons c_z33 (OOk.cons c_z2l (OOk.nil))))
noncomputable abbrev B_z34 {α:Type}:FF α:=byBody T_z34 O_z34 ⟨40,[]⟩ Tryz.f9
theorem c_z34 {α:Type} {I:Imm}:OrcOk (α:=α) Tryz.prog I 9 (.full B_z34):=orc_body T_z6g O_z6g ⟨40,[]⟩ Tryz.func9 (by kernel_rfl) (by kernel_rfl) (by kernel_rfl)
theorem te_5 : TyOk Tryz.prog 5 ⟨.int .u8 0,1,1,.sc (.int .u8),none⟩:=⟨fun _=>by kernel_rfl,⟨rfl,rfl,fun _ _=>by simp [Wf,Wfs]⟩,⟨Tryz.underlying5,rfl⟩,fun _ h=>by cases h⟩
theorem te_9 : TyOk Tryz.prog 9 ⟨.str .empty,1,16,.sc (.string),none⟩:=⟨fun _=>by kernel_rfl,⟨rfl,rfl,fun _ _=>by simp [Wf,Wfs]⟩,⟨Tryz.underlying9,rfl⟩,fun _ h=>by cases h⟩
theorem te_22 : TyOk Tryz.prog 22 ⟨.int .u64 0,1,8,.sc (.int .u64),none⟩:=⟨fun _=>by kernel_rfl,⟨rfl,rfl,fun _ _=>by simp [Wf,Wfs]⟩,⟨Tryz.underlying22,rfl⟩,fun _ h=>by cases h⟩
theorem te_52 : TyOk Tryz.prog 52 ⟨.nils,1,24,.sc (.slice 5),none⟩:=⟨fun _=>by kernel_rfl,⟨rfl,rfl,fun _ _=>by simp [Wf,Wfs]⟩,⟨Tryz.underlying52,rfl⟩,fun _ h=>by cases h⟩
theorem te_64 : TyOk Tryz.prog 64 ⟨.int .u64 0,1,8,.sc (.int .u64),none⟩:=⟨fun _=>by kernel_rfl,⟨rfl,rfl,fun _ _=>by simp [Wf,Wfs]⟩,⟨Tryz.underlying64,rfl⟩,fun _ h=>by cases h⟩
abbrev T_z35 : TE:=[(3,⟨.int .i64 0,1,8,.sc (.int .i64),none⟩),(5,⟨.int .u8 0,1,1,.sc (.int .u8),none⟩),(9,⟨.str .empty,1,16,.sc (.string),none⟩),(22,⟨.int .u64 0,1,8,.sc (.int .u64),none⟩),(52,⟨.nils,1,24,.sc (.slice 5),none⟩),(64,⟨.int .u64 0,1,8,.sc (.int .u64),none⟩)]
theorem T_z6h : Prg Tryz.prog T_z35:=⟨(.cons te_3 (.cons te_5 (.cons te_9 (.cons te_22 (.cons te_52 (.cons te_64 (TEok.nil _))))))),by kernel_rfl⟩
noncomputable abbrev O_z35 {α:Type}:ORC α:=[]
theorem O_z6h {α:Type} {I:Imm}:OOk (α:=α) Tryz.prog I O_z35:=OOk.nil
noncomputable abbrev B_z35 {α:Type}:FF α:=byBody T_z35 O_z35 ⟨40,[]⟩ Tryz.f10
theorem c_z35 {α:Type} {I:Imm}:OrcOk (α:=α) Tryz.prog I 10 (.full B_z35):=orc_body T_z6h O_z6h ⟨40,[]⟩ Tryz.func10 (by kernel_rfl) (by kernel_rfl) (by kernel_rfl)
theorem te_34 : TyOk Tryz.prog 34 ⟨.nils,1,24,.sc (.slice 33),none⟩:=⟨fun _=>by kernel_rfl,⟨rfl,rfl,fun _ _=>by simp [Wf,Wfs]⟩,⟨Tryz.underlying34,rfl⟩,fun _ h=>by cases h⟩
abbrev T_z36 : TE:=[(3,⟨.int .i64 0,1,8,.sc (.int .i64),none⟩),(9,⟨.str .empty,1,16,.sc (.string),none⟩),(22,⟨.int .u64 0,1,8,.sc (.int .u64),none⟩),(33,⟨.agg [.int .i64 0,.int .i64 0,.int .i64 0,.int .i64 0,.int .i64 0,.int .i64 0],6,48,.st [(0,1,false),(1,1,false),(2,1,false),(3,1,false),(4,1,false),(5,1,false)],some (.st [(0,1,false,.it .i64),(1,1,false,.it .i64),(2,1,false,.it .i64),(3,1,false,.it .i64),(4,1,false,.it .i64),(5,1,false,.it .i64)])⟩),(34,⟨.nils,1,24,.sc (.slice 33),none⟩),(40,⟨.int .u32 0,1,4,.sc (.int .u32),none⟩)]
theorem T_z6i : Prg Tryz.prog T_z36:=⟨(.cons te_3 (.cons te_9 (.cons te_22 (.cons te_33 (.cons te_34 (.cons te_40 (TEok.nil _))))))),by kernel_rfl⟩
noncomputable abbrev O_z36 {α:Type}:ORC α:=[(9,.full B_z34),(10,.full B_z35)]
theorem O_z6i {α:Type} {I:Imm}:OOk (α:=α) Tryz.prog I O_z36:=OOk.cons c_z34 (OOk.cons c_z35 (OOk.nil))
noncomputable abbrev B_z36 {α:Type}:FF α:=byBody T_z36 O_z36 ⟨40,[]⟩ Tryz.f6
theorem c_z36 {α:Type} {I:Imm}:OrcOk (α:=α) Tryz.prog I 6 (.full B_z36):=orc_body T_z6i O_z6i ⟨40,[]⟩ Tryz.func6 (by kernel_rfl) (by kernel_rfl) (by kernel_rfl)
theorem te_30 : TyOk Tryz.prog 30 ⟨.nils,1,24,.sc (.slice 3),none⟩:=⟨fun _=>by kernel_rfl,⟨rfl,rfl,fun _ _=>by simp [Wf,Wfs]⟩,⟨Tryz.underlying30,rfl⟩,fun _ h=>by cases h⟩
abbrev T_slices_IndexInts : TE:=[(3,⟨.int .i64 0,1,8,.sc (.int .i64),none⟩),(30,⟨.nils,1,24,.sc (.slice 3),none⟩)]
theorem T_slices_IndexInts_ok : Prg Tryz.prog T_slices_IndexInts:=⟨(.cons te_3 (.cons te_30 (TEok.nil _))),by kernel_rfl⟩
noncomputable abbrev O_slices_IndexInts {α:Type}:ORC α:=[]
theorem O_slices_IndexInts_ok {α:Type} {I:Imm}:OOk (α:=α) Tryz.prog I O_slices_IndexInts:=OOk.nil
noncomputable abbrev B_slices_IndexInts {α:Type}:FF α:=byBody T_slices_IndexInts O_slices_IndexInts ⟨40,[]⟩ Tryz.f57
theorem c_slices_IndexInts {α:Type} {I:Imm}:OrcOk (α:=α) Tryz.prog I 57 (.full B_slices_IndexInts):=orc_body T_slices_IndexInts_ok O_slices_IndexInts_ok ⟨40,[]⟩ Tryz.func57 (by kernel_rfl) (by kernel_rfl) (by kernel_rfl)
abbrev T_slices_ContainsInts : TE:=[(3,⟨.int .i64 0,1,8,.sc (.int .i64),none⟩)]
theorem T_slices_ContainsInts_ok : Prg Tryz.prog T_slices_ContainsInts:=⟨(.cons te_3 (TEok.nil _)),by kernel_rfl⟩
noncomputable abbrev O_slices_ContainsInts {α:Type}:ORC α:=[(57,.full B_slices_IndexInts)]
theorem O_slices_ContainsInts_ok {α:Type} {I:Imm}:OOk (α:=α) Tryz.prog I O_slices_ContainsInts:=OOk.cons c_slices_IndexInts (OOk.nil)
noncomputable abbrev B_slices_ContainsInts {α:Type}:FF α:=byBody T_slices_ContainsInts O_slices_ContainsInts ⟨40,[]⟩ Tryz.f33
theorem c_slices_ContainsInts {α:Type} {I:Imm}:OrcOk (α:=α) Tryz.prog I 33 (.full B_slices_ContainsInts):=orc_body T_slices_ContainsInts_ok O_slices_ContainsInts_ok ⟨40,[]⟩ Tryz.func33 (by kernel_rfl) (by kernel_rfl) (by kernel_rfl)
abbrev T_solo_tablesOf : TE:=[(3,⟨.int .i64 0,1,8,.sc (.int .i64),none⟩),(30,⟨.nils,1,24,.sc (.slice 3),none⟩)]
theorem T_solo_tablesOf_ok : Prg Tryz.prog T_solo_tablesOf:=⟨(.cons te_3 (.cons te_30 (TEok.nil _))),by kernel_rfl⟩
noncomputable abbrev O_solo_tablesOf {α:Type}:ORC α:=[(33,.full B_slices_ContainsInts)]
theorem O_solo_tablesOf_ok {α:Type} {I:Imm}:OOk (α:=α) Tryz.prog I O_solo_tablesOf:=OOk.cons c_slices_ContainsInts (OOk.nil)
noncomputable abbrev B_solo_tablesOf {α:Type}:FF α:=byBody T_solo_tablesOf O_solo_tablesOf ⟨40,[]⟩ Tryz.f19
theorem c_solo_tablesOf {α:Type} {I:Imm}:OrcOk (α:=α) Tryz.prog I 19 (.full B_solo_tablesOf):=orc_body T_solo_tablesOf_ok O_solo_tablesOf_ok ⟨40,[]⟩ Tryz.func19 (by kernel_rfl) (by kernel_rfl) (by kernel_rfl)
abbrev T_config_within : TE:=[(3,⟨.int .i64 0,1,8,.sc (.int .i64),none⟩)]
theorem T_config_within_ok : Prg Tryz.prog T_config_within:=⟨(.cons te_3 (TEok.nil _)),by kernel_rfl⟩
noncomputable abbrev O_config_within {α:Type}:ORC α:=[]
theorem O_config_within_ok {α:Type} {I:Imm}:OOk (α:=α) Tryz.prog I O_config_within:=OOk.nil
noncomputable abbrev B_config_within {α:Type}:FF α:=byBody T_config_within O_config_within ⟨40,[]⟩ Tryz.f34
theorem c_config_within {α:Type} {I:Imm}:OrcOk (α:=α) Tryz.prog I 34 (.full B_config_within):=orc_body T_config_within_ok O_config_within_ok ⟨40,[]⟩ Tryz.func34 (by kernel_rfl) (by kernel_rfl) (by kernel_rfl)
theorem te_4 : TyOk Tryz.prog 4 ⟨.bool false,1,1,.sc (.bool),none⟩:=⟨fun _=>by kernel_rfl,⟨rfl,rfl,fun _ _=>by simp [Wf,Wfs]⟩,⟨Tryz.underlying4,rfl⟩,fun _ h=>by cases h⟩
theorem te_140 : TyOk Tryz.prog 140 ⟨.bools 128 (fun _=>false),128,128,.ar 128 4 1 false,none⟩:=⟨fun _=>by kernel_rfl,⟨rfl,rfl,fun _ _=>by simp [Wf,Wfs]⟩,⟨Tryz.underlying140,by kernel_rfl,by kernel_rfl⟩,fun _ h=>by cases h⟩
abbrev T_config_frames_1 : TE:=[(4,⟨.bool false,1,1,.sc (.bool),none⟩),(140,⟨.bools 128 (fun _=>false),128,128,.ar 128 4 1 false,none⟩)]
theorem T_config_frames_1_ok : Prg Tryz.prog T_config_frames_1:=⟨(.cons te_4 (.cons te_140 (TEok.nil _))),by kernel_rfl⟩
noncomputable abbrev O_config_frames_1 {α:Type}:ORC α:=[(34,.full B_config_within)]
theorem O_config_frames_1_ok {α:Type} {I:Imm}:OOk (α:=α) Tryz.prog I O_config_frames_1:=OOk.cons c_config_within (OOk.nil)
noncomputable abbrev B_config_frames_1 {α:Type}:FF α:=byBody T_config_frames_1 O_config_frames_1 ⟨40,[]⟩ Tryz.f58
theorem c_config_frames_1 {α:Type} {I:Imm}:OrcOk (α:=α) Tryz.prog I 58 (.full B_config_frames_1):=orc_body T_config_frames_1_ok O_config_frames_1_ok ⟨40,[]⟩ Tryz.func58 (by kernel_rfl) (by kernel_rfl) (by kernel_rfl)
theorem te_36 : TyOk Tryz.prog 36 ⟨.agg [.nils,.str .empty,.int .u64 0,.str .empty],4,64,.st [(0,1,false),(1,1,false),(2,1,false),(3,1,false)],none⟩:=⟨fun _=>by kernel_rfl,⟨rfl,rfl,fun _ _=>by simp [Wf,Wfs]⟩,⟨_,Tryz.underlying36,by kernel_rfl⟩,fun _ h=>by cases h⟩
theorem te_66 : TyOk Tryz.prog 66 ⟨.nils,1,24,.sc (.slice 36),none⟩:=⟨fun _=>by kernel_rfl,⟨rfl,rfl,fun _ _=>by simp [Wf,Wfs]⟩,⟨Tryz.underlying66,rfl⟩,fun _ h=>by cases h⟩
theorem te_69 : TyOk Tryz.prog 69 ⟨.agg [.nils,.int .i64 0,.nils],3,56,.st [(0,1,false),(1,1,false),(2,1,false)],none⟩:=⟨fun _=>by kernel_rfl,⟨rfl,rfl,fun _ _=>by simp [Wf,Wfs]⟩,⟨_,Tryz.underlying69,by kernel_rfl⟩,fun _ h=>by cases h⟩
abbrev T_config_frames : TE:=[(3,⟨.int .i64 0,1,8,.sc (.int .i64),none⟩),(30,⟨.nils,1,24,.sc (.slice 3),none⟩),(36,⟨.agg [.nils,.str .empty,.int .u64 0,.str .empty],4,64,.st [(0,1,false),(1,1,false),(2,1,false),(3,1,false)],none⟩),(66,⟨.nils,1,24,.sc (.slice 36),none⟩),(69,⟨.agg [.nils,.int .i64 0,.nils],3,56,.st [(0,1,false),(1,1,false),(2,1,false)],none⟩),(140,⟨.bools 128 (fun _=>false),128,128,.ar 128 4 1 false,none⟩)]
theorem T_config_frames_ok : Prg Tryz.prog T_config_frames:=⟨(.cons te_3 (.cons te_30 (.cons te_36 (.cons te_66 (.cons te_69 (.cons te_140 (TEok.nil _))))))),by kernel_rfl⟩
noncomputable abbrev O_config_frames {α:Type}:ORC α:=[(58,.full B_config_frames_1),(33,.full B_slices_ContainsInts)]
theorem O_config_frames_ok {α:Type} {I:Imm}:OOk (α:=α) Tryz.prog I O_config_frames:=OOk.cons c_config_frames_1 (OOk.cons c_slices_ContainsInts (OOk.nil))
noncomputable abbrev B_config_frames {α:Type}:FF α:=byBody T_config_frames O_config_frames ⟨40,[]⟩ Tryz.f35
theorem c_config_frames {α:Type} {I:Imm}:OrcOk (α:=α) Tryz.prog I 35 (.full B_config_frames):=orc_body T_config_frames_ok O_config_frames_ok ⟨40,[]⟩ Tryz.func35 (by kernel_rfl) (by kernel_rfl) (by kernel_rfl)
abbrev T_config_Window : TE:=[(3,⟨.int .i64 0,1,8,.sc (.int .i64),none⟩),(30,⟨.nils,1,24,.sc (.slice 3),none⟩),(36,⟨.agg [.nils,.str .empty,.int .u64 0,.str .empty],4,64,.st [(0,1,false),(1,1,false),(2,1,false),(3,1,false)],none⟩)]
theorem T_config_Window_ok : Prg Tryz.prog T_config_Window:=⟨(.cons te_3 (.cons te_30 (.cons te_36 (TEok.nil _)))),by kernel_rfl⟩
noncomputable abbrev O_config_Window {α:Type}:ORC α:=[]
theorem O_config_Window_ok {α:Type} {I:Imm}:OOk (α:=α) Tryz.prog I O_config_Window:=OOk.nil
noncomputable abbrev B_config_Window {α:Type}:FF α:=byBody T_config_Window O_config_Window ⟨40,[]⟩ Tryz.f36
theorem c_config_Window {α:Type} {I:Imm}:OrcOk (α:=α) Tryz.prog I 36 (.full B_config_Window):=orc_body T_config_Window_ok O_config_Window_ok ⟨40,[]⟩ Tryz.func36 (by kernel_rfl) (by kernel_rfl) (by kernel_rfl)
abbrev T_config_Check : TE:=[(3,⟨.int .i64 0,1,8,.sc (.int .i64),none⟩),(9,⟨.str .empty,1,16,.sc (.string),none⟩),(22,⟨.int .u64 0,1,8,.sc (.int .u64),none⟩),(30,⟨.nils,1,24,.sc (.slice 3),none⟩),(36,⟨.agg [.nils,.str .empty,.int .u64 0,.str .empty],4,64,.st [(0,1,false),(1,1,false),(2,1,false),(3,1,false)],none⟩),(66,⟨.nils,1,24,.sc (.slice 36),none⟩),(69,⟨.agg [.nils,.int .i64 0,.nils],3,56,.st [(0,1,false),(1,1,false),(2,1,false)],none⟩)]
theorem T_config_Check_ok : Prg Tryz.prog T_config_Check:=⟨(.cons te_3 (.cons te_9 (.cons te_22 (.cons te_30 (.cons te_36 (.cons te_66 (.cons te_69 (TEok.nil _)))))))),by kernel_rfl⟩
noncomputable abbrev O_config_Check {α:Type}:ORC α:=[(34,.full B_config_within),(35,.full B_config_frames),(36,.full B_config_Window)]
theorem O_config_Check_ok {α:Type} {I:Imm}:OOk (α:=α) Tryz.prog I O_config_Check:=OOk.cons c_config_within (OOk.cons c_config_frames (OOk.cons c_config_Window (OOk.nil)))
noncomputable abbrev B_config_Check {α:Type}:FF α:=byBody T_config_Check O_config_Check ⟨40,[]⟩ Tryz.f20
theorem c_config_Check {α:Type} {I:Imm}:OrcOk (α:=α) Tryz.prog I 20 (.full B_config_Check):=orc_body T_config_Check_ok O_config_Check_ok ⟨40,[]⟩ Tryz.func20 (by kernel_rfl) (by kernel_rfl) (by kernel_rfl)
theorem te_143 : TyOk Tryz.prog 143 ⟨.agg [.nils],1,24,.st [(0,1,false)],none⟩:=⟨fun _=>by kernel_rfl,⟨rfl,rfl,fun _ _=>by simp [Wf,Wfs]⟩,⟨_,Tryz.underlying143,by kernel_rfl⟩,fun _ h=>by cases h⟩
abbrev T_z2i : TE:=[(5,⟨.int .u8 0,1,1,.sc (.int .u8),none⟩),(52,⟨.nils,1,24,.sc (.slice 5),none⟩),(143,⟨.agg [.nils],1,24,.st [(0,1,false)],none⟩)]
theorem T_z3v : Prg Tryz.prog T_z2i:=⟨(.cons te_5 (.cons te_52 (.cons te_143 (TEok.nil _)))),by kernel_rfl⟩
noncomputable abbrev O_z2i {α:Type}:ORC α:=[]
theorem O_z3v {α:Type} {I:Imm}:OOk (α:=α) Tryz.prog I O_z2i:=OOk.nil
noncomputable abbrev B_z2i {α:Type}:FF α:=byBody T_z2i O_z2i ⟨40,[]⟩ Tryz.f37
theorem c_z2i {α:Type} {I:Imm}:OrcOk (α:=α) Tryz.prog I 37 (.full B_z2i):=orc_body T_z3v O_z3v ⟨40,[]⟩ Tryz.func37 (by kernel_rfl) (by kernel_rfl) (by kernel_rfl)
abbrev T_z37 : TE:=[(3,⟨.int .i64 0,1,8,.sc (.int .i64),none⟩),(5,⟨.int .u8 0,1,1,.sc (.int .u8),none⟩),(9,⟨.str .empty,1,16,.sc (.string),none⟩),(22,⟨.int .u64 0,1,8,.sc (.int .u64),none⟩),(52,⟨.nils,1,24,.sc (.slice 5),none⟩),(143,⟨.agg [.nils],1,24,.st [(0,1,false)],none⟩)]
theorem T_z6j : Prg Tryz.prog T_z37:=⟨(.cons te_3 (.cons te_5 (.cons te_9 (.cons te_22 (.cons te_52 (.cons te_143 (TEok.nil _))))))),by kernel_rfl⟩
noncomputable abbrev O_z37 {α:Type}:ORC α:=[]
theorem O_z6j {α:Type} {I:Imm}:OOk (α:=α) Tryz.prog I O_z37:=OOk.nil
noncomputable abbrev B_z37 {α:Type}:FF α:=byBody T_z37 O_z37 ⟨40,[]⟩ Tryz.f38
theorem c_z37 {α:Type} {I:Imm}:OrcOk (α:=α) Tryz.prog I 38 (.full B_z37):=orc_body T_z6j O_z6j ⟨40,[]⟩ Tryz.func38 (by kernel_rfl) (by kernel_rfl) (by kernel_rfl)
theorem te_70 : TyOk Tryz.prog 70 ⟨.int .i64 0,1,8,.sc (.int .i64),none⟩:=⟨fun _=>by kernel_rfl,⟨rfl,rfl,fun _ _=>by simp [Wf,Wfs]⟩,⟨Tryz.underlying70,rfl⟩,fun _ h=>by cases h⟩
abbrev T_z2h : TE:=[(5,⟨.int .u8 0,1,1,.sc (.int .u8),none⟩),(9,⟨.str .empty,1,16,.sc (.string),none⟩),(52,⟨.nils,1,24,.sc (.slice 5),none⟩),(70,⟨.int .i64 0,1,8,.sc (.int .i64),none⟩),(143,⟨.agg [.nils],1,24,.st [(0,1,false)],none⟩)]
theorem T_z3u : Prg Tryz.prog T_z2h:=⟨(.cons te_5 (.cons te_9 (.cons te_52 (.cons te_70 (.cons te_143 (TEok.nil _)))))),by kernel_rfl⟩
noncomputable abbrev O_z2h {α:Type}:ORC α:=[(79,.pure checkF),(80,.pure bytesF)]
theorem O_z3u {α:Type} {I:Imm}:OOk (α:=α) Tryz.prog I O_z2h:=OOk.cons c_z3i (OOk.cons c_z3s (OOk.nil))
noncomputable abbrev B_z2h {α:Type}:FF α:=byBody T_z2h O_z2h ⟨40,[]⟩ Tryz.f59
theorem c_z2h {α:Type} {I:Imm}:OrcOk (α:=α) Tryz.prog I 59 (.full B_z2h):=orc_body T_z3u O_z3u ⟨40,[]⟩ Tryz.func59 (by kernel_rfl) (by kernel_rfl) (by kernel_rfl)
theorem te_73 : TyOk Tryz.prog 73 ⟨.nilp,1,8,.sc (.pointer 143),none⟩:=⟨fun _=>by kernel_rfl,⟨rfl,rfl,fun _ _=>by simp [Wf,Wfs]⟩,⟨Tryz.underlying73,rfl⟩,fun _ h=>by cases h⟩
abbrev T_z38 : TE:=[(3,⟨.int .i64 0,1,8,.sc (.int .i64),none⟩),(22,⟨.int .u64 0,1,8,.sc (.int .u64),none⟩),(73,⟨.nilp,1,8,.sc (.pointer 143),none⟩)]
theorem T_z6k : Prg Tryz.prog T_z38:=⟨(.cons te_3 (.cons te_22 (.cons te_73 (TEok.nil _)))),by kernel_rfl⟩
noncomputable abbrev O_z38 {α:Type}:ORC α:=[(59,.full B_z2h),(40,.pure makeF)]
theorem O_z6k {α:Type} {I:Imm}:OOk (α:=α) Tryz.prog I O_z38:=OOk.cons c_z2h (OOk.cons c_z3w (OOk.nil))
noncomputable abbrev B_z38 {α:Type}:FF α:=byBody T_z38 O_z38 ⟨40,[]⟩ Tryz.f39
theorem c_z38 {α:Type} {I:Imm}:OrcOk (α:=α) Tryz.prog I 39 (.full B_z38):=orc_body T_z6k O_z6k ⟨40,[]⟩ Tryz.func39 (by kernel_rfl) (by kernel_rfl) (by kernel_rfl)
abbrev T_tables_Build : TE:=[(3,⟨.int .i64 0,1,8,.sc (.int .i64),none⟩),(5,⟨.int .u8 0,1,1,.sc (.int .u8),none⟩),(9,⟨.str .empty,1,16,.sc (.string),none⟩),(22,⟨.int .u64 0,1,8,.sc (.int .u64),none⟩),(30,⟨.nils,1,24,.sc (.slice 3),none⟩),(36,⟨.agg [.nils,.str .empty,.int .u64 0,.str .empty],4,64,.st [(0,1,false),(1,1,false),(2,1,false),(3,1,false)],none⟩),(52,⟨.nils,1,24,.sc (.slice 5),none⟩),(66,⟨.nils,1,24,.sc (.slice 36),none⟩),(69,⟨.agg [.nils,.int .i64 0,.nils],3,56,.st [(0,1,false),(1,1,false),(2,1,false)],none⟩),(70,⟨.int .i64 0,1,8,.sc (.int .i64),none⟩)]
theorem T_tables_Build_ok : Prg Tryz.prog T_tables_Build:=⟨(.cons te_3 (.cons te_5 (.cons te_9 (.cons te_22 (.cons te_30 (.cons te_36 (.cons te_52 (.cons te_66 (.cons te_69 (.cons te_70 (TEok.nil _))))))))))),by kernel_rfl⟩
noncomputable abbrev O_tables_Build {α:Type}:ORC α:=[(20,.full B_config_Check),(37,.full B_z2i),(36,.full B_config_Window),(38,.full B_z37),(40,.pure makeF),(39,.full B_z38)]
theorem O_tables_Build_ok {α:Type} {I:Imm}:OOk (α:=α) Tryz.prog I O_tables_Build:=OOk.cons c_config_Check (OOk.cons c_z2i (OOk.cons c_config_Window (OOk.cons c_z37 (OOk.cons c_z3w (OOk.cons c_z38 (OOk.nil))))))
noncomputable abbrev B_tables_Build {α:Type}:FF α:=byBody T_tables_Build O_tables_Build ⟨40,[]⟩ Tryz.f21
theorem c_tables_Build {α:Type} {I:Imm}:OrcOk (α:=α) Tryz.prog I 21 (.full B_tables_Build):=orc_body T_tables_Build_ok O_tables_Build_ok ⟨40,[]⟩ Tryz.func21 (by kernel_rfl) (by kernel_rfl) (by kernel_rfl)
abbrev T_tables_right : TE:=[(3,⟨.int .i64 0,1,8,.sc (.int .i64),none⟩),(36,⟨.agg [.nils,.str .empty,.int .u64 0,.str .empty],4,64,.st [(0,1,false),(1,1,false),(2,1,false),(3,1,false)],none⟩),(66,⟨.nils,1,24,.sc (.slice 36),none⟩),(69,⟨.agg [.nils,.int .i64 0,.nils],3,56,.st [(0,1,false),(1,1,false),(2,1,false)],none⟩),(70,⟨.int .i64 0,1,8,.sc (.int .i64),none⟩)]
theorem T_tables_right_ok : Prg Tryz.prog T_tables_right:=⟨(.cons te_3 (.cons te_36 (.cons te_66 (.cons te_69 (.cons te_70 (TEok.nil _)))))),by kernel_rfl⟩
noncomputable abbrev O_tables_right {α:Type}:ORC α:=[(20,.full B_config_Check)]
theorem O_tables_right_ok {α:Type} {I:Imm}:OOk (α:=α) Tryz.prog I O_tables_right:=OOk.cons c_config_Check (OOk.nil)
noncomputable abbrev B_tables_right {α:Type}:FF α:=byBody T_tables_right O_tables_right ⟨40,[]⟩ Tryz.f41
theorem c_tables_right {α:Type} {I:Imm}:OrcOk (α:=α) Tryz.prog I 41 (.full B_tables_right):=orc_body T_tables_right_ok O_tables_right_ok ⟨40,[]⟩ Tryz.func41 (by kernel_rfl) (by kernel_rfl) (by kernel_rfl)
abbrev T_tables_Hgatp : TE:=[(3,⟨.int .i64 0,1,8,.sc (.int .i64),none⟩),(22,⟨.int .u64 0,1,8,.sc (.int .u64),none⟩),(30,⟨.nils,1,24,.sc (.slice 3),none⟩),(69,⟨.agg [.nils,.int .i64 0,.nils],3,56,.st [(0,1,false),(1,1,false),(2,1,false)],none⟩)]
theorem T_tables_Hgatp_ok : Prg Tryz.prog T_tables_Hgatp:=⟨(.cons te_3 (.cons te_22 (.cons te_30 (.cons te_69 (TEok.nil _))))),by kernel_rfl⟩
noncomputable abbrev O_tables_Hgatp {α:Type}:ORC α:=[(41,.full B_tables_right),(60,.pure setF)]
theorem O_tables_Hgatp_ok {α:Type} {I:Imm}:OOk (α:=α) Tryz.prog I O_tables_Hgatp:=OOk.cons c_tables_right (OOk.cons c_zb (OOk.nil))
noncomputable abbrev B_tables_Hgatp {α:Type}:FF α:=byBody T_tables_Hgatp O_tables_Hgatp ⟨40,[]⟩ Tryz.f43
theorem c_tables_Hgatp {α:Type} {I:Imm}:OrcOk (α:=α) Tryz.prog I 43 (.full B_tables_Hgatp):=orc_body T_tables_Hgatp_ok O_tables_Hgatp_ok ⟨40,[]⟩ Tryz.func43 (by kernel_rfl) (by kernel_rfl) (by kernel_rfl)
theorem te_24 : TyOk Tryz.prog 24 ⟨.ints .u64 29 (fun _=>0),29,232,.ar 29 22 1 false,some (.ar 29 1 (.it .u64))⟩:=⟨fun _=>by kernel_rfl,⟨rfl,rfl,fun _ _=>by simp [Wf,Wfs]⟩,⟨Tryz.underlying24,by kernel_rfl,by kernel_rfl⟩,fun _ h=>by cases h; exact ⟨by kernel_rfl,by kernel_rfl⟩⟩
theorem te_26 : TyOk Tryz.prog 26 ⟨.agg [.ints .u64 32 (fun _=>0),.int .u64 0,.int .i64 0,.bool false,.ints .u64 29 (fun _=>0),.int .u64 0],65,520,.st [(0,32,true),(32,1,false),(33,1,false),(34,1,false),(35,29,true),(64,1,false)],some (.st [(0,32,true,.ar 32 1 (.it .u64)),(32,1,false,.it .u64),(33,1,false,.it .i64),(34,1,false,.bl),(35,29,true,.ar 29 1 (.it .u64)),(64,1,false,.it .u64)])⟩:=⟨fun _=>by kernel_rfl,⟨rfl,rfl,fun _ _=>by simp [Wf,Wfs]⟩,⟨_,Tryz.underlying26,by kernel_rfl⟩,fun _ h=>by cases h; exact ⟨by kernel_rfl,by kernel_rfl⟩⟩
theorem te_106 : TyOk Tryz.prog 106 ⟨.ints .i64 3 (fun _=>0),3,24,.ar 3 3 1 false,some (.ar 3 1 (.it .i64))⟩:=⟨fun _=>by kernel_rfl,⟨rfl,rfl,fun _ _=>by simp [Wf,Wfs]⟩,⟨Tryz.underlying106,by kernel_rfl,by kernel_rfl⟩,fun _ h=>by cases h; exact ⟨by kernel_rfl,by kernel_rfl⟩⟩
abbrev T_tables_State : TE:=[(3,⟨.int .i64 0,1,8,.sc (.int .i64),none⟩),(4,⟨.bool false,1,1,.sc (.bool),none⟩),(22,⟨.int .u64 0,1,8,.sc (.int .u64),none⟩),(24,⟨.ints .u64 29 (fun _=>0),29,232,.ar 29 22 1 false,some (.ar 29 1 (.it .u64))⟩),(26,⟨.agg [.ints .u64 32 (fun _=>0),.int .u64 0,.int .i64 0,.bool false,.ints .u64 29 (fun _=>0),.int .u64 0],65,520,.st [(0,32,true),(32,1,false),(33,1,false),(34,1,false),(35,29,true),(64,1,false)],some (.st [(0,32,true,.ar 32 1 (.it .u64)),(32,1,false,.it .u64),(33,1,false,.it .i64),(34,1,false,.bl),(35,29,true,.ar 29 1 (.it .u64)),(64,1,false,.it .u64)])⟩),(36,⟨.agg [.nils,.str .empty,.int .u64 0,.str .empty],4,64,.st [(0,1,false),(1,1,false),(2,1,false),(3,1,false)],none⟩),(66,⟨.nils,1,24,.sc (.slice 36),none⟩),(69,⟨.agg [.nils,.int .i64 0,.nils],3,56,.st [(0,1,false),(1,1,false),(2,1,false)],none⟩),(106,⟨.ints .i64 3 (fun _=>0),3,24,.ar 3 3 1 false,some (.ar 3 1 (.it .i64))⟩)]
theorem T_tables_State_ok : Prg Tryz.prog T_tables_State:=⟨(.cons te_3 (.cons te_4 (.cons te_22 (.cons te_24 (.cons te_26 (.cons te_36 (.cons te_66 (.cons te_69 (.cons te_106 (TEok.nil _)))))))))),by kernel_rfl⟩
noncomputable abbrev O_tables_State {α:Type}:ORC α:=[(41,.full B_tables_right),(42,.pure (ad_z6 s_csr_Mask)),(43,.full B_tables_Hgatp),(44,.pure (ad_z7 s_csr_Put))]
theorem O_tables_State_ok {α:Type} {I:Imm}:OOk (α:=α) Tryz.prog I O_tables_State:=OOk.cons c_tables_right (OOk.cons c_z6 (OOk.cons c_tables_Hgatp (OOk.cons c_z7 (OOk.nil))))
noncomputable abbrev B_tables_State {α:Type}:FF α:=byBody T_tables_State O_tables_State ⟨40,[]⟩ Tryz.f22
theorem c_tables_State {α:Type} {I:Imm}:OrcOk (α:=α) Tryz.prog I 22 (.full B_tables_State):=orc_body T_tables_State_ok O_tables_State_ok ⟨40,[]⟩ Tryz.func22 (by kernel_rfl) (by kernel_rfl) (by kernel_rfl)
theorem te_56 : TyOk Tryz.prog 56 ⟨.agg [.agg [.ints .u64 32 (fun _=>0),.int .u64 0,.int .i64 0,.bool false,.ints .u64 29 (fun _=>0),.int .u64 0],.int .u64 0,.int .u64 0,.str .empty,.nils],69,576,.st [(0,65,true),(65,1,false),(66,1,false),(67,1,false),(68,1,false)],none⟩:=⟨fun _=>by kernel_rfl,⟨rfl,rfl,fun _ _=>by simp [Wf,Wfs]⟩,⟨_,Tryz.underlying56,by kernel_rfl⟩,fun _ h=>by cases h⟩
abbrev T_monitor_Begun : TE:=[(26,⟨.agg [.ints .u64 32 (fun _=>0),.int .u64 0,.int .i64 0,.bool false,.ints .u64 29 (fun _=>0),.int .u64 0],65,520,.st [(0,32,true),(32,1,false),(33,1,false),(34,1,false),(35,29,true),(64,1,false)],some (.st [(0,32,true,.ar 32 1 (.it .u64)),(32,1,false,.it .u64),(33,1,false,.it .i64),(34,1,false,.bl),(35,29,true,.ar 29 1 (.it .u64)),(64,1,false,.it .u64)])⟩),(56,⟨.agg [.agg [.ints .u64 32 (fun _=>0),.int .u64 0,.int .i64 0,.bool false,.ints .u64 29 (fun _=>0),.int .u64 0],.int .u64 0,.int .u64 0,.str .empty,.nils],69,576,.st [(0,65,true),(65,1,false),(66,1,false),(67,1,false),(68,1,false)],none⟩)]
theorem T_monitor_Begun_ok : Prg Tryz.prog T_monitor_Begun:=⟨(.cons te_26 (.cons te_56 (TEok.nil _))),by kernel_rfl⟩
noncomputable abbrev O_monitor_Begun {α:Type}:ORC α:=[]
theorem O_monitor_Begun_ok {α:Type} {I:Imm}:OOk (α:=α) Tryz.prog I O_monitor_Begun:=OOk.nil
noncomputable abbrev B_monitor_Begun {α:Type}:FF α:=byBody T_monitor_Begun O_monitor_Begun ⟨40,[]⟩ Tryz.f23
theorem c_monitor_Begun {α:Type} {I:Imm}:OrcOk (α:=α) Tryz.prog I 23 (.full B_monitor_Begun):=orc_body T_monitor_Begun_ok O_monitor_Begun_ok ⟨40,[]⟩ Tryz.func23 (by kernel_rfl) (by kernel_rfl) (by kernel_rfl)
theorem te_124 : TyOk Tryz.prog 124 ⟨.agg [.nilp,.agg [.agg [],.agg [],.int .u64 0],.int .u64 0,.arr 3 4 (fun _=>.agg [.nils,.nils,.int .i64 0])],15,248,.st [(0,1,false),(1,1,true),(2,1,false),(3,12,true)],none⟩:=⟨fun _=>by kernel_rfl,⟨rfl,rfl,fun _ _=>by simp [Wf,Wfs]⟩,⟨_,Tryz.underlying124,by kernel_rfl⟩,fun _ h=>by cases h⟩
abbrev T_z2p : TE:=[(73,⟨.nilp,1,8,.sc (.pointer 143),none⟩),(124,⟨.agg [.nilp,.agg [.agg [],.agg [],.int .u64 0],.int .u64 0,.arr 3 4 (fun _=>.agg [.nils,.nils,.int .i64 0])],15,248,.st [(0,1,false),(1,1,true),(2,1,false),(3,12,true)],none⟩)]
theorem T_z6l : Prg Tryz.prog T_z2p:=⟨(.cons te_73 (.cons te_124 (TEok.nil _))),by kernel_rfl⟩
noncomputable abbrev O_z2p {α:Type}:ORC α:=[(37,.full B_z2i)]
theorem O_z6l {α:Type} {I:Imm}:OOk (α:=α) Tryz.prog I O_z2p:=OOk.cons c_z2i (OOk.nil)
noncomputable abbrev B_z2p {α:Type}:FF α:=byBody T_z2p O_z2p ⟨40,[]⟩ Tryz.f25
theorem c_z2p {α:Type} {I:Imm}:OrcOk (α:=α) Tryz.prog I 25 (.full B_z2p):=orc_body T_z6l O_z6l ⟨40,[]⟩ Tryz.func25 (by kernel_rfl) (by kernel_rfl) (by kernel_rfl)
theorem te_79 : TyOk Tryz.prog 79 ⟨.nilp,1,8,.sc (.pointer 124),none⟩:=⟨fun _=>by kernel_rfl,⟨rfl,rfl,fun _ _=>by simp [Wf,Wfs]⟩,⟨Tryz.underlying79,rfl⟩,fun _ h=>by cases h⟩
theorem te_117 : TyOk Tryz.prog 117 ⟨.agg [.agg [.ints .u64 32 (fun _=>0),.int .u64 0,.int .i64 0,.bool false,.ints .u64 29 (fun _=>0),.int .u64 0],.nilp,.agg [.agg [],.agg [],.int .i64 0]],67,536,.st [(0,65,true),(65,1,false),(66,1,true)],none⟩:=⟨fun _=>by kernel_rfl,⟨rfl,rfl,fun _ _=>by simp [Wf,Wfs]⟩,⟨_,Tryz.underlying117,by kernel_rfl⟩,fun _ h=>by cases h⟩
abbrev T_isa_New : TE:=[(26,⟨.agg [.ints .u64 32 (fun _=>0),.int .u64 0,.int .i64 0,.bool false,.ints .u64 29 (fun _=>0),.int .u64 0],65,520,.st [(0,32,true),(32,1,false),(33,1,false),(34,1,false),(35,29,true),(64,1,false)],some (.st [(0,32,true,.ar 32 1 (.it .u64)),(32,1,false,.it .u64),(33,1,false,.it .i64),(34,1,false,.bl),(35,29,true,.ar 29 1 (.it .u64)),(64,1,false,.it .u64)])⟩),(79,⟨.nilp,1,8,.sc (.pointer 124),none⟩),(117,⟨.agg [.agg [.ints .u64 32 (fun _=>0),.int .u64 0,.int .i64 0,.bool false,.ints .u64 29 (fun _=>0),.int .u64 0],.nilp,.agg [.agg [],.agg [],.int .i64 0]],67,536,.st [(0,65,true),(65,1,false),(66,1,true)],none⟩)]
theorem T_isa_New_ok : Prg Tryz.prog T_isa_New:=⟨(.cons te_26 (.cons te_79 (.cons te_117 (TEok.nil _)))),by kernel_rfl⟩
noncomputable abbrev O_isa_New {α:Type}:ORC α:=[(25,.full B_z2p),(45,.pure (ad_z22 s_isa_Clean))]
theorem O_isa_New_ok {α:Type} {I:Imm}:OOk (α:=α) Tryz.prog I O_isa_New:=OOk.cons c_z2p (OOk.cons c_z22 (OOk.nil))
noncomputable abbrev B_isa_New {α:Type}:FF α:=byBody T_isa_New O_isa_New ⟨40,[]⟩ Tryz.f24
theorem c_isa_New {α:Type} {I:Imm}:OrcOk (α:=α) Tryz.prog I 24 (.full B_isa_New):=orc_body T_isa_New_ok O_isa_New_ok ⟨40,[]⟩ Tryz.func24 (by kernel_rfl) (by kernel_rfl) (by kernel_rfl)
theorem te_59 : TyOk Tryz.prog 59 ⟨.agg [.agg [.agg [.ints .u64 32 (fun _=>0),.int .u64 0,.int .i64 0,.bool false,.ints .u64 29 (fun _=>0),.int .u64 0],.int .u64 0,.int .u64 0,.str .empty,.nils],.nilp],70,584,.st [(0,69,true),(69,1,false)],none⟩:=⟨fun _=>by kernel_rfl,⟨rfl,rfl,fun _ _=>by simp [Wf,Wfs]⟩,⟨_,Tryz.underlying59,by kernel_rfl⟩,fun _ h=>by cases h⟩
abbrev T_solo_made : TE:=[(3,⟨.int .i64 0,1,8,.sc (.int .i64),none⟩),(9,⟨.str .empty,1,16,.sc (.string),none⟩),(26,⟨.agg [.ints .u64 32 (fun _=>0),.int .u64 0,.int .i64 0,.bool false,.ints .u64 29 (fun _=>0),.int .u64 0],65,520,.st [(0,32,true),(32,1,false),(33,1,false),(34,1,false),(35,29,true),(64,1,false)],some (.st [(0,32,true,.ar 32 1 (.it .u64)),(32,1,false,.it .u64),(33,1,false,.it .i64),(34,1,false,.bl),(35,29,true,.ar 29 1 (.it .u64)),(64,1,false,.it .u64)])⟩),(30,⟨.nils,1,24,.sc (.slice 3),none⟩),(36,⟨.agg [.nils,.str .empty,.int .u64 0,.str .empty],4,64,.st [(0,1,false),(1,1,false),(2,1,false),(3,1,false)],none⟩),(59,⟨.agg [.agg [.agg [.ints .u64 32 (fun _=>0),.int .u64 0,.int .i64 0,.bool false,.ints .u64 29 (fun _=>0),.int .u64 0],.int .u64 0,.int .u64 0,.str .empty,.nils],.nilp],70,584,.st [(0,69,true),(69,1,false)],none⟩),(66,⟨.nils,1,24,.sc (.slice 36),none⟩),(69,⟨.agg [.nils,.int .i64 0,.nils],3,56,.st [(0,1,false),(1,1,false),(2,1,false)],none⟩),(70,⟨.int .i64 0,1,8,.sc (.int .i64),none⟩)]
theorem T_solo_made_ok : Prg Tryz.prog T_solo_made:=⟨(.cons te_3 (.cons te_9 (.cons te_26 (.cons te_30 (.cons te_36 (.cons te_59 (.cons te_66 (.cons te_69 (.cons te_70 (TEok.nil _)))))))))),by kernel_rfl⟩
noncomputable abbrev O_solo_made {α:Type}:ORC α:=[(19,.full B_solo_tablesOf),(20,.full B_config_Check),(21,.full B_tables_Build),(22,.full B_tables_State),(23,.full B_monitor_Begun),(25,.full B_z2p),(24,.full B_isa_New)]
theorem O_solo_made_ok {α:Type} {I:Imm}:OOk (α:=α) Tryz.prog I O_solo_made:=OOk.cons c_solo_tablesOf (OOk.cons c_config_Check (OOk.cons c_tables_Build (OOk.cons c_tables_State (OOk.cons c_monitor_Begun (OOk.cons c_z2p (OOk.cons c_isa_New (OOk.nil)))))))
noncomputable abbrev B_solo_made {α:Type}:FF α:=byBody T_solo_made O_solo_made ⟨40,[]⟩ Tryz.f11
theorem c_solo_made {α:Type} {I:Imm}:OrcOk (α:=α) Tryz.prog I 11 (.full B_solo_made):=orc_body T_solo_made_ok O_solo_made_ok ⟨40,[]⟩ Tryz.func11 (by kernel_rfl) (by kernel_rfl) (by kernel_rfl)
abbrev T_solo_Run_1 : TE:=[(5,⟨.int .u8 0,1,1,.sc (.int .u8),none⟩),(52,⟨.nils,1,24,.sc (.slice 5),none⟩)]
theorem T_solo_Run_1_ok : Prg Tryz.prog T_solo_Run_1:=⟨(.cons te_5 (.cons te_52 (TEok.nil _))),by kernel_rfl⟩
noncomputable abbrev O_solo_Run_1 {α:Type}:ORC α:=[]
theorem O_solo_Run_1_ok {α:Type} {I:Imm}:OOk (α:=α) Tryz.prog I O_solo_Run_1:=OOk.nil
noncomputable abbrev B_solo_Run_1 {α:Type}:FF α:=byBody T_solo_Run_1 O_solo_Run_1 ⟨40,[]⟩ Tryz.f13
theorem c_solo_Run_1 {α:Type} {I:Imm}:OrcOk (α:=α) Tryz.prog I 13 (.full B_solo_Run_1):=orc_body T_solo_Run_1_ok O_solo_Run_1_ok ⟨40,[]⟩ Tryz.func13 (by kernel_rfl) (by kernel_rfl) (by kernel_rfl)
abbrev T_isa_Machine_Set : TE:=[(26,⟨.agg [.ints .u64 32 (fun _=>0),.int .u64 0,.int .i64 0,.bool false,.ints .u64 29 (fun _=>0),.int .u64 0],65,520,.st [(0,32,true),(32,1,false),(33,1,false),(34,1,false),(35,29,true),(64,1,false)],some (.st [(0,32,true,.ar 32 1 (.it .u64)),(32,1,false,.it .u64),(33,1,false,.it .i64),(34,1,false,.bl),(35,29,true,.ar 29 1 (.it .u64)),(64,1,false,.it .u64)])⟩),(117,⟨.agg [.agg [.ints .u64 32 (fun _=>0),.int .u64 0,.int .i64 0,.bool false,.ints .u64 29 (fun _=>0),.int .u64 0],.nilp,.agg [.agg [],.agg [],.int .i64 0]],67,536,.st [(0,65,true),(65,1,false),(66,1,true)],none⟩)]
theorem T_isa_Machine_Set_ok : Prg Tryz.prog T_isa_Machine_Set:=⟨(.cons te_26 (.cons te_117 (TEok.nil _))),by kernel_rfl⟩
noncomputable abbrev O_isa_Machine_Set {α:Type}:ORC α:=[(45,.pure (ad_z22 s_isa_Clean))]
theorem O_isa_Machine_Set_ok {α:Type} {I:Imm}:OOk (α:=α) Tryz.prog I O_isa_Machine_Set:=OOk.cons c_z22 (OOk.nil)
noncomputable abbrev B_isa_Machine_Set {α:Type}:FF α:=byBody T_isa_Machine_Set O_isa_Machine_Set ⟨40,[]⟩ Tryz.f26
theorem c_isa_Machine_Set {α:Type} {I:Imm}:OrcOk (α:=α) Tryz.prog I 26 (.full B_isa_Machine_Set):=orc_body T_isa_Machine_Set_ok O_isa_Machine_Set_ok ⟨40,[]⟩ Tryz.func26 (by kernel_rfl) (by kernel_rfl) (by kernel_rfl)
theorem te_115 : TyOk Tryz.prog 115 ⟨.agg [.agg [],.agg [],.int .i64 0],1,8,.st [(0,0,true),(0,0,true),(0,1,false)],none⟩:=⟨fun _=>by kernel_rfl,⟨rfl,rfl,fun _ _=>by simp [Wf,Wfs]⟩,⟨_,Tryz.underlying115,by kernel_rfl⟩,fun _ h=>by cases h⟩
abbrev T_sync_atomic_Int64_Add : TE:=[(115,⟨.agg [.agg [],.agg [],.int .i64 0],1,8,.st [(0,0,true),(0,0,true),(0,1,false)],none⟩)]
theorem T_sync_atomic_Int64_Add_ok : Prg Tryz.prog T_sync_atomic_Int64_Add:=⟨(.cons te_115 (TEok.nil _)),by kernel_rfl⟩
noncomputable abbrev O_sync_atomic_Int64_Add {α:Type}:ORC α:=[(64,.ext (xAdd .i64))]
theorem O_sync_atomic_Int64_Add_ok {α:Type} {I:Imm}:OOk (α:=α) Tryz.prog I O_sync_atomic_Int64_Add:=OOk.cons c_sync_atomic_AddInt64 (OOk.nil)
noncomputable abbrev B_sync_atomic_Int64_Add {α:Type}:FF α:=byBody T_sync_atomic_Int64_Add O_sync_atomic_Int64_Add ⟨40,[]⟩ Tryz.f46
theorem c_sync_atomic_Int64_Add {α:Type} {I:Imm}:OrcOk (α:=α) Tryz.prog I 46 (.full B_sync_atomic_Int64_Add):=orc_body T_sync_atomic_Int64_Add_ok O_sync_atomic_Int64_Add_ok ⟨40,[]⟩ Tryz.func46 (by kernel_rfl) (by kernel_rfl) (by kernel_rfl)
theorem te_119 : TyOk Tryz.prog 119 ⟨.agg [.agg [],.agg [],.int .u64 0],1,8,.st [(0,0,true),(0,0,true),(0,1,false)],none⟩:=⟨fun _=>by kernel_rfl,⟨rfl,rfl,fun _ _=>by simp [Wf,Wfs]⟩,⟨_,Tryz.underlying119,by kernel_rfl⟩,fun _ h=>by cases h⟩
abbrev T_sync_atomic_Uint64_Store : TE:=[(119,⟨.agg [.agg [],.agg [],.int .u64 0],1,8,.st [(0,0,true),(0,0,true),(0,1,false)],none⟩)]
theorem T_sync_atomic_Uint64_Store_ok : Prg Tryz.prog T_sync_atomic_Uint64_Store:=⟨(.cons te_119 (TEok.nil _)),by kernel_rfl⟩
noncomputable abbrev O_sync_atomic_Uint64_Store {α:Type}:ORC α:=[(85,.ext (xStore .u64))]
theorem O_sync_atomic_Uint64_Store_ok {α:Type} {I:Imm}:OOk (α:=α) Tryz.prog I O_sync_atomic_Uint64_Store:=OOk.cons c_sync_atomic_StoreUint64 (OOk.nil)
noncomputable abbrev B_sync_atomic_Uint64_Store {α:Type}:FF α:=byBody T_sync_atomic_Uint64_Store O_sync_atomic_Uint64_Store ⟨40,[]⟩ Tryz.f65
theorem c_sync_atomic_Uint64_Store {α:Type} {I:Imm}:OrcOk (α:=α) Tryz.prog I 65 (.full B_sync_atomic_Uint64_Store):=orc_body T_sync_atomic_Uint64_Store_ok O_sync_atomic_Uint64_Store_ok ⟨40,[]⟩ Tryz.func65 (by kernel_rfl) (by kernel_rfl) (by kernel_rfl)
abbrev T_z39 : TE:=[(124,⟨.agg [.nilp,.agg [.agg [],.agg [],.int .u64 0],.int .u64 0,.arr 3 4 (fun _=>.agg [.nils,.nils,.int .i64 0])],15,248,.st [(0,1,false),(1,1,true),(2,1,false),(3,12,true)],none⟩)]
theorem T_z6m : Prg Tryz.prog T_z39:=⟨(.cons te_124 (TEok.nil _)),by kernel_rfl⟩
noncomputable abbrev O_z39 {α:Type}:ORC α:=[(65,.full B_sync_atomic_Uint64_Store)]
theorem O_z6m {α:Type} {I:Imm}:OOk (α:=α) Tryz.prog I O_z39:=OOk.cons c_sync_atomic_Uint64_Store (OOk.nil)
noncomputable abbrev B_z39 {α:Type}:FF α:=byBody T_z39 O_z39 ⟨40,[]⟩ Tryz.f47
theorem c_z39 {α:Type} {I:Imm}:OrcOk (α:=α) Tryz.prog I 47 (.full B_z39):=orc_body T_z6m O_z6m ⟨40,[]⟩ Tryz.func47 (by kernel_rfl) (by kernel_rfl) (by kernel_rfl)
abbrev T_sync_atomic_Uint64_Load : TE:=[(119,⟨.agg [.agg [],.agg [],.int .u64 0],1,8,.st [(0,0,true),(0,0,true),(0,1,false)],none⟩)]
theorem T_sync_atomic_Uint64_Load_ok : Prg Tryz.prog T_sync_atomic_Uint64_Load:=⟨(.cons te_119 (TEok.nil _)),by kernel_rfl⟩
noncomputable abbrev O_sync_atomic_Uint64_Load {α:Type}:ORC α:=[(87,.ext (xLoad .u64))]
theorem O_sync_atomic_Uint64_Load_ok {α:Type} {I:Imm}:OOk (α:=α) Tryz.prog I O_sync_atomic_Uint64_Load:=OOk.cons c_sync_atomic_LoadUint64 (OOk.nil)
noncomputable abbrev B_sync_atomic_Uint64_Load {α:Type}:FF α:=byBody T_sync_atomic_Uint64_Load O_sync_atomic_Uint64_Load ⟨40,[]⟩ Tryz.f71
theorem c_sync_atomic_Uint64_Load {α:Type} {I:Imm}:OrcOk (α:=α) Tryz.prog I 71 (.full B_sync_atomic_Uint64_Load):=orc_body T_sync_atomic_Uint64_Load_ok O_sync_atomic_Uint64_Load_ok ⟨40,[]⟩ Tryz.func71 (by kernel_rfl) (by kernel_rfl) (by kernel_rfl)
abbrev T_z3a : TE:=[(22,⟨.int .u64 0,1,8,.sc (.int .u64),none⟩),(124,⟨.agg [.nilp,.agg [.agg [],.agg [],.int .u64 0],.int .u64 0,.arr 3 4 (fun _=>.agg [.nils,.nils,.int .i64 0])],15,248,.st [(0,1,false),(1,1,true),(2,1,false),(3,12,true)],none⟩)]
theorem T_z6n : Prg Tryz.prog T_z3a:=⟨(.cons te_22 (.cons te_124 (TEok.nil _))),by kernel_rfl⟩
noncomputable abbrev O_z3a {α:Type}:ORC α:=[(71,.full B_sync_atomic_Uint64_Load)]
theorem O_z6n {α:Type} {I:Imm}:OOk (α:=α) Tryz.prog I O_z3a:=OOk.cons c_sync_atomic_Uint64_Load (OOk.nil)
noncomputable abbrev B_z3a {α:Type}:FF α:=byBody T_z3a O_z3a ⟨40,[]⟩ Tryz.f49
theorem c_z3a {α:Type} {I:Imm}:OrcOk (α:=α) Tryz.prog I 49 (.full B_z3a):=orc_body T_z6n O_z6n ⟨40,[]⟩ Tryz.func49 (by kernel_rfl) (by kernel_rfl) (by kernel_rfl)
theorem te_42 : TyOk Tryz.prog 42 ⟨.agg [.int .u64 0,.int .u64 0,.int .u64 0,.bool false],4,32,.st [(0,1,false),(1,1,false),(2,1,false),(3,1,false)],some (.st [(0,1,false,.it .u64),(1,1,false,.it .u64),(2,1,false,.it .u64),(3,1,false,.bl)])⟩:=⟨fun _=>by kernel_rfl,⟨rfl,rfl,fun _ _=>by simp [Wf,Wfs]⟩,⟨_,Tryz.underlying42,by kernel_rfl⟩,fun _ h=>by cases h; exact ⟨by kernel_rfl,by kernel_rfl⟩⟩
theorem te_221 : TyOk Tryz.prog 221 ⟨.ints .u64 3 (fun _=>0),3,24,.ar 3 22 1 false,some (.ar 3 1 (.it .u64))⟩:=⟨fun _=>by kernel_rfl,⟨rfl,rfl,fun _ _=>by simp [Wf,Wfs]⟩,⟨Tryz.underlying221,by kernel_rfl,by kernel_rfl⟩,fun _ h=>by cases h; exact ⟨by kernel_rfl,by kernel_rfl⟩⟩
abbrev T_z2q : TE:=[(3,⟨.int .i64 0,1,8,.sc (.int .i64),none⟩),(22,⟨.int .u64 0,1,8,.sc (.int .u64),none⟩),(42,⟨.agg [.int .u64 0,.int .u64 0,.int .u64 0,.bool false],4,32,.st [(0,1,false),(1,1,false),(2,1,false),(3,1,false)],some (.st [(0,1,false,.it .u64),(1,1,false,.it .u64),(2,1,false,.it .u64),(3,1,false,.bl)])⟩),(221,⟨.ints .u64 3 (fun _=>0),3,24,.ar 3 22 1 false,some (.ar 3 1 (.it .u64))⟩)]
theorem T_z6o : Prg Tryz.prog T_z2q:=⟨(.cons te_3 (.cons te_22 (.cons te_42 (.cons te_221 (TEok.nil _))))),by kernel_rfl⟩
noncomputable abbrev O_z2q {α:Type}:ORC α:=[(115,.pure (ad_z1w sBad)),(116,.pure (ad_z10 sCause))]
theorem O_z6o {α:Type} {I:Imm}:OOk (α:=α) Tryz.prog I O_z2q:=OOk.cons c_z1w (OOk.cons c_z10 (OOk.nil))
noncomputable abbrev B_z2q {α:Type}:FF α:=byBody T_z2q O_z2q ⟨40,[]⟩ Tryz.f91
theorem c_z2q {α:Type} {I:Imm}:OrcOk (α:=α) Tryz.prog I 91 (.full B_z2q):=orc_body T_z6o O_z6o ⟨40,[]⟩ Tryz.func91 (by kernel_rfl) (by kernel_rfl) (by kernel_rfl)
abbrev T_z2r : TE:=[(73,⟨.nilp,1,8,.sc (.pointer 143),none⟩),(124,⟨.agg [.nilp,.agg [.agg [],.agg [],.int .u64 0],.int .u64 0,.arr 3 4 (fun _=>.agg [.nils,.nils,.int .i64 0])],15,248,.st [(0,1,false),(1,1,true),(2,1,false),(3,12,true)],none⟩)]
theorem T_z6p : Prg Tryz.prog T_z2r:=⟨(.cons te_73 (.cons te_124 (TEok.nil _))),by kernel_rfl⟩
noncomputable abbrev O_z2r {α:Type}:ORC α:=[]
theorem O_z6p {α:Type} {I:Imm}:OOk (α:=α) Tryz.prog I O_z2r:=OOk.nil
noncomputable abbrev B_z2r {α:Type}:FF α:=byBody T_z2r O_z2r ⟨40,[]⟩ Tryz.f93
theorem c_z2r {α:Type} {I:Imm}:OrcOk (α:=α) Tryz.prog I 93 (.full B_z2r):=orc_body T_z6p O_z6p ⟨40,[]⟩ Tryz.func93 (by kernel_rfl) (by kernel_rfl) (by kernel_rfl)
abbrev T_z2g : TE:=[(3,⟨.int .i64 0,1,8,.sc (.int .i64),none⟩),(5,⟨.int .u8 0,1,1,.sc (.int .u8),none⟩),(9,⟨.str .empty,1,16,.sc (.string),none⟩),(22,⟨.int .u64 0,1,8,.sc (.int .u64),none⟩),(52,⟨.nils,1,24,.sc (.slice 5),none⟩),(70,⟨.int .i64 0,1,8,.sc (.int .i64),none⟩),(143,⟨.agg [.nils],1,24,.st [(0,1,false)],none⟩)]
theorem T_z3t : Prg Tryz.prog T_z2g:=⟨(.cons te_3 (.cons te_5 (.cons te_9 (.cons te_22 (.cons te_52 (.cons te_70 (.cons te_143 (TEok.nil _)))))))),by kernel_rfl⟩
noncomputable abbrev O_z2g {α:Type}:ORC α:=[(79,.pure checkF),(182,.pure getF)]
theorem O_z3t {α:Type} {I:Imm}:OOk (α:=α) Tryz.prog I O_z2g:=OOk.cons c_z3i (OOk.cons c_z3r (OOk.nil))
noncomputable abbrev B_z2g {α:Type}:FF α:=byBody T_z2g O_z2g ⟨40,[]⟩ Tryz.f165
theorem c_z2g {α:Type} {I:Imm}:OrcOk (α:=α) Tryz.prog I 165 (.full B_z2g):=orc_body T_z3t O_z3t ⟨40,[]⟩ Tryz.func165 (by kernel_rfl) (by kernel_rfl) (by kernel_rfl)
abbrev T_z2e : TE:=[(3,⟨.int .i64 0,1,8,.sc (.int .i64),none⟩),(22,⟨.int .u64 0,1,8,.sc (.int .u64),none⟩),(73,⟨.nilp,1,8,.sc (.pointer 143),none⟩)]
theorem T_z3x : Prg Tryz.prog T_z2e:=⟨(.cons te_3 (.cons te_22 (.cons te_73 (TEok.nil _)))),by kernel_rfl⟩
noncomputable abbrev O_z2e {α:Type}:ORC α:=[(165,.full B_z2g)]
theorem O_z3x {α:Type} {I:Imm}:OOk (α:=α) Tryz.prog I O_z2e:=OOk.cons c_z2g (OOk.nil)
noncomputable abbrev B_z2e {α:Type}:FF α:=byBody T_z2e O_z2e ⟨40,[]⟩ Tryz.f178
theorem c_z2e {α:Type} {I:Imm}:OrcOk (α:=α) Tryz.prog I 178 (.full B_z2e):=orc_body T_z3x O_z3x ⟨40,[]⟩ Tryz.func178 (by kernel_rfl) (by kernel_rfl) (by kernel_rfl)
abbrev T_z1z : TE:=[(73,⟨.nilp,1,8,.sc (.pointer 143),none⟩)]
theorem T_z3y : Prg Tryz.prog T_z1z:=⟨(.cons te_73 (TEok.nil _)),by kernel_rfl⟩
noncomputable abbrev O_z1z {α:Type}:ORC α:=[(178,.full B_z2e)]
theorem O_z3y {α:Type} {I:Imm}:OOk (α:=α) Tryz.prog I O_z1z:=OOk.cons c_z2e (OOk.nil)
noncomputable abbrev B_z1z {α:Type}:FF α:=byBody T_z1z O_z1z ⟨40,[]⟩ Tryz.f180
theorem c_z1z {α:Type} {I:Imm}:OrcOk (α:=α) Tryz.prog I 180 (.full B_z1z):=orc_body T_z3y O_z3y ⟨40,[]⟩ Tryz.func180 (by kernel_rfl) (by kernel_rfl) (by kernel_rfl)
theorem te_293 : TyOk Tryz.prog 293 ⟨.ints .u64 2 (fun _=>0),2,16,.ar 2 22 1 false,some (.ar 2 1 (.it .u64))⟩:=⟨fun _=>by kernel_rfl,⟨rfl,rfl,fun _ _=>by simp [Wf,Wfs]⟩,⟨Tryz.underlying293,by kernel_rfl,by kernel_rfl⟩,fun _ h=>by cases h; exact ⟨by kernel_rfl,by kernel_rfl⟩⟩
abbrev T_z23 : TE:=[(3,⟨.int .i64 0,1,8,.sc (.int .i64),none⟩),(22,⟨.int .u64 0,1,8,.sc (.int .u64),none⟩),(293,⟨.ints .u64 2 (fun _=>0),2,16,.ar 2 22 1 false,some (.ar 2 1 (.it .u64))⟩)]
theorem T_z3z : Prg Tryz.prog T_z23:=⟨(.cons te_3 (.cons te_22 (.cons te_293 (TEok.nil _)))),by kernel_rfl⟩
noncomputable abbrev O_z23 {α:Type}:ORC α:=[(68,.pure bitsF),(176,.pure isF),(177,.pure leafF),(161,.pure frameF),(60,.pure setF),(180,.full B_z1z)]
theorem O_z3z {α:Type} {I:Imm}:OOk (α:=α) Tryz.prog I O_z23:=OOk.cons c_z1 (OOk.cons c_z3k (OOk.cons c_z3o (OOk.cons c_z2o (OOk.cons c_zb (OOk.cons c_z1z (OOk.nil))))))
noncomputable abbrev B_z23 {α:Type}:FF α:=byBody T_z23 O_z23 ⟨40,[]⟩ Tryz.f157
theorem c_z23 {α:Type} {I:Imm}:OrcOk (α:=α) Tryz.prog I 157 (.full B_z23):=orc_body T_z3z O_z3z ⟨40,[]⟩ Tryz.func157 (by kernel_rfl) (by kernel_rfl) (by kernel_rfl)
abbrev T_z2m : TE:=[(73,⟨.nilp,1,8,.sc (.pointer 143),none⟩)]
theorem T_z40 : Prg Tryz.prog T_z2m:=⟨(.cons te_73 (TEok.nil _)),by kernel_rfl⟩
noncomputable abbrev O_z2m {α:Type}:ORC α:=[(180,.full B_z1z),(157,.full B_z23)]
theorem O_z40 {α:Type} {I:Imm}:OOk (α:=α) Tryz.prog I O_z2m:=OOk.cons c_z1z (OOk.cons c_z23 (OOk.nil))
noncomputable abbrev B_z2m {α:Type}:FF α:=byBody T_z2m O_z2m ⟨40,[]⟩ Tryz.f162
theorem c_z2m {α:Type} {I:Imm}:OrcOk (α:=α) Tryz.prog I 162 (.full B_z2m):=orc_body T_z40 O_z40 ⟨40,[]⟩ Tryz.func162 (by kernel_rfl) (by kernel_rfl) (by kernel_rfl)
theorem te_223 : TyOk Tryz.prog 223 ⟨.agg [.bool false,.bool false,.bool false,.bool false,.int .i64 0,.int .i64 0,.int .i64 0,.int .i64 0],8,40,.st [(0,1,false),(1,1,false),(2,1,false),(3,1,false),(4,1,false),(5,1,false),(6,1,false),(7,1,false)],some (.st [(0,1,false,.bl),(1,1,false,.bl),(2,1,false,.bl),(3,1,false,.bl),(4,1,false,.it .i64),(5,1,false,.it .i64),(6,1,false,.it .i64),(7,1,false,.it .i64)])⟩:=⟨fun _=>by kernel_rfl,⟨rfl,rfl,fun _ _=>by simp [Wf,Wfs]⟩,⟨_,Tryz.underlying223,by kernel_rfl⟩,fun _ h=>by cases h; exact ⟨by kernel_rfl,by kernel_rfl⟩⟩
abbrev T_z2f : TE:=[(3,⟨.int .i64 0,1,8,.sc (.int .i64),none⟩),(4,⟨.bool false,1,1,.sc (.bool),none⟩),(22,⟨.int .u64 0,1,8,.sc (.int .u64),none⟩),(223,⟨.agg [.bool false,.bool false,.bool false,.bool false,.int .i64 0,.int .i64 0,.int .i64 0,.int .i64 0],8,40,.st [(0,1,false),(1,1,false),(2,1,false),(3,1,false),(4,1,false),(5,1,false),(6,1,false),(7,1,false)],some (.st [(0,1,false,.bl),(1,1,false,.bl),(2,1,false,.bl),(3,1,false,.bl),(4,1,false,.it .i64),(5,1,false,.it .i64),(6,1,false,.it .i64),(7,1,false,.it .i64)])⟩)]
theorem T_z41 : Prg Tryz.prog T_z2f:=⟨(.cons te_3 (.cons te_4 (.cons te_22 (.cons te_223 (TEok.nil _))))),by kernel_rfl⟩
noncomputable abbrev O_z2f {α:Type}:ORC α:=[(162,.full B_z2m),(61,.pure zextF),(159,.pure mayF),(161,.pure frameF),(160,.pure joinF)]
theorem O_z41 {α:Type} {I:Imm}:OOk (α:=α) Tryz.prog I O_z2f:=OOk.cons c_z2m (OOk.cons c_zk (OOk.cons c_z3j (OOk.cons c_z2o (OOk.cons c_z3l (OOk.nil)))))
noncomputable abbrev B_z2f {α:Type}:FF α:=byBody T_z2f O_z2f ⟨40,[]⟩ Tryz.f121
theorem c_z2f {α:Type} {I:Imm}:OrcOk (α:=α) Tryz.prog I 121 (.full B_z2f):=orc_body T_z41 O_z41 ⟨40,[]⟩ Tryz.func121 (by kernel_rfl) (by kernel_rfl) (by kernel_rfl)
theorem te_265 : TyOk Tryz.prog 265 ⟨.agg [.nilp,.agg [.bool false,.bool false,.bool false,.bool false,.int .i64 0,.int .i64 0,.int .i64 0,.int .i64 0],.int .u64 0],10,56,.st [(0,1,false),(1,8,true),(9,1,false)],none⟩:=⟨fun _=>by kernel_rfl,⟨rfl,rfl,fun _ _=>by simp [Wf,Wfs]⟩,⟨_,Tryz.underlying265,by kernel_rfl⟩,fun _ h=>by cases h⟩
abbrev T_z2j : TE:=[(3,⟨.int .i64 0,1,8,.sc (.int .i64),none⟩),(22,⟨.int .u64 0,1,8,.sc (.int .u64),none⟩),(73,⟨.nilp,1,8,.sc (.pointer 143),none⟩),(223,⟨.agg [.bool false,.bool false,.bool false,.bool false,.int .i64 0,.int .i64 0,.int .i64 0,.int .i64 0],8,40,.st [(0,1,false),(1,1,false),(2,1,false),(3,1,false),(4,1,false),(5,1,false),(6,1,false),(7,1,false)],some (.st [(0,1,false,.bl),(1,1,false,.bl),(2,1,false,.bl),(3,1,false,.bl),(4,1,false,.it .i64),(5,1,false,.it .i64),(6,1,false,.it .i64),(7,1,false,.it .i64)])⟩),(265,⟨.agg [.nilp,.agg [.bool false,.bool false,.bool false,.bool false,.int .i64 0,.int .i64 0,.int .i64 0,.int .i64 0],.int .u64 0],10,56,.st [(0,1,false),(1,8,true),(9,1,false)],none⟩)]
theorem T_z42 : Prg Tryz.prog T_z2j:=⟨(.cons te_3 (.cons te_22 (.cons te_73 (.cons te_223 (.cons te_265 (TEok.nil _)))))),by kernel_rfl⟩
noncomputable abbrev O_z2j {α:Type}:ORC α:=[(121,.full B_z2f),(178,.full B_z2e)]
theorem O_z42 {α:Type} {I:Imm}:OOk (α:=α) Tryz.prog I O_z2j:=OOk.cons c_z2f (OOk.cons c_z2e (OOk.nil))
noncomputable abbrev B_z2j {α:Type}:FF α:=byBody T_z2j O_z2j ⟨40,[]⟩ Tryz.f158
theorem c_z2j {α:Type} {I:Imm}:OrcOk (α:=α) Tryz.prog I 158 (.full B_z2j):=orc_body T_z42 O_z42 ⟨40,[]⟩ Tryz.func158 (by kernel_rfl) (by kernel_rfl) (by kernel_rfl)
theorem te_226 : TyOk Tryz.prog 226 ⟨.agg [.int .u64 0,.int .i64 0,.bool false],3,24,.st [(0,1,false),(1,1,false),(2,1,false)],some (.st [(0,1,false,.it .u64),(1,1,false,.it .i64),(2,1,false,.bl)])⟩:=⟨fun _=>by kernel_rfl,⟨rfl,rfl,fun _ _=>by simp [Wf,Wfs]⟩,⟨_,Tryz.underlying226,by kernel_rfl⟩,fun _ h=>by cases h; exact ⟨by kernel_rfl,by kernel_rfl⟩⟩
abbrev T_z2n : TE:=[(3,⟨.int .i64 0,1,8,.sc (.int .i64),none⟩),(4,⟨.bool false,1,1,.sc (.bool),none⟩),(22,⟨.int .u64 0,1,8,.sc (.int .u64),none⟩),(42,⟨.agg [.int .u64 0,.int .u64 0,.int .u64 0,.bool false],4,32,.st [(0,1,false),(1,1,false),(2,1,false),(3,1,false)],some (.st [(0,1,false,.it .u64),(1,1,false,.it .u64),(2,1,false,.it .u64),(3,1,false,.bl)])⟩),(223,⟨.agg [.bool false,.bool false,.bool false,.bool false,.int .i64 0,.int .i64 0,.int .i64 0,.int .i64 0],8,40,.st [(0,1,false),(1,1,false),(2,1,false),(3,1,false),(4,1,false),(5,1,false),(6,1,false),(7,1,false)],some (.st [(0,1,false,.bl),(1,1,false,.bl),(2,1,false,.bl),(3,1,false,.bl),(4,1,false,.it .i64),(5,1,false,.it .i64),(6,1,false,.it .i64),(7,1,false,.it .i64)])⟩),(226,⟨.agg [.int .u64 0,.int .i64 0,.bool false],3,24,.st [(0,1,false),(1,1,false),(2,1,false)],some (.st [(0,1,false,.it .u64),(1,1,false,.it .i64),(2,1,false,.bl)])⟩),(265,⟨.agg [.nilp,.agg [.bool false,.bool false,.bool false,.bool false,.int .i64 0,.int .i64 0,.int .i64 0,.int .i64 0],.int .u64 0],10,56,.st [(0,1,false),(1,8,true),(9,1,false)],none⟩)]
theorem T_z43 : Prg Tryz.prog T_z2n:=⟨(.cons te_3 (.cons te_4 (.cons te_22 (.cons te_42 (.cons te_223 (.cons te_226 (.cons te_265 (TEok.nil _)))))))),by kernel_rfl⟩
noncomputable abbrev O_z2n {α:Type}:ORC α:=[(158,.full B_z2j),(157,.full B_z23),(61,.pure zextF),(122,.pure ofF),(159,.pure mayF),(118,.pure pageF),(161,.pure frameF),(160,.pure joinF)]
theorem O_z43 {α:Type} {I:Imm}:OOk (α:=α) Tryz.prog I O_z2n:=OOk.cons c_z2j (OOk.cons c_z23 (OOk.cons c_zk (OOk.cons c_z3n (OOk.cons c_z3j (OOk.cons c_z3m (OOk.cons c_z2o (OOk.cons c_z3l (OOk.nil))))))))
noncomputable abbrev B_z2n {α:Type}:FF α:=byBody T_z2n O_z2n ⟨40,[]⟩ Tryz.f120
theorem c_z2n {α:Type} {I:Imm}:OrcOk (α:=α) Tryz.prog I 120 (.full B_z2n):=orc_body T_z43 O_z43 ⟨40,[]⟩ Tryz.func120 (by kernel_rfl) (by kernel_rfl) (by kernel_rfl)
theorem te_196 : TyOk Tryz.prog 196 ⟨.agg [.bool false,.bool false,.int .i64 0,.int .i64 0,.int .i64 0,.int .i64 0,.int .i64 0,.int .i64 0,.int .i64 0],9,64,.st [(0,1,false),(1,1,false),(2,1,false),(3,1,false),(4,1,false),(5,1,false),(6,1,false),(7,1,false),(8,1,false)],some (.st [(0,1,false,.bl),(1,1,false,.bl),(2,1,false,.it .i64),(3,1,false,.it .i64),(4,1,false,.it .i64),(5,1,false,.it .i64),(6,1,false,.it .i64),(7,1,false,.it .i64),(8,1,false,.it .i64)])⟩:=⟨fun _=>by kernel_rfl,⟨rfl,rfl,fun _ _=>by simp [Wf,Wfs]⟩,⟨_,Tryz.underlying196,by kernel_rfl⟩,fun _ h=>by cases h; exact ⟨by kernel_rfl,by kernel_rfl⟩⟩
abbrev T_z2k : TE:=[(3,⟨.int .i64 0,1,8,.sc (.int .i64),none⟩),(4,⟨.bool false,1,1,.sc (.bool),none⟩),(22,⟨.int .u64 0,1,8,.sc (.int .u64),none⟩),(26,⟨.agg [.ints .u64 32 (fun _=>0),.int .u64 0,.int .i64 0,.bool false,.ints .u64 29 (fun _=>0),.int .u64 0],65,520,.st [(0,32,true),(32,1,false),(33,1,false),(34,1,false),(35,29,true),(64,1,false)],some (.st [(0,32,true,.ar 32 1 (.it .u64)),(32,1,false,.it .u64),(33,1,false,.it .i64),(34,1,false,.bl),(35,29,true,.ar 29 1 (.it .u64)),(64,1,false,.it .u64)])⟩),(42,⟨.agg [.int .u64 0,.int .u64 0,.int .u64 0,.bool false],4,32,.st [(0,1,false),(1,1,false),(2,1,false),(3,1,false)],some (.st [(0,1,false,.it .u64),(1,1,false,.it .u64),(2,1,false,.it .u64),(3,1,false,.bl)])⟩),(196,⟨.agg [.bool false,.bool false,.int .i64 0,.int .i64 0,.int .i64 0,.int .i64 0,.int .i64 0,.int .i64 0,.int .i64 0],9,64,.st [(0,1,false),(1,1,false),(2,1,false),(3,1,false),(4,1,false),(5,1,false),(6,1,false),(7,1,false),(8,1,false)],some (.st [(0,1,false,.bl),(1,1,false,.bl),(2,1,false,.it .i64),(3,1,false,.it .i64),(4,1,false,.it .i64),(5,1,false,.it .i64),(6,1,false,.it .i64),(7,1,false,.it .i64),(8,1,false,.it .i64)])⟩),(223,⟨.agg [.bool false,.bool false,.bool false,.bool false,.int .i64 0,.int .i64 0,.int .i64 0,.int .i64 0],8,40,.st [(0,1,false),(1,1,false),(2,1,false),(3,1,false),(4,1,false),(5,1,false),(6,1,false),(7,1,false)],some (.st [(0,1,false,.bl),(1,1,false,.bl),(2,1,false,.bl),(3,1,false,.bl),(4,1,false,.it .i64),(5,1,false,.it .i64),(6,1,false,.it .i64),(7,1,false,.it .i64)])⟩),(226,⟨.agg [.int .u64 0,.int .i64 0,.bool false],3,24,.st [(0,1,false),(1,1,false),(2,1,false)],some (.st [(0,1,false,.it .u64),(1,1,false,.it .i64),(2,1,false,.bl)])⟩)]
theorem T_z45 : Prg Tryz.prog T_z2k:=⟨(.cons te_3 (.cons te_4 (.cons te_22 (.cons te_26 (.cons te_42 (.cons te_196 (.cons te_223 (.cons te_226 (TEok.nil _))))))))),by kernel_rfl⟩
noncomputable abbrev O_z2k {α:Type}:ORC α:=[(117,.pure askF),(118,.pure pageF),(119,.pure guestF),(120,.full B_z2n),(121,.full B_z2f),(122,.pure ofF)]
theorem O_z45 {α:Type} {I:Imm}:OOk (α:=α) Tryz.prog I O_z2k:=OOk.cons c_z44 (OOk.cons c_z3m (OOk.cons c_z3q (OOk.cons c_z2n (OOk.cons c_z2f (OOk.cons c_z3n (OOk.nil))))))
noncomputable abbrev B_z2k {α:Type}:FF α:=byBody T_z2k O_z2k ⟨40,[]⟩ Tryz.f92
theorem c_z2k {α:Type} {I:Imm}:OrcOk (α:=α) Tryz.prog I 92 (.full B_z2k):=orc_body T_z45 O_z45 ⟨40,[]⟩ Tryz.func92 (by kernel_rfl) (by kernel_rfl) (by kernel_rfl)
abbrev T_z3b : TE:=[(22,⟨.int .u64 0,1,8,.sc (.int .u64),none⟩)]
theorem T_z6q : Prg Tryz.prog T_z3b:=⟨(.cons te_22 (TEok.nil _)),by kernel_rfl⟩
noncomputable abbrev O_z3b {α:Type}:ORC α:=[]
theorem O_z6q {α:Type} {I:Imm}:OOk (α:=α) Tryz.prog I O_z3b:=OOk.nil
noncomputable abbrev B_z3b {α:Type}:FF α:=byBody T_z3b O_z3b ⟨40,[]⟩ Tryz.f123
theorem c_z3b {α:Type} {I:Imm}:OrcOk (α:=α) Tryz.prog I 123 (.full B_z3b):=orc_body T_z6q O_z6q ⟨40,[]⟩ Tryz.func123 (by kernel_rfl) (by kernel_rfl) (by kernel_rfl)
theorem te_122 : TyOk Tryz.prog 122 ⟨.arr 3 4 (fun _=>.agg [.nils,.nils,.int .i64 0]),12,224,.ar 4 121 3 true,none⟩:=⟨fun _=>by kernel_rfl,⟨rfl,rfl,fun _ _=>by simp [Wf,Wfs]⟩,⟨Tryz.underlying122,by kernel_rfl,by kernel_rfl⟩,fun _ h=>by cases h⟩
abbrev T_z3c : TE:=[(22,⟨.int .u64 0,1,8,.sc (.int .u64),none⟩),(122,⟨.arr 3 4 (fun _=>.agg [.nils,.nils,.int .i64 0]),12,224,.ar 4 121 3 true,none⟩),(124,⟨.agg [.nilp,.agg [.agg [],.agg [],.int .u64 0],.int .u64 0,.arr 3 4 (fun _=>.agg [.nils,.nils,.int .i64 0])],15,248,.st [(0,1,false),(1,1,true),(2,1,false),(3,12,true)],none⟩)]
theorem T_z6r : Prg Tryz.prog T_z3c:=⟨(.cons te_22 (.cons te_122 (.cons te_124 (TEok.nil _)))),by kernel_rfl⟩
noncomputable abbrev O_z3c {α:Type}:ORC α:=[]
theorem O_z6r {α:Type} {I:Imm}:OOk (α:=α) Tryz.prog I O_z3c:=OOk.nil
noncomputable abbrev B_z3c {α:Type}:FF α:=byBody T_z3c O_z3c ⟨40,[]⟩ Tryz.f181
theorem c_z3c {α:Type} {I:Imm}:OrcOk (α:=α) Tryz.prog I 181 (.full B_z3c):=orc_body T_z6r O_z6r ⟨40,[]⟩ Tryz.func181 (by kernel_rfl) (by kernel_rfl) (by kernel_rfl)
abbrev T_z2s : TE:=[(3,⟨.int .i64 0,1,8,.sc (.int .i64),none⟩),(22,⟨.int .u64 0,1,8,.sc (.int .u64),none⟩)]
theorem T_z6s : Prg Tryz.prog T_z2s:=⟨(.cons te_3 (.cons te_22 (TEok.nil _))),by kernel_rfl⟩
noncomputable abbrev O_z2s {α:Type}:ORC α:=[(181,.full B_z3c)]
theorem O_z6s {α:Type} {I:Imm}:OOk (α:=α) Tryz.prog I O_z2s:=OOk.cons c_z3c (OOk.nil)
noncomputable abbrev B_z2s {α:Type}:FF α:=byBody T_z2s O_z2s ⟨40,[]⟩ Tryz.f164
theorem c_z2s {α:Type} {I:Imm}:OrcOk (α:=α) Tryz.prog I 164 (.full B_z2s):=orc_body T_z6s O_z6s ⟨40,[]⟩ Tryz.func164 (by kernel_rfl) (by kernel_rfl) (by kernel_rfl)
theorem te_121 : TyOk Tryz.prog 121 ⟨.agg [.nils,.nils,.int .i64 0],3,56,.st [(0,1,false),(1,1,false),(2,1,false)],none⟩:=⟨fun _=>by kernel_rfl,⟨rfl,rfl,fun _ _=>by simp [Wf,Wfs]⟩,⟨_,Tryz.underlying121,by kernel_rfl⟩,fun _ h=>by cases h⟩
theorem te_272 : TyOk Tryz.prog 272 ⟨.nilp,1,8,.sc (.pointer 121),none⟩:=⟨fun _=>by kernel_rfl,⟨rfl,rfl,fun _ _=>by simp [Wf,Wfs]⟩,⟨Tryz.underlying272,rfl⟩,fun _ h=>by cases h⟩
abbrev T_z3d : TE:=[(3,⟨.int .i64 0,1,8,.sc (.int .i64),none⟩),(5,⟨.int .u8 0,1,1,.sc (.int .u8),none⟩),(22,⟨.int .u64 0,1,8,.sc (.int .u64),none⟩),(52,⟨.nils,1,24,.sc (.slice 5),none⟩),(70,⟨.int .i64 0,1,8,.sc (.int .i64),none⟩),(73,⟨.nilp,1,8,.sc (.pointer 143),none⟩),(121,⟨.agg [.nils,.nils,.int .i64 0],3,56,.st [(0,1,false),(1,1,false),(2,1,false)],none⟩),(124,⟨.agg [.nilp,.agg [.agg [],.agg [],.int .u64 0],.int .u64 0,.arr 3 4 (fun _=>.agg [.nils,.nils,.int .i64 0])],15,248,.st [(0,1,false),(1,1,true),(2,1,false),(3,12,true)],none⟩),(272,⟨.nilp,1,8,.sc (.pointer 121),none⟩)]
theorem T_z6t : Prg Tryz.prog T_z3d:=⟨(.cons te_3 (.cons te_5 (.cons te_22 (.cons te_52 (.cons te_70 (.cons te_73 (.cons te_121 (.cons te_124 (.cons te_272 (TEok.nil _)))))))))),by kernel_rfl⟩
noncomputable abbrev O_z3d {α:Type}:ORC α:=[(164,.full B_z2s),(59,.full B_z2h)]
theorem O_z6t {α:Type} {I:Imm}:OOk (α:=α) Tryz.prog I O_z3d:=OOk.cons c_z2s (OOk.cons c_z2h (OOk.nil))
noncomputable abbrev B_z3d {α:Type}:FF α:=byBody T_z3d O_z3d ⟨40,[]⟩ Tryz.f124
theorem c_z3d {α:Type} {I:Imm}:OrcOk (α:=α) Tryz.prog I 124 (.full B_z3d):=orc_body T_z6t O_z6t ⟨40,[]⟩ Tryz.func124 (by kernel_rfl) (by kernel_rfl) (by kernel_rfl)
abbrev T_z3e : TE:=[(3,⟨.int .i64 0,1,8,.sc (.int .i64),none⟩),(5,⟨.int .u8 0,1,1,.sc (.int .u8),none⟩),(22,⟨.int .u64 0,1,8,.sc (.int .u64),none⟩),(52,⟨.nils,1,24,.sc (.slice 5),none⟩),(70,⟨.int .i64 0,1,8,.sc (.int .i64),none⟩),(73,⟨.nilp,1,8,.sc (.pointer 143),none⟩),(121,⟨.agg [.nils,.nils,.int .i64 0],3,56,.st [(0,1,false),(1,1,false),(2,1,false)],none⟩),(124,⟨.agg [.nilp,.agg [.agg [],.agg [],.int .u64 0],.int .u64 0,.arr 3 4 (fun _=>.agg [.nils,.nils,.int .i64 0])],15,248,.st [(0,1,false),(1,1,true),(2,1,false),(3,12,true)],none⟩),(272,⟨.nilp,1,8,.sc (.pointer 121),none⟩)]
theorem T_z6u : Prg Tryz.prog T_z3e:=⟨(.cons te_3 (.cons te_5 (.cons te_22 (.cons te_52 (.cons te_70 (.cons te_73 (.cons te_121 (.cons te_124 (.cons te_272 (TEok.nil _)))))))))),by kernel_rfl⟩
noncomputable abbrev O_z3e {α:Type}:ORC α:=[(71,.full B_sync_atomic_Uint64_Load),(164,.full B_z2s),(165,.full B_z2g)]
theorem O_z6u {α:Type} {I:Imm}:OOk (α:=α) Tryz.prog I O_z3e:=OOk.cons c_sync_atomic_Uint64_Load (OOk.cons c_z2s (OOk.cons c_z2g (OOk.nil)))
noncomputable abbrev B_z3e {α:Type}:FF α:=byBody T_z3e O_z3e ⟨40,[]⟩ Tryz.f125
theorem c_z3e {α:Type} {I:Imm}:OrcOk (α:=α) Tryz.prog I 125 (.full B_z3e):=orc_body T_z6u O_z6u ⟨40,[]⟩ Tryz.func125 (by kernel_rfl) (by kernel_rfl) (by kernel_rfl)
abbrev T_z2t : TE:=[(3,⟨.int .i64 0,1,8,.sc (.int .i64),none⟩),(42,⟨.agg [.int .u64 0,.int .u64 0,.int .u64 0,.bool false],4,32,.st [(0,1,false),(1,1,false),(2,1,false),(3,1,false)],some (.st [(0,1,false,.it .u64),(1,1,false,.it .u64),(2,1,false,.it .u64),(3,1,false,.bl)])⟩)]
theorem T_z6v : Prg Tryz.prog T_z2t:=⟨(.cons te_3 (.cons te_42 (TEok.nil _))),by kernel_rfl⟩
noncomputable abbrev O_z2t {α:Type}:ORC α:=[(123,.full B_z3b),(124,.full B_z3d),(125,.full B_z3e),(115,.pure (ad_z1w sBad))]
theorem O_z6v {α:Type} {I:Imm}:OOk (α:=α) Tryz.prog I O_z2t:=OOk.cons c_z3b (OOk.cons c_z3d (OOk.cons c_z3e (OOk.cons c_z1w (OOk.nil))))
noncomputable abbrev B_z2t {α:Type}:FF α:=byBody T_z2t O_z2t ⟨40,[]⟩ Tryz.f94
theorem c_z2t {α:Type} {I:Imm}:OrcOk (α:=α) Tryz.prog I 94 (.full B_z2t):=orc_body T_z6v O_z6v ⟨40,[]⟩ Tryz.func94 (by kernel_rfl) (by kernel_rfl) (by kernel_rfl)
abbrev T_z2u : TE:=[(26,⟨.agg [.ints .u64 32 (fun _=>0),.int .u64 0,.int .i64 0,.bool false,.ints .u64 29 (fun _=>0),.int .u64 0],65,520,.st [(0,32,true),(32,1,false),(33,1,false),(34,1,false),(35,29,true),(64,1,false)],some (.st [(0,32,true,.ar 32 1 (.it .u64)),(32,1,false,.it .u64),(33,1,false,.it .i64),(34,1,false,.bl),(35,29,true,.ar 29 1 (.it .u64)),(64,1,false,.it .u64)])⟩),(42,⟨.agg [.int .u64 0,.int .u64 0,.int .u64 0,.bool false],4,32,.st [(0,1,false),(1,1,false),(2,1,false),(3,1,false)],some (.st [(0,1,false,.it .u64),(1,1,false,.it .u64),(2,1,false,.it .u64),(3,1,false,.bl)])⟩),(196,⟨.agg [.bool false,.bool false,.int .i64 0,.int .i64 0,.int .i64 0,.int .i64 0,.int .i64 0,.int .i64 0,.int .i64 0],9,64,.st [(0,1,false),(1,1,false),(2,1,false),(3,1,false),(4,1,false),(5,1,false),(6,1,false),(7,1,false),(8,1,false)],some (.st [(0,1,false,.bl),(1,1,false,.bl),(2,1,false,.it .i64),(3,1,false,.it .i64),(4,1,false,.it .i64),(5,1,false,.it .i64),(6,1,false,.it .i64),(7,1,false,.it .i64),(8,1,false,.it .i64)])⟩)]
theorem T_z6w : Prg Tryz.prog T_z2u:=⟨(.cons te_26 (.cons te_42 (.cons te_196 (TEok.nil _)))),by kernel_rfl⟩
noncomputable abbrev O_z2u {α:Type}:ORC α:=[(91,.full B_z2q),(93,.full B_z2r),(92,.full B_z2k),(94,.full B_z2t)]
theorem O_z6w {α:Type} {I:Imm}:OOk (α:=α) Tryz.prog I O_z2u:=OOk.cons c_z2q (OOk.cons c_z2r (OOk.cons c_z2k (OOk.cons c_z2t (OOk.nil))))
noncomputable abbrev B_z2u {α:Type}:FF α:=byBody T_z2u O_z2u ⟨40,[]⟩ Tryz.f73
theorem c_z2u {α:Type} {I:Imm}:OrcOk (α:=α) Tryz.prog I 73 (.full B_z2u):=orc_body T_z6w O_z6w ⟨40,[]⟩ Tryz.func73 (by kernel_rfl) (by kernel_rfl) (by kernel_rfl)
abbrev T_z3f : TE:=[(3,⟨.int .i64 0,1,8,.sc (.int .i64),none⟩),(4,⟨.bool false,1,1,.sc (.bool),none⟩),(22,⟨.int .u64 0,1,8,.sc (.int .u64),none⟩),(26,⟨.agg [.ints .u64 32 (fun _=>0),.int .u64 0,.int .i64 0,.bool false,.ints .u64 29 (fun _=>0),.int .u64 0],65,520,.st [(0,32,true),(32,1,false),(33,1,false),(34,1,false),(35,29,true),(64,1,false)],some (.st [(0,32,true,.ar 32 1 (.it .u64)),(32,1,false,.it .u64),(33,1,false,.it .i64),(34,1,false,.bl),(35,29,true,.ar 29 1 (.it .u64)),(64,1,false,.it .u64)])⟩),(40,⟨.int .u32 0,1,4,.sc (.int .u32),none⟩),(42,⟨.agg [.int .u64 0,.int .u64 0,.int .u64 0,.bool false],4,32,.st [(0,1,false),(1,1,false),(2,1,false),(3,1,false)],some (.st [(0,1,false,.it .u64),(1,1,false,.it .u64),(2,1,false,.it .u64),(3,1,false,.bl)])⟩)]
theorem T_z6x : Prg Tryz.prog T_z3f:=⟨(.cons te_3 (.cons te_4 (.cons te_22 (.cons te_26 (.cons te_40 (.cons te_42 (TEok.nil _))))))),by kernel_rfl⟩
noncomputable abbrev O_z3f {α:Type}:ORC α:=[(73,.full B_z2u)]
theorem O_z6x {α:Type} {I:Imm}:OOk (α:=α) Tryz.prog I O_z3f:=OOk.cons c_z2u (OOk.nil)
noncomputable abbrev B_z3f {α:Type}:FF α:=byBody T_z3f O_z3f ⟨40,[]⟩ Tryz.f51
theorem c_z3f {α:Type} {I:Imm}:OrcOk (α:=α) Tryz.prog I 51 (.full B_z3f):=orc_body T_z6x O_z6x ⟨40,[]⟩ Tryz.func51 (by kernel_rfl) (by kernel_rfl) (by kernel_rfl)
abbrev T_z3g : TE:=[(22,⟨.int .u64 0,1,8,.sc (.int .u64),none⟩),(26,⟨.agg [.ints .u64 32 (fun _=>0),.int .u64 0,.int .i64 0,.bool false,.ints .u64 29 (fun _=>0),.int .u64 0],65,520,.st [(0,32,true),(32,1,false),(33,1,false),(34,1,false),(35,29,true),(64,1,false)],some (.st [(0,32,true,.ar 32 1 (.it .u64)),(32,1,false,.it .u64),(33,1,false,.it .i64),(34,1,false,.bl),(35,29,true,.ar 29 1 (.it .u64)),(64,1,false,.it .u64)])⟩),(42,⟨.agg [.int .u64 0,.int .u64 0,.int .u64 0,.bool false],4,32,.st [(0,1,false),(1,1,false),(2,1,false),(3,1,false)],some (.st [(0,1,false,.it .u64),(1,1,false,.it .u64),(2,1,false,.it .u64),(3,1,false,.bl)])⟩),(196,⟨.agg [.bool false,.bool false,.int .i64 0,.int .i64 0,.int .i64 0,.int .i64 0,.int .i64 0,.int .i64 0,.int .i64 0],9,64,.st [(0,1,false),(1,1,false),(2,1,false),(3,1,false),(4,1,false),(5,1,false),(6,1,false),(7,1,false),(8,1,false)],some (.st [(0,1,false,.bl),(1,1,false,.bl),(2,1,false,.it .i64),(3,1,false,.it .i64),(4,1,false,.it .i64),(5,1,false,.it .i64),(6,1,false,.it .i64),(7,1,false,.it .i64),(8,1,false,.it .i64)])⟩),(221,⟨.ints .u64 3 (fun _=>0),3,24,.ar 3 22 1 false,some (.ar 3 1 (.it .u64))⟩)]
theorem T_z6y : Prg Tryz.prog T_z3g:=⟨(.cons te_22 (.cons te_26 (.cons te_42 (.cons te_196 (.cons te_221 (TEok.nil _)))))),by kernel_rfl⟩
noncomputable abbrev O_z3g {α:Type}:ORC α:=[(91,.full B_z2q),(93,.full B_z2r),(92,.full B_z2k),(173,.pure (ad_z28 s_access_sort)),(94,.full B_z2t),(144,.pure (ad_z21 s_alu_Extend))]
theorem O_z6y {α:Type} {I:Imm}:OOk (α:=α) Tryz.prog I O_z3g:=OOk.cons c_z2q (OOk.cons c_z2r (OOk.cons c_z2k (OOk.cons c_z28 (OOk.cons c_z2t (OOk.cons c_z21 (OOk.nil))))))
noncomputable abbrev B_z3g {α:Type}:FF α:=byBody T_z3g O_z3g ⟨40,[]⟩ Tryz.f142
theorem c_z3g {α:Type} {I:Imm}:OrcOk (α:=α) Tryz.prog I 142 (.full B_z3g):=orc_body T_z6y O_z6y ⟨40,[]⟩ Tryz.func142 (by kernel_rfl) (by kernel_rfl) (by kernel_rfl)
theorem te_23 : TyOk Tryz.prog 23 ⟨.ints .u64 32 (fun _=>0),32,256,.ar 32 22 1 false,some (.ar 32 1 (.it .u64))⟩:=⟨fun _=>by kernel_rfl,⟨rfl,rfl,fun _ _=>by simp [Wf,Wfs]⟩,⟨Tryz.underlying23,by kernel_rfl,by kernel_rfl⟩,fun _ h=>by cases h; exact ⟨by kernel_rfl,by kernel_rfl⟩⟩
abbrev T_z3h : TE:=[(2,⟨.int .i64 0,1,8,.sc (.int .i64),none⟩),(3,⟨.int .i64 0,1,8,.sc (.int .i64),none⟩),(4,⟨.bool false,1,1,.sc (.bool),none⟩),(22,⟨.int .u64 0,1,8,.sc (.int .u64),none⟩),(23,⟨.ints .u64 32 (fun _=>0),32,256,.ar 32 22 1 false,some (.ar 32 1 (.it .u64))⟩),(26,⟨.agg [.ints .u64 32 (fun _=>0),.int .u64 0,.int .i64 0,.bool false,.ints .u64 29 (fun _=>0),.int .u64 0],65,520,.st [(0,32,true),(32,1,false),(33,1,false),(34,1,false),(35,29,true),(64,1,false)],some (.st [(0,32,true,.ar 32 1 (.it .u64)),(32,1,false,.it .u64),(33,1,false,.it .i64),(34,1,false,.bl),(35,29,true,.ar 29 1 (.it .u64)),(64,1,false,.it .u64)])⟩),(33,⟨.agg [.int .i64 0,.int .i64 0,.int .i64 0,.int .i64 0,.int .i64 0,.int .i64 0],6,48,.st [(0,1,false),(1,1,false),(2,1,false),(3,1,false),(4,1,false),(5,1,false)],some (.st [(0,1,false,.it .i64),(1,1,false,.it .i64),(2,1,false,.it .i64),(3,1,false,.it .i64),(4,1,false,.it .i64),(5,1,false,.it .i64)])⟩),(42,⟨.agg [.int .u64 0,.int .u64 0,.int .u64 0,.bool false],4,32,.st [(0,1,false),(1,1,false),(2,1,false),(3,1,false)],some (.st [(0,1,false,.it .u64),(1,1,false,.it .u64),(2,1,false,.it .u64),(3,1,false,.bl)])⟩)]
theorem T_z6z : Prg Tryz.prog T_z3h:=⟨(.cons te_2 (.cons te_3 (.cons te_4 (.cons te_22 (.cons te_23 (.cons te_26 (.cons te_33 (.cons te_42 (TEok.nil _))))))))),by kernel_rfl⟩
noncomputable abbrev O_z3h {α:Type}:ORC α:=[(100,.pure (ad_z4 s_insn_Class)),(98,.pure (ad_zd s_insn_Is)),(69,.pure bitF),(142,.full B_z3g),(143,.pure (ad_z16 s_insn_Size)),(73,.full B_z2u),(144,.pure (ad_z21 s_alu_Extend))]
theorem O_z6z {α:Type} {I:Imm}:OOk (α:=α) Tryz.prog I O_z3h:=OOk.cons c_z4 (OOk.cons c_zd (OOk.cons c_z3 (OOk.cons c_z3g (OOk.cons c_z16 (OOk.cons c_z2u (OOk.cons c_z21 (OOk.nil)))))))
noncomputable abbrev B_z3h {α:Type}:FF α:=byBody T_z3h O_z3h ⟨40,[]⟩ Tryz.f108
theorem c_z3h {α:Type} {I:Imm}:OrcOk (α:=α) Tryz.prog I 108 (.full B_z3h):=orc_body T_z6z O_z6z ⟨40,[]⟩ Tryz.func108 (by kernel_rfl) (by kernel_rfl) (by kernel_rfl)
theorem te_173 : TyOk Tryz.prog 173 ⟨.agg [.agg [.ints .u64 32 (fun _=>0),.int .u64 0,.int .i64 0,.bool false,.ints .u64 29 (fun _=>0),.int .u64 0],.int .u64 0,.agg [.int .u64 0,.int .u64 0,.int .u64 0,.bool false],.bool false],71,568,.st [(0,65,true),(65,1,false),(66,4,true),(70,1,false)],some (.st [(0,65,true,.st [(0,32,true,.ar 32 1 (.it .u64)),(32,1,false,.it .u64),(33,1,false,.it .i64),(34,1,false,.bl),(35,29,true,.ar 29 1 (.it .u64)),(64,1,false,.it .u64)]),(65,1,false,.it .u64),(66,4,true,.st [(0,1,false,.it .u64),(1,1,false,.it .u64),(2,1,false,.it .u64),(3,1,false,.bl)]),(70,1,false,.bl)])⟩:=⟨fun _=>by kernel_rfl,⟨rfl,rfl,fun _ _=>by simp [Wf,Wfs]⟩,⟨_,Tryz.underlying173,by kernel_rfl⟩,fun _ h=>by cases h; exact ⟨by kernel_rfl,by kernel_rfl⟩⟩
abbrev T_exec_does : TE:=[(2,⟨.int .i64 0,1,8,.sc (.int .i64),none⟩),(3,⟨.int .i64 0,1,8,.sc (.int .i64),none⟩),(22,⟨.int .u64 0,1,8,.sc (.int .u64),none⟩),(23,⟨.ints .u64 32 (fun _=>0),32,256,.ar 32 22 1 false,some (.ar 32 1 (.it .u64))⟩),(26,⟨.agg [.ints .u64 32 (fun _=>0),.int .u64 0,.int .i64 0,.bool false,.ints .u64 29 (fun _=>0),.int .u64 0],65,520,.st [(0,32,true),(32,1,false),(33,1,false),(34,1,false),(35,29,true),(64,1,false)],some (.st [(0,32,true,.ar 32 1 (.it .u64)),(32,1,false,.it .u64),(33,1,false,.it .i64),(34,1,false,.bl),(35,29,true,.ar 29 1 (.it .u64)),(64,1,false,.it .u64)])⟩),(33,⟨.agg [.int .i64 0,.int .i64 0,.int .i64 0,.int .i64 0,.int .i64 0,.int .i64 0],6,48,.st [(0,1,false),(1,1,false),(2,1,false),(3,1,false),(4,1,false),(5,1,false)],some (.st [(0,1,false,.it .i64),(1,1,false,.it .i64),(2,1,false,.it .i64),(3,1,false,.it .i64),(4,1,false,.it .i64),(5,1,false,.it .i64)])⟩),(42,⟨.agg [.int .u64 0,.int .u64 0,.int .u64 0,.bool false],4,32,.st [(0,1,false),(1,1,false),(2,1,false),(3,1,false)],some (.st [(0,1,false,.it .u64),(1,1,false,.it .u64),(2,1,false,.it .u64),(3,1,false,.bl)])⟩),(173,⟨.agg [.agg [.ints .u64 32 (fun _=>0),.int .u64 0,.int .i64 0,.bool false,.ints .u64 29 (fun _=>0),.int .u64 0],.int .u64 0,.agg [.int .u64 0,.int .u64 0,.int .u64 0,.bool false],.bool false],71,568,.st [(0,65,true),(65,1,false),(66,4,true),(70,1,false)],some (.st [(0,65,true,.st [(0,32,true,.ar 32 1 (.it .u64)),(32,1,false,.it .u64),(33,1,false,.it .i64),(34,1,false,.bl),(35,29,true,.ar 29 1 (.it .u64)),(64,1,false,.it .u64)]),(65,1,false,.it .u64),(66,4,true,.st [(0,1,false,.it .u64),(1,1,false,.it .u64),(2,1,false,.it .u64),(3,1,false,.bl)]),(70,1,false,.bl)])⟩)]
theorem T_exec_does_ok : Prg Tryz.prog T_exec_does:=⟨(.cons te_2 (.cons te_3 (.cons te_22 (.cons te_23 (.cons te_26 (.cons te_33 (.cons te_42 (.cons te_173 (TEok.nil _))))))))),by kernel_rfl⟩
noncomputable abbrev O_exec_does {α:Type}:ORC α:=[(100,.pure (ad_z4 s_insn_Class)),(107,.pure (ad_z27 s_exec_jumps)),(108,.full B_z3h),(109,.pure (ad_z13 s_exec_failed)),(110,.pure (ad_zf s_exec_next)),(111,.pure (ad_z29 s_alu_Do)),(112,.pure (ad_z2a s_exec_calls)),(113,.pure (ad_z2b s_exec_control)),(114,.pure (ad_z2c s_exec_returns))]
theorem O_exec_does_ok {α:Type} {I:Imm}:OOk (α:=α) Tryz.prog I O_exec_does:=OOk.cons c_z4 (OOk.cons c_z27 (OOk.cons c_z3h (OOk.cons c_z13 (OOk.cons c_zf (OOk.cons c_z29 (OOk.cons c_z2a (OOk.cons c_z2b (OOk.cons c_z2c (OOk.nil)))))))))
noncomputable abbrev B_exec_does {α:Type}:FF α:=byBody T_exec_does O_exec_does ⟨40,[]⟩ Tryz.f77
theorem c_exec_does {α:Type} {I:Imm}:OrcOk (α:=α) Tryz.prog I 77 (.full B_exec_does):=orc_body T_exec_does_ok O_exec_does_ok ⟨40,[]⟩ Tryz.func77 (by kernel_rfl) (by kernel_rfl) (by kernel_rfl)
theorem te_44 : TyOk Tryz.prog 44 ⟨.agg [.int .u64 0,.int .u32 0,.int .i64 0,.int .u64 0,.bool false,.agg [.int .u64 0,.int .u64 0,.int .u64 0,.bool false],.int .i64 0,.bool false,.bool false],12,88,.st [(0,1,false),(1,1,false),(2,1,false),(3,1,false),(4,1,false),(5,4,true),(9,1,false),(10,1,false),(11,1,false)],some (.st [(0,1,false,.it .u64),(1,1,false,.it .u32),(2,1,false,.it .i64),(3,1,false,.it .u64),(4,1,false,.bl),(5,4,true,.st [(0,1,false,.it .u64),(1,1,false,.it .u64),(2,1,false,.it .u64),(3,1,false,.bl)]),(9,1,false,.it .i64),(10,1,false,.bl),(11,1,false,.bl)])⟩:=⟨fun _=>by kernel_rfl,⟨rfl,rfl,fun _ _=>by simp [Wf,Wfs]⟩,⟨_,Tryz.underlying44,by kernel_rfl⟩,fun _ h=>by cases h; exact ⟨by kernel_rfl,by kernel_rfl⟩⟩
abbrev T_exec_Do : TE:=[(3,⟨.int .i64 0,1,8,.sc (.int .i64),none⟩),(4,⟨.bool false,1,1,.sc (.bool),none⟩),(22,⟨.int .u64 0,1,8,.sc (.int .u64),none⟩),(23,⟨.ints .u64 32 (fun _=>0),32,256,.ar 32 22 1 false,some (.ar 32 1 (.it .u64))⟩),(26,⟨.agg [.ints .u64 32 (fun _=>0),.int .u64 0,.int .i64 0,.bool false,.ints .u64 29 (fun _=>0),.int .u64 0],65,520,.st [(0,32,true),(32,1,false),(33,1,false),(34,1,false),(35,29,true),(64,1,false)],some (.st [(0,32,true,.ar 32 1 (.it .u64)),(32,1,false,.it .u64),(33,1,false,.it .i64),(34,1,false,.bl),(35,29,true,.ar 29 1 (.it .u64)),(64,1,false,.it .u64)])⟩),(33,⟨.agg [.int .i64 0,.int .i64 0,.int .i64 0,.int .i64 0,.int .i64 0,.int .i64 0],6,48,.st [(0,1,false),(1,1,false),(2,1,false),(3,1,false),(4,1,false),(5,1,false)],some (.st [(0,1,false,.it .i64),(1,1,false,.it .i64),(2,1,false,.it .i64),(3,1,false,.it .i64),(4,1,false,.it .i64),(5,1,false,.it .i64)])⟩),(40,⟨.int .u32 0,1,4,.sc (.int .u32),none⟩),(42,⟨.agg [.int .u64 0,.int .u64 0,.int .u64 0,.bool false],4,32,.st [(0,1,false),(1,1,false),(2,1,false),(3,1,false)],some (.st [(0,1,false,.it .u64),(1,1,false,.it .u64),(2,1,false,.it .u64),(3,1,false,.bl)])⟩),(44,⟨.agg [.int .u64 0,.int .u32 0,.int .i64 0,.int .u64 0,.bool false,.agg [.int .u64 0,.int .u64 0,.int .u64 0,.bool false],.int .i64 0,.bool false,.bool false],12,88,.st [(0,1,false),(1,1,false),(2,1,false),(3,1,false),(4,1,false),(5,4,true),(9,1,false),(10,1,false),(11,1,false)],some (.st [(0,1,false,.it .u64),(1,1,false,.it .u32),(2,1,false,.it .i64),(3,1,false,.it .u64),(4,1,false,.bl),(5,4,true,.st [(0,1,false,.it .u64),(1,1,false,.it .u64),(2,1,false,.it .u64),(3,1,false,.bl)]),(9,1,false,.it .i64),(10,1,false,.bl),(11,1,false,.bl)])⟩),(70,⟨.int .i64 0,1,8,.sc (.int .i64),none⟩),(173,⟨.agg [.agg [.ints .u64 32 (fun _=>0),.int .u64 0,.int .i64 0,.bool false,.ints .u64 29 (fun _=>0),.int .u64 0],.int .u64 0,.agg [.int .u64 0,.int .u64 0,.int .u64 0,.bool false],.bool false],71,568,.st [(0,65,true),(65,1,false),(66,4,true),(70,1,false)],some (.st [(0,65,true,.st [(0,32,true,.ar 32 1 (.it .u64)),(32,1,false,.it .u64),(33,1,false,.it .i64),(34,1,false,.bl),(35,29,true,.ar 29 1 (.it .u64)),(64,1,false,.it .u64)]),(65,1,false,.it .u64),(66,4,true,.st [(0,1,false,.it .u64),(1,1,false,.it .u64),(2,1,false,.it .u64),(3,1,false,.bl)]),(70,1,false,.bl)])⟩)]
theorem T_exec_Do_ok : Prg Tryz.prog T_exec_Do:=⟨(.cons te_3 (.cons te_4 (.cons te_22 (.cons te_23 (.cons te_26 (.cons te_33 (.cons te_40 (.cons te_42 (.cons te_44 (.cons te_70 (.cons te_173 (TEok.nil _)))))))))))),by kernel_rfl⟩
noncomputable abbrev O_exec_Do {α:Type}:ORC α:=[(75,.pure (ad_z26 s_decode_Decode)),(52,.pure (ad_z20 s_exec_Fault)),(76,.pure (ad_zt s_legal_Insn)),(77,.full B_exec_does),(78,.pure (ad_z2d s_insn_Writes))]
theorem O_exec_Do_ok {α:Type} {I:Imm}:OOk (α:=α) Tryz.prog I O_exec_Do:=OOk.cons c_z26 (OOk.cons c_z20 (OOk.cons c_zt (OOk.cons c_exec_does (OOk.cons c_z2d (OOk.nil)))))
noncomputable abbrev B_exec_Do {α:Type}:FF α:=byBody T_exec_Do O_exec_Do ⟨40,[]⟩ Tryz.f53
theorem c_exec_Do {α:Type} {I:Imm}:OrcOk (α:=α) Tryz.prog I 53 (.full B_exec_Do):=orc_body T_exec_Do_ok O_exec_Do_ok ⟨40,[]⟩ Tryz.func53 (by kernel_rfl) (by kernel_rfl) (by kernel_rfl)
abbrev T_isa_Machine_Step : TE:=[(4,⟨.bool false,1,1,.sc (.bool),none⟩),(22,⟨.int .u64 0,1,8,.sc (.int .u64),none⟩),(26,⟨.agg [.ints .u64 32 (fun _=>0),.int .u64 0,.int .i64 0,.bool false,.ints .u64 29 (fun _=>0),.int .u64 0],65,520,.st [(0,32,true),(32,1,false),(33,1,false),(34,1,false),(35,29,true),(64,1,false)],some (.st [(0,32,true,.ar 32 1 (.it .u64)),(32,1,false,.it .u64),(33,1,false,.it .i64),(34,1,false,.bl),(35,29,true,.ar 29 1 (.it .u64)),(64,1,false,.it .u64)])⟩),(42,⟨.agg [.int .u64 0,.int .u64 0,.int .u64 0,.bool false],4,32,.st [(0,1,false),(1,1,false),(2,1,false),(3,1,false)],some (.st [(0,1,false,.it .u64),(1,1,false,.it .u64),(2,1,false,.it .u64),(3,1,false,.bl)])⟩),(44,⟨.agg [.int .u64 0,.int .u32 0,.int .i64 0,.int .u64 0,.bool false,.agg [.int .u64 0,.int .u64 0,.int .u64 0,.bool false],.int .i64 0,.bool false,.bool false],12,88,.st [(0,1,false),(1,1,false),(2,1,false),(3,1,false),(4,1,false),(5,4,true),(9,1,false),(10,1,false),(11,1,false)],some (.st [(0,1,false,.it .u64),(1,1,false,.it .u32),(2,1,false,.it .i64),(3,1,false,.it .u64),(4,1,false,.bl),(5,4,true,.st [(0,1,false,.it .u64),(1,1,false,.it .u64),(2,1,false,.it .u64),(3,1,false,.bl)]),(9,1,false,.it .i64),(10,1,false,.bl),(11,1,false,.bl)])⟩),(79,⟨.nilp,1,8,.sc (.pointer 124),none⟩),(117,⟨.agg [.agg [.ints .u64 32 (fun _=>0),.int .u64 0,.int .i64 0,.bool false,.ints .u64 29 (fun _=>0),.int .u64 0],.nilp,.agg [.agg [],.agg [],.int .i64 0]],67,536,.st [(0,65,true),(65,1,false),(66,1,true)],none⟩)]
theorem T_isa_Machine_Step_ok : Prg Tryz.prog T_isa_Machine_Step:=⟨(.cons te_4 (.cons te_22 (.cons te_26 (.cons te_42 (.cons te_44 (.cons te_79 (.cons te_117 (TEok.nil _)))))))),by kernel_rfl⟩
noncomputable abbrev O_isa_Machine_Step {α:Type}:ORC α:=[(46,.full B_sync_atomic_Int64_Add),(47,.full B_z39),(49,.full B_z3a),(48,.pure (ad_z24 s_route_Interrupt)),(50,.pure (ad_z25 s_exec_Interrupt)),(51,.full B_z3f),(52,.pure (ad_z20 s_exec_Fault)),(53,.full B_exec_Do)]
theorem O_isa_Machine_Step_ok {α:Type} {I:Imm}:OOk (α:=α) Tryz.prog I O_isa_Machine_Step:=OOk.cons c_sync_atomic_Int64_Add (OOk.cons c_z39 (OOk.cons c_z3a (OOk.cons c_z24 (OOk.cons c_z25 (OOk.cons c_z3f (OOk.cons c_z20 (OOk.cons c_exec_Do (OOk.nil))))))))
noncomputable abbrev B_isa_Machine_Step {α:Type}:FF α:=byBody T_isa_Machine_Step O_isa_Machine_Step ⟨40,[]⟩ Tryz.f27
theorem c_isa_Machine_Step {α:Type} {I:Imm}:OrcOk (α:=α) Tryz.prog I 27 (.full B_isa_Machine_Step):=orc_body T_isa_Machine_Step_ok O_isa_Machine_Step_ok ⟨40,[]⟩ Tryz.func27 (by kernel_rfl) (by kernel_rfl) (by kernel_rfl)
abbrev T_isa_Machine_State : TE:=[(26,⟨.agg [.ints .u64 32 (fun _=>0),.int .u64 0,.int .i64 0,.bool false,.ints .u64 29 (fun _=>0),.int .u64 0],65,520,.st [(0,32,true),(32,1,false),(33,1,false),(34,1,false),(35,29,true),(64,1,false)],some (.st [(0,32,true,.ar 32 1 (.it .u64)),(32,1,false,.it .u64),(33,1,false,.it .i64),(34,1,false,.bl),(35,29,true,.ar 29 1 (.it .u64)),(64,1,false,.it .u64)])⟩),(117,⟨.agg [.agg [.ints .u64 32 (fun _=>0),.int .u64 0,.int .i64 0,.bool false,.ints .u64 29 (fun _=>0),.int .u64 0],.nilp,.agg [.agg [],.agg [],.int .i64 0]],67,536,.st [(0,65,true),(65,1,false),(66,1,true)],none⟩)]
theorem T_isa_Machine_State_ok : Prg Tryz.prog T_isa_Machine_State:=⟨(.cons te_26 (.cons te_117 (TEok.nil _))),by kernel_rfl⟩
noncomputable abbrev O_isa_Machine_State {α:Type}:ORC α:=[]
theorem O_isa_Machine_State_ok {α:Type} {I:Imm}:OOk (α:=α) Tryz.prog I O_isa_Machine_State:=OOk.nil
noncomputable abbrev B_isa_Machine_State {α:Type}:FF α:=byBody T_isa_Machine_State O_isa_Machine_State ⟨40,[]⟩ Tryz.f29
theorem c_isa_Machine_State {α:Type} {I:Imm}:OrcOk (α:=α) Tryz.prog I 29 (.full B_isa_Machine_State):=orc_body T_isa_Machine_State_ok O_isa_Machine_State_ok ⟨40,[]⟩ Tryz.func29 (by kernel_rfl) (by kernel_rfl) (by kernel_rfl)
abbrev T_monitor_Guest_call : TE:=[(5,⟨.int .u8 0,1,1,.sc (.int .u8),none⟩),(9,⟨.str .empty,1,16,.sc (.string),none⟩),(22,⟨.int .u64 0,1,8,.sc (.int .u64),none⟩),(23,⟨.ints .u64 32 (fun _=>0),32,256,.ar 32 22 1 false,some (.ar 32 1 (.it .u64))⟩),(26,⟨.agg [.ints .u64 32 (fun _=>0),.int .u64 0,.int .i64 0,.bool false,.ints .u64 29 (fun _=>0),.int .u64 0],65,520,.st [(0,32,true),(32,1,false),(33,1,false),(34,1,false),(35,29,true),(64,1,false)],some (.st [(0,32,true,.ar 32 1 (.it .u64)),(32,1,false,.it .u64),(33,1,false,.it .i64),(34,1,false,.bl),(35,29,true,.ar 29 1 (.it .u64)),(64,1,false,.it .u64)])⟩),(40,⟨.int .u32 0,1,4,.sc (.int .u32),none⟩),(44,⟨.agg [.int .u64 0,.int .u32 0,.int .i64 0,.int .u64 0,.bool false,.agg [.int .u64 0,.int .u64 0,.int .u64 0,.bool false],.int .i64 0,.bool false,.bool false],12,88,.st [(0,1,false),(1,1,false),(2,1,false),(3,1,false),(4,1,false),(5,4,true),(9,1,false),(10,1,false),(11,1,false)],some (.st [(0,1,false,.it .u64),(1,1,false,.it .u32),(2,1,false,.it .i64),(3,1,false,.it .u64),(4,1,false,.bl),(5,4,true,.st [(0,1,false,.it .u64),(1,1,false,.it .u64),(2,1,false,.it .u64),(3,1,false,.bl)]),(9,1,false,.it .i64),(10,1,false,.bl),(11,1,false,.bl)])⟩),(56,⟨.agg [.agg [.ints .u64 32 (fun _=>0),.int .u64 0,.int .i64 0,.bool false,.ints .u64 29 (fun _=>0),.int .u64 0],.int .u64 0,.int .u64 0,.str .empty,.nils],69,576,.st [(0,65,true),(65,1,false),(66,1,false),(67,1,false),(68,1,false)],none⟩)]
theorem T_monitor_Guest_call_ok : Prg Tryz.prog T_monitor_Guest_call:=⟨(.cons te_5 (.cons te_9 (.cons te_22 (.cons te_23 (.cons te_26 (.cons te_40 (.cons te_44 (.cons te_56 (TEok.nil _))))))))),by kernel_rfl⟩
noncomputable abbrev O_monitor_Guest_call {α:Type}:ORC α:=[(13,.full B_solo_Run_1)]
theorem O_monitor_Guest_call_ok {α:Type} {I:Imm}:OOk (α:=α) Tryz.prog I O_monitor_Guest_call:=OOk.cons c_solo_Run_1 (OOk.nil)
noncomputable abbrev B_monitor_Guest_call {α:Type}:FF α:=byBody T_monitor_Guest_call O_monitor_Guest_call ⟨40,[]⟩ Tryz.f54
theorem c_monitor_Guest_call {α:Type} {I:Imm}:OrcOk (α:=α) Tryz.prog I 54 (.full B_monitor_Guest_call):=orc_body T_monitor_Guest_call_ok O_monitor_Guest_call_ok ⟨40,[]⟩ Tryz.func54 (by kernel_rfl) (by kernel_rfl) (by kernel_rfl)
theorem te_176 : TyOk Tryz.prog 176 ⟨.ints .u64 4 (fun _=>0),4,32,.ar 4 22 1 false,some (.ar 4 1 (.it .u64))⟩:=⟨fun _=>by kernel_rfl,⟨rfl,rfl,fun _ _=>by simp [Wf,Wfs]⟩,⟨Tryz.underlying176,by kernel_rfl,by kernel_rfl⟩,fun _ h=>by cases h; exact ⟨by kernel_rfl,by kernel_rfl⟩⟩
abbrev T_monitor_Guest_told : TE:=[(4,⟨.bool false,1,1,.sc (.bool),none⟩),(22,⟨.int .u64 0,1,8,.sc (.int .u64),none⟩),(26,⟨.agg [.ints .u64 32 (fun _=>0),.int .u64 0,.int .i64 0,.bool false,.ints .u64 29 (fun _=>0),.int .u64 0],65,520,.st [(0,32,true),(32,1,false),(33,1,false),(34,1,false),(35,29,true),(64,1,false)],some (.st [(0,32,true,.ar 32 1 (.it .u64)),(32,1,false,.it .u64),(33,1,false,.it .i64),(34,1,false,.bl),(35,29,true,.ar 29 1 (.it .u64)),(64,1,false,.it .u64)])⟩),(40,⟨.int .u32 0,1,4,.sc (.int .u32),none⟩),(42,⟨.agg [.int .u64 0,.int .u64 0,.int .u64 0,.bool false],4,32,.st [(0,1,false),(1,1,false),(2,1,false),(3,1,false)],some (.st [(0,1,false,.it .u64),(1,1,false,.it .u64),(2,1,false,.it .u64),(3,1,false,.bl)])⟩),(44,⟨.agg [.int .u64 0,.int .u32 0,.int .i64 0,.int .u64 0,.bool false,.agg [.int .u64 0,.int .u64 0,.int .u64 0,.bool false],.int .i64 0,.bool false,.bool false],12,88,.st [(0,1,false),(1,1,false),(2,1,false),(3,1,false),(4,1,false),(5,4,true),(9,1,false),(10,1,false),(11,1,false)],some (.st [(0,1,false,.it .u64),(1,1,false,.it .u32),(2,1,false,.it .i64),(3,1,false,.it .u64),(4,1,false,.bl),(5,4,true,.st [(0,1,false,.it .u64),(1,1,false,.it .u64),(2,1,false,.it .u64),(3,1,false,.bl)]),(9,1,false,.it .i64),(10,1,false,.bl),(11,1,false,.bl)])⟩),(56,⟨.agg [.agg [.ints .u64 32 (fun _=>0),.int .u64 0,.int .i64 0,.bool false,.ints .u64 29 (fun _=>0),.int .u64 0],.int .u64 0,.int .u64 0,.str .empty,.nils],69,576,.st [(0,65,true),(65,1,false),(66,1,false),(67,1,false),(68,1,false)],none⟩),(176,⟨.ints .u64 4 (fun _=>0),4,32,.ar 4 22 1 false,some (.ar 4 1 (.it .u64))⟩)]
theorem T_monitor_Guest_told_ok : Prg Tryz.prog T_monitor_Guest_told:=⟨(.cons te_4 (.cons te_22 (.cons te_26 (.cons te_40 (.cons te_42 (.cons te_44 (.cons te_56 (.cons te_176 (TEok.nil _))))))))),by kernel_rfl⟩
noncomputable abbrev O_monitor_Guest_told {α:Type}:ORC α:=[(72,.pure (ad_zs s_trap_Enter))]
theorem O_monitor_Guest_told_ok {α:Type} {I:Imm}:OOk (α:=α) Tryz.prog I O_monitor_Guest_told:=OOk.cons c_zs (OOk.nil)
noncomputable abbrev B_monitor_Guest_told {α:Type}:FF α:=byBody T_monitor_Guest_told O_monitor_Guest_told ⟨40,[]⟩ Tryz.f55
theorem c_monitor_Guest_told {α:Type} {I:Imm}:OrcOk (α:=α) Tryz.prog I 55 (.full B_monitor_Guest_told):=orc_body T_monitor_Guest_told_ok O_monitor_Guest_told_ok ⟨40,[]⟩ Tryz.func55 (by kernel_rfl) (by kernel_rfl) (by kernel_rfl)
theorem te_37 : TyOk Tryz.prog 37 ⟨.nils,1,24,.sc (.slice 44),none⟩:=⟨fun _=>by kernel_rfl,⟨rfl,rfl,fun _ _=>by simp [Wf,Wfs]⟩,⟨Tryz.underlying37,rfl⟩,fun _ h=>by cases h⟩
abbrev T_monitor_Guest_Takes : TE:=[(3,⟨.int .i64 0,1,8,.sc (.int .i64),none⟩),(4,⟨.bool false,1,1,.sc (.bool),none⟩),(22,⟨.int .u64 0,1,8,.sc (.int .u64),none⟩),(26,⟨.agg [.ints .u64 32 (fun _=>0),.int .u64 0,.int .i64 0,.bool false,.ints .u64 29 (fun _=>0),.int .u64 0],65,520,.st [(0,32,true),(32,1,false),(33,1,false),(34,1,false),(35,29,true),(64,1,false)],some (.st [(0,32,true,.ar 32 1 (.it .u64)),(32,1,false,.it .u64),(33,1,false,.it .i64),(34,1,false,.bl),(35,29,true,.ar 29 1 (.it .u64)),(64,1,false,.it .u64)])⟩),(37,⟨.nils,1,24,.sc (.slice 44),none⟩),(42,⟨.agg [.int .u64 0,.int .u64 0,.int .u64 0,.bool false],4,32,.st [(0,1,false),(1,1,false),(2,1,false),(3,1,false)],some (.st [(0,1,false,.it .u64),(1,1,false,.it .u64),(2,1,false,.it .u64),(3,1,false,.bl)])⟩),(44,⟨.agg [.int .u64 0,.int .u32 0,.int .i64 0,.int .u64 0,.bool false,.agg [.int .u64 0,.int .u64 0,.int .u64 0,.bool false],.int .i64 0,.bool false,.bool false],12,88,.st [(0,1,false),(1,1,false),(2,1,false),(3,1,false),(4,1,false),(5,4,true),(9,1,false),(10,1,false),(11,1,false)],some (.st [(0,1,false,.it .u64),(1,1,false,.it .u32),(2,1,false,.it .i64),(3,1,false,.it .u64),(4,1,false,.bl),(5,4,true,.st [(0,1,false,.it .u64),(1,1,false,.it .u64),(2,1,false,.it .u64),(3,1,false,.bl)]),(9,1,false,.it .i64),(10,1,false,.bl),(11,1,false,.bl)])⟩),(56,⟨.agg [.agg [.ints .u64 32 (fun _=>0),.int .u64 0,.int .i64 0,.bool false,.ints .u64 29 (fun _=>0),.int .u64 0],.int .u64 0,.int .u64 0,.str .empty,.nils],69,576,.st [(0,65,true),(65,1,false),(66,1,false),(67,1,false),(68,1,false)],none⟩)]
theorem T_monitor_Guest_Takes_ok : Prg Tryz.prog T_monitor_Guest_Takes:=⟨(.cons te_3 (.cons te_4 (.cons te_22 (.cons te_26 (.cons te_37 (.cons te_42 (.cons te_44 (.cons te_56 (TEok.nil _))))))))),by kernel_rfl⟩
noncomputable abbrev O_monitor_Guest_Takes {α:Type}:ORC α:=[(54,.full B_monitor_Guest_call),(55,.full B_monitor_Guest_told),(44,.pure (ad_z7 s_csr_Put))]
theorem O_monitor_Guest_Takes_ok {α:Type} {I:Imm}:OOk (α:=α) Tryz.prog I O_monitor_Guest_Takes:=OOk.cons c_monitor_Guest_call (OOk.cons c_monitor_Guest_told (OOk.cons c_z7 (OOk.nil)))
noncomputable abbrev B_monitor_Guest_Takes {α:Type}:FF α:=byBody T_monitor_Guest_Takes O_monitor_Guest_Takes ⟨40,[]⟩ Tryz.f28
theorem c_monitor_Guest_Takes {α:Type} {I:Imm}:OrcOk (α:=α) Tryz.prog I 28 (.full B_monitor_Guest_Takes):=orc_body T_monitor_Guest_Takes_ok O_monitor_Guest_Takes_ok ⟨40,[]⟩ Tryz.func28 (by kernel_rfl) (by kernel_rfl) (by kernel_rfl)
theorem te_57 : TyOk Tryz.prog 57 ⟨.nilp,1,8,.sc (.pointer 117),none⟩:=⟨fun _=>by kernel_rfl,⟨rfl,rfl,fun _ _=>by simp [Wf,Wfs]⟩,⟨Tryz.underlying57,rfl⟩,fun _ h=>by cases h⟩
abbrev T_solo_alone_step : TE:=[(26,⟨.agg [.ints .u64 32 (fun _=>0),.int .u64 0,.int .i64 0,.bool false,.ints .u64 29 (fun _=>0),.int .u64 0],65,520,.st [(0,32,true),(32,1,false),(33,1,false),(34,1,false),(35,29,true),(64,1,false)],some (.st [(0,32,true,.ar 32 1 (.it .u64)),(32,1,false,.it .u64),(33,1,false,.it .i64),(34,1,false,.bl),(35,29,true,.ar 29 1 (.it .u64)),(64,1,false,.it .u64)])⟩),(44,⟨.agg [.int .u64 0,.int .u32 0,.int .i64 0,.int .u64 0,.bool false,.agg [.int .u64 0,.int .u64 0,.int .u64 0,.bool false],.int .i64 0,.bool false,.bool false],12,88,.st [(0,1,false),(1,1,false),(2,1,false),(3,1,false),(4,1,false),(5,4,true),(9,1,false),(10,1,false),(11,1,false)],some (.st [(0,1,false,.it .u64),(1,1,false,.it .u32),(2,1,false,.it .i64),(3,1,false,.it .u64),(4,1,false,.bl),(5,4,true,.st [(0,1,false,.it .u64),(1,1,false,.it .u64),(2,1,false,.it .u64),(3,1,false,.bl)]),(9,1,false,.it .i64),(10,1,false,.bl),(11,1,false,.bl)])⟩),(56,⟨.agg [.agg [.ints .u64 32 (fun _=>0),.int .u64 0,.int .i64 0,.bool false,.ints .u64 29 (fun _=>0),.int .u64 0],.int .u64 0,.int .u64 0,.str .empty,.nils],69,576,.st [(0,65,true),(65,1,false),(66,1,false),(67,1,false),(68,1,false)],none⟩),(57,⟨.nilp,1,8,.sc (.pointer 117),none⟩),(59,⟨.agg [.agg [.agg [.ints .u64 32 (fun _=>0),.int .u64 0,.int .i64 0,.bool false,.ints .u64 29 (fun _=>0),.int .u64 0],.int .u64 0,.int .u64 0,.str .empty,.nils],.nilp],70,584,.st [(0,69,true),(69,1,false)],none⟩)]
theorem T_solo_alone_step_ok : Prg Tryz.prog T_solo_alone_step:=⟨(.cons te_26 (.cons te_44 (.cons te_56 (.cons te_57 (.cons te_59 (TEok.nil _)))))),by kernel_rfl⟩
noncomputable abbrev O_solo_alone_step {α:Type}:ORC α:=[(26,.full B_isa_Machine_Set),(27,.full B_isa_Machine_Step),(29,.full B_isa_Machine_State),(28,.full B_monitor_Guest_Takes)]
theorem O_solo_alone_step_ok {α:Type} {I:Imm}:OOk (α:=α) Tryz.prog I O_solo_alone_step:=OOk.cons c_isa_Machine_Set (OOk.cons c_isa_Machine_Step (OOk.cons c_isa_Machine_State (OOk.cons c_monitor_Guest_Takes (OOk.nil))))
noncomputable abbrev B_solo_alone_step {α:Type}:FF α:=byBody T_solo_alone_step O_solo_alone_step ⟨40,[]⟩ Tryz.f12
theorem c_solo_alone_step {α:Type} {I:Imm}:OrcOk (α:=α) Tryz.prog I 12 (.full B_solo_alone_step):=orc_body T_solo_alone_step_ok O_solo_alone_step_ok ⟨40,[]⟩ Tryz.func12 (by kernel_rfl) (by kernel_rfl) (by kernel_rfl)
abbrev T_solo_Run : TE:=[(3,⟨.int .i64 0,1,8,.sc (.int .i64),none⟩),(5,⟨.int .u8 0,1,1,.sc (.int .u8),none⟩),(9,⟨.str .empty,1,16,.sc (.string),none⟩),(22,⟨.int .u64 0,1,8,.sc (.int .u64),none⟩),(24,⟨.ints .u64 29 (fun _=>0),29,232,.ar 29 22 1 false,some (.ar 29 1 (.it .u64))⟩),(26,⟨.agg [.ints .u64 32 (fun _=>0),.int .u64 0,.int .i64 0,.bool false,.ints .u64 29 (fun _=>0),.int .u64 0],65,520,.st [(0,32,true),(32,1,false),(33,1,false),(34,1,false),(35,29,true),(64,1,false)],some (.st [(0,32,true,.ar 32 1 (.it .u64)),(32,1,false,.it .u64),(33,1,false,.it .i64),(34,1,false,.bl),(35,29,true,.ar 29 1 (.it .u64)),(64,1,false,.it .u64)])⟩),(36,⟨.agg [.nils,.str .empty,.int .u64 0,.str .empty],4,64,.st [(0,1,false),(1,1,false),(2,1,false),(3,1,false)],none⟩),(37,⟨.nils,1,24,.sc (.slice 44),none⟩),(44,⟨.agg [.int .u64 0,.int .u32 0,.int .i64 0,.int .u64 0,.bool false,.agg [.int .u64 0,.int .u64 0,.int .u64 0,.bool false],.int .i64 0,.bool false,.bool false],12,88,.st [(0,1,false),(1,1,false),(2,1,false),(3,1,false),(4,1,false),(5,4,true),(9,1,false),(10,1,false),(11,1,false)],some (.st [(0,1,false,.it .u64),(1,1,false,.it .u32),(2,1,false,.it .i64),(3,1,false,.it .u64),(4,1,false,.bl),(5,4,true,.st [(0,1,false,.it .u64),(1,1,false,.it .u64),(2,1,false,.it .u64),(3,1,false,.bl)]),(9,1,false,.it .i64),(10,1,false,.bl),(11,1,false,.bl)])⟩),(52,⟨.nils,1,24,.sc (.slice 5),none⟩),(56,⟨.agg [.agg [.ints .u64 32 (fun _=>0),.int .u64 0,.int .i64 0,.bool false,.ints .u64 29 (fun _=>0),.int .u64 0],.int .u64 0,.int .u64 0,.str .empty,.nils],69,576,.st [(0,65,true),(65,1,false),(66,1,false),(67,1,false),(68,1,false)],none⟩),(59,⟨.agg [.agg [.agg [.ints .u64 32 (fun _=>0),.int .u64 0,.int .i64 0,.bool false,.ints .u64 29 (fun _=>0),.int .u64 0],.int .u64 0,.int .u64 0,.str .empty,.nils],.nilp],70,584,.st [(0,69,true),(69,1,false)],none⟩)]
theorem T_solo_Run_ok : Prg Tryz.prog T_solo_Run:=⟨(.cons te_3 (.cons te_5 (.cons te_9 (.cons te_22 (.cons te_24 (.cons te_26 (.cons te_36 (.cons te_37 (.cons te_44 (.cons te_52 (.cons te_56 (.cons te_59 (TEok.nil _))))))))))))),by kernel_rfl⟩
noncomputable abbrev O_solo_Run {α:Type}:ORC α:=[(11,.full B_solo_made),(13,.full B_solo_Run_1),(12,.full B_solo_alone_step)]
theorem O_solo_Run_ok {α:Type} {I:Imm}:OOk (α:=α) Tryz.prog I O_solo_Run:=OOk.cons c_solo_made (OOk.cons c_solo_Run_1 (OOk.cons c_solo_alone_step (OOk.nil)))
noncomputable abbrev B_solo_Run {α:Type}:FF α:=byBody T_solo_Run O_solo_Run ⟨40,[]⟩ Tryz.f7
theorem c_solo_Run {α:Type} {I:Imm}:OrcOk (α:=α) Tryz.prog I 7 (.full B_solo_Run):=orc_body T_solo_Run_ok O_solo_Run_ok ⟨40,[]⟩ Tryz.func7 (by kernel_rfl) (by kernel_rfl) (by kernel_rfl)
abbrev T_slices_Equal_api_Retire_api_Retire : TE:=[(3,⟨.int .i64 0,1,8,.sc (.int .i64),none⟩),(37,⟨.nils,1,24,.sc (.slice 44),none⟩),(44,⟨.agg [.int .u64 0,.int .u32 0,.int .i64 0,.int .u64 0,.bool false,.agg [.int .u64 0,.int .u64 0,.int .u64 0,.bool false],.int .i64 0,.bool false,.bool false],12,88,.st [(0,1,false),(1,1,false),(2,1,false),(3,1,false),(4,1,false),(5,4,true),(9,1,false),(10,1,false),(11,1,false)],some (.st [(0,1,false,.it .u64),(1,1,false,.it .u32),(2,1,false,.it .i64),(3,1,false,.it .u64),(4,1,false,.bl),(5,4,true,.st [(0,1,false,.it .u64),(1,1,false,.it .u64),(2,1,false,.it .u64),(3,1,false,.bl)]),(9,1,false,.it .i64),(10,1,false,.bl),(11,1,false,.bl)])⟩)]
theorem T_slices_Equal_api_Retire_api_Retire_ok : Prg Tryz.prog T_slices_Equal_api_Retire_api_Retire:=⟨(.cons te_3 (.cons te_37 (.cons te_44 (TEok.nil _)))),by kernel_rfl⟩
noncomputable abbrev O_slices_Equal_api_Retire_api_Retire {α:Type}:ORC α:=[]
theorem O_slices_Equal_api_Retire_api_Retire_ok {α:Type} {I:Imm}:OOk (α:=α) Tryz.prog I O_slices_Equal_api_Retire_api_Retire:=OOk.nil
noncomputable abbrev B_slices_Equal_api_Retire_api_Retire {α:Type}:FF α:=byBody T_slices_Equal_api_Retire_api_Retire O_slices_Equal_api_Retire_api_Retire ⟨40,[]⟩ Tryz.f14
theorem c_slices_Equal_api_Retire_api_Retire {α:Type} {I:Imm}:OrcOk (α:=α) Tryz.prog I 14 (.full B_slices_Equal_api_Retire_api_Retire):=orc_body T_slices_Equal_api_Retire_api_Retire_ok O_slices_Equal_api_Retire_api_Retire_ok ⟨40,[]⟩ Tryz.func14 (by kernel_rfl) (by kernel_rfl) (by kernel_rfl)
abbrev T_solo_Prefix : TE:=[(3,⟨.int .i64 0,1,8,.sc (.int .i64),none⟩),(37,⟨.nils,1,24,.sc (.slice 44),none⟩),(44,⟨.agg [.int .u64 0,.int .u32 0,.int .i64 0,.int .u64 0,.bool false,.agg [.int .u64 0,.int .u64 0,.int .u64 0,.bool false],.int .i64 0,.bool false,.bool false],12,88,.st [(0,1,false),(1,1,false),(2,1,false),(3,1,false),(4,1,false),(5,4,true),(9,1,false),(10,1,false),(11,1,false)],some (.st [(0,1,false,.it .u64),(1,1,false,.it .u32),(2,1,false,.it .i64),(3,1,false,.it .u64),(4,1,false,.bl),(5,4,true,.st [(0,1,false,.it .u64),(1,1,false,.it .u64),(2,1,false,.it .u64),(3,1,false,.bl)]),(9,1,false,.it .i64),(10,1,false,.bl),(11,1,false,.bl)])⟩)]
theorem T_solo_Prefix_ok : Prg Tryz.prog T_solo_Prefix:=⟨(.cons te_3 (.cons te_37 (.cons te_44 (TEok.nil _)))),by kernel_rfl⟩
noncomputable abbrev O_solo_Prefix {α:Type}:ORC α:=[(14,.full B_slices_Equal_api_Retire_api_Retire)]
theorem O_solo_Prefix_ok {α:Type} {I:Imm}:OOk (α:=α) Tryz.prog I O_solo_Prefix:=OOk.cons c_slices_Equal_api_Retire_api_Retire (OOk.nil)
noncomputable abbrev B_solo_Prefix {α:Type}:FF α:=byBody T_solo_Prefix O_solo_Prefix ⟨40,[]⟩ Tryz.f8
theorem c_solo_Prefix {α:Type} {I:Imm}:OrcOk (α:=α) Tryz.prog I 8 (.full B_solo_Prefix):=orc_body T_solo_Prefix_ok O_solo_Prefix_ok ⟨40,[]⟩ Tryz.func8 (by kernel_rfl) (by kernel_rfl) (by kernel_rfl)
abbrev T_zz : TE:=[(22,⟨.int .u64 0,1,8,.sc (.int .u64),none⟩),(24,⟨.ints .u64 29 (fun _=>0),29,232,.ar 29 22 1 false,some (.ar 29 1 (.it .u64))⟩),(26,⟨.agg [.ints .u64 32 (fun _=>0),.int .u64 0,.int .i64 0,.bool false,.ints .u64 29 (fun _=>0),.int .u64 0],65,520,.st [(0,32,true),(32,1,false),(33,1,false),(34,1,false),(35,29,true),(64,1,false)],some (.st [(0,32,true,.ar 32 1 (.it .u64)),(32,1,false,.it .u64),(33,1,false,.it .i64),(34,1,false,.bl),(35,29,true,.ar 29 1 (.it .u64)),(64,1,false,.it .u64)])⟩)]
theorem T_z70 : Prg Tryz.prog T_zz:=⟨(.cons te_22 (.cons te_24 (.cons te_26 (TEok.nil _)))),by kernel_rfl⟩
noncomputable abbrev O_zz {α:Type}:ORC α:=[]
theorem O_z70 {α:Type} {I:Imm}:OOk (α:=α) Tryz.prog I O_zz:=OOk.nil
noncomputable abbrev B_zz {α:Type}:FF α:=byBody T_zz O_zz ⟨40,[]⟩ Tryz.f5
theorem c_zz {α:Type} {I:Imm}:OrcOk (α:=α) Tryz.prog I 5 (.full B_zz):=orc_body T_z70 O_z70 ⟨40,[]⟩ Tryz.func5 (by kernel_rfl) (by kernel_rfl) (by kernel_rfl)
abbrev T_z48 : TE:=[(3,⟨.int .i64 0,1,8,.sc (.int .i64),none⟩),(4,⟨.bool false,1,1,.sc (.bool),none⟩),(9,⟨.str .empty,1,16,.sc (.string),none⟩),(22,⟨.int .u64 0,1,8,.sc (.int .u64),none⟩),(23,⟨.ints .u64 32 (fun _=>0),32,256,.ar 32 22 1 false,some (.ar 32 1 (.it .u64))⟩),(26,⟨.agg [.ints .u64 32 (fun _=>0),.int .u64 0,.int .i64 0,.bool false,.ints .u64 29 (fun _=>0),.int .u64 0],65,520,.st [(0,32,true),(32,1,false),(33,1,false),(34,1,false),(35,29,true),(64,1,false)],some (.st [(0,32,true,.ar 32 1 (.it .u64)),(32,1,false,.it .u64),(33,1,false,.it .i64),(34,1,false,.bl),(35,29,true,.ar 29 1 (.it .u64)),(64,1,false,.it .u64)])⟩),(30,⟨.nils,1,24,.sc (.slice 3),none⟩),(33,⟨.agg [.int .i64 0,.int .i64 0,.int .i64 0,.int .i64 0,.int .i64 0,.int .i64 0],6,48,.st [(0,1,false),(1,1,false),(2,1,false),(3,1,false),(4,1,false),(5,1,false)],some (.st [(0,1,false,.it .i64),(1,1,false,.it .i64),(2,1,false,.it .i64),(3,1,false,.it .i64),(4,1,false,.it .i64),(5,1,false,.it .i64)])⟩),(34,⟨.nils,1,24,.sc (.slice 33),none⟩),(36,⟨.agg [.nils,.str .empty,.int .u64 0,.str .empty],4,64,.st [(0,1,false),(1,1,false),(2,1,false),(3,1,false)],none⟩),(37,⟨.nils,1,24,.sc (.slice 44),none⟩),(44,⟨.agg [.int .u64 0,.int .u32 0,.int .i64 0,.int .u64 0,.bool false,.agg [.int .u64 0,.int .u64 0,.int .u64 0,.bool false],.int .i64 0,.bool false,.bool false],12,88,.st [(0,1,false),(1,1,false),(2,1,false),(3,1,false),(4,1,false),(5,4,true),(9,1,false),(10,1,false),(11,1,false)],some (.st [(0,1,false,.it .u64),(1,1,false,.it .u32),(2,1,false,.it .i64),(3,1,false,.it .u64),(4,1,false,.bl),(5,4,true,.st [(0,1,false,.it .u64),(1,1,false,.it .u64),(2,1,false,.it .u64),(3,1,false,.bl)]),(9,1,false,.it .i64),(10,1,false,.bl),(11,1,false,.bl)])⟩)]
theorem T_z71 : Prg Tryz.prog T_z48:=⟨(.cons te_3 (.cons te_4 (.cons te_9 (.cons te_22 (.cons te_23 (.cons te_26 (.cons te_30 (.cons te_33 (.cons te_34 (.cons te_36 (.cons te_37 (.cons te_44 (TEok.nil _))))))))))))),by kernel_rfl⟩
noncomputable abbrev O_z48 {α:Type}:ORC α:=[(6,.full B_z36),(7,.full B_solo_Run),(8,.full B_solo_Prefix),(5,.full B_zz)]
theorem O_z71 {α:Type} {I:Imm}:OOk (α:=α) Tryz.prog I O_z48:=OOk.cons c_z36 (OOk.cons c_solo_Run (OOk.cons c_solo_Prefix (OOk.cons c_zz (OOk.nil))))
set_option maxHeartbeats 4000000 in
set_option maxRecDepth 100000 in
theorem c_z48 {α:Type} {I:Imm}:OrcOk (α:=α) Tryz.prog I 4 (.pure trueF):=by
  refine orc_pure T_z71 (O:=O_z48) O_z71 (L:=[]) ⟨40,[]⟩ Tryz.func4 (by kernel_rfl) (by kernel_rfl) (by kernel_rfl) FLOk.nil ?_
  intro args k r hk
  unfold trueF at hk
  split at hk<;>try (simp at hk; done)
  refine ⟨_,hk,by simp [Ids,Idss],by simp [Ids,Idss],?_⟩
  clear hk
  exact endsT_spec (by kernel_rfl)
end Go.Proofs.YtodnffhcbhlifaaGreat.K27
