/-
  Contracts: K23.
-/
import Derived.Test.YtepdlgehceipjaaGreatInS19
import Derived.Test.YtepdlgehceipjaaGreatInTwo
set_option linter.unusedSimpArgs false
set_option linter.unusedVariables false
namespace Go.Proofs.YtepdlgehceipjaaGreat.K23
open Go Go.Sh Go.Proofs
set_option linter.unusedSimpArgs false
theorem c_z1e {α:Type} {I:Imm}:OrcOk (α:=α) Tryz.prog I 179 (.pure (ad_z1e sBad)):=d_z1e
theorem c_zt {α:Type} {I:Imm}:OrcOk (α:=α) Tryz.prog I 180 (.pure (ad_zt sCause)):=d_zt
theorem c_z1k {α:Type} {I:Imm}:OrcOk (α:=α) Tryz.prog I 86 (.pure (ad_z1k s_decode_Decode)):=d_z1k
theorem c_z1h {α:Type} {I:Imm}:OrcOk (α:=α) Tryz.prog I 48 (.pure (ad_z1h s_exec_Fault)):=d_z1h
theorem c_z1j {α:Type} {I:Imm}:OrcOk (α:=α) Tryz.prog I 46 (.pure (ad_z1j s_exec_Interrupt)):=d_z1j
theorem c_z1m {α:Type} {I:Imm}:OrcOk (α:=α) Tryz.prog I 89 (.pure (ad_z1m s_insn_Writes)):=d_z1m
theorem c_z1n {α:Type} {I:Imm}:OrcOk (α:=α) Tryz.prog I 29 (.pure (ad_z1n s_isa_Clean)):=d_z1n
theorem c_z1l {α:Type} {I:Imm}:OrcOk (α:=α) Tryz.prog I 87 (.pure (ad_z1l s_legal_Insn)):=d_z1l
theorem c_z1i {α:Type} {I:Imm}:OrcOk (α:=α) Tryz.prog I 44 (.pure (ad_z1i s_route_Interrupt)):=d_z1i
theorem c_sync_atomic_AddInt64 {α:Type} {I:Imm}:OrcOk (α:=α) Tryz.prog I 75 (.ext (xAdd .i64)):=d_sync_atomic_AddInt64
theorem c_sync_atomic_LoadInt64 {α:Type} {I:Imm}:OrcOk (α:=α) Tryz.prog I 112 (.ext (xLoad .i64)):=d_sync_atomic_LoadInt64
theorem c_sync_atomic_LoadUint64 {α:Type} {I:Imm}:OrcOk (α:=α) Tryz.prog I 122 (.ext (xLoad .u64)):=d_sync_atomic_LoadUint64
theorem c_sync_atomic_StoreInt64 {α:Type} {I:Imm}:OrcOk (α:=α) Tryz.prog I 111 (.ext (xStore .i64)):=d_sync_atomic_StoreInt64
theorem c_sync_atomic_StoreUint64 {α:Type} {I:Imm}:OrcOk (α:=α) Tryz.prog I 118 (.ext (xStore .u64)):=d_sync_atomic_StoreUint64
theorem te_5 : TyOk Tryz.prog 5 ⟨.int .u8 0,1,1,.sc (.int .u8),none⟩:=⟨fun _=>by kernel_rfl,⟨rfl,rfl,fun _ _=>by simp [Wf,Wfs]⟩,⟨Tryz.underlying5,rfl⟩,fun _ h=>by cases h⟩
theorem te_84 : TyOk Tryz.prog 84 ⟨.nils,1,24,.sc (.slice 5),none⟩:=⟨fun _=>by kernel_rfl,⟨rfl,rfl,fun _ _=>by simp [Wf,Wfs]⟩,⟨Tryz.underlying84,rfl⟩,fun _ h=>by cases h⟩
theorem te_127 : TyOk Tryz.prog 127 ⟨.agg [.nils],1,24,.st [(0,1,false)],none⟩:=⟨fun _=>by kernel_rfl,⟨rfl,rfl,fun _ _=>by simp [Wf,Wfs]⟩,⟨_,Tryz.underlying127,by kernel_rfl⟩,fun _ h=>by cases h⟩
abbrev T_z1r : TE:=[(5,⟨.int .u8 0,1,1,.sc (.int .u8),none⟩),(84,⟨.nils,1,24,.sc (.slice 5),none⟩),(127,⟨.agg [.nils],1,24,.st [(0,1,false)],none⟩)]
theorem T_z2q : Prg Tryz.prog T_z1r:=⟨(.cons te_5 (.cons te_84 (.cons te_127 (TEok.nil _)))),by kernel_rfl⟩
noncomputable abbrev O_z1r {α:Type}:ORC α:=[]
theorem O_z2q {α:Type} {I:Imm}:OOk (α:=α) Tryz.prog I O_z1r:=OOk.nil
noncomputable abbrev B_z1r {α:Type}:FF α:=byBody T_z1r O_z1r ⟨40,[]⟩ Tryz.f30
theorem c_z1r {α:Type} {I:Imm}:OrcOk (α:=α) Tryz.prog I 30 (.full B_z1r):=orc_body T_z2q O_z2q ⟨40,[]⟩ Tryz.func30 (by kernel_rfl) (by kernel_rfl) (by kernel_rfl)
theorem te_61 : TyOk Tryz.prog 61 ⟨.nilp,1,8,.sc (.pointer 127),none⟩:=⟨fun _=>by kernel_rfl,⟨rfl,rfl,fun _ _=>by simp [Wf,Wfs]⟩,⟨Tryz.underlying61,rfl⟩,fun _ h=>by cases h⟩
theorem te_89 : TyOk Tryz.prog 89 ⟨.agg [.nilp,.agg [.agg [],.agg [],.int .u64 0],.int .u64 0,.arr 3 4 (fun _=>.agg [.nils,.nils,.int .i64 0])],15,248,.st [(0,1,false),(1,1,true),(2,1,false),(3,12,true)],none⟩:=⟨fun _=>by kernel_rfl,⟨rfl,rfl,fun _ _=>by simp [Wf,Wfs]⟩,⟨_,Tryz.underlying89,by kernel_rfl⟩,fun _ h=>by cases h⟩
abbrev T_z1w : TE:=[(61,⟨.nilp,1,8,.sc (.pointer 127),none⟩),(89,⟨.agg [.nilp,.agg [.agg [],.agg [],.int .u64 0],.int .u64 0,.arr 3 4 (fun _=>.agg [.nils,.nils,.int .i64 0])],15,248,.st [(0,1,false),(1,1,true),(2,1,false),(3,12,true)],none⟩)]
theorem T_z57 : Prg Tryz.prog T_z1w:=⟨(.cons te_61 (.cons te_89 (TEok.nil _))),by kernel_rfl⟩
noncomputable abbrev O_z1w {α:Type}:ORC α:=[(30,.full B_z1r)]
theorem O_z57 {α:Type} {I:Imm}:OOk (α:=α) Tryz.prog I O_z1w:=OOk.cons c_z1r (OOk.nil)
noncomputable abbrev B_z1w {α:Type}:FF α:=byBody T_z1w O_z1w ⟨40,[]⟩ Tryz.f12
theorem c_z1w {α:Type} {I:Imm}:OrcOk (α:=α) Tryz.prog I 12 (.full B_z1w):=orc_body T_z57 O_z57 ⟨40,[]⟩ Tryz.func12 (by kernel_rfl) (by kernel_rfl) (by kernel_rfl)
theorem te_26 : TyOk Tryz.prog 26 ⟨.agg [.ints .u64 32 (fun _=>0),.int .u64 0,.int .i64 0,.bool false,.ints .u64 29 (fun _=>0),.int .u64 0],65,520,.st [(0,32,true),(32,1,false),(33,1,false),(34,1,false),(35,29,true),(64,1,false)],some (.st [(0,32,true,.ar 32 1 (.it .u64)),(32,1,false,.it .u64),(33,1,false,.it .i64),(34,1,false,.bl),(35,29,true,.ar 29 1 (.it .u64)),(64,1,false,.it .u64)])⟩:=⟨fun _=>by kernel_rfl,⟨rfl,rfl,fun _ _=>by simp [Wf,Wfs]⟩,⟨_,Tryz.underlying26,by kernel_rfl⟩,fun _ h=>by cases h; exact ⟨by kernel_rfl,by kernel_rfl⟩⟩
theorem te_31 : TyOk Tryz.prog 31 ⟨.nilp,1,8,.sc (.pointer 89),none⟩:=⟨fun _=>by kernel_rfl,⟨rfl,rfl,fun _ _=>by simp [Wf,Wfs]⟩,⟨Tryz.underlying31,rfl⟩,fun _ h=>by cases h⟩
theorem te_81 : TyOk Tryz.prog 81 ⟨.agg [.agg [.ints .u64 32 (fun _=>0),.int .u64 0,.int .i64 0,.bool false,.ints .u64 29 (fun _=>0),.int .u64 0],.nilp,.agg [.agg [],.agg [],.int .i64 0]],67,536,.st [(0,65,true),(65,1,false),(66,1,true)],none⟩:=⟨fun _=>by kernel_rfl,⟨rfl,rfl,fun _ _=>by simp [Wf,Wfs]⟩,⟨_,Tryz.underlying81,by kernel_rfl⟩,fun _ h=>by cases h⟩
abbrev T_isa_New : TE:=[(26,⟨.agg [.ints .u64 32 (fun _=>0),.int .u64 0,.int .i64 0,.bool false,.ints .u64 29 (fun _=>0),.int .u64 0],65,520,.st [(0,32,true),(32,1,false),(33,1,false),(34,1,false),(35,29,true),(64,1,false)],some (.st [(0,32,true,.ar 32 1 (.it .u64)),(32,1,false,.it .u64),(33,1,false,.it .i64),(34,1,false,.bl),(35,29,true,.ar 29 1 (.it .u64)),(64,1,false,.it .u64)])⟩),(31,⟨.nilp,1,8,.sc (.pointer 89),none⟩),(81,⟨.agg [.agg [.ints .u64 32 (fun _=>0),.int .u64 0,.int .i64 0,.bool false,.ints .u64 29 (fun _=>0),.int .u64 0],.nilp,.agg [.agg [],.agg [],.int .i64 0]],67,536,.st [(0,65,true),(65,1,false),(66,1,true)],none⟩)]
theorem T_isa_New_ok : Prg Tryz.prog T_isa_New:=⟨(.cons te_26 (.cons te_31 (.cons te_81 (TEok.nil _)))),by kernel_rfl⟩
noncomputable abbrev O_isa_New {α:Type}:ORC α:=[(12,.full B_z1w),(29,.pure (ad_z1n s_isa_Clean))]
theorem O_isa_New_ok {α:Type} {I:Imm}:OOk (α:=α) Tryz.prog I O_isa_New:=OOk.cons c_z1w (OOk.cons c_z1n (OOk.nil))
noncomputable abbrev B_isa_New {α:Type}:FF α:=byBody T_isa_New O_isa_New ⟨40,[]⟩ Tryz.f10
theorem c_isa_New {α:Type} {I:Imm}:OrcOk (α:=α) Tryz.prog I 10 (.full B_isa_New):=orc_body T_isa_New_ok O_isa_New_ok ⟨40,[]⟩ Tryz.func10 (by kernel_rfl) (by kernel_rfl) (by kernel_rfl)
abbrev T_bytes_Clone : TE:=[(5,⟨.int .u8 0,1,1,.sc (.int .u8),none⟩),(84,⟨.nils,1,24,.sc (.slice 5),none⟩)]
theorem T_bytes_Clone_ok : Prg Tryz.prog T_bytes_Clone:=⟨(.cons te_5 (.cons te_84 (TEok.nil _))),by kernel_rfl⟩
noncomputable abbrev O_bytes_Clone {α:Type}:ORC α:=[]
theorem O_bytes_Clone_ok {α:Type} {I:Imm}:OOk (α:=α) Tryz.prog I O_bytes_Clone:=OOk.nil
noncomputable abbrev B_bytes_Clone {α:Type}:FF α:=byBody T_bytes_Clone O_bytes_Clone ⟨40,[]⟩ Tryz.f74
theorem c_bytes_Clone {α:Type} {I:Imm}:OrcOk (α:=α) Tryz.prog I 74 (.full B_bytes_Clone):=orc_body T_bytes_Clone_ok O_bytes_Clone_ok ⟨40,[]⟩ Tryz.func74 (by kernel_rfl) (by kernel_rfl) (by kernel_rfl)
abbrev T_z21 : TE:=[(5,⟨.int .u8 0,1,1,.sc (.int .u8),none⟩),(84,⟨.nils,1,24,.sc (.slice 5),none⟩),(127,⟨.agg [.nils],1,24,.st [(0,1,false)],none⟩)]
theorem T_z58 : Prg Tryz.prog T_z21:=⟨(.cons te_5 (.cons te_84 (.cons te_127 (TEok.nil _)))),by kernel_rfl⟩
noncomputable abbrev O_z21 {α:Type}:ORC α:=[(74,.full B_bytes_Clone)]
theorem O_z58 {α:Type} {I:Imm}:OOk (α:=α) Tryz.prog I O_z21:=OOk.cons c_bytes_Clone (OOk.nil)
noncomputable abbrev B_z21 {α:Type}:FF α:=byBody T_z21 O_z21 ⟨40,[]⟩ Tryz.f110
theorem c_z21 {α:Type} {I:Imm}:OrcOk (α:=α) Tryz.prog I 110 (.full B_z21):=orc_body T_z58 O_z58 ⟨40,[]⟩ Tryz.func110 (by kernel_rfl) (by kernel_rfl) (by kernel_rfl)
theorem te_83 : TyOk Tryz.prog 83 ⟨.agg [.agg [],.agg [],.int .u64 0],1,8,.st [(0,0,true),(0,0,true),(0,1,false)],none⟩:=⟨fun _=>by kernel_rfl,⟨rfl,rfl,fun _ _=>by simp [Wf,Wfs]⟩,⟨_,Tryz.underlying83,by kernel_rfl⟩,fun _ h=>by cases h⟩
abbrev T_sync_atomic_Uint64_Load : TE:=[(83,⟨.agg [.agg [],.agg [],.int .u64 0],1,8,.st [(0,0,true),(0,0,true),(0,1,false)],none⟩)]
theorem T_sync_atomic_Uint64_Load_ok : Prg Tryz.prog T_sync_atomic_Uint64_Load:=⟨(.cons te_83 (TEok.nil _)),by kernel_rfl⟩
noncomputable abbrev O_sync_atomic_Uint64_Load {α:Type}:ORC α:=[(122,.ext (xLoad .u64))]
theorem O_sync_atomic_Uint64_Load_ok {α:Type} {I:Imm}:OOk (α:=α) Tryz.prog I O_sync_atomic_Uint64_Load:=OOk.cons c_sync_atomic_LoadUint64 (OOk.nil)
noncomputable abbrev B_sync_atomic_Uint64_Load {α:Type}:FF α:=byBody T_sync_atomic_Uint64_Load O_sync_atomic_Uint64_Load ⟨40,[]⟩ Tryz.f82
theorem c_sync_atomic_Uint64_Load {α:Type} {I:Imm}:OrcOk (α:=α) Tryz.prog I 82 (.full B_sync_atomic_Uint64_Load):=orc_body T_sync_atomic_Uint64_Load_ok O_sync_atomic_Uint64_Load_ok ⟨40,[]⟩ Tryz.func82 (by kernel_rfl) (by kernel_rfl) (by kernel_rfl)
abbrev T_sync_atomic_Uint64_Store : TE:=[(83,⟨.agg [.agg [],.agg [],.int .u64 0],1,8,.st [(0,0,true),(0,0,true),(0,1,false)],none⟩)]
theorem T_sync_atomic_Uint64_Store_ok : Prg Tryz.prog T_sync_atomic_Uint64_Store:=⟨(.cons te_83 (TEok.nil _)),by kernel_rfl⟩
noncomputable abbrev O_sync_atomic_Uint64_Store {α:Type}:ORC α:=[(118,.ext (xStore .u64))]
theorem O_sync_atomic_Uint64_Store_ok {α:Type} {I:Imm}:OOk (α:=α) Tryz.prog I O_sync_atomic_Uint64_Store:=OOk.cons c_sync_atomic_StoreUint64 (OOk.nil)
noncomputable abbrev B_sync_atomic_Uint64_Store {α:Type}:FF α:=byBody T_sync_atomic_Uint64_Store O_sync_atomic_Uint64_Store ⟨40,[]⟩ Tryz.f76
theorem c_sync_atomic_Uint64_Store {α:Type} {I:Imm}:OrcOk (α:=α) Tryz.prog I 76 (.full B_sync_atomic_Uint64_Store):=orc_body T_sync_atomic_Uint64_Store_ok O_sync_atomic_Uint64_Store_ok ⟨40,[]⟩ Tryz.func76 (by kernel_rfl) (by kernel_rfl) (by kernel_rfl)
theorem te_3 : TyOk Tryz.prog 3 ⟨.int .i64 0,1,8,.sc (.int .i64),none⟩:=⟨fun _=>by kernel_rfl,⟨rfl,rfl,fun _ _=>by simp [Wf,Wfs]⟩,⟨Tryz.underlying3,rfl⟩,fun _ h=>by cases h⟩
theorem te_22 : TyOk Tryz.prog 22 ⟨.int .u64 0,1,8,.sc (.int .u64),none⟩:=⟨fun _=>by kernel_rfl,⟨rfl,rfl,fun _ _=>by simp [Wf,Wfs]⟩,⟨Tryz.underlying22,rfl⟩,fun _ h=>by cases h⟩
theorem te_86 : TyOk Tryz.prog 86 ⟨.agg [.nils,.nils,.int .i64 0],3,56,.st [(0,1,false),(1,1,false),(2,1,false)],none⟩:=⟨fun _=>by kernel_rfl,⟨rfl,rfl,fun _ _=>by simp [Wf,Wfs]⟩,⟨_,Tryz.underlying86,by kernel_rfl⟩,fun _ h=>by cases h⟩
theorem te_87 : TyOk Tryz.prog 87 ⟨.arr 3 4 (fun _=>.agg [.nils,.nils,.int .i64 0]),12,224,.ar 4 86 3 true,none⟩:=⟨fun _=>by kernel_rfl,⟨rfl,rfl,fun _ _=>by simp [Wf,Wfs]⟩,⟨Tryz.underlying87,by kernel_rfl,by kernel_rfl⟩,fun _ h=>by cases h⟩
abbrev T_z22 : TE:=[(3,⟨.int .i64 0,1,8,.sc (.int .i64),none⟩),(5,⟨.int .u8 0,1,1,.sc (.int .u8),none⟩),(22,⟨.int .u64 0,1,8,.sc (.int .u64),none⟩),(61,⟨.nilp,1,8,.sc (.pointer 127),none⟩),(84,⟨.nils,1,24,.sc (.slice 5),none⟩),(86,⟨.agg [.nils,.nils,.int .i64 0],3,56,.st [(0,1,false),(1,1,false),(2,1,false)],none⟩),(87,⟨.arr 3 4 (fun _=>.agg [.nils,.nils,.int .i64 0]),12,224,.ar 4 86 3 true,none⟩),(89,⟨.agg [.nilp,.agg [.agg [],.agg [],.int .u64 0],.int .u64 0,.arr 3 4 (fun _=>.agg [.nils,.nils,.int .i64 0])],15,248,.st [(0,1,false),(1,1,true),(2,1,false),(3,12,true)],none⟩)]
theorem T_z59 : Prg Tryz.prog T_z22:=⟨(.cons te_3 (.cons te_5 (.cons te_22 (.cons te_61 (.cons te_84 (.cons te_86 (.cons te_87 (.cons te_89 (TEok.nil _))))))))),by kernel_rfl⟩
noncomputable abbrev O_z22 {α:Type}:ORC α:=[(110,.full B_z21),(12,.full B_z1w),(82,.full B_sync_atomic_Uint64_Load),(76,.full B_sync_atomic_Uint64_Store),(74,.full B_bytes_Clone)]
theorem O_z59 {α:Type} {I:Imm}:OOk (α:=α) Tryz.prog I O_z22:=OOk.cons c_z21 (OOk.cons c_z1w (OOk.cons c_sync_atomic_Uint64_Load (OOk.cons c_sync_atomic_Uint64_Store (OOk.cons c_bytes_Clone (OOk.nil)))))
noncomputable abbrev B_z22 {α:Type}:FF α:=byBody T_z22 O_z22 ⟨40,[]⟩ Tryz.f62
theorem c_z22 {α:Type} {I:Imm}:OrcOk (α:=α) Tryz.prog I 62 (.full B_z22):=orc_body T_z59 O_z59 ⟨40,[]⟩ Tryz.func62 (by kernel_rfl) (by kernel_rfl) (by kernel_rfl)
theorem te_79 : TyOk Tryz.prog 79 ⟨.agg [.agg [],.agg [],.int .i64 0],1,8,.st [(0,0,true),(0,0,true),(0,1,false)],none⟩:=⟨fun _=>by kernel_rfl,⟨rfl,rfl,fun _ _=>by simp [Wf,Wfs]⟩,⟨_,Tryz.underlying79,by kernel_rfl⟩,fun _ h=>by cases h⟩
abbrev T_sync_atomic_Int64_Load : TE:=[(79,⟨.agg [.agg [],.agg [],.int .i64 0],1,8,.st [(0,0,true),(0,0,true),(0,1,false)],none⟩)]
theorem T_sync_atomic_Int64_Load_ok : Prg Tryz.prog T_sync_atomic_Int64_Load:=⟨(.cons te_79 (TEok.nil _)),by kernel_rfl⟩
noncomputable abbrev O_sync_atomic_Int64_Load {α:Type}:ORC α:=[(112,.ext (xLoad .i64))]
theorem O_sync_atomic_Int64_Load_ok {α:Type} {I:Imm}:OOk (α:=α) Tryz.prog I O_sync_atomic_Int64_Load:=OOk.cons c_sync_atomic_LoadInt64 (OOk.nil)
noncomputable abbrev B_sync_atomic_Int64_Load {α:Type}:FF α:=byBody T_sync_atomic_Int64_Load O_sync_atomic_Int64_Load ⟨40,[]⟩ Tryz.f64
theorem c_sync_atomic_Int64_Load {α:Type} {I:Imm}:OrcOk (α:=α) Tryz.prog I 64 (.full B_sync_atomic_Int64_Load):=orc_body T_sync_atomic_Int64_Load_ok O_sync_atomic_Int64_Load_ok ⟨40,[]⟩ Tryz.func64 (by kernel_rfl) (by kernel_rfl) (by kernel_rfl)
abbrev T_sync_atomic_Int64_Store : TE:=[(79,⟨.agg [.agg [],.agg [],.int .i64 0],1,8,.st [(0,0,true),(0,0,true),(0,1,false)],none⟩)]
theorem T_sync_atomic_Int64_Store_ok : Prg Tryz.prog T_sync_atomic_Int64_Store:=⟨(.cons te_79 (TEok.nil _)),by kernel_rfl⟩
noncomputable abbrev O_sync_atomic_Int64_Store {α:Type}:ORC α:=[(111,.ext (xStore .i64))]
theorem O_sync_atomic_Int64_Store_ok {α:Type} {I:Imm}:OOk (α:=α) Tryz.prog I O_sync_atomic_Int64_Store:=OOk.cons c_sync_atomic_StoreInt64 (OOk.nil)
noncomputable abbrev B_sync_atomic_Int64_Store {α:Type}:FF α:=byBody T_sync_atomic_Int64_Store O_sync_atomic_Int64_Store ⟨40,[]⟩ Tryz.f63
theorem c_sync_atomic_Int64_Store {α:Type} {I:Imm}:OrcOk (α:=α) Tryz.prog I 63 (.full B_sync_atomic_Int64_Store):=orc_body T_sync_atomic_Int64_Store_ok O_sync_atomic_Int64_Store_ok ⟨40,[]⟩ Tryz.func63 (by kernel_rfl) (by kernel_rfl) (by kernel_rfl)
abbrev T_isa_Machine_Copy : TE:=[(26,⟨.agg [.ints .u64 32 (fun _=>0),.int .u64 0,.int .i64 0,.bool false,.ints .u64 29 (fun _=>0),.int .u64 0],65,520,.st [(0,32,true),(32,1,false),(33,1,false),(34,1,false),(35,29,true),(64,1,false)],some (.st [(0,32,true,.ar 32 1 (.it .u64)),(32,1,false,.it .u64),(33,1,false,.it .i64),(34,1,false,.bl),(35,29,true,.ar 29 1 (.it .u64)),(64,1,false,.it .u64)])⟩),(31,⟨.nilp,1,8,.sc (.pointer 89),none⟩),(81,⟨.agg [.agg [.ints .u64 32 (fun _=>0),.int .u64 0,.int .i64 0,.bool false,.ints .u64 29 (fun _=>0),.int .u64 0],.nilp,.agg [.agg [],.agg [],.int .i64 0]],67,536,.st [(0,65,true),(65,1,false),(66,1,true)],none⟩)]
theorem T_isa_Machine_Copy_ok : Prg Tryz.prog T_isa_Machine_Copy:=⟨(.cons te_26 (.cons te_31 (.cons te_81 (TEok.nil _)))),by kernel_rfl⟩
noncomputable abbrev O_isa_Machine_Copy {α:Type}:ORC α:=[(62,.full B_z22),(10,.full B_isa_New),(64,.full B_sync_atomic_Int64_Load),(63,.full B_sync_atomic_Int64_Store)]
theorem O_isa_Machine_Copy_ok {α:Type} {I:Imm}:OOk (α:=α) Tryz.prog I O_isa_Machine_Copy:=OOk.cons c_z22 (OOk.cons c_isa_New (OOk.cons c_sync_atomic_Int64_Load (OOk.cons c_sync_atomic_Int64_Store (OOk.nil))))
noncomputable abbrev B_isa_Machine_Copy {α:Type}:FF α:=byBody T_isa_Machine_Copy O_isa_Machine_Copy ⟨40,[]⟩ Tryz.f27
theorem c_isa_Machine_Copy {α:Type} {I:Imm}:OrcOk (α:=α) Tryz.prog I 27 (.full B_isa_Machine_Copy):=orc_body T_isa_Machine_Copy_ok O_isa_Machine_Copy_ok ⟨40,[]⟩ Tryz.func27 (by kernel_rfl) (by kernel_rfl) (by kernel_rfl)
abbrev T_sync_atomic_Int64_Add : TE:=[(79,⟨.agg [.agg [],.agg [],.int .i64 0],1,8,.st [(0,0,true),(0,0,true),(0,1,false)],none⟩)]
theorem T_sync_atomic_Int64_Add_ok : Prg Tryz.prog T_sync_atomic_Int64_Add:=⟨(.cons te_79 (TEok.nil _)),by kernel_rfl⟩
noncomputable abbrev O_sync_atomic_Int64_Add {α:Type}:ORC α:=[(75,.ext (xAdd .i64))]
theorem O_sync_atomic_Int64_Add_ok {α:Type} {I:Imm}:OOk (α:=α) Tryz.prog I O_sync_atomic_Int64_Add:=OOk.cons c_sync_atomic_AddInt64 (OOk.nil)
noncomputable abbrev B_sync_atomic_Int64_Add {α:Type}:FF α:=byBody T_sync_atomic_Int64_Add O_sync_atomic_Int64_Add ⟨40,[]⟩ Tryz.f42
theorem c_sync_atomic_Int64_Add {α:Type} {I:Imm}:OrcOk (α:=α) Tryz.prog I 42 (.full B_sync_atomic_Int64_Add):=orc_body T_sync_atomic_Int64_Add_ok O_sync_atomic_Int64_Add_ok ⟨40,[]⟩ Tryz.func42 (by kernel_rfl) (by kernel_rfl) (by kernel_rfl)
abbrev T_z23 : TE:=[(89,⟨.agg [.nilp,.agg [.agg [],.agg [],.int .u64 0],.int .u64 0,.arr 3 4 (fun _=>.agg [.nils,.nils,.int .i64 0])],15,248,.st [(0,1,false),(1,1,true),(2,1,false),(3,12,true)],none⟩)]
theorem T_z5a : Prg Tryz.prog T_z23:=⟨(.cons te_89 (TEok.nil _)),by kernel_rfl⟩
noncomputable abbrev O_z23 {α:Type}:ORC α:=[(76,.full B_sync_atomic_Uint64_Store)]
theorem O_z5a {α:Type} {I:Imm}:OOk (α:=α) Tryz.prog I O_z23:=OOk.cons c_sync_atomic_Uint64_Store (OOk.nil)
noncomputable abbrev B_z23 {α:Type}:FF α:=byBody T_z23 O_z23 ⟨40,[]⟩ Tryz.f43
theorem c_z23 {α:Type} {I:Imm}:OrcOk (α:=α) Tryz.prog I 43 (.full B_z23):=orc_body T_z5a O_z5a ⟨40,[]⟩ Tryz.func43 (by kernel_rfl) (by kernel_rfl) (by kernel_rfl)
abbrev T_z24 : TE:=[(22,⟨.int .u64 0,1,8,.sc (.int .u64),none⟩),(89,⟨.agg [.nilp,.agg [.agg [],.agg [],.int .u64 0],.int .u64 0,.arr 3 4 (fun _=>.agg [.nils,.nils,.int .i64 0])],15,248,.st [(0,1,false),(1,1,true),(2,1,false),(3,12,true)],none⟩)]
theorem T_z5b : Prg Tryz.prog T_z24:=⟨(.cons te_22 (.cons te_89 (TEok.nil _))),by kernel_rfl⟩
noncomputable abbrev O_z24 {α:Type}:ORC α:=[(82,.full B_sync_atomic_Uint64_Load)]
theorem O_z5b {α:Type} {I:Imm}:OOk (α:=α) Tryz.prog I O_z24:=OOk.cons c_sync_atomic_Uint64_Load (OOk.nil)
noncomputable abbrev B_z24 {α:Type}:FF α:=byBody T_z24 O_z24 ⟨40,[]⟩ Tryz.f45
theorem c_z24 {α:Type} {I:Imm}:OrcOk (α:=α) Tryz.prog I 45 (.full B_z24):=orc_body T_z5b O_z5b ⟨40,[]⟩ Tryz.func45 (by kernel_rfl) (by kernel_rfl) (by kernel_rfl)
theorem te_45 : TyOk Tryz.prog 45 ⟨.agg [.int .u64 0,.int .u64 0,.int .u64 0,.bool false],4,32,.st [(0,1,false),(1,1,false),(2,1,false),(3,1,false)],some (.st [(0,1,false,.it .u64),(1,1,false,.it .u64),(2,1,false,.it .u64),(3,1,false,.bl)])⟩:=⟨fun _=>by kernel_rfl,⟨rfl,rfl,fun _ _=>by simp [Wf,Wfs]⟩,⟨_,Tryz.underlying45,by kernel_rfl⟩,fun _ h=>by cases h; exact ⟨by kernel_rfl,by kernel_rfl⟩⟩
theorem te_241 : TyOk Tryz.prog 241 ⟨.ints .u64 3 (fun _=>0),3,24,.ar 3 22 1 false,some (.ar 3 1 (.it .u64))⟩:=⟨fun _=>by kernel_rfl,⟨rfl,rfl,fun _ _=>by simp [Wf,Wfs]⟩,⟨Tryz.underlying241,by kernel_rfl,by kernel_rfl⟩,fun _ h=>by cases h; exact ⟨by kernel_rfl,by kernel_rfl⟩⟩
abbrev T_z25 : TE:=[(3,⟨.int .i64 0,1,8,.sc (.int .i64),none⟩),(22,⟨.int .u64 0,1,8,.sc (.int .u64),none⟩),(45,⟨.agg [.int .u64 0,.int .u64 0,.int .u64 0,.bool false],4,32,.st [(0,1,false),(1,1,false),(2,1,false),(3,1,false)],some (.st [(0,1,false,.it .u64),(1,1,false,.it .u64),(2,1,false,.it .u64),(3,1,false,.bl)])⟩),(241,⟨.ints .u64 3 (fun _=>0),3,24,.ar 3 22 1 false,some (.ar 3 1 (.it .u64))⟩)]
theorem T_z5c : Prg Tryz.prog T_z25:=⟨(.cons te_3 (.cons te_22 (.cons te_45 (.cons te_241 (TEok.nil _))))),by kernel_rfl⟩
noncomputable abbrev O_z25 {α:Type}:ORC α:=[(179,.pure (ad_z1e sBad)),(180,.pure (ad_zt sCause))]
theorem O_z5c {α:Type} {I:Imm}:OOk (α:=α) Tryz.prog I O_z25:=OOk.cons c_z1e (OOk.cons c_zt (OOk.nil))
noncomputable abbrev B_z25 {α:Type}:FF α:=byBody T_z25 O_z25 ⟨40,[]⟩ Tryz.f127
theorem c_z25 {α:Type} {I:Imm}:OrcOk (α:=α) Tryz.prog I 127 (.full B_z25):=orc_body T_z5c O_z5c ⟨40,[]⟩ Tryz.func127 (by kernel_rfl) (by kernel_rfl) (by kernel_rfl)
abbrev T_z26 : TE:=[(61,⟨.nilp,1,8,.sc (.pointer 127),none⟩),(89,⟨.agg [.nilp,.agg [.agg [],.agg [],.int .u64 0],.int .u64 0,.arr 3 4 (fun _=>.agg [.nils,.nils,.int .i64 0])],15,248,.st [(0,1,false),(1,1,true),(2,1,false),(3,12,true)],none⟩)]
theorem T_z5d : Prg Tryz.prog T_z26:=⟨(.cons te_61 (.cons te_89 (TEok.nil _))),by kernel_rfl⟩
noncomputable abbrev O_z26 {α:Type}:ORC α:=[]
theorem O_z5d {α:Type} {I:Imm}:OOk (α:=α) Tryz.prog I O_z26:=OOk.nil
noncomputable abbrev B_z26 {α:Type}:FF α:=byBody T_z26 O_z26 ⟨40,[]⟩ Tryz.f21
theorem c_z26 {α:Type} {I:Imm}:OrcOk (α:=α) Tryz.prog I 21 (.full B_z26):=orc_body T_z5d O_z5d ⟨40,[]⟩ Tryz.func21 (by kernel_rfl) (by kernel_rfl) (by kernel_rfl)
theorem te_4 : TyOk Tryz.prog 4 ⟨.bool false,1,1,.sc (.bool),none⟩:=⟨fun _=>by kernel_rfl,⟨rfl,rfl,fun _ _=>by simp [Wf,Wfs]⟩,⟨Tryz.underlying4,rfl⟩,fun _ h=>by cases h⟩
theorem te_172 : TyOk Tryz.prog 172 ⟨.agg [.bool false,.bool false,.int .i64 0,.int .i64 0,.int .i64 0,.int .i64 0,.int .i64 0,.int .i64 0,.int .i64 0],9,64,.st [(0,1,false),(1,1,false),(2,1,false),(3,1,false),(4,1,false),(5,1,false),(6,1,false),(7,1,false),(8,1,false)],some (.st [(0,1,false,.bl),(1,1,false,.bl),(2,1,false,.it .i64),(3,1,false,.it .i64),(4,1,false,.it .i64),(5,1,false,.it .i64),(6,1,false,.it .i64),(7,1,false,.it .i64),(8,1,false,.it .i64)])⟩:=⟨fun _=>by kernel_rfl,⟨rfl,rfl,fun _ _=>by simp [Wf,Wfs]⟩,⟨_,Tryz.underlying172,by kernel_rfl⟩,fun _ h=>by cases h; exact ⟨by kernel_rfl,by kernel_rfl⟩⟩
theorem te_243 : TyOk Tryz.prog 243 ⟨.agg [.bool false,.bool false,.bool false,.bool false,.int .i64 0,.int .i64 0,.int .i64 0,.int .i64 0],8,40,.st [(0,1,false),(1,1,false),(2,1,false),(3,1,false),(4,1,false),(5,1,false),(6,1,false),(7,1,false)],some (.st [(0,1,false,.bl),(1,1,false,.bl),(2,1,false,.bl),(3,1,false,.bl),(4,1,false,.it .i64),(5,1,false,.it .i64),(6,1,false,.it .i64),(7,1,false,.it .i64)])⟩:=⟨fun _=>by kernel_rfl,⟨rfl,rfl,fun _ _=>by simp [Wf,Wfs]⟩,⟨_,Tryz.underlying243,by kernel_rfl⟩,fun _ h=>by cases h; exact ⟨by kernel_rfl,by kernel_rfl⟩⟩
theorem te_266 : TyOk Tryz.prog 266 ⟨.agg [.int .u64 0,.int .i64 0,.bool false],3,24,.st [(0,1,false),(1,1,false),(2,1,false)],some (.st [(0,1,false,.it .u64),(1,1,false,.it .i64),(2,1,false,.bl)])⟩:=⟨fun _=>by kernel_rfl,⟨rfl,rfl,fun _ _=>by simp [Wf,Wfs]⟩,⟨_,Tryz.underlying266,by kernel_rfl⟩,fun _ h=>by cases h; exact ⟨by kernel_rfl,by kernel_rfl⟩⟩
abbrev T_z1s : TE:=[(3,⟨.int .i64 0,1,8,.sc (.int .i64),none⟩),(4,⟨.bool false,1,1,.sc (.bool),none⟩),(22,⟨.int .u64 0,1,8,.sc (.int .u64),none⟩),(26,⟨.agg [.ints .u64 32 (fun _=>0),.int .u64 0,.int .i64 0,.bool false,.ints .u64 29 (fun _=>0),.int .u64 0],65,520,.st [(0,32,true),(32,1,false),(33,1,false),(34,1,false),(35,29,true),(64,1,false)],some (.st [(0,32,true,.ar 32 1 (.it .u64)),(32,1,false,.it .u64),(33,1,false,.it .i64),(34,1,false,.bl),(35,29,true,.ar 29 1 (.it .u64)),(64,1,false,.it .u64)])⟩),(45,⟨.agg [.int .u64 0,.int .u64 0,.int .u64 0,.bool false],4,32,.st [(0,1,false),(1,1,false),(2,1,false),(3,1,false)],some (.st [(0,1,false,.it .u64),(1,1,false,.it .u64),(2,1,false,.it .u64),(3,1,false,.bl)])⟩),(172,⟨.agg [.bool false,.bool false,.int .i64 0,.int .i64 0,.int .i64 0,.int .i64 0,.int .i64 0,.int .i64 0,.int .i64 0],9,64,.st [(0,1,false),(1,1,false),(2,1,false),(3,1,false),(4,1,false),(5,1,false),(6,1,false),(7,1,false),(8,1,false)],some (.st [(0,1,false,.bl),(1,1,false,.bl),(2,1,false,.it .i64),(3,1,false,.it .i64),(4,1,false,.it .i64),(5,1,false,.it .i64),(6,1,false,.it .i64),(7,1,false,.it .i64),(8,1,false,.it .i64)])⟩),(243,⟨.agg [.bool false,.bool false,.bool false,.bool false,.int .i64 0,.int .i64 0,.int .i64 0,.int .i64 0],8,40,.st [(0,1,false),(1,1,false),(2,1,false),(3,1,false),(4,1,false),(5,1,false),(6,1,false),(7,1,false)],some (.st [(0,1,false,.bl),(1,1,false,.bl),(2,1,false,.bl),(3,1,false,.bl),(4,1,false,.it .i64),(5,1,false,.it .i64),(6,1,false,.it .i64),(7,1,false,.it .i64)])⟩),(266,⟨.agg [.int .u64 0,.int .i64 0,.bool false],3,24,.st [(0,1,false),(1,1,false),(2,1,false)],some (.st [(0,1,false,.it .u64),(1,1,false,.it .i64),(2,1,false,.bl)])⟩)]
theorem T_z2y : Prg Tryz.prog T_z1s:=⟨(.cons te_3 (.cons te_4 (.cons te_22 (.cons te_26 (.cons te_45 (.cons te_172 (.cons te_243 (.cons te_266 (TEok.nil _))))))))),by kernel_rfl⟩
noncomputable abbrev O_z1s {α:Type}:ORC α:=[(181,.pure askF),(182,.pure pageF),(183,.pure guestF),(186,.pure ofF)]
theorem O_z2y {α:Type} {I:Imm}:OOk (α:=α) Tryz.prog I O_z1s:=OOk.cons c_z2x (OOk.cons c_z2j (OOk.cons c_z2k (OOk.cons c_z2l (OOk.nil))))
noncomputable abbrev B_z1s {α:Type}:FF α:=byBody T_z1s O_z1s ⟨40,[]⟩ Tryz.f128
theorem c_z1s {α:Type} {I:Imm}:OrcOk (α:=α) Tryz.prog I 128 (.full B_z1s):=orc_body T_z2y O_z2y ⟨40,[]⟩ Tryz.func128 (by kernel_rfl) (by kernel_rfl) (by kernel_rfl)
abbrev T_z27 : TE:=[(22,⟨.int .u64 0,1,8,.sc (.int .u64),none⟩)]
theorem T_z5e : Prg Tryz.prog T_z27:=⟨(.cons te_22 (TEok.nil _)),by kernel_rfl⟩
noncomputable abbrev O_z27 {α:Type}:ORC α:=[]
theorem O_z5e {α:Type} {I:Imm}:OOk (α:=α) Tryz.prog I O_z27:=OOk.nil
noncomputable abbrev B_z27 {α:Type}:FF α:=byBody T_z27 O_z27 ⟨40,[]⟩ Tryz.f187
theorem c_z27 {α:Type} {I:Imm}:OrcOk (α:=α) Tryz.prog I 187 (.full B_z27):=orc_body T_z5e O_z5e ⟨40,[]⟩ Tryz.func187 (by kernel_rfl) (by kernel_rfl) (by kernel_rfl)
abbrev T_z28 : TE:=[(22,⟨.int .u64 0,1,8,.sc (.int .u64),none⟩),(87,⟨.arr 3 4 (fun _=>.agg [.nils,.nils,.int .i64 0]),12,224,.ar 4 86 3 true,none⟩),(89,⟨.agg [.nilp,.agg [.agg [],.agg [],.int .u64 0],.int .u64 0,.arr 3 4 (fun _=>.agg [.nils,.nils,.int .i64 0])],15,248,.st [(0,1,false),(1,1,true),(2,1,false),(3,12,true)],none⟩)]
theorem T_z5f : Prg Tryz.prog T_z28:=⟨(.cons te_22 (.cons te_87 (.cons te_89 (TEok.nil _)))),by kernel_rfl⟩
noncomputable abbrev O_z28 {α:Type}:ORC α:=[]
theorem O_z5f {α:Type} {I:Imm}:OOk (α:=α) Tryz.prog I O_z28:=OOk.nil
noncomputable abbrev B_z28 {α:Type}:FF α:=byBody T_z28 O_z28 ⟨40,[]⟩ Tryz.f60
theorem c_z28 {α:Type} {I:Imm}:OrcOk (α:=α) Tryz.prog I 60 (.full B_z28):=orc_body T_z5f O_z5f ⟨40,[]⟩ Tryz.func60 (by kernel_rfl) (by kernel_rfl) (by kernel_rfl)
abbrev T_z1x : TE:=[(3,⟨.int .i64 0,1,8,.sc (.int .i64),none⟩),(22,⟨.int .u64 0,1,8,.sc (.int .u64),none⟩)]
theorem T_z5g : Prg Tryz.prog T_z1x:=⟨(.cons te_3 (.cons te_22 (TEok.nil _))),by kernel_rfl⟩
noncomputable abbrev O_z1x {α:Type}:ORC α:=[(60,.full B_z28)]
theorem O_z5g {α:Type} {I:Imm}:OOk (α:=α) Tryz.prog I O_z1x:=OOk.cons c_z28 (OOk.nil)
noncomputable abbrev B_z1x {α:Type}:FF α:=byBody T_z1x O_z1x ⟨40,[]⟩ Tryz.f50
theorem c_z1x {α:Type} {I:Imm}:OrcOk (α:=α) Tryz.prog I 50 (.full B_z1x):=orc_body T_z5g O_z5g ⟨40,[]⟩ Tryz.func50 (by kernel_rfl) (by kernel_rfl) (by kernel_rfl)
theorem te_9 : TyOk Tryz.prog 9 ⟨.str .empty,1,16,.sc (.string),none⟩:=⟨fun _=>by kernel_rfl,⟨rfl,rfl,fun _ _=>by simp [Wf,Wfs]⟩,⟨Tryz.underlying9,rfl⟩,fun _ h=>by cases h⟩
theorem te_96 : TyOk Tryz.prog 96 ⟨.int .i64 0,1,8,.sc (.int .i64),none⟩:=⟨fun _=>by kernel_rfl,⟨rfl,rfl,fun _ _=>by simp [Wf,Wfs]⟩,⟨Tryz.underlying96,rfl⟩,fun _ h=>by cases h⟩
abbrev T_z1q : TE:=[(5,⟨.int .u8 0,1,1,.sc (.int .u8),none⟩),(9,⟨.str .empty,1,16,.sc (.string),none⟩),(84,⟨.nils,1,24,.sc (.slice 5),none⟩),(96,⟨.int .i64 0,1,8,.sc (.int .i64),none⟩),(127,⟨.agg [.nils],1,24,.st [(0,1,false)],none⟩)]
theorem T_z2p : Prg Tryz.prog T_z1q:=⟨(.cons te_5 (.cons te_9 (.cons te_84 (.cons te_96 (.cons te_127 (TEok.nil _)))))),by kernel_rfl⟩
noncomputable abbrev O_z1q {α:Type}:ORC α:=[(69,.pure checkF),(70,.pure bytesF)]
theorem O_z2p {α:Type} {I:Imm}:OOk (α:=α) Tryz.prog I O_z1q:=OOk.cons c_z2e (OOk.cons c_z2n (OOk.nil))
noncomputable abbrev B_z1q {α:Type}:FF α:=byBody T_z1q O_z1q ⟨40,[]⟩ Tryz.f35
theorem c_z1q {α:Type} {I:Imm}:OrcOk (α:=α) Tryz.prog I 35 (.full B_z1q):=orc_body T_z2p O_z2p ⟨40,[]⟩ Tryz.func35 (by kernel_rfl) (by kernel_rfl) (by kernel_rfl)
theorem te_114 : TyOk Tryz.prog 114 ⟨.nilp,1,8,.sc (.pointer 86),none⟩:=⟨fun _=>by kernel_rfl,⟨rfl,rfl,fun _ _=>by simp [Wf,Wfs]⟩,⟨Tryz.underlying114,rfl⟩,fun _ h=>by cases h⟩
abbrev T_z29 : TE:=[(3,⟨.int .i64 0,1,8,.sc (.int .i64),none⟩),(5,⟨.int .u8 0,1,1,.sc (.int .u8),none⟩),(22,⟨.int .u64 0,1,8,.sc (.int .u64),none⟩),(61,⟨.nilp,1,8,.sc (.pointer 127),none⟩),(84,⟨.nils,1,24,.sc (.slice 5),none⟩),(86,⟨.agg [.nils,.nils,.int .i64 0],3,56,.st [(0,1,false),(1,1,false),(2,1,false)],none⟩),(89,⟨.agg [.nilp,.agg [.agg [],.agg [],.int .u64 0],.int .u64 0,.arr 3 4 (fun _=>.agg [.nils,.nils,.int .i64 0])],15,248,.st [(0,1,false),(1,1,true),(2,1,false),(3,12,true)],none⟩),(96,⟨.int .i64 0,1,8,.sc (.int .i64),none⟩),(114,⟨.nilp,1,8,.sc (.pointer 86),none⟩)]
theorem T_z5h : Prg Tryz.prog T_z29:=⟨(.cons te_3 (.cons te_5 (.cons te_22 (.cons te_61 (.cons te_84 (.cons te_86 (.cons te_89 (.cons te_96 (.cons te_114 (TEok.nil _)))))))))),by kernel_rfl⟩
noncomputable abbrev O_z29 {α:Type}:ORC α:=[(50,.full B_z1x),(35,.full B_z1q)]
theorem O_z5h {α:Type} {I:Imm}:OOk (α:=α) Tryz.prog I O_z29:=OOk.cons c_z1x (OOk.cons c_z1q (OOk.nil))
noncomputable abbrev B_z29 {α:Type}:FF α:=byBody T_z29 O_z29 ⟨40,[]⟩ Tryz.f18
theorem c_z29 {α:Type} {I:Imm}:OrcOk (α:=α) Tryz.prog I 18 (.full B_z29):=orc_body T_z5h O_z5h ⟨40,[]⟩ Tryz.func18 (by kernel_rfl) (by kernel_rfl) (by kernel_rfl)
abbrev T_z1o : TE:=[(3,⟨.int .i64 0,1,8,.sc (.int .i64),none⟩),(5,⟨.int .u8 0,1,1,.sc (.int .u8),none⟩),(9,⟨.str .empty,1,16,.sc (.string),none⟩),(22,⟨.int .u64 0,1,8,.sc (.int .u64),none⟩),(84,⟨.nils,1,24,.sc (.slice 5),none⟩),(96,⟨.int .i64 0,1,8,.sc (.int .i64),none⟩),(127,⟨.agg [.nils],1,24,.st [(0,1,false)],none⟩)]
theorem T_z2o : Prg Tryz.prog T_z1o:=⟨(.cons te_3 (.cons te_5 (.cons te_9 (.cons te_22 (.cons te_84 (.cons te_96 (.cons te_127 (TEok.nil _)))))))),by kernel_rfl⟩
noncomputable abbrev O_z1o {α:Type}:ORC α:=[(69,.pure checkF),(253,.pure getF)]
theorem O_z2o {α:Type} {I:Imm}:OOk (α:=α) Tryz.prog I O_z1o:=OOk.cons c_z2e (OOk.cons c_z2m (OOk.nil))
noncomputable abbrev B_z1o {α:Type}:FF α:=byBody T_z1o O_z1o ⟨40,[]⟩ Tryz.f235
theorem c_z1o {α:Type} {I:Imm}:OrcOk (α:=α) Tryz.prog I 235 (.full B_z1o):=orc_body T_z2o O_z2o ⟨40,[]⟩ Tryz.func235 (by kernel_rfl) (by kernel_rfl) (by kernel_rfl)
abbrev T_z2a : TE:=[(3,⟨.int .i64 0,1,8,.sc (.int .i64),none⟩),(5,⟨.int .u8 0,1,1,.sc (.int .u8),none⟩),(22,⟨.int .u64 0,1,8,.sc (.int .u64),none⟩),(61,⟨.nilp,1,8,.sc (.pointer 127),none⟩),(84,⟨.nils,1,24,.sc (.slice 5),none⟩),(86,⟨.agg [.nils,.nils,.int .i64 0],3,56,.st [(0,1,false),(1,1,false),(2,1,false)],none⟩),(89,⟨.agg [.nilp,.agg [.agg [],.agg [],.int .u64 0],.int .u64 0,.arr 3 4 (fun _=>.agg [.nils,.nils,.int .i64 0])],15,248,.st [(0,1,false),(1,1,true),(2,1,false),(3,12,true)],none⟩),(96,⟨.int .i64 0,1,8,.sc (.int .i64),none⟩),(114,⟨.nilp,1,8,.sc (.pointer 86),none⟩)]
theorem T_z5i : Prg Tryz.prog T_z2a:=⟨(.cons te_3 (.cons te_5 (.cons te_22 (.cons te_61 (.cons te_84 (.cons te_86 (.cons te_89 (.cons te_96 (.cons te_114 (TEok.nil _)))))))))),by kernel_rfl⟩
noncomputable abbrev O_z2a {α:Type}:ORC α:=[(82,.full B_sync_atomic_Uint64_Load),(50,.full B_z1x),(235,.full B_z1o)]
theorem O_z5i {α:Type} {I:Imm}:OOk (α:=α) Tryz.prog I O_z2a:=OOk.cons c_sync_atomic_Uint64_Load (OOk.cons c_z1x (OOk.cons c_z1o (OOk.nil)))
noncomputable abbrev B_z2a {α:Type}:FF α:=byBody T_z2a O_z2a ⟨40,[]⟩ Tryz.f188
theorem c_z2a {α:Type} {I:Imm}:OrcOk (α:=α) Tryz.prog I 188 (.full B_z2a):=orc_body T_z5i O_z5i ⟨40,[]⟩ Tryz.func188 (by kernel_rfl) (by kernel_rfl) (by kernel_rfl)
abbrev T_z2b : TE:=[(3,⟨.int .i64 0,1,8,.sc (.int .i64),none⟩),(45,⟨.agg [.int .u64 0,.int .u64 0,.int .u64 0,.bool false],4,32,.st [(0,1,false),(1,1,false),(2,1,false),(3,1,false)],some (.st [(0,1,false,.it .u64),(1,1,false,.it .u64),(2,1,false,.it .u64),(3,1,false,.bl)])⟩)]
theorem T_z5j : Prg Tryz.prog T_z2b:=⟨(.cons te_3 (.cons te_45 (TEok.nil _))),by kernel_rfl⟩
noncomputable abbrev O_z2b {α:Type}:ORC α:=[(187,.full B_z27),(18,.full B_z29),(188,.full B_z2a),(179,.pure (ad_z1e sBad))]
theorem O_z5j {α:Type} {I:Imm}:OOk (α:=α) Tryz.prog I O_z2b:=OOk.cons c_z27 (OOk.cons c_z29 (OOk.cons c_z2a (OOk.cons c_z1e (OOk.nil))))
noncomputable abbrev B_z2b {α:Type}:FF α:=byBody T_z2b O_z2b ⟨40,[]⟩ Tryz.f129
theorem c_z2b {α:Type} {I:Imm}:OrcOk (α:=α) Tryz.prog I 129 (.full B_z2b):=orc_body T_z5j O_z5j ⟨40,[]⟩ Tryz.func129 (by kernel_rfl) (by kernel_rfl) (by kernel_rfl)
abbrev T_z2c : TE:=[(26,⟨.agg [.ints .u64 32 (fun _=>0),.int .u64 0,.int .i64 0,.bool false,.ints .u64 29 (fun _=>0),.int .u64 0],65,520,.st [(0,32,true),(32,1,false),(33,1,false),(34,1,false),(35,29,true),(64,1,false)],some (.st [(0,32,true,.ar 32 1 (.it .u64)),(32,1,false,.it .u64),(33,1,false,.it .i64),(34,1,false,.bl),(35,29,true,.ar 29 1 (.it .u64)),(64,1,false,.it .u64)])⟩),(45,⟨.agg [.int .u64 0,.int .u64 0,.int .u64 0,.bool false],4,32,.st [(0,1,false),(1,1,false),(2,1,false),(3,1,false)],some (.st [(0,1,false,.it .u64),(1,1,false,.it .u64),(2,1,false,.it .u64),(3,1,false,.bl)])⟩),(172,⟨.agg [.bool false,.bool false,.int .i64 0,.int .i64 0,.int .i64 0,.int .i64 0,.int .i64 0,.int .i64 0,.int .i64 0],9,64,.st [(0,1,false),(1,1,false),(2,1,false),(3,1,false),(4,1,false),(5,1,false),(6,1,false),(7,1,false),(8,1,false)],some (.st [(0,1,false,.bl),(1,1,false,.bl),(2,1,false,.it .i64),(3,1,false,.it .i64),(4,1,false,.it .i64),(5,1,false,.it .i64),(6,1,false,.it .i64),(7,1,false,.it .i64),(8,1,false,.it .i64)])⟩)]
theorem T_z5k : Prg Tryz.prog T_z2c:=⟨(.cons te_26 (.cons te_45 (.cons te_172 (TEok.nil _)))),by kernel_rfl⟩
noncomputable abbrev O_z2c {α:Type}:ORC α:=[(127,.full B_z25),(21,.full B_z26),(128,.full B_z1s),(129,.full B_z2b)]
theorem O_z5k {α:Type} {I:Imm}:OOk (α:=α) Tryz.prog I O_z2c:=OOk.cons c_z25 (OOk.cons c_z26 (OOk.cons c_z1s (OOk.cons c_z2b (OOk.nil))))
noncomputable abbrev B_z2c {α:Type}:FF α:=byBody T_z2c O_z2c ⟨40,[]⟩ Tryz.f84
theorem c_z2c {α:Type} {I:Imm}:OrcOk (α:=α) Tryz.prog I 84 (.full B_z2c):=orc_body T_z5k O_z5k ⟨40,[]⟩ Tryz.func84 (by kernel_rfl) (by kernel_rfl) (by kernel_rfl)
theorem te_43 : TyOk Tryz.prog 43 ⟨.int .u32 0,1,4,.sc (.int .u32),none⟩:=⟨fun _=>by kernel_rfl,⟨rfl,rfl,fun _ _=>by simp [Wf,Wfs]⟩,⟨Tryz.underlying43,rfl⟩,fun _ h=>by cases h⟩
abbrev T_z2d : TE:=[(3,⟨.int .i64 0,1,8,.sc (.int .i64),none⟩),(4,⟨.bool false,1,1,.sc (.bool),none⟩),(22,⟨.int .u64 0,1,8,.sc (.int .u64),none⟩),(26,⟨.agg [.ints .u64 32 (fun _=>0),.int .u64 0,.int .i64 0,.bool false,.ints .u64 29 (fun _=>0),.int .u64 0],65,520,.st [(0,32,true),(32,1,false),(33,1,false),(34,1,false),(35,29,true),(64,1,false)],some (.st [(0,32,true,.ar 32 1 (.it .u64)),(32,1,false,.it .u64),(33,1,false,.it .i64),(34,1,false,.bl),(35,29,true,.ar 29 1 (.it .u64)),(64,1,false,.it .u64)])⟩),(43,⟨.int .u32 0,1,4,.sc (.int .u32),none⟩),(45,⟨.agg [.int .u64 0,.int .u64 0,.int .u64 0,.bool false],4,32,.st [(0,1,false),(1,1,false),(2,1,false),(3,1,false)],some (.st [(0,1,false,.it .u64),(1,1,false,.it .u64),(2,1,false,.it .u64),(3,1,false,.bl)])⟩)]
theorem T_z5l : Prg Tryz.prog T_z2d:=⟨(.cons te_3 (.cons te_4 (.cons te_22 (.cons te_26 (.cons te_43 (.cons te_45 (TEok.nil _))))))),by kernel_rfl⟩
noncomputable abbrev O_z2d {α:Type}:ORC α:=[(84,.full B_z2c)]
theorem O_z5l {α:Type} {I:Imm}:OOk (α:=α) Tryz.prog I O_z2d:=OOk.cons c_z2c (OOk.nil)
noncomputable abbrev B_z2d {α:Type}:FF α:=byBody T_z2d O_z2d ⟨40,[]⟩ Tryz.f47
theorem c_z2d {α:Type} {I:Imm}:OrcOk (α:=α) Tryz.prog I 47 (.full B_z2d):=orc_body T_z5l O_z5l ⟨40,[]⟩ Tryz.func47 (by kernel_rfl) (by kernel_rfl) (by kernel_rfl)
theorem te_23 : TyOk Tryz.prog 23 ⟨.ints .u64 32 (fun _=>0),32,256,.ar 32 22 1 false,some (.ar 32 1 (.it .u64))⟩:=⟨fun _=>by kernel_rfl,⟨rfl,rfl,fun _ _=>by simp [Wf,Wfs]⟩,⟨Tryz.underlying23,by kernel_rfl,by kernel_rfl⟩,fun _ h=>by cases h; exact ⟨by kernel_rfl,by kernel_rfl⟩⟩
theorem te_36 : TyOk Tryz.prog 36 ⟨.agg [.int .i64 0,.int .i64 0,.int .i64 0,.int .i64 0,.int .i64 0,.int .i64 0],6,48,.st [(0,1,false),(1,1,false),(2,1,false),(3,1,false),(4,1,false),(5,1,false)],some (.st [(0,1,false,.it .i64),(1,1,false,.it .i64),(2,1,false,.it .i64),(3,1,false,.it .i64),(4,1,false,.it .i64),(5,1,false,.it .i64)])⟩:=⟨fun _=>by kernel_rfl,⟨rfl,rfl,fun _ _=>by simp [Wf,Wfs]⟩,⟨_,Tryz.underlying36,by kernel_rfl⟩,fun _ h=>by cases h; exact ⟨by kernel_rfl,by kernel_rfl⟩⟩
theorem te_47 : TyOk Tryz.prog 47 ⟨.agg [.int .u64 0,.int .u32 0,.int .i64 0,.int .u64 0,.bool false,.agg [.int .u64 0,.int .u64 0,.int .u64 0,.bool false],.int .i64 0,.bool false,.bool false],12,88,.st [(0,1,false),(1,1,false),(2,1,false),(3,1,false),(4,1,false),(5,4,true),(9,1,false),(10,1,false),(11,1,false)],some (.st [(0,1,false,.it .u64),(1,1,false,.it .u32),(2,1,false,.it .i64),(3,1,false,.it .u64),(4,1,false,.bl),(5,4,true,.st [(0,1,false,.it .u64),(1,1,false,.it .u64),(2,1,false,.it .u64),(3,1,false,.bl)]),(9,1,false,.it .i64),(10,1,false,.bl),(11,1,false,.bl)])⟩:=⟨fun _=>by kernel_rfl,⟨rfl,rfl,fun _ _=>by simp [Wf,Wfs]⟩,⟨_,Tryz.underlying47,by kernel_rfl⟩,fun _ h=>by cases h; exact ⟨by kernel_rfl,by kernel_rfl⟩⟩
theorem te_165 : TyOk Tryz.prog 165 ⟨.agg [.agg [.ints .u64 32 (fun _=>0),.int .u64 0,.int .i64 0,.bool false,.ints .u64 29 (fun _=>0),.int .u64 0],.int .u64 0,.agg [.int .u64 0,.int .u64 0,.int .u64 0,.bool false],.bool false],71,568,.st [(0,65,true),(65,1,false),(66,4,true),(70,1,false)],some (.st [(0,65,true,.st [(0,32,true,.ar 32 1 (.it .u64)),(32,1,false,.it .u64),(33,1,false,.it .i64),(34,1,false,.bl),(35,29,true,.ar 29 1 (.it .u64)),(64,1,false,.it .u64)]),(65,1,false,.it .u64),(66,4,true,.st [(0,1,false,.it .u64),(1,1,false,.it .u64),(2,1,false,.it .u64),(3,1,false,.bl)]),(70,1,false,.bl)])⟩:=⟨fun _=>by kernel_rfl,⟨rfl,rfl,fun _ _=>by simp [Wf,Wfs]⟩,⟨_,Tryz.underlying165,by kernel_rfl⟩,fun _ h=>by cases h; exact ⟨by kernel_rfl,by kernel_rfl⟩⟩
abbrev T_exec_Do : TE:=[(3,⟨.int .i64 0,1,8,.sc (.int .i64),none⟩),(4,⟨.bool false,1,1,.sc (.bool),none⟩),(22,⟨.int .u64 0,1,8,.sc (.int .u64),none⟩),(23,⟨.ints .u64 32 (fun _=>0),32,256,.ar 32 22 1 false,some (.ar 32 1 (.it .u64))⟩),(26,⟨.agg [.ints .u64 32 (fun _=>0),.int .u64 0,.int .i64 0,.bool false,.ints .u64 29 (fun _=>0),.int .u64 0],65,520,.st [(0,32,true),(32,1,false),(33,1,false),(34,1,false),(35,29,true),(64,1,false)],some (.st [(0,32,true,.ar 32 1 (.it .u64)),(32,1,false,.it .u64),(33,1,false,.it .i64),(34,1,false,.bl),(35,29,true,.ar 29 1 (.it .u64)),(64,1,false,.it .u64)])⟩),(36,⟨.agg [.int .i64 0,.int .i64 0,.int .i64 0,.int .i64 0,.int .i64 0,.int .i64 0],6,48,.st [(0,1,false),(1,1,false),(2,1,false),(3,1,false),(4,1,false),(5,1,false)],some (.st [(0,1,false,.it .i64),(1,1,false,.it .i64),(2,1,false,.it .i64),(3,1,false,.it .i64),(4,1,false,.it .i64),(5,1,false,.it .i64)])⟩),(43,⟨.int .u32 0,1,4,.sc (.int .u32),none⟩),(45,⟨.agg [.int .u64 0,.int .u64 0,.int .u64 0,.bool false],4,32,.st [(0,1,false),(1,1,false),(2,1,false),(3,1,false)],some (.st [(0,1,false,.it .u64),(1,1,false,.it .u64),(2,1,false,.it .u64),(3,1,false,.bl)])⟩),(47,⟨.agg [.int .u64 0,.int .u32 0,.int .i64 0,.int .u64 0,.bool false,.agg [.int .u64 0,.int .u64 0,.int .u64 0,.bool false],.int .i64 0,.bool false,.bool false],12,88,.st [(0,1,false),(1,1,false),(2,1,false),(3,1,false),(4,1,false),(5,4,true),(9,1,false),(10,1,false),(11,1,false)],some (.st [(0,1,false,.it .u64),(1,1,false,.it .u32),(2,1,false,.it .i64),(3,1,false,.it .u64),(4,1,false,.bl),(5,4,true,.st [(0,1,false,.it .u64),(1,1,false,.it .u64),(2,1,false,.it .u64),(3,1,false,.bl)]),(9,1,false,.it .i64),(10,1,false,.bl),(11,1,false,.bl)])⟩),(96,⟨.int .i64 0,1,8,.sc (.int .i64),none⟩),(165,⟨.agg [.agg [.ints .u64 32 (fun _=>0),.int .u64 0,.int .i64 0,.bool false,.ints .u64 29 (fun _=>0),.int .u64 0],.int .u64 0,.agg [.int .u64 0,.int .u64 0,.int .u64 0,.bool false],.bool false],71,568,.st [(0,65,true),(65,1,false),(66,4,true),(70,1,false)],some (.st [(0,65,true,.st [(0,32,true,.ar 32 1 (.it .u64)),(32,1,false,.it .u64),(33,1,false,.it .i64),(34,1,false,.bl),(35,29,true,.ar 29 1 (.it .u64)),(64,1,false,.it .u64)]),(65,1,false,.it .u64),(66,4,true,.st [(0,1,false,.it .u64),(1,1,false,.it .u64),(2,1,false,.it .u64),(3,1,false,.bl)]),(70,1,false,.bl)])⟩)]
theorem T_exec_Do_ok : Prg Tryz.prog T_exec_Do:=⟨(.cons te_3 (.cons te_4 (.cons te_22 (.cons te_23 (.cons te_26 (.cons te_36 (.cons te_43 (.cons te_45 (.cons te_47 (.cons te_96 (.cons te_165 (TEok.nil _)))))))))))),by kernel_rfl⟩
noncomputable abbrev O_exec_Do {α:Type}:ORC α:=[(86,.pure (ad_z1k s_decode_Decode)),(48,.pure (ad_z1h s_exec_Fault)),(87,.pure (ad_z1l s_legal_Insn)),(89,.pure (ad_z1m s_insn_Writes))]
theorem O_exec_Do_ok {α:Type} {I:Imm}:OOk (α:=α) Tryz.prog I O_exec_Do:=OOk.cons c_z1k (OOk.cons c_z1h (OOk.cons c_z1l (OOk.cons c_z1m (OOk.nil))))
noncomputable abbrev B_exec_Do {α:Type}:FF α:=byBody T_exec_Do O_exec_Do ⟨40,[]⟩ Tryz.f49
theorem c_exec_Do {α:Type} {I:Imm}:OrcOk (α:=α) Tryz.prog I 49 (.full B_exec_Do):=orc_body T_exec_Do_ok O_exec_Do_ok ⟨40,[]⟩ Tryz.func49 (by kernel_rfl) (by kernel_rfl) (by kernel_rfl)
abbrev T_isa_Machine_Step : TE:=[(4,⟨.bool false,1,1,.sc (.bool),none⟩),(22,⟨.int .u64 0,1,8,.sc (.int .u64),none⟩),(26,⟨.agg [.ints .u64 32 (fun _=>0),.int .u64 0,.int .i64 0,.bool false,.ints .u64 29 (fun _=>0),.int .u64 0],65,520,.st [(0,32,true),(32,1,false),(33,1,false),(34,1,false),(35,29,true),(64,1,false)],some (.st [(0,32,true,.ar 32 1 (.it .u64)),(32,1,false,.it .u64),(33,1,false,.it .i64),(34,1,false,.bl),(35,29,true,.ar 29 1 (.it .u64)),(64,1,false,.it .u64)])⟩),(31,⟨.nilp,1,8,.sc (.pointer 89),none⟩),(45,⟨.agg [.int .u64 0,.int .u64 0,.int .u64 0,.bool false],4,32,.st [(0,1,false),(1,1,false),(2,1,false),(3,1,false)],some (.st [(0,1,false,.it .u64),(1,1,false,.it .u64),(2,1,false,.it .u64),(3,1,false,.bl)])⟩),(47,⟨.agg [.int .u64 0,.int .u32 0,.int .i64 0,.int .u64 0,.bool false,.agg [.int .u64 0,.int .u64 0,.int .u64 0,.bool false],.int .i64 0,.bool false,.bool false],12,88,.st [(0,1,false),(1,1,false),(2,1,false),(3,1,false),(4,1,false),(5,4,true),(9,1,false),(10,1,false),(11,1,false)],some (.st [(0,1,false,.it .u64),(1,1,false,.it .u32),(2,1,false,.it .i64),(3,1,false,.it .u64),(4,1,false,.bl),(5,4,true,.st [(0,1,false,.it .u64),(1,1,false,.it .u64),(2,1,false,.it .u64),(3,1,false,.bl)]),(9,1,false,.it .i64),(10,1,false,.bl),(11,1,false,.bl)])⟩),(81,⟨.agg [.agg [.ints .u64 32 (fun _=>0),.int .u64 0,.int .i64 0,.bool false,.ints .u64 29 (fun _=>0),.int .u64 0],.nilp,.agg [.agg [],.agg [],.int .i64 0]],67,536,.st [(0,65,true),(65,1,false),(66,1,true)],none⟩)]
theorem T_isa_Machine_Step_ok : Prg Tryz.prog T_isa_Machine_Step:=⟨(.cons te_4 (.cons te_22 (.cons te_26 (.cons te_31 (.cons te_45 (.cons te_47 (.cons te_81 (TEok.nil _)))))))),by kernel_rfl⟩
noncomputable abbrev O_isa_Machine_Step {α:Type}:ORC α:=[(42,.full B_sync_atomic_Int64_Add),(43,.full B_z23),(45,.full B_z24),(44,.pure (ad_z1i s_route_Interrupt)),(46,.pure (ad_z1j s_exec_Interrupt)),(47,.full B_z2d),(48,.pure (ad_z1h s_exec_Fault)),(49,.full B_exec_Do)]
theorem O_isa_Machine_Step_ok {α:Type} {I:Imm}:OOk (α:=α) Tryz.prog I O_isa_Machine_Step:=OOk.cons c_sync_atomic_Int64_Add (OOk.cons c_z23 (OOk.cons c_z24 (OOk.cons c_z1i (OOk.cons c_z1j (OOk.cons c_z2d (OOk.cons c_z1h (OOk.cons c_exec_Do (OOk.nil))))))))
noncomputable abbrev B_isa_Machine_Step {α:Type}:FF α:=byBody T_isa_Machine_Step O_isa_Machine_Step ⟨40,[]⟩ Tryz.f16
theorem c_isa_Machine_Step {α:Type} {I:Imm}:OrcOk (α:=α) Tryz.prog I 16 (.full B_isa_Machine_Step):=orc_body T_isa_Machine_Step_ok O_isa_Machine_Step_ok ⟨40,[]⟩ Tryz.func16 (by kernel_rfl) (by kernel_rfl) (by kernel_rfl)
theorem te_41 : TyOk Tryz.prog 41 ⟨.nils,1,24,.sc (.slice 47),none⟩:=⟨fun _=>by kernel_rfl,⟨rfl,rfl,fun _ _=>by simp [Wf,Wfs]⟩,⟨Tryz.underlying41,rfl⟩,fun _ h=>by cases h⟩
abbrev T_isa_Machine_Run : TE:=[(3,⟨.int .i64 0,1,8,.sc (.int .i64),none⟩),(41,⟨.nils,1,24,.sc (.slice 47),none⟩),(47,⟨.agg [.int .u64 0,.int .u32 0,.int .i64 0,.int .u64 0,.bool false,.agg [.int .u64 0,.int .u64 0,.int .u64 0,.bool false],.int .i64 0,.bool false,.bool false],12,88,.st [(0,1,false),(1,1,false),(2,1,false),(3,1,false),(4,1,false),(5,4,true),(9,1,false),(10,1,false),(11,1,false)],some (.st [(0,1,false,.it .u64),(1,1,false,.it .u32),(2,1,false,.it .i64),(3,1,false,.it .u64),(4,1,false,.bl),(5,4,true,.st [(0,1,false,.it .u64),(1,1,false,.it .u64),(2,1,false,.it .u64),(3,1,false,.bl)]),(9,1,false,.it .i64),(10,1,false,.bl),(11,1,false,.bl)])⟩)]
theorem T_isa_Machine_Run_ok : Prg Tryz.prog T_isa_Machine_Run:=⟨(.cons te_3 (.cons te_41 (.cons te_47 (TEok.nil _)))),by kernel_rfl⟩
noncomputable abbrev O_isa_Machine_Run {α:Type}:ORC α:=[(16,.full B_isa_Machine_Step)]
theorem O_isa_Machine_Run_ok {α:Type} {I:Imm}:OOk (α:=α) Tryz.prog I O_isa_Machine_Run:=OOk.cons c_isa_Machine_Step (OOk.nil)
noncomputable abbrev B_isa_Machine_Run {α:Type}:FF α:=byBody T_isa_Machine_Run O_isa_Machine_Run ⟨40,[]⟩ Tryz.f15
theorem c_isa_Machine_Run {α:Type} {I:Imm}:OrcOk (α:=α) Tryz.prog I 15 (.full B_isa_Machine_Run):=orc_body T_isa_Machine_Run_ok O_isa_Machine_Run_ok ⟨40,[]⟩ Tryz.func15 (by kernel_rfl) (by kernel_rfl) (by kernel_rfl)
abbrev T_zs : TE:=[(3,⟨.int .i64 0,1,8,.sc (.int .i64),none⟩),(41,⟨.nils,1,24,.sc (.slice 47),none⟩),(47,⟨.agg [.int .u64 0,.int .u32 0,.int .i64 0,.int .u64 0,.bool false,.agg [.int .u64 0,.int .u64 0,.int .u64 0,.bool false],.int .i64 0,.bool false,.bool false],12,88,.st [(0,1,false),(1,1,false),(2,1,false),(3,1,false),(4,1,false),(5,4,true),(9,1,false),(10,1,false),(11,1,false)],some (.st [(0,1,false,.it .u64),(1,1,false,.it .u32),(2,1,false,.it .i64),(3,1,false,.it .u64),(4,1,false,.bl),(5,4,true,.st [(0,1,false,.it .u64),(1,1,false,.it .u64),(2,1,false,.it .u64),(3,1,false,.bl)]),(9,1,false,.it .i64),(10,1,false,.bl),(11,1,false,.bl)])⟩)]
theorem T_z5m : Prg Tryz.prog T_zs:=⟨(.cons te_3 (.cons te_41 (.cons te_47 (TEok.nil _)))),by kernel_rfl⟩
noncomputable abbrev O_zs {α:Type}:ORC α:=[]
theorem O_z5m {α:Type} {I:Imm}:OOk (α:=α) Tryz.prog I O_zs:=OOk.nil
noncomputable abbrev B_zs {α:Type}:FF α:=byBody T_zs O_zs ⟨40,[]⟩ Tryz.f26
theorem c_zs {α:Type} {I:Imm}:OrcOk (α:=α) Tryz.prog I 26 (.full B_zs):=orc_body T_z5m O_z5m ⟨40,[]⟩ Tryz.func26 (by kernel_rfl) (by kernel_rfl) (by kernel_rfl)
abbrev T_audit_Behind : TE:=[(3,⟨.int .i64 0,1,8,.sc (.int .i64),none⟩),(4,⟨.bool false,1,1,.sc (.bool),none⟩),(41,⟨.nils,1,24,.sc (.slice 47),none⟩),(47,⟨.agg [.int .u64 0,.int .u32 0,.int .i64 0,.int .u64 0,.bool false,.agg [.int .u64 0,.int .u64 0,.int .u64 0,.bool false],.int .i64 0,.bool false,.bool false],12,88,.st [(0,1,false),(1,1,false),(2,1,false),(3,1,false),(4,1,false),(5,4,true),(9,1,false),(10,1,false),(11,1,false)],some (.st [(0,1,false,.it .u64),(1,1,false,.it .u32),(2,1,false,.it .i64),(3,1,false,.it .u64),(4,1,false,.bl),(5,4,true,.st [(0,1,false,.it .u64),(1,1,false,.it .u64),(2,1,false,.it .u64),(3,1,false,.bl)]),(9,1,false,.it .i64),(10,1,false,.bl),(11,1,false,.bl)])⟩)]
theorem T_audit_Behind_ok : Prg Tryz.prog T_audit_Behind:=⟨(.cons te_3 (.cons te_4 (.cons te_41 (.cons te_47 (TEok.nil _))))),by kernel_rfl⟩
noncomputable abbrev O_audit_Behind {α:Type}:ORC α:=[(27,.full B_isa_Machine_Copy),(16,.full B_isa_Machine_Step)]
theorem O_audit_Behind_ok {α:Type} {I:Imm}:OOk (α:=α) Tryz.prog I O_audit_Behind:=OOk.cons c_isa_Machine_Copy (OOk.cons c_isa_Machine_Step (OOk.nil))
noncomputable abbrev B_audit_Behind {α:Type}:FF α:=byBody T_audit_Behind O_audit_Behind ⟨40,[]⟩ Tryz.f61
theorem c_audit_Behind {α:Type} {I:Imm}:OrcOk (α:=α) Tryz.prog I 61 (.full B_audit_Behind):=orc_body T_audit_Behind_ok O_audit_Behind_ok ⟨40,[]⟩ Tryz.func61 (by kernel_rfl) (by kernel_rfl) (by kernel_rfl)
abbrev T_isa_Machine_State : TE:=[(26,⟨.agg [.ints .u64 32 (fun _=>0),.int .u64 0,.int .i64 0,.bool false,.ints .u64 29 (fun _=>0),.int .u64 0],65,520,.st [(0,32,true),(32,1,false),(33,1,false),(34,1,false),(35,29,true),(64,1,false)],some (.st [(0,32,true,.ar 32 1 (.it .u64)),(32,1,false,.it .u64),(33,1,false,.it .i64),(34,1,false,.bl),(35,29,true,.ar 29 1 (.it .u64)),(64,1,false,.it .u64)])⟩),(81,⟨.agg [.agg [.ints .u64 32 (fun _=>0),.int .u64 0,.int .i64 0,.bool false,.ints .u64 29 (fun _=>0),.int .u64 0],.nilp,.agg [.agg [],.agg [],.int .i64 0]],67,536,.st [(0,65,true),(65,1,false),(66,1,true)],none⟩)]
theorem T_isa_Machine_State_ok : Prg Tryz.prog T_isa_Machine_State:=⟨(.cons te_26 (.cons te_81 (TEok.nil _))),by kernel_rfl⟩
noncomputable abbrev O_isa_Machine_State {α:Type}:ORC α:=[]
theorem O_isa_Machine_State_ok {α:Type} {I:Imm}:OOk (α:=α) Tryz.prog I O_isa_Machine_State:=OOk.nil
noncomputable abbrev B_isa_Machine_State {α:Type}:FF α:=byBody T_isa_Machine_State O_isa_Machine_State ⟨40,[]⟩ Tryz.f11
theorem c_isa_Machine_State {α:Type} {I:Imm}:OrcOk (α:=α) Tryz.prog I 11 (.full B_isa_Machine_State):=orc_body T_isa_Machine_State_ok O_isa_Machine_State_ok ⟨40,[]⟩ Tryz.func11 (by kernel_rfl) (by kernel_rfl) (by kernel_rfl)
abbrev T_z33 : TE:=[(3,⟨.int .i64 0,1,8,.sc (.int .i64),none⟩),(22,⟨.int .u64 0,1,8,.sc (.int .u64),none⟩),(26,⟨.agg [.ints .u64 32 (fun _=>0),.int .u64 0,.int .i64 0,.bool false,.ints .u64 29 (fun _=>0),.int .u64 0],65,520,.st [(0,32,true),(32,1,false),(33,1,false),(34,1,false),(35,29,true),(64,1,false)],some (.st [(0,32,true,.ar 32 1 (.it .u64)),(32,1,false,.it .u64),(33,1,false,.it .i64),(34,1,false,.bl),(35,29,true,.ar 29 1 (.it .u64)),(64,1,false,.it .u64)])⟩),(41,⟨.nils,1,24,.sc (.slice 47),none⟩),(47,⟨.agg [.int .u64 0,.int .u32 0,.int .i64 0,.int .u64 0,.bool false,.agg [.int .u64 0,.int .u64 0,.int .u64 0,.bool false],.int .i64 0,.bool false,.bool false],12,88,.st [(0,1,false),(1,1,false),(2,1,false),(3,1,false),(4,1,false),(5,4,true),(9,1,false),(10,1,false),(11,1,false)],some (.st [(0,1,false,.it .u64),(1,1,false,.it .u32),(2,1,false,.it .i64),(3,1,false,.it .u64),(4,1,false,.bl),(5,4,true,.st [(0,1,false,.it .u64),(1,1,false,.it .u64),(2,1,false,.it .u64),(3,1,false,.bl)]),(9,1,false,.it .i64),(10,1,false,.bl),(11,1,false,.bl)])⟩)]
theorem T_z5n : Prg Tryz.prog T_z33:=⟨(.cons te_3 (.cons te_22 (.cons te_26 (.cons te_41 (.cons te_47 (TEok.nil _)))))),by kernel_rfl⟩
noncomputable abbrev O_z33 {α:Type}:ORC α:=[(10,.full B_isa_New),(27,.full B_isa_Machine_Copy),(15,.full B_isa_Machine_Run),(26,.full B_zs),(61,.full B_audit_Behind),(11,.full B_isa_Machine_State)]
theorem O_z5n {α:Type} {I:Imm}:OOk (α:=α) Tryz.prog I O_z33:=OOk.cons c_isa_New (OOk.cons c_isa_Machine_Copy (OOk.cons c_isa_Machine_Run (OOk.cons c_zs (OOk.cons c_audit_Behind (OOk.cons c_isa_Machine_State (OOk.nil))))))
set_option maxHeartbeats 4000000 in
set_option maxRecDepth 100000 in
theorem c_z33 {α:Type} {I:Imm}:OrcOk (α:=α) Tryz.prog I 25 (.pure trueF):=by
  refine orc_pure T_z5n (O:=O_z33) O_z5n (L:=[]) ⟨40,[]⟩ Tryz.func25 (by kernel_rfl) (by kernel_rfl) (by kernel_rfl) FLOk.nil ?_
  intro args k r hk
  unfold trueF at hk
  split at hk<;>try (simp at hk; done)
  refine ⟨_,hk,by simp [Ids,Idss],by simp [Ids,Idss],?_⟩
  clear hk
  exact endsT_spec (by kernel_rfl)
end Go.Proofs.YtepdlgehceipjaaGreat.K23
