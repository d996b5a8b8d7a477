/-
  One instruction after the other (printed by wip/pr/pr.py): the functions come to just that.
-/
import Derived.Test.YtodnffhcbhlifaaGreatVnB18
import Derived.Test.YtodnffhcbhlifaaGreatVnOnce
import Derived.Test.YtodnffhcbhlifaaGreatSpW27
set_option maxRecDepth 100000
namespace Go.Proofs.YtodnffhcbhlifaaGreat
open Go Go.Sh Go.Proofs
set_option linter.unusedVariables false
set_option linter.unusedSimpArgs false
theorem pe_24 : TyOk Tryz.prog 24 ⟨.ints .u64 29 (fun _=>0),29,232,.ar 29 22 1 false,some (.ar 29 1 (.it .u64))⟩:=⟨fun _=>by kernel_rfl,⟨rfl,rfl,fun _ _=>by simp [Wf,Wfs]⟩,⟨Tryz.underlying24,by kernel_rfl,by kernel_rfl⟩,fun _ h=>by cases h; exact ⟨by kernel_rfl,by kernel_rfl⟩⟩
theorem pe_30 : TyOk Tryz.prog 30 ⟨.nils,1,24,.sc (.slice 3),none⟩:=⟨fun _=>by kernel_rfl,⟨rfl,rfl,fun _ _=>by simp [Wf,Wfs]⟩,⟨Tryz.underlying30,rfl⟩,fun _ h=>by cases h⟩
theorem pe_4 : TyOk Tryz.prog 4 ⟨.bool false,1,1,.sc (.bool),none⟩:=⟨fun _=>by kernel_rfl,⟨rfl,rfl,fun _ _=>by simp [Wf,Wfs]⟩,⟨Tryz.underlying4,rfl⟩,fun _ h=>by cases h⟩
theorem pe_157 : TyOk Tryz.prog 157 ⟨.agg [.int .i64 0,.int .i64 0,.bool false,.int .i64 0,.bool false],5,40,.st [(0,1,false),(1,1,false),(2,1,false),(3,1,false),(4,1,false)],some (.st [(0,1,false,.it .i64),(1,1,false,.it .i64),(2,1,false,.bl),(3,1,false,.it .i64),(4,1,false,.bl)])⟩:=⟨fun _=>by kernel_rfl,⟨rfl,rfl,fun _ _=>by simp [Wf,Wfs]⟩,⟨_,Tryz.underlying157,by kernel_rfl⟩,fun _ h=>by cases h; exact ⟨by kernel_rfl,by kernel_rfl⟩⟩
theorem pe_158 : TyOk Tryz.prog 158 ⟨.arr 5 8 (fun _=>.agg [.int .i64 0,.int .i64 0,.bool false,.int .i64 0,.bool false]),40,320,.ar 8 157 5 true,none⟩:=⟨fun _=>by kernel_rfl,⟨rfl,rfl,fun _ _=>by simp [Wf,Wfs]⟩,⟨Tryz.underlying158,by kernel_rfl,by kernel_rfl⟩,fun _ h=>by cases h⟩
theorem pe_188 : TyOk Tryz.prog 188 ⟨.agg [.int .i64 0,.int .i64 0,.int .i64 0,.int .i64 0,.int .i64 0],5,40,.st [(0,1,false),(1,1,false),(2,1,false),(3,1,false),(4,1,false)],some (.st [(0,1,false,.it .i64),(1,1,false,.it .i64),(2,1,false,.it .i64),(3,1,false,.it .i64),(4,1,false,.it .i64)])⟩:=⟨fun _=>by kernel_rfl,⟨rfl,rfl,fun _ _=>by simp [Wf,Wfs]⟩,⟨_,Tryz.underlying188,by kernel_rfl⟩,fun _ h=>by cases h; exact ⟨by kernel_rfl,by kernel_rfl⟩⟩
theorem pe_191 : TyOk Tryz.prog 191 ⟨.agg [.int .i64 0,.int .i64 0,.int .i64 0],3,24,.st [(0,1,false),(1,1,false),(2,1,false)],some (.st [(0,1,false,.it .i64),(1,1,false,.it .i64),(2,1,false,.it .i64)])⟩:=⟨fun _=>by kernel_rfl,⟨rfl,rfl,fun _ _=>by simp [Wf,Wfs]⟩,⟨_,Tryz.underlying191,by kernel_rfl⟩,fun _ h=>by cases h; exact ⟨by kernel_rfl,by kernel_rfl⟩⟩
theorem pe_186 : TyOk Tryz.prog 186 ⟨.agg [.int .i64 0,.bool false],2,16,.st [(0,1,false),(1,1,false)],some (.st [(0,1,false,.it .i64),(1,1,false,.bl)])⟩:=⟨fun _=>by kernel_rfl,⟨rfl,rfl,fun _ _=>by simp [Wf,Wfs]⟩,⟨_,Tryz.underlying186,by kernel_rfl⟩,fun _ h=>by cases h; exact ⟨by kernel_rfl,by kernel_rfl⟩⟩
theorem pe_44 : TyOk Tryz.prog 44 ⟨.agg [.int .u64 0,.int .u32 0,.int .i64 0,.int .u64 0,.bool false,.agg [.int .u64 0,.int .u64 0,.int .u64 0,.bool false],.int .i64 0,.bool false,.bool false],12,88,.st [(0,1,false),(1,1,false),(2,1,false),(3,1,false),(4,1,false),(5,4,true),(9,1,false),(10,1,false),(11,1,false)],some (.st [(0,1,false,.it .u64),(1,1,false,.it .u32),(2,1,false,.it .i64),(3,1,false,.it .u64),(4,1,false,.bl),(5,4,true,.st [(0,1,false,.it .u64),(1,1,false,.it .u64),(2,1,false,.it .u64),(3,1,false,.bl)]),(9,1,false,.it .i64),(10,1,false,.bl),(11,1,false,.bl)])⟩:=⟨fun _=>by kernel_rfl,⟨rfl,rfl,fun _ _=>by simp [Wf,Wfs]⟩,⟨_,Tryz.underlying44,by kernel_rfl⟩,fun _ h=>by cases h; exact ⟨by kernel_rfl,by kernel_rfl⟩⟩
theorem pe_40 : TyOk Tryz.prog 40 ⟨.int .u32 0,1,4,.sc (.int .u32),none⟩:=⟨fun _=>by kernel_rfl,⟨rfl,rfl,fun _ _=>by simp [Wf,Wfs]⟩,⟨Tryz.underlying40,rfl⟩,fun _ h=>by cases h⟩
theorem pe_202 : TyOk Tryz.prog 202 ⟨.agg [.int .u32 0,.int .i64 0,.int .i64 0,.int .i64 0,.int .i64 0,.int .i64 0],6,48,.st [(0,1,false),(1,1,false),(2,1,false),(3,1,false),(4,1,false),(5,1,false)],some (.st [(0,1,false,.it .u32),(1,1,false,.it .i64),(2,1,false,.it .i64),(3,1,false,.it .i64),(4,1,false,.it .i64),(5,1,false,.it .i64)])⟩:=⟨fun _=>by kernel_rfl,⟨rfl,rfl,fun _ _=>by simp [Wf,Wfs]⟩,⟨_,Tryz.underlying202,by kernel_rfl⟩,fun _ h=>by cases h; exact ⟨by kernel_rfl,by kernel_rfl⟩⟩
theorem pe_2 : TyOk Tryz.prog 2 ⟨.int .i64 0,1,8,.sc (.int .i64),none⟩:=⟨fun _=>by kernel_rfl,⟨rfl,rfl,fun _ _=>by simp [Wf,Wfs]⟩,⟨Tryz.underlying2,rfl⟩,fun _ h=>by cases h⟩
theorem pe_33 : TyOk Tryz.prog 33 ⟨.agg [.int .i64 0,.int .i64 0,.int .i64 0,.int .i64 0,.int .i64 0,.int .i64 0],6,48,.st [(0,1,false),(1,1,false),(2,1,false),(3,1,false),(4,1,false),(5,1,false)],some (.st [(0,1,false,.it .i64),(1,1,false,.it .i64),(2,1,false,.it .i64),(3,1,false,.it .i64),(4,1,false,.it .i64),(5,1,false,.it .i64)])⟩:=⟨fun _=>by kernel_rfl,⟨rfl,rfl,fun _ _=>by simp [Wf,Wfs]⟩,⟨_,Tryz.underlying33,by kernel_rfl⟩,fun _ h=>by cases h; exact ⟨by kernel_rfl,by kernel_rfl⟩⟩
theorem pe_240 : TyOk Tryz.prog 240 ⟨.ints .i64 2 (fun _=>0),2,16,.ar 2 3 1 false,some (.ar 2 1 (.it .i64))⟩:=⟨fun _=>by kernel_rfl,⟨rfl,rfl,fun _ _=>by simp [Wf,Wfs]⟩,⟨Tryz.underlying240,by kernel_rfl,by kernel_rfl⟩,fun _ h=>by cases h; exact ⟨by kernel_rfl,by kernel_rfl⟩⟩
theorem pe_276 : TyOk Tryz.prog 276 ⟨.nils,1,24,.sc (.slice 240),none⟩:=⟨fun _=>by kernel_rfl,⟨rfl,rfl,fun _ _=>by simp [Wf,Wfs]⟩,⟨Tryz.underlying276,rfl⟩,fun _ h=>by cases h⟩
theorem pe_242 : TyOk Tryz.prog 242 ⟨.ints .i64 8 (fun _=>0),8,64,.ar 8 3 1 false,some (.ar 8 1 (.it .i64))⟩:=⟨fun _=>by kernel_rfl,⟨rfl,rfl,fun _ _=>by simp [Wf,Wfs]⟩,⟨Tryz.underlying242,by kernel_rfl,by kernel_rfl⟩,fun _ h=>by cases h; exact ⟨by kernel_rfl,by kernel_rfl⟩⟩
theorem pe_277 : TyOk Tryz.prog 277 ⟨.nilmap,1,8,.sc (.map 3 3),none⟩:=⟨fun _=>by kernel_rfl,⟨rfl,rfl,fun _ _=>by simp [Wf,Wfs]⟩,⟨Tryz.underlying277,rfl⟩,fun _ h=>by cases h⟩
theorem pe_287 : TyOk Tryz.prog 287 ⟨.nilmap,1,8,.sc (.map 40 3),none⟩:=⟨fun _=>by kernel_rfl,⟨rfl,rfl,fun _ _=>by simp [Wf,Wfs]⟩,⟨Tryz.underlying287,rfl⟩,fun _ h=>by cases h⟩
theorem pe_289 : TyOk Tryz.prog 289 ⟨.agg [.agg [.agg [],.agg [.agg [],.int .u32 0],.agg [.agg [],.agg [.int .i32 0,.int .u32 0]]],.nilmap],4,24,.st [(0,3,true),(3,1,false)],none⟩:=⟨fun _=>by kernel_rfl,⟨rfl,rfl,fun _ _=>by simp [Wf,Wfs]⟩,⟨_,Tryz.underlying289,by kernel_rfl⟩,fun _ h=>by cases h⟩
theorem pe_298 : TyOk Tryz.prog 298 ⟨.nilp,1,8,.sc (.pointer 289),none⟩:=⟨fun _=>by kernel_rfl,⟨rfl,rfl,fun _ _=>by simp [Wf,Wfs]⟩,⟨Tryz.underlying298,rfl⟩,fun _ h=>by cases h⟩
theorem pe_248 : TyOk Tryz.prog 248 ⟨.ints .i64 12 (fun _=>0),12,96,.ar 12 3 1 false,some (.ar 12 1 (.it .i64))⟩:=⟨fun _=>by kernel_rfl,⟨rfl,rfl,fun _ _=>by simp [Wf,Wfs]⟩,⟨Tryz.underlying248,by kernel_rfl,by kernel_rfl⟩,fun _ h=>by cases h; exact ⟨by kernel_rfl,by kernel_rfl⟩⟩
theorem pe_244 : TyOk Tryz.prog 244 ⟨.agg [.bool false,.bool false,.bool false,.bool false,.int .i64 0,.int .i64 0,.int .i64 0],7,32,.st [(0,1,false),(1,1,false),(2,1,false),(3,1,false),(4,1,false),(5,1,false),(6,1,false)],some (.st [(0,1,false,.bl),(1,1,false,.bl),(2,1,false,.bl),(3,1,false,.bl),(4,1,false,.it .i64),(5,1,false,.it .i64),(6,1,false,.it .i64)])⟩:=⟨fun _=>by kernel_rfl,⟨rfl,rfl,fun _ _=>by simp [Wf,Wfs]⟩,⟨_,Tryz.underlying244,by kernel_rfl⟩,fun _ h=>by cases h; exact ⟨by kernel_rfl,by kernel_rfl⟩⟩
theorem pe_247 : TyOk Tryz.prog 247 ⟨.arr 2 2 (fun _=>.ints .i64 2 (fun _=>0)),4,32,.ar 2 240 2 true,none⟩:=⟨fun _=>by kernel_rfl,⟨rfl,rfl,fun _ _=>by simp [Wf,Wfs]⟩,⟨Tryz.underlying247,by kernel_rfl,by kernel_rfl⟩,fun _ h=>by cases h⟩
theorem pe_148 : TyOk Tryz.prog 148 ⟨.agg [.int .i64 0,.int .u64 0],2,16,.st [(0,1,false),(1,1,false)],some (.st [(0,1,false,.it .i64),(1,1,false,.it .u64)])⟩:=⟨fun _=>by kernel_rfl,⟨rfl,rfl,fun _ _=>by simp [Wf,Wfs]⟩,⟨_,Tryz.underlying148,by kernel_rfl⟩,fun _ h=>by cases h; exact ⟨by kernel_rfl,by kernel_rfl⟩⟩
theorem pe_149 : TyOk Tryz.prog 149 ⟨.arr 2 29 (fun _=>.agg [.int .i64 0,.int .u64 0]),58,464,.ar 29 148 2 true,none⟩:=⟨fun _=>by kernel_rfl,⟨rfl,rfl,fun _ _=>by simp [Wf,Wfs]⟩,⟨Tryz.underlying149,by kernel_rfl,by kernel_rfl⟩,fun _ h=>by cases h⟩
theorem pe_249 : TyOk Tryz.prog 249 ⟨.ints .i64 4 (fun _=>0),4,32,.ar 4 3 1 false,some (.ar 4 1 (.it .i64))⟩:=⟨fun _=>by kernel_rfl,⟨rfl,rfl,fun _ _=>by simp [Wf,Wfs]⟩,⟨Tryz.underlying249,by kernel_rfl,by kernel_rfl⟩,fun _ h=>by cases h; exact ⟨by kernel_rfl,by kernel_rfl⟩⟩
theorem pe_173 : TyOk Tryz.prog 173 ⟨.agg [.agg [.ints .u64 32 (fun _=>0),.int .u64 0,.int .i64 0,.bool false,.ints .u64 29 (fun _=>0),.int .u64 0],.int .u64 0,.agg [.int .u64 0,.int .u64 0,.int .u64 0,.bool false],.bool false],71,568,.st [(0,65,true),(65,1,false),(66,4,true),(70,1,false)],some (.st [(0,65,true,.st [(0,32,true,.ar 32 1 (.it .u64)),(32,1,false,.it .u64),(33,1,false,.it .i64),(34,1,false,.bl),(35,29,true,.ar 29 1 (.it .u64)),(64,1,false,.it .u64)]),(65,1,false,.it .u64),(66,4,true,.st [(0,1,false,.it .u64),(1,1,false,.it .u64),(2,1,false,.it .u64),(3,1,false,.bl)]),(70,1,false,.bl)])⟩:=⟨fun _=>by kernel_rfl,⟨rfl,rfl,fun _ _=>by simp [Wf,Wfs]⟩,⟨_,Tryz.underlying173,by kernel_rfl⟩,fun _ h=>by cases h; exact ⟨by kernel_rfl,by kernel_rfl⟩⟩
theorem pe_23 : TyOk Tryz.prog 23 ⟨.ints .u64 32 (fun _=>0),32,256,.ar 32 22 1 false,some (.ar 32 1 (.it .u64))⟩:=⟨fun _=>by kernel_rfl,⟨rfl,rfl,fun _ _=>by simp [Wf,Wfs]⟩,⟨Tryz.underlying23,by kernel_rfl,by kernel_rfl⟩,fun _ h=>by cases h; exact ⟨by kernel_rfl,by kernel_rfl⟩⟩
theorem pe_292 : TyOk Tryz.prog 292 ⟨.ints .i64 70 (fun _=>0),70,560,.ar 70 3 1 false,some (.ar 70 1 (.it .i64))⟩:=⟨fun _=>by kernel_rfl,⟨rfl,rfl,fun _ _=>by simp [Wf,Wfs]⟩,⟨Tryz.underlying292,by kernel_rfl,by kernel_rfl⟩,fun _ h=>by cases h; exact ⟨by kernel_rfl,by kernel_rfl⟩⟩
theorem pe_255 : TyOk Tryz.prog 255 ⟨.ints .u64 6 (fun _=>0),6,48,.ar 6 22 1 false,some (.ar 6 1 (.it .u64))⟩:=⟨fun _=>by kernel_rfl,⟨rfl,rfl,fun _ _=>by simp [Wf,Wfs]⟩,⟨Tryz.underlying255,by kernel_rfl,by kernel_rfl⟩,fun _ h=>by cases h; exact ⟨by kernel_rfl,by kernel_rfl⟩⟩
theorem pe_79 : TyOk Tryz.prog 79 ⟨.nilp,1,8,.sc (.pointer 124),none⟩:=⟨fun _=>by kernel_rfl,⟨rfl,rfl,fun _ _=>by simp [Wf,Wfs]⟩,⟨Tryz.underlying79,rfl⟩,fun _ h=>by cases h⟩
theorem pe_117 : TyOk Tryz.prog 117 ⟨.agg [.agg [.ints .u64 32 (fun _=>0),.int .u64 0,.int .i64 0,.bool false,.ints .u64 29 (fun _=>0),.int .u64 0],.nilp,.agg [.agg [],.agg [],.int .i64 0]],67,536,.st [(0,65,true),(65,1,false),(66,1,true)],none⟩:=⟨fun _=>by kernel_rfl,⟨rfl,rfl,fun _ _=>by simp [Wf,Wfs]⟩,⟨_,Tryz.underlying117,by kernel_rfl⟩,fun _ h=>by cases h⟩
theorem pe_115 : TyOk Tryz.prog 115 ⟨.agg [.agg [],.agg [],.int .i64 0],1,8,.st [(0,0,true),(0,0,true),(0,1,false)],none⟩:=⟨fun _=>by kernel_rfl,⟨rfl,rfl,fun _ _=>by simp [Wf,Wfs]⟩,⟨_,Tryz.underlying115,by kernel_rfl⟩,fun _ h=>by cases h⟩
abbrev PT_W27 : TE:=[(2,⟨.int .i64 0,1,8,.sc (.int .i64),none⟩),(3,⟨.int .i64 0,1,8,.sc (.int .i64),none⟩),(4,⟨.bool false,1,1,.sc (.bool),none⟩),(22,⟨.int .u64 0,1,8,.sc (.int .u64),none⟩),(23,⟨.ints .u64 32 (fun _=>0),32,256,.ar 32 22 1 false,some (.ar 32 1 (.it .u64))⟩),(24,⟨.ints .u64 29 (fun _=>0),29,232,.ar 29 22 1 false,some (.ar 29 1 (.it .u64))⟩),(26,⟨.agg [.ints .u64 32 (fun _=>0),.int .u64 0,.int .i64 0,.bool false,.ints .u64 29 (fun _=>0),.int .u64 0],65,520,.st [(0,32,true),(32,1,false),(33,1,false),(34,1,false),(35,29,true),(64,1,false)],some (.st [(0,32,true,.ar 32 1 (.it .u64)),(32,1,false,.it .u64),(33,1,false,.it .i64),(34,1,false,.bl),(35,29,true,.ar 29 1 (.it .u64)),(64,1,false,.it .u64)])⟩),(30,⟨.nils,1,24,.sc (.slice 3),none⟩),(33,⟨.agg [.int .i64 0,.int .i64 0,.int .i64 0,.int .i64 0,.int .i64 0,.int .i64 0],6,48,.st [(0,1,false),(1,1,false),(2,1,false),(3,1,false),(4,1,false),(5,1,false)],some (.st [(0,1,false,.it .i64),(1,1,false,.it .i64),(2,1,false,.it .i64),(3,1,false,.it .i64),(4,1,false,.it .i64),(5,1,false,.it .i64)])⟩),(40,⟨.int .u32 0,1,4,.sc (.int .u32),none⟩),(42,⟨.agg [.int .u64 0,.int .u64 0,.int .u64 0,.bool false],4,32,.st [(0,1,false),(1,1,false),(2,1,false),(3,1,false)],some (.st [(0,1,false,.it .u64),(1,1,false,.it .u64),(2,1,false,.it .u64),(3,1,false,.bl)])⟩),(44,⟨.agg [.int .u64 0,.int .u32 0,.int .i64 0,.int .u64 0,.bool false,.agg [.int .u64 0,.int .u64 0,.int .u64 0,.bool false],.int .i64 0,.bool false,.bool false],12,88,.st [(0,1,false),(1,1,false),(2,1,false),(3,1,false),(4,1,false),(5,4,true),(9,1,false),(10,1,false),(11,1,false)],some (.st [(0,1,false,.it .u64),(1,1,false,.it .u32),(2,1,false,.it .i64),(3,1,false,.it .u64),(4,1,false,.bl),(5,4,true,.st [(0,1,false,.it .u64),(1,1,false,.it .u64),(2,1,false,.it .u64),(3,1,false,.bl)]),(9,1,false,.it .i64),(10,1,false,.bl),(11,1,false,.bl)])⟩),(70,⟨.int .i64 0,1,8,.sc (.int .i64),none⟩),(73,⟨.nilp,1,8,.sc (.pointer 143),none⟩),(79,⟨.nilp,1,8,.sc (.pointer 124),none⟩),(115,⟨.agg [.agg [],.agg [],.int .i64 0],1,8,.st [(0,0,true),(0,0,true),(0,1,false)],none⟩),(117,⟨.agg [.agg [.ints .u64 32 (fun _=>0),.int .u64 0,.int .i64 0,.bool false,.ints .u64 29 (fun _=>0),.int .u64 0],.nilp,.agg [.agg [],.agg [],.int .i64 0]],67,536,.st [(0,65,true),(65,1,false),(66,1,true)],none⟩),(119,⟨.agg [.agg [],.agg [],.int .u64 0],1,8,.st [(0,0,true),(0,0,true),(0,1,false)],none⟩),(124,⟨.agg [.nilp,.agg [.agg [],.agg [],.int .u64 0],.int .u64 0,.arr 3 4 (fun _=>.agg [.nils,.nils,.int .i64 0])],15,248,.st [(0,1,false),(1,1,true),(2,1,false),(3,12,true)],none⟩),(148,⟨.agg [.int .i64 0,.int .u64 0],2,16,.st [(0,1,false),(1,1,false)],some (.st [(0,1,false,.it .i64),(1,1,false,.it .u64)])⟩),(149,⟨.arr 2 29 (fun _=>.agg [.int .i64 0,.int .u64 0]),58,464,.ar 29 148 2 true,none⟩),(157,⟨.agg [.int .i64 0,.int .i64 0,.bool false,.int .i64 0,.bool false],5,40,.st [(0,1,false),(1,1,false),(2,1,false),(3,1,false),(4,1,false)],some (.st [(0,1,false,.it .i64),(1,1,false,.it .i64),(2,1,false,.bl),(3,1,false,.it .i64),(4,1,false,.bl)])⟩),(158,⟨.arr 5 8 (fun _=>.agg [.int .i64 0,.int .i64 0,.bool false,.int .i64 0,.bool false]),40,320,.ar 8 157 5 true,none⟩),(173,⟨.agg [.agg [.ints .u64 32 (fun _=>0),.int .u64 0,.int .i64 0,.bool false,.ints .u64 29 (fun _=>0),.int .u64 0],.int .u64 0,.agg [.int .u64 0,.int .u64 0,.int .u64 0,.bool false],.bool false],71,568,.st [(0,65,true),(65,1,false),(66,4,true),(70,1,false)],some (.st [(0,65,true,.st [(0,32,true,.ar 32 1 (.it .u64)),(32,1,false,.it .u64),(33,1,false,.it .i64),(34,1,false,.bl),(35,29,true,.ar 29 1 (.it .u64)),(64,1,false,.it .u64)]),(65,1,false,.it .u64),(66,4,true,.st [(0,1,false,.it .u64),(1,1,false,.it .u64),(2,1,false,.it .u64),(3,1,false,.bl)]),(70,1,false,.bl)])⟩),(186,⟨.agg [.int .i64 0,.bool false],2,16,.st [(0,1,false),(1,1,false)],some (.st [(0,1,false,.it .i64),(1,1,false,.bl)])⟩),(188,⟨.agg [.int .i64 0,.int .i64 0,.int .i64 0,.int .i64 0,.int .i64 0],5,40,.st [(0,1,false),(1,1,false),(2,1,false),(3,1,false),(4,1,false)],some (.st [(0,1,false,.it .i64),(1,1,false,.it .i64),(2,1,false,.it .i64),(3,1,false,.it .i64),(4,1,false,.it .i64)])⟩),(191,⟨.agg [.int .i64 0,.int .i64 0,.int .i64 0],3,24,.st [(0,1,false),(1,1,false),(2,1,false)],some (.st [(0,1,false,.it .i64),(1,1,false,.it .i64),(2,1,false,.it .i64)])⟩),(196,⟨.agg [.bool false,.bool false,.int .i64 0,.int .i64 0,.int .i64 0,.int .i64 0,.int .i64 0,.int .i64 0,.int .i64 0],9,64,.st [(0,1,false),(1,1,false),(2,1,false),(3,1,false),(4,1,false),(5,1,false),(6,1,false),(7,1,false),(8,1,false)],some (.st [(0,1,false,.bl),(1,1,false,.bl),(2,1,false,.it .i64),(3,1,false,.it .i64),(4,1,false,.it .i64),(5,1,false,.it .i64),(6,1,false,.it .i64),(7,1,false,.it .i64),(8,1,false,.it .i64)])⟩),(202,⟨.agg [.int .u32 0,.int .i64 0,.int .i64 0,.int .i64 0,.int .i64 0,.int .i64 0],6,48,.st [(0,1,false),(1,1,false),(2,1,false),(3,1,false),(4,1,false),(5,1,false)],some (.st [(0,1,false,.it .u32),(1,1,false,.it .i64),(2,1,false,.it .i64),(3,1,false,.it .i64),(4,1,false,.it .i64),(5,1,false,.it .i64)])⟩),(221,⟨.ints .u64 3 (fun _=>0),3,24,.ar 3 22 1 false,some (.ar 3 1 (.it .u64))⟩),(240,⟨.ints .i64 2 (fun _=>0),2,16,.ar 2 3 1 false,some (.ar 2 1 (.it .i64))⟩),(242,⟨.ints .i64 8 (fun _=>0),8,64,.ar 8 3 1 false,some (.ar 8 1 (.it .i64))⟩),(244,⟨.agg [.bool false,.bool false,.bool false,.bool false,.int .i64 0,.int .i64 0,.int .i64 0],7,32,.st [(0,1,false),(1,1,false),(2,1,false),(3,1,false),(4,1,false),(5,1,false),(6,1,false)],some (.st [(0,1,false,.bl),(1,1,false,.bl),(2,1,false,.bl),(3,1,false,.bl),(4,1,false,.it .i64),(5,1,false,.it .i64),(6,1,false,.it .i64)])⟩),(247,⟨.arr 2 2 (fun _=>.ints .i64 2 (fun _=>0)),4,32,.ar 2 240 2 true,none⟩),(248,⟨.ints .i64 12 (fun _=>0),12,96,.ar 12 3 1 false,some (.ar 12 1 (.it .i64))⟩),(249,⟨.ints .i64 4 (fun _=>0),4,32,.ar 4 3 1 false,some (.ar 4 1 (.it .i64))⟩),(255,⟨.ints .u64 6 (fun _=>0),6,48,.ar 6 22 1 false,some (.ar 6 1 (.it .u64))⟩),(276,⟨.nils,1,24,.sc (.slice 240),none⟩),(277,⟨.nilmap,1,8,.sc (.map 3 3),none⟩),(287,⟨.nilmap,1,8,.sc (.map 40 3),none⟩),(289,⟨.agg [.agg [.agg [],.agg [.agg [],.int .u32 0],.agg [.agg [],.agg [.int .i32 0,.int .u32 0]]],.nilmap],4,24,.st [(0,3,true),(3,1,false)],none⟩),(292,⟨.ints .i64 70 (fun _=>0),70,560,.ar 70 3 1 false,some (.ar 70 1 (.it .i64))⟩),(298,⟨.nilp,1,8,.sc (.pointer 289),none⟩)]
theorem PT_W27_ok : Prg Tryz.prog PT_W27:=⟨(.cons pe_2 (.cons pe_3 (.cons pe_4 (.cons pe_22 (.cons pe_23 (.cons pe_24 (.cons pe_26 (.cons pe_30 (.cons pe_33 (.cons pe_40 (.cons pe_42 (.cons pe_44 (.cons pe_70 (.cons pe_73 (.cons pe_79 (.cons pe_115 (.cons pe_117 (.cons pe_119 (.cons pe_124 (.cons pe_148 (.cons pe_149 (.cons pe_157 (.cons pe_158 (.cons pe_173 (.cons pe_186 (.cons pe_188 (.cons pe_191 (.cons pe_196 (.cons pe_202 (.cons pe_221 (.cons pe_240 (.cons pe_242 (.cons pe_244 (.cons pe_247 (.cons pe_248 (.cons pe_249 (.cons pe_255 (.cons pe_276 (.cons pe_277 (.cons pe_287 (.cons pe_289 (.cons pe_292 (.cons pe_298 (TEok.nil _)))))))))))))))))))))))))))))))))))))))))))),by kernel_rfl⟩
noncomputable abbrev B_z52 {α:Type}:FF α:=byBody PT_W27 [] ⟨2,[]⟩ Tryz.f83
theorem cB_z52 {α:Type} {I:Imm}:OrcOk (α:=α) Tryz.prog I 83 (.full (B_z52 )):=orc_body PT_W27_ok (OOk.nil) ⟨2,[]⟩ Tryz.func83 (by kernel_rfl) (by kernel_rfl) (by kernel_rfl)
noncomputable abbrev PO_z1i {α:Type}:ORC α:=[(83,.full (B_z52 ))]
theorem ok_z1i {α:Type}  (x0:GState) (x1:Bool) (x2:Bool) (k:Int→R α):bodyL PT_W27 (PO_z1i ) [] ⟨2,[]⟩ Tryz.f86 [(GState.sv x0),(.bool x1),(.bool x2)] emp (fun v _=>dR_csr_Pending v k)=p_z1i  x0 x1 x2 k:=by kernel_rfl
theorem mk_z1i {α:Type} {I:Imm}:OrcOk (α:=α) Tryz.prog I 86 (.pure (ad_z1i (p_z1i ))):=by
  refine orc_pureK PT_W27_ok (O:=PO_z1i ) (OOk.cons (cB_z52 ) (OOk.nil)) (L:=[]) ⟨2,[]⟩ Tryz.func86 (by kernel_rfl) (by kernel_rfl) (by kernel_rfl) FLOk.nil ?_
  intro args k r hk
  unfold ad_z1i at hk
  split at hk<;>try (cases hk; done)
  obtain ⟨x0,rfl,hk0⟩:=GState.dec_spec hk
  obtain ⟨x1,rfl,hk1⟩:=decB_spec hk0
  obtain ⟨x2,rfl,hk2⟩:=decB_spec hk1
  have hkz:=hk2
  refine ⟨by simp [Ids,Idss],fun v=>dR_csr_Pending v (fun r0=>k (.int .u64 r0)),?_,fun v hv=>?_⟩
  · rw [ok_z1i]; exact hkz
  · obtain ⟨r0,rfl,hv1⟩:=dR_csr_Pending_spec hv; exact ⟨hv1,by simp [Ids,Idss]⟩
noncomputable abbrev PO_z12 {α:Type} (F_z1i:Sg_z1i α):ORC α:=[(86,.pure (ad_z1i F_z1i))]
theorem ok_z12 {α:Type} (F_z1i:Sg_z1i α) (x0:GState) (x1:Bool) (x2:Bool) (k:Int→R α):bodyL PT_W27 (PO_z12 F_z1i) [] ⟨1,[]⟩ Tryz.f66 [(GState.sv x0),(.bool x1),(.bool x2)] emp (fun v _=>dR_route_Enabled v k)=p_z12 F_z1i x0 x1 x2 k:=by kernel_rfl
theorem mk_z12 {α:Type} {I:Imm} {F_z1i:Sg_z1i α} (h_z1i:OrcOk (α:=α) Tryz.prog I 86 (.pure (ad_z1i F_z1i))):OrcOk (α:=α) Tryz.prog I 66 (.pure (ad_z12 (p_z12 F_z1i))):=by
  refine orc_pureK PT_W27_ok (O:=PO_z12 F_z1i) (OOk.cons h_z1i (OOk.nil)) (L:=[]) ⟨1,[]⟩ Tryz.func66 (by kernel_rfl) (by kernel_rfl) (by kernel_rfl) FLOk.nil ?_
  intro args k r hk
  unfold ad_z12 at hk
  split at hk<;>try (cases hk; done)
  obtain ⟨x0,rfl,hk0⟩:=GState.dec_spec hk
  obtain ⟨x1,rfl,hk1⟩:=decB_spec hk0
  obtain ⟨x2,rfl,hk2⟩:=decB_spec hk1
  have hkz:=hk2
  refine ⟨by simp [Ids,Idss],fun v=>dR_route_Enabled v (fun r0=>k (.int .u64 r0)),?_,fun v hv=>?_⟩
  · rw [ok_z12]; exact hkz
  · obtain ⟨r0,rfl,hv1⟩:=dR_route_Enabled_spec hv; exact ⟨hv1,by simp [Ids,Idss]⟩
noncomputable abbrev PO_zr {α:Type}:ORC α:=[]
theorem ok_zr {α:Type}  (x0:Int) (x1:Int) (k:Int→Int→R α):bodyL PT_W27 (PO_zr ) [] ⟨1,[]⟩ Tryz.f81 [(.int .i64 x0),(.int .i64 x1)] emp (fun v _=>dR_word_part v k)=p_zr  x0 x1 k:=by kernel_rfl
theorem mk_zr {α:Type} {I:Imm}:OrcOk (α:=α) Tryz.prog I 81 (.pure (ad_zr (p_zr ))):=by
  refine orc_pureK PT_W27_ok (O:=PO_zr ) (OOk.nil) (L:=[]) ⟨1,[]⟩ Tryz.func81 (by kernel_rfl) (by kernel_rfl) (by kernel_rfl) FLOk.nil ?_
  intro args k r hk
  unfold ad_zr at hk
  split at hk<;>try (cases hk; done)
  obtain ⟨x0,rfl,hk0⟩:=decI_spec hk
  obtain ⟨x1,rfl,hk1⟩:=decI_spec hk0
  have hkz:=hk1
  refine ⟨by simp [Ids,Idss],fun v=>dR_word_part v (fun r0 r1=>k (.tuple [(.int .i64 r0),(.int .i64 r1)])),?_,fun v hv=>?_⟩
  · rw [ok_zr]; exact hkz
  · obtain ⟨r0,r1,rfl,hv1⟩:=dR_word_part_spec hv; exact ⟨hv1,by simp [Ids,Idss]⟩
noncomputable abbrev PO_zg {α:Type}:ORC α:=[]
theorem ok_zg {α:Type}  (x0:Int) (k:Int→R α):bodyL PT_W27 (PO_zg ) [] ⟨1,[]⟩ Tryz.f82 [(.int .i64 x0)] emp (fun v _=>dR_word_mask v k)=p_zg  x0 k:=by kernel_rfl
theorem mk_zg {α:Type} {I:Imm}:OrcOk (α:=α) Tryz.prog I 82 (.pure (ad_zg (p_zg ))):=by
  refine orc_pureK PT_W27_ok (O:=PO_zg ) (OOk.nil) (L:=[]) ⟨1,[]⟩ Tryz.func82 (by kernel_rfl) (by kernel_rfl) (by kernel_rfl) FLOk.nil ?_
  intro args k r hk
  unfold ad_zg at hk
  split at hk<;>try (cases hk; done)
  obtain ⟨x0,rfl,hk0⟩:=decI_spec hk
  have hkz:=hk0
  refine ⟨by simp [Ids,Idss],fun v=>dR_word_mask v (fun r0=>k (.int .u64 r0)),?_,fun v hv=>?_⟩
  · rw [ok_zg]; exact hkz
  · obtain ⟨r0,rfl,hv1⟩:=dR_word_mask_spec hv; exact ⟨hv1,by simp [Ids,Idss]⟩
noncomputable abbrev PO_z1 {α:Type} (F_zr:Sg_zr α) (F_zg:Sg_zg α):ORC α:=[(81,.pure (ad_zr F_zr)),(82,.pure (ad_zg F_zg))]
theorem ok_z1 {α:Type} (F_zr:Sg_zr α) (F_zg:Sg_zg α) (x0:Int) (x1:Int) (x2:Int) (k:Int→R α):bodyL PT_W27 (PO_z1 F_zr F_zg) [] ⟨1,[]⟩ Tryz.f68 [(.int .u64 x0),(.int .i64 x1),(.int .i64 x2)] emp (fun v _=>dR_word_Bits v k)=p_z1 F_zr F_zg x0 x1 x2 k:=by kernel_rfl
theorem mk_z1 {α:Type} {I:Imm} {F_zr:Sg_zr α} {F_zg:Sg_zg α} (h_zr:OrcOk (α:=α) Tryz.prog I 81 (.pure (ad_zr F_zr))) (h_zg:OrcOk (α:=α) Tryz.prog I 82 (.pure (ad_zg F_zg))):OrcOk (α:=α) Tryz.prog I 68 (.pure (ad_z1 (p_z1 F_zr F_zg))):=by
  refine orc_pureK PT_W27_ok (O:=PO_z1 F_zr F_zg) (OOk.cons h_zr (OOk.cons h_zg (OOk.nil))) (L:=[]) ⟨1,[]⟩ Tryz.func68 (by kernel_rfl) (by kernel_rfl) (by kernel_rfl) FLOk.nil ?_
  intro args k r hk
  unfold ad_z1 at hk
  split at hk<;>try (cases hk; done)
  obtain ⟨x0,rfl,hk0⟩:=decI_spec hk
  obtain ⟨x1,rfl,hk1⟩:=decI_spec hk0
  obtain ⟨x2,rfl,hk2⟩:=decI_spec hk1
  have hkz:=hk2
  refine ⟨by simp [Ids,Idss],fun v=>dR_word_Bits v (fun r0=>k (.int .u64 r0)),?_,fun v hv=>?_⟩
  · rw [ok_z1]; exact hkz
  · obtain ⟨r0,rfl,hv1⟩:=dR_word_Bits_spec hv; exact ⟨hv1,by simp [Ids,Idss]⟩
noncomputable abbrev PO_z3 {α:Type} (F_z1:Sg_z1 α):ORC α:=[(68,.pure (ad_z1 F_z1))]
theorem ok_z3 {α:Type} (F_z1:Sg_z1 α) (x0:GState) (x1:Int) (x2:Int) (k:Bool→R α):bodyL PT_W27 (PO_z3 F_z1) [] ⟨1,[]⟩ Tryz.f69 [(GState.sv x0),(.int .i64 x1),(.int .i64 x2)] emp (fun v _=>dR_csr_Bit v k)=p_z3 F_z1 x0 x1 x2 k:=by kernel_rfl
theorem mk_z3 {α:Type} {I:Imm} {F_z1:Sg_z1 α} (h_z1:OrcOk (α:=α) Tryz.prog I 68 (.pure (ad_z1 F_z1))):OrcOk (α:=α) Tryz.prog I 69 (.pure (ad_z3 (p_z3 F_z1))):=by
  refine orc_pureK PT_W27_ok (O:=PO_z3 F_z1) (OOk.cons h_z1 (OOk.nil)) (L:=[]) ⟨1,[]⟩ Tryz.func69 (by kernel_rfl) (by kernel_rfl) (by kernel_rfl) FLOk.nil ?_
  intro args k r hk
  unfold ad_z3 at hk
  split at hk<;>try (cases hk; done)
  obtain ⟨x0,rfl,hk0⟩:=GState.dec_spec hk
  obtain ⟨x1,rfl,hk1⟩:=decI_spec hk0
  obtain ⟨x2,rfl,hk2⟩:=decI_spec hk1
  have hkz:=hk2
  refine ⟨by simp [Ids,Idss],fun v=>dR_csr_Bit v (fun r0=>k (.bool r0)),?_,fun v hv=>?_⟩
  · rw [ok_z3]; exact hkz
  · obtain ⟨r0,rfl,hv1⟩:=dR_csr_Bit_spec hv; exact ⟨hv1,by simp [Ids,Idss]⟩
noncomputable abbrev PO_zh {α:Type} (F_z3:Sg_z3 α):ORC α:=[(69,.pure (ad_z3 F_z3))]
theorem ok_zh {α:Type} (F_z3:Sg_z3 α) (x0:GState) (x1:GRoute_turn) (k:Bool→R α):bodyL PT_W27 (PO_zh F_z3) [] ⟨1,[]⟩ Tryz.f70 [(GState.sv x0),(GRoute_turn.sv x1)] emp (fun v _=>dR_route_open v k)=p_zh F_z3 x0 x1 k:=by kernel_rfl
theorem mk_zh {α:Type} {I:Imm} {F_z3:Sg_z3 α} (h_z3:OrcOk (α:=α) Tryz.prog I 69 (.pure (ad_z3 F_z3))):OrcOk (α:=α) Tryz.prog I 70 (.pure (ad_zh (p_zh F_z3))):=by
  refine orc_pureK PT_W27_ok (O:=PO_zh F_z3) (OOk.cons h_z3 (OOk.nil)) (L:=[]) ⟨1,[]⟩ Tryz.func70 (by kernel_rfl) (by kernel_rfl) (by kernel_rfl) FLOk.nil ?_
  intro args k r hk
  unfold ad_zh at hk
  split at hk<;>try (cases hk; done)
  obtain ⟨x0,rfl,hk0⟩:=GState.dec_spec hk
  obtain ⟨x1,rfl,hk1⟩:=GRoute_turn.dec_spec hk0
  have hkz:=hk1
  refine ⟨by simp [Ids,Idss],fun v=>dR_route_open v (fun r0=>k (.bool r0)),?_,fun v hv=>?_⟩
  · rw [ok_zh]; exact hkz
  · obtain ⟨r0,rfl,hv1⟩:=dR_route_open_spec hv; exact ⟨hv1,by simp [Ids,Idss]⟩
noncomputable abbrev B_z53 {α:Type} (F_z12:Sg_z12 α) (F_z1:Sg_z1 α) (F_z3:Sg_z3 α) (F_zh:Sg_zh α):FF α:=byBody PT_W27 [] ⟨9,[]⟩ Tryz.f67
theorem cB_z53 {α:Type} {I:Imm} {F_z12:Sg_z12 α} {F_z1:Sg_z1 α} {F_z3:Sg_z3 α} {F_zh:Sg_zh α} (h_z12:OrcOk (α:=α) Tryz.prog I 66 (.pure (ad_z12 F_z12))) (h_z1:OrcOk (α:=α) Tryz.prog I 68 (.pure (ad_z1 F_z1))) (h_z3:OrcOk (α:=α) Tryz.prog I 69 (.pure (ad_z3 F_z3))) (h_zh:OrcOk (α:=α) Tryz.prog I 70 (.pure (ad_zh F_zh))):OrcOk (α:=α) Tryz.prog I 67 (.full (B_z53 F_z12 F_z1 F_z3 F_zh)):=orc_body PT_W27_ok (OOk.nil) ⟨9,[]⟩ Tryz.func67 (by kernel_rfl) (by kernel_rfl) (by kernel_rfl)
noncomputable abbrev PO_z24 {α:Type} (F_z12:Sg_z12 α) (F_z1:Sg_z1 α) (F_z3:Sg_z3 α) (F_zh:Sg_zh α):ORC α:=[(66,.pure (ad_z12 F_z12)),(67,.full (B_z53 F_z12 F_z1 F_z3 F_zh)),(68,.pure (ad_z1 F_z1)),(69,.pure (ad_z3 F_z3)),(70,.pure (ad_zh F_zh))]
theorem ok_z24 {α:Type} (F_z12:Sg_z12 α) (F_z1:Sg_z1 α) (F_z3:Sg_z3 α) (F_zh:Sg_zh α) (x0:GState) (x1:Bool) (x2:Bool) (k:Int→Int→Bool→Bool→R α):bodyL PT_W27 (PO_z24 F_z12 F_z1 F_z3 F_zh) [] ⟨9,[(3,[3,10,18,19])]⟩ Tryz.f48 [(GState.sv x0),(.bool x1),(.bool x2)] emp (fun v _=>dR_route_Interrupt v k)=p_z24 F_z12 F_z1 F_z3 F_zh x0 x1 x2 k:=by kernel_rfl
theorem mk_z24 {α:Type} {I:Imm} {F_z12:Sg_z12 α} {F_z1:Sg_z1 α} {F_z3:Sg_z3 α} {F_zh:Sg_zh α} (h_z12:OrcOk (α:=α) Tryz.prog I 66 (.pure (ad_z12 F_z12))) (h_z1:OrcOk (α:=α) Tryz.prog I 68 (.pure (ad_z1 F_z1))) (h_z3:OrcOk (α:=α) Tryz.prog I 69 (.pure (ad_z3 F_z3))) (h_zh:OrcOk (α:=α) Tryz.prog I 70 (.pure (ad_zh F_zh))):OrcOk (α:=α) Tryz.prog I 48 (.pure (ad_z24 (p_z24 F_z12 F_z1 F_z3 F_zh))):=by
  refine orc_pureK PT_W27_ok (O:=PO_z24 F_z12 F_z1 F_z3 F_zh) (OOk.cons h_z12 (OOk.cons (cB_z53 h_z12 h_z1 h_z3 h_zh) (OOk.cons h_z1 (OOk.cons h_z3 (OOk.cons h_zh (OOk.nil)))))) (L:=[]) ⟨9,[(3,[3,10,18,19])]⟩ Tryz.func48 (by kernel_rfl) (by kernel_rfl) (by kernel_rfl) FLOk.nil ?_
  intro args k r hk
  unfold ad_z24 at hk
  split at hk<;>try (cases hk; done)
  obtain ⟨x0,rfl,hk0⟩:=GState.dec_spec hk
  obtain ⟨x1,rfl,hk1⟩:=decB_spec hk0
  obtain ⟨x2,rfl,hk2⟩:=decB_spec hk1
  have hkz:=hk2
  refine ⟨by simp [Ids,Idss],fun v=>dR_route_Interrupt v (fun r0 r1 r2 r3=>k (.tuple [(.int .u64 r0),(.int .i64 r1),(.bool r2),(.bool r3)])),?_,fun v hv=>?_⟩
  · rw [ok_z24]; exact hkz
  · obtain ⟨r0,r1,r2,r3,rfl,hv1⟩:=dR_route_Interrupt_spec hv; exact ⟨hv1,by simp [Ids,Idss]⟩
noncomputable abbrev PO_z1b {α:Type}:ORC α:=[]
theorem ok_z1b {α:Type}  (x0:GTrap_told) (x1:GState) (x2:GFault) (k:GState→R α):bodyL PT_W27 (PO_z1b ) [] ⟨1,[]⟩ Tryz.f88 [(GTrap_told.sv x0),(GState.sv x1),(GFault.sv x2)] emp (fun v _=>dR_trap_told_enter v k)=p_z1b  x0 x1 x2 k:=by kernel_rfl
theorem mk_z1b {α:Type} {I:Imm}:OrcOk (α:=α) Tryz.prog I 88 (.pure (ad_z1b (p_z1b ))):=by
  refine orc_pureK PT_W27_ok (O:=PO_z1b ) (OOk.nil) (L:=[]) ⟨1,[]⟩ Tryz.func88 (by kernel_rfl) (by kernel_rfl) (by kernel_rfl) FLOk.nil ?_
  intro args k r hk
  unfold ad_z1b at hk
  split at hk<;>try (cases hk; done)
  obtain ⟨x0,rfl,hk0⟩:=GTrap_told.dec_spec hk
  obtain ⟨x1,rfl,hk1⟩:=GState.dec_spec hk0
  obtain ⟨x2,rfl,hk2⟩:=GFault.dec_spec hk1
  have hkz:=hk2
  refine ⟨by simp [Ids,Idss],fun v=>dR_trap_told_enter v (fun r0=>k (GState.sv r0)),?_,fun v hv=>?_⟩
  · rw [ok_z1b]; exact hkz
  · obtain ⟨r0,rfl,hv1⟩:=dR_trap_told_enter_spec hv; exact ⟨hv1,by simp [Ids,Idss]⟩
noncomputable abbrev PO_zb {α:Type} (F_zr:Sg_zr α) (F_zg:Sg_zg α):ORC α:=[(81,.pure (ad_zr F_zr)),(82,.pure (ad_zg F_zg))]
theorem ok_zb {α:Type} (F_zr:Sg_zr α) (F_zg:Sg_zg α) (x0:Int) (x1:Int) (x2:Int) (x3:Int) (k:Int→R α):bodyL PT_W27 (PO_zb F_zr F_zg) [] ⟨1,[]⟩ Tryz.f60 [(.int .u64 x0),(.int .i64 x1),(.int .i64 x2),(.int .u64 x3)] emp (fun v _=>dR_word_Set v k)=p_zb F_zr F_zg x0 x1 x2 x3 k:=by kernel_rfl
theorem mk_zb {α:Type} {I:Imm} {F_zr:Sg_zr α} {F_zg:Sg_zg α} (h_zr:OrcOk (α:=α) Tryz.prog I 81 (.pure (ad_zr F_zr))) (h_zg:OrcOk (α:=α) Tryz.prog I 82 (.pure (ad_zg F_zg))):OrcOk (α:=α) Tryz.prog I 60 (.pure (ad_zb (p_zb F_zr F_zg))):=by
  refine orc_pureK PT_W27_ok (O:=PO_zb F_zr F_zg) (OOk.cons h_zr (OOk.cons h_zg (OOk.nil))) (L:=[]) ⟨1,[]⟩ Tryz.func60 (by kernel_rfl) (by kernel_rfl) (by kernel_rfl) FLOk.nil ?_
  intro args k r hk
  unfold ad_zb at hk
  split at hk<;>try (cases hk; done)
  obtain ⟨x0,rfl,hk0⟩:=decI_spec hk
  obtain ⟨x1,rfl,hk1⟩:=decI_spec hk0
  obtain ⟨x2,rfl,hk2⟩:=decI_spec hk1
  obtain ⟨x3,rfl,hk3⟩:=decI_spec hk2
  have hkz:=hk3
  refine ⟨by simp [Ids,Idss],fun v=>dR_word_Set v (fun r0=>k (.int .u64 r0)),?_,fun v hv=>?_⟩
  · rw [ok_zb]; exact hkz
  · obtain ⟨r0,rfl,hv1⟩:=dR_word_Set_spec hv; exact ⟨hv1,by simp [Ids,Idss]⟩
noncomputable abbrev PO_z7 {α:Type} (F_zb:Sg_zb α):ORC α:=[(60,.pure (ad_zb F_zb))]
theorem ok_z7 {α:Type} (F_zb:Sg_zb α) (x0:GState) (x1:Int) (x2:Int) (x3:Bool) (k:GState→R α):bodyL PT_W27 (PO_z7 F_zb) [] ⟨1,[]⟩ Tryz.f44 [(GState.sv x0),(.int .i64 x1),(.int .i64 x2),(.bool x3)] emp (fun v _=>dR_csr_Put v k)=p_z7 F_zb x0 x1 x2 x3 k:=by kernel_rfl
theorem mk_z7 {α:Type} {I:Imm} {F_zb:Sg_zb α} (h_zb:OrcOk (α:=α) Tryz.prog I 60 (.pure (ad_zb F_zb))):OrcOk (α:=α) Tryz.prog I 44 (.pure (ad_z7 (p_z7 F_zb))):=by
  refine orc_pureK PT_W27_ok (O:=PO_z7 F_zb) (OOk.cons h_zb (OOk.nil)) (L:=[]) ⟨1,[]⟩ Tryz.func44 (by kernel_rfl) (by kernel_rfl) (by kernel_rfl) FLOk.nil ?_
  intro args k r hk
  unfold ad_z7 at hk
  split at hk<;>try (cases hk; done)
  obtain ⟨x0,rfl,hk0⟩:=GState.dec_spec hk
  obtain ⟨x1,rfl,hk1⟩:=decI_spec hk0
  obtain ⟨x2,rfl,hk2⟩:=decI_spec hk1
  obtain ⟨x3,rfl,hk3⟩:=decB_spec hk2
  have hkz:=hk3
  refine ⟨by simp [Ids,Idss],fun v=>dR_csr_Put v (fun r0=>k (GState.sv r0)),?_,fun v hv=>?_⟩
  · rw [ok_z7]; exact hkz
  · obtain ⟨r0,rfl,hv1⟩:=dR_csr_Put_spec hv; exact ⟨hv1,by simp [Ids,Idss]⟩
noncomputable abbrev PO_zx {α:Type} (F_z3:Sg_z3 α) (F_z7:Sg_z7 α):ORC α:=[(69,.pure (ad_z3 F_z3)),(44,.pure (ad_z7 F_z7))]
theorem ok_zx {α:Type} (F_z3:Sg_z3 α) (F_z7:Sg_z7 α) (x0:GTrap_kept) (x1:GState) (k:GState→R α):bodyL PT_W27 (PO_zx F_z3 F_z7) [] ⟨1,[]⟩ Tryz.f89 [(GTrap_kept.sv x0),(GState.sv x1)] emp (fun v _=>dR_trap_kept_enter v k)=p_zx F_z3 F_z7 x0 x1 k:=by kernel_rfl
theorem mk_zx {α:Type} {I:Imm} {F_z3:Sg_z3 α} {F_z7:Sg_z7 α} (h_z3:OrcOk (α:=α) Tryz.prog I 69 (.pure (ad_z3 F_z3))) (h_z7:OrcOk (α:=α) Tryz.prog I 44 (.pure (ad_z7 F_z7))):OrcOk (α:=α) Tryz.prog I 89 (.pure (ad_zx (p_zx F_z3 F_z7))):=by
  refine orc_pureK PT_W27_ok (O:=PO_zx F_z3 F_z7) (OOk.cons h_z3 (OOk.cons h_z7 (OOk.nil))) (L:=[]) ⟨1,[]⟩ Tryz.func89 (by kernel_rfl) (by kernel_rfl) (by kernel_rfl) FLOk.nil ?_
  intro args k r hk
  unfold ad_zx at hk
  split at hk<;>try (cases hk; done)
  obtain ⟨x0,rfl,hk0⟩:=GTrap_kept.dec_spec hk
  obtain ⟨x1,rfl,hk1⟩:=GState.dec_spec hk0
  have hkz:=hk1
  refine ⟨by simp [Ids,Idss],fun v=>dR_trap_kept_enter v (fun r0=>k (GState.sv r0)),?_,fun v hv=>?_⟩
  · rw [ok_zx]; exact hkz
  · obtain ⟨r0,rfl,hv1⟩:=dR_trap_kept_enter_spec hv; exact ⟨hv1,by simp [Ids,Idss]⟩
noncomputable abbrev PO_z1d {α:Type} (F_z7:Sg_z7 α) (F_zx:Sg_zx α):ORC α:=[(44,.pure (ad_z7 F_z7)),(89,.pure (ad_zx F_zx))]
theorem ok_z1d {α:Type} (F_z7:Sg_z7 α) (F_zx:Sg_zx α) (x0:GState) (x1:Int) (x2:Int) (k:GState→R α):bodyL PT_W27 (PO_z1d F_z7 F_zx) [] ⟨1,[]⟩ Tryz.f90 [(GState.sv x0),(.int .i64 x1),(.int .i64 x2)] emp (fun v _=>dR_trap_lower v k)=p_z1d F_z7 F_zx x0 x1 x2 k:=by kernel_rfl
theorem mk_z1d {α:Type} {I:Imm} {F_z7:Sg_z7 α} {F_zx:Sg_zx α} (h_z7:OrcOk (α:=α) Tryz.prog I 44 (.pure (ad_z7 F_z7))) (h_zx:OrcOk (α:=α) Tryz.prog I 89 (.pure (ad_zx F_zx))):OrcOk (α:=α) Tryz.prog I 90 (.pure (ad_z1d (p_z1d F_z7 F_zx))):=by
  refine orc_pureK PT_W27_ok (O:=PO_z1d F_z7 F_zx) (OOk.cons h_z7 (OOk.cons h_zx (OOk.nil))) (L:=[]) ⟨1,[]⟩ Tryz.func90 (by kernel_rfl) (by kernel_rfl) (by kernel_rfl) FLOk.nil ?_
  intro args k r hk
  unfold ad_z1d at hk
  split at hk<;>try (cases hk; done)
  obtain ⟨x0,rfl,hk0⟩:=GState.dec_spec hk
  obtain ⟨x1,rfl,hk1⟩:=decI_spec hk0
  obtain ⟨x2,rfl,hk2⟩:=decI_spec hk1
  have hkz:=hk2
  refine ⟨by simp [Ids,Idss],fun v=>dR_trap_lower v (fun r0=>k (GState.sv r0)),?_,fun v hv=>?_⟩
  · rw [ok_z1d]; exact hkz
  · obtain ⟨r0,rfl,hv1⟩:=dR_trap_lower_spec hv; exact ⟨hv1,by simp [Ids,Idss]⟩
noncomputable abbrev PO_zs {α:Type} (F_z1b:Sg_z1b α) (F_zb:Sg_zb α) (F_z7:Sg_z7 α) (F_zx:Sg_zx α) (F_z1d:Sg_z1d α):ORC α:=[(88,.pure (ad_z1b F_z1b)),(60,.pure (ad_zb F_zb)),(44,.pure (ad_z7 F_z7)),(89,.pure (ad_zx F_zx)),(90,.pure (ad_z1d F_z1d))]
theorem ok_zs {α:Type} (F_z1b:Sg_z1b α) (F_zb:Sg_zb α) (F_z7:Sg_z7 α) (F_zx:Sg_zx α) (F_z1d:Sg_z1d α) (x0:GState) (x1:GFault) (x2:Int) (x3:Bool) (k:GState→R α):bodyL PT_W27 (PO_zs F_z1b F_zb F_z7 F_zx F_z1d) [] ⟨1,[]⟩ Tryz.f72 [(GState.sv x0),(GFault.sv x1),(.int .i64 x2),(.bool x3)] emp (fun v _=>dR_trap_Enter v k)=p_zs F_z1b F_zb F_z7 F_zx F_z1d x0 x1 x2 x3 k:=by kernel_rfl
theorem mk_zs {α:Type} {I:Imm} {F_z1b:Sg_z1b α} {F_zb:Sg_zb α} {F_z7:Sg_z7 α} {F_zx:Sg_zx α} {F_z1d:Sg_z1d α} (h_z1b:OrcOk (α:=α) Tryz.prog I 88 (.pure (ad_z1b F_z1b))) (h_zb:OrcOk (α:=α) Tryz.prog I 60 (.pure (ad_zb F_zb))) (h_z7:OrcOk (α:=α) Tryz.prog I 44 (.pure (ad_z7 F_z7))) (h_zx:OrcOk (α:=α) Tryz.prog I 89 (.pure (ad_zx F_zx))) (h_z1d:OrcOk (α:=α) Tryz.prog I 90 (.pure (ad_z1d F_z1d))):OrcOk (α:=α) Tryz.prog I 72 (.pure (ad_zs (p_zs F_z1b F_zb F_z7 F_zx F_z1d))):=by
  refine orc_pureK PT_W27_ok (O:=PO_zs F_z1b F_zb F_z7 F_zx F_z1d) (OOk.cons h_z1b (OOk.cons h_zb (OOk.cons h_z7 (OOk.cons h_zx (OOk.cons h_z1d (OOk.nil)))))) (L:=[]) ⟨1,[]⟩ Tryz.func72 (by kernel_rfl) (by kernel_rfl) (by kernel_rfl) FLOk.nil ?_
  intro args k r hk
  unfold ad_zs at hk
  split at hk<;>try (cases hk; done)
  obtain ⟨x0,rfl,hk0⟩:=GState.dec_spec hk
  obtain ⟨x1,rfl,hk1⟩:=GFault.dec_spec hk0
  obtain ⟨x2,rfl,hk2⟩:=decI_spec hk1
  obtain ⟨x3,rfl,hk3⟩:=decB_spec hk2
  have hkz:=hk3
  refine ⟨by simp [Ids,Idss],fun v=>dR_trap_Enter v (fun r0=>k (GState.sv r0)),?_,fun v hv=>?_⟩
  · rw [ok_zs]; exact hkz
  · obtain ⟨r0,rfl,hv1⟩:=dR_trap_Enter_spec hv; exact ⟨hv1,by simp [Ids,Idss]⟩
noncomputable abbrev PO_z25 {α:Type} (F_zs:Sg_zs α):ORC α:=[(72,.pure (ad_zs F_zs))]
theorem ok_z25 {α:Type} (F_zs:Sg_zs α) (x0:GState) (x1:Int) (x2:Int) (x3:Bool) (k:GState→GRetire→R α):bodyL PT_W27 (PO_z25 F_zs) [] ⟨1,[]⟩ Tryz.f50 [(GState.sv x0),(.int .u64 x1),(.int .i64 x2),(.bool x3)] emp (fun v _=>dR_exec_Interrupt v k)=p_z25 F_zs x0 x1 x2 x3 k:=by kernel_rfl
theorem mk_z25 {α:Type} {I:Imm} {F_zs:Sg_zs α} (h_zs:OrcOk (α:=α) Tryz.prog I 72 (.pure (ad_zs F_zs))):OrcOk (α:=α) Tryz.prog I 50 (.pure (ad_z25 (p_z25 F_zs))):=by
  refine orc_pureK PT_W27_ok (O:=PO_z25 F_zs) (OOk.cons h_zs (OOk.nil)) (L:=[]) ⟨1,[]⟩ Tryz.func50 (by kernel_rfl) (by kernel_rfl) (by kernel_rfl) FLOk.nil ?_
  intro args k r hk
  unfold ad_z25 at hk
  split at hk<;>try (cases hk; done)
  obtain ⟨x0,rfl,hk0⟩:=GState.dec_spec hk
  obtain ⟨x1,rfl,hk1⟩:=decI_spec hk0
  obtain ⟨x2,rfl,hk2⟩:=decI_spec hk1
  obtain ⟨x3,rfl,hk3⟩:=decB_spec hk2
  have hkz:=hk3
  refine ⟨by simp [Ids,Idss],fun v=>dR_exec_Interrupt v (fun r0 r1=>k (.tuple [(GState.sv r0),(GRetire.sv r1)])),?_,fun v hv=>?_⟩
  · rw [ok_z25]; exact hkz
  · obtain ⟨r0,r1,rfl,hv1⟩:=dR_exec_Interrupt_spec hv; exact ⟨hv1,by simp [Ids,Idss]⟩
noncomputable abbrev PO_z1e {α:Type} (F_z1:Sg_z1 α):ORC α:=[(68,.pure (ad_z1 F_z1))]
theorem ok_z1e {α:Type} (F_z1:Sg_z1 α) (x0:GState) (x1:Int) (x2:Int) (k:Bool→R α):bodyL PT_W27 (PO_z1e F_z1) [] ⟨1,[]⟩ Tryz.f95 [(GState.sv x0),(.int .i64 x1),(.int .u64 x2)] emp (fun v _=>dR_route_has v k)=p_z1e F_z1 x0 x1 x2 k:=by kernel_rfl
theorem mk_z1e {α:Type} {I:Imm} {F_z1:Sg_z1 α} (h_z1:OrcOk (α:=α) Tryz.prog I 68 (.pure (ad_z1 F_z1))):OrcOk (α:=α) Tryz.prog I 95 (.pure (ad_z1e (p_z1e F_z1))):=by
  refine orc_pureK PT_W27_ok (O:=PO_z1e F_z1) (OOk.cons h_z1 (OOk.nil)) (L:=[]) ⟨1,[]⟩ Tryz.func95 (by kernel_rfl) (by kernel_rfl) (by kernel_rfl) FLOk.nil ?_
  intro args k r hk
  unfold ad_z1e at hk
  split at hk<;>try (cases hk; done)
  obtain ⟨x0,rfl,hk0⟩:=GState.dec_spec hk
  obtain ⟨x1,rfl,hk1⟩:=decI_spec hk0
  obtain ⟨x2,rfl,hk2⟩:=decI_spec hk1
  have hkz:=hk2
  refine ⟨by simp [Ids,Idss],fun v=>dR_route_has v (fun r0=>k (.bool r0)),?_,fun v hv=>?_⟩
  · rw [ok_z1e]; exact hkz
  · obtain ⟨r0,rfl,hv1⟩:=dR_route_has_spec hv; exact ⟨hv1,by simp [Ids,Idss]⟩
noncomputable abbrev PO_z1j {α:Type} (F_z1e:Sg_z1e α):ORC α:=[(95,.pure (ad_z1e F_z1e))]
theorem ok_z1j {α:Type} (F_z1e:Sg_z1e α) (x0:GState) (x1:Int) (k:Int→Bool→R α):bodyL PT_W27 (PO_z1j F_z1e) [] ⟨1,[]⟩ Tryz.f74 [(GState.sv x0),(.int .u64 x1)] emp (fun v _=>dR_route_Exception v k)=p_z1j F_z1e x0 x1 k:=by kernel_rfl
theorem mk_z1j {α:Type} {I:Imm} {F_z1e:Sg_z1e α} (h_z1e:OrcOk (α:=α) Tryz.prog I 95 (.pure (ad_z1e F_z1e))):OrcOk (α:=α) Tryz.prog I 74 (.pure (ad_z1j (p_z1j F_z1e))):=by
  refine orc_pureK PT_W27_ok (O:=PO_z1j F_z1e) (OOk.cons h_z1e (OOk.nil)) (L:=[]) ⟨1,[]⟩ Tryz.func74 (by kernel_rfl) (by kernel_rfl) (by kernel_rfl) FLOk.nil ?_
  intro args k r hk
  unfold ad_z1j at hk
  split at hk<;>try (cases hk; done)
  obtain ⟨x0,rfl,hk0⟩:=GState.dec_spec hk
  obtain ⟨x1,rfl,hk1⟩:=decI_spec hk0
  have hkz:=hk1
  refine ⟨by simp [Ids,Idss],fun v=>dR_route_Exception v (fun r0 r1=>k (.tuple [(.int .i64 r0),(.bool r1)])),?_,fun v hv=>?_⟩
  · rw [ok_z1j]; exact hkz
  · obtain ⟨r0,r1,rfl,hv1⟩:=dR_route_Exception_spec hv; exact ⟨hv1,by simp [Ids,Idss]⟩
noncomputable abbrev PO_z20 {α:Type} (F_z1j:Sg_z1j α) (F_zs:Sg_zs α):ORC α:=[(74,.pure (ad_z1j F_z1j)),(72,.pure (ad_zs F_zs))]
theorem ok_z20 {α:Type} (F_z1j:Sg_z1j α) (F_zs:Sg_zs α) (x0:GState) (x1:GFault) (x2:Int) (k:GState→GRetire→R α):bodyL PT_W27 (PO_z20 F_z1j F_zs) [] ⟨1,[]⟩ Tryz.f52 [(GState.sv x0),(GFault.sv x1),(.int .u32 x2)] emp (fun v _=>dR_exec_Fault v k)=p_z20 F_z1j F_zs x0 x1 x2 k:=by kernel_rfl
theorem mk_z20 {α:Type} {I:Imm} {F_z1j:Sg_z1j α} {F_zs:Sg_zs α} (h_z1j:OrcOk (α:=α) Tryz.prog I 74 (.pure (ad_z1j F_z1j))) (h_zs:OrcOk (α:=α) Tryz.prog I 72 (.pure (ad_zs F_zs))):OrcOk (α:=α) Tryz.prog I 52 (.pure (ad_z20 (p_z20 F_z1j F_zs))):=by
  refine orc_pureK PT_W27_ok (O:=PO_z20 F_z1j F_zs) (OOk.cons h_z1j (OOk.cons h_zs (OOk.nil))) (L:=[]) ⟨1,[]⟩ Tryz.func52 (by kernel_rfl) (by kernel_rfl) (by kernel_rfl) FLOk.nil ?_
  intro args k r hk
  unfold ad_z20 at hk
  split at hk<;>try (cases hk; done)
  obtain ⟨x0,rfl,hk0⟩:=GState.dec_spec hk
  obtain ⟨x1,rfl,hk1⟩:=GFault.dec_spec hk0
  obtain ⟨x2,rfl,hk2⟩:=decI_spec hk1
  have hkz:=hk2
  refine ⟨by simp [Ids,Idss],fun v=>dR_exec_Fault v (fun r0 r1=>k (.tuple [(GState.sv r0),(GRetire.sv r1)])),?_,fun v hv=>?_⟩
  · rw [ok_z20]; exact hkz
  · obtain ⟨r0,r1,rfl,hv1⟩:=dR_exec_Fault_spec hv; exact ⟨hv1,by simp [Ids,Idss]⟩
noncomputable abbrev B_z54 {α:Type} (F_z1:Sg_z1 α):FF α:=byBody PT_W27 [(68,.pure (ad_z1 F_z1))] ⟨1,[]⟩ Tryz.f126
theorem cB_z54 {α:Type} {I:Imm} {F_z1:Sg_z1 α} (h_z1:OrcOk (α:=α) Tryz.prog I 68 (.pure (ad_z1 F_z1))):OrcOk (α:=α) Tryz.prog I 126 (.full (B_z54 F_z1)):=orc_body PT_W27_ok (OOk.cons h_z1 (OOk.nil)) ⟨1,[]⟩ Tryz.func126 (by kernel_rfl) (by kernel_rfl) (by kernel_rfl)
noncomputable abbrev PO_z1k {α:Type} (F_z1:Sg_z1 α):ORC α:=[(126,.full (B_z54 F_z1))]
theorem ok_z1k {α:Type} (F_z1:Sg_z1 α) (x0:Int) (k:GDecode_parts→R α):bodyL PT_W27 (PO_z1k F_z1) [] ⟨1,[]⟩ Tryz.f96 [(.int .u32 x0)] emp (fun v _=>dR_decode_of v k)=p_z1k F_z1 x0 k:=by kernel_rfl
theorem mk_z1k {α:Type} {I:Imm} {F_z1:Sg_z1 α} (h_z1:OrcOk (α:=α) Tryz.prog I 68 (.pure (ad_z1 F_z1))):OrcOk (α:=α) Tryz.prog I 96 (.pure (ad_z1k (p_z1k F_z1))):=by
  refine orc_pureK PT_W27_ok (O:=PO_z1k F_z1) (OOk.cons (cB_z54 h_z1) (OOk.nil)) (L:=[]) ⟨1,[]⟩ Tryz.func96 (by kernel_rfl) (by kernel_rfl) (by kernel_rfl) FLOk.nil ?_
  intro args k r hk
  unfold ad_z1k at hk
  split at hk<;>try (cases hk; done)
  obtain ⟨x0,rfl,hk0⟩:=decI_spec hk
  have hkz:=hk0
  refine ⟨by simp [Ids,Idss],fun v=>dR_decode_of v (fun r0=>k (GDecode_parts.sv r0)),?_,fun v hv=>?_⟩
  · rw [ok_z1k]; exact hkz
  · obtain ⟨r0,rfl,hv1⟩:=dR_decode_of_spec hv; exact ⟨hv1,by simp [Ids,Idss]⟩
noncomputable abbrev PO_za {α:Type} (F_z1:Sg_z1 α):ORC α:=[(68,.pure (ad_z1 F_z1))]
theorem ok_za {α:Type} (F_z1:Sg_z1 α) (x0:Int) (k:Int→R α):bodyL PT_W27 (PO_za F_z1) [] ⟨1,[]⟩ Tryz.f127 [(.int .u32 x0)] emp (fun v _=>dR_decode_Opcode v k)=p_za F_z1 x0 k:=by kernel_rfl
theorem mk_za {α:Type} {I:Imm} {F_z1:Sg_z1 α} (h_z1:OrcOk (α:=α) Tryz.prog I 68 (.pure (ad_z1 F_z1))):OrcOk (α:=α) Tryz.prog I 127 (.pure (ad_za (p_za F_z1))):=by
  refine orc_pureK PT_W27_ok (O:=PO_za F_z1) (OOk.cons h_z1 (OOk.nil)) (L:=[]) ⟨1,[]⟩ Tryz.func127 (by kernel_rfl) (by kernel_rfl) (by kernel_rfl) FLOk.nil ?_
  intro args k r hk
  unfold ad_za at hk
  split at hk<;>try (cases hk; done)
  obtain ⟨x0,rfl,hk0⟩:=decI_spec hk
  have hkz:=hk0
  refine ⟨by simp [Ids,Idss],fun v=>dR_decode_Opcode v (fun r0=>k (.int .i64 r0)),?_,fun v hv=>?_⟩
  · rw [ok_za]; exact hkz
  · obtain ⟨r0,rfl,hv1⟩:=dR_decode_Opcode_spec hv; exact ⟨hv1,by simp [Ids,Idss]⟩
noncomputable abbrev PO_z5 {α:Type}:ORC α:=[]
theorem ok_z5 {α:Type}  (x0:Int) (x1:Int) (k:Int→R α):bodyL PT_W27 (PO_z5 ) [] ⟨1,[]⟩ Tryz.f148 [(.int .u64 x0),(.int .i64 x1)] emp (fun v _=>dR_word_Sext v k)=p_z5  x0 x1 k:=by kernel_rfl
theorem mk_z5 {α:Type} {I:Imm}:OrcOk (α:=α) Tryz.prog I 148 (.pure (ad_z5 (p_z5 ))):=by
  refine orc_pureK PT_W27_ok (O:=PO_z5 ) (OOk.nil) (L:=[]) ⟨1,[]⟩ Tryz.func148 (by kernel_rfl) (by kernel_rfl) (by kernel_rfl) FLOk.nil ?_
  intro args k r hk
  unfold ad_z5 at hk
  split at hk<;>try (cases hk; done)
  obtain ⟨x0,rfl,hk0⟩:=decI_spec hk
  obtain ⟨x1,rfl,hk1⟩:=decI_spec hk0
  have hkz:=hk1
  refine ⟨by simp [Ids,Idss],fun v=>dR_word_Sext v (fun r0=>k (.int .u64 r0)),?_,fun v hv=>?_⟩
  · rw [ok_z5]; exact hkz
  · obtain ⟨r0,rfl,hv1⟩:=dR_word_Sext_spec hv; exact ⟨hv1,by simp [Ids,Idss]⟩
noncomputable abbrev B_z55 {α:Type} (F_z1:Sg_z1 α) (F_z5:Sg_z5 α):FF α:=byBody PT_W27 [(68,.pure (ad_z1 F_z1)),(148,.pure (ad_z5 F_z5))] ⟨2,[]⟩ Tryz.f128
theorem cB_z55 {α:Type} {I:Imm} {F_z1:Sg_z1 α} {F_z5:Sg_z5 α} (h_z1:OrcOk (α:=α) Tryz.prog I 68 (.pure (ad_z1 F_z1))) (h_z5:OrcOk (α:=α) Tryz.prog I 148 (.pure (ad_z5 F_z5))):OrcOk (α:=α) Tryz.prog I 128 (.full (B_z55 F_z1 F_z5)):=orc_body PT_W27_ok (OOk.cons h_z1 (OOk.cons h_z5 (OOk.nil))) ⟨2,[]⟩ Tryz.func128 (by kernel_rfl) (by kernel_rfl) (by kernel_rfl)
noncomputable abbrev PO_zc {α:Type} (F_z1:Sg_z1 α) (F_z5:Sg_z5 α):ORC α:=[(128,.full (B_z55 F_z1 F_z5))]
theorem ok_zc {α:Type} (F_z1:Sg_z1 α) (F_z5:Sg_z5 α) (x0:GDecode_parts) (x1:Int) (k:GInsn→R α):bodyL PT_W27 (PO_zc F_z1 F_z5) [] ⟨2,[]⟩ Tryz.f129 [(GDecode_parts.sv x0),(.int .i64 x1)] emp (fun v _=>dR_decode_parts_immediate v k)=p_zc F_z1 F_z5 x0 x1 k:=by kernel_rfl
theorem mk_zc {α:Type} {I:Imm} {F_z1:Sg_z1 α} {F_z5:Sg_z5 α} (h_z1:OrcOk (α:=α) Tryz.prog I 68 (.pure (ad_z1 F_z1))) (h_z5:OrcOk (α:=α) Tryz.prog I 148 (.pure (ad_z5 F_z5))):OrcOk (α:=α) Tryz.prog I 129 (.pure (ad_zc (p_zc F_z1 F_z5))):=by
  refine orc_pureK PT_W27_ok (O:=PO_zc F_z1 F_z5) (OOk.cons (cB_z55 h_z1 h_z5) (OOk.nil)) (L:=[]) ⟨2,[]⟩ Tryz.func129 (by kernel_rfl) (by kernel_rfl) (by kernel_rfl) FLOk.nil ?_
  intro args k r hk
  unfold ad_zc at hk
  split at hk<;>try (cases hk; done)
  obtain ⟨x0,rfl,hk0⟩:=GDecode_parts.dec_spec hk
  obtain ⟨x1,rfl,hk1⟩:=decI_spec hk0
  have hkz:=hk1
  refine ⟨by simp [Ids,Idss],fun v=>dR_decode_parts_immediate v (fun r0=>k (GInsn.sv r0)),?_,fun v hv=>?_⟩
  · rw [ok_zc]; exact hkz
  · obtain ⟨r0,rfl,hv1⟩:=dR_decode_parts_immediate_spec hv; exact ⟨hv1,by simp [Ids,Idss]⟩
noncomputable abbrev PO_zl {α:Type} (F_za:Sg_za α) (F_zc:Sg_zc α) (F_z1:Sg_z1 α):ORC α:=[(127,.pure (ad_za F_za)),(129,.pure (ad_zc F_zc)),(68,.pure (ad_z1 F_z1))]
theorem ok_zl {α:Type} (F_za:Sg_za α) (F_zc:Sg_zc α) (F_z1:Sg_z1 α) (x0:GDecode_parts) (k:GInsn→Bool→R α):bodyL PT_W27 (PO_zl F_za F_zc F_z1) [] ⟨1,[]⟩ Tryz.f130 [(GDecode_parts.sv x0)] emp (fun v _=>dR_decode_parts_reckons v k)=p_zl F_za F_zc F_z1 x0 k:=by kernel_rfl
theorem mk_zl {α:Type} {I:Imm} {F_za:Sg_za α} {F_zc:Sg_zc α} {F_z1:Sg_z1 α} (h_za:OrcOk (α:=α) Tryz.prog I 127 (.pure (ad_za F_za))) (h_zc:OrcOk (α:=α) Tryz.prog I 129 (.pure (ad_zc F_zc))) (h_z1:OrcOk (α:=α) Tryz.prog I 68 (.pure (ad_z1 F_z1))):OrcOk (α:=α) Tryz.prog I 130 (.pure (ad_zl (p_zl F_za F_zc F_z1))):=by
  refine orc_pureK PT_W27_ok (O:=PO_zl F_za F_zc F_z1) (OOk.cons h_za (OOk.cons h_zc (OOk.cons h_z1 (OOk.nil)))) (L:=[]) ⟨1,[]⟩ Tryz.func130 (by kernel_rfl) (by kernel_rfl) (by kernel_rfl) FLOk.nil ?_
  intro args k r hk
  unfold ad_zl at hk
  split at hk<;>try (cases hk; done)
  obtain ⟨x0,rfl,hk0⟩:=GDecode_parts.dec_spec hk
  have hkz:=hk0
  refine ⟨by simp [Ids,Idss],fun v=>dR_decode_parts_reckons v (fun r0 r1=>k (.tuple [(GInsn.sv r0),(.bool r1)])),?_,fun v hv=>?_⟩
  · rw [ok_zl]; exact hkz
  · obtain ⟨r0,r1,rfl,hv1⟩:=dR_decode_parts_reckons_spec hv; exact ⟨hv1,by simp [Ids,Idss]⟩
noncomputable abbrev PO_zm {α:Type} (F_za:Sg_za α):ORC α:=[(127,.pure (ad_za F_za))]
theorem ok_zm {α:Type} (F_za:Sg_za α) (x0:GDecode_parts) (k:GInsn→Bool→R α):bodyL PT_W27 (PO_zm F_za) [] ⟨1,[]⟩ Tryz.f131 [(GDecode_parts.sv x0)] emp (fun v _=>dR_decode_parts_registers v k)=p_zm F_za x0 k:=by kernel_rfl
theorem mk_zm {α:Type} {I:Imm} {F_za:Sg_za α} (h_za:OrcOk (α:=α) Tryz.prog I 127 (.pure (ad_za F_za))):OrcOk (α:=α) Tryz.prog I 131 (.pure (ad_zm (p_zm F_za))):=by
  refine orc_pureK PT_W27_ok (O:=PO_zm F_za) (OOk.cons h_za (OOk.nil)) (L:=[]) ⟨1,[]⟩ Tryz.func131 (by kernel_rfl) (by kernel_rfl) (by kernel_rfl) FLOk.nil ?_
  intro args k r hk
  unfold ad_zm at hk
  split at hk<;>try (cases hk; done)
  obtain ⟨x0,rfl,hk0⟩:=GDecode_parts.dec_spec hk
  have hkz:=hk0
  refine ⟨by simp [Ids,Idss],fun v=>dR_decode_parts_registers v (fun r0 r1=>k (.tuple [(GInsn.sv r0),(.bool r1)])),?_,fun v hv=>?_⟩
  · rw [ok_zm]; exact hkz
  · obtain ⟨r0,r1,rfl,hv1⟩:=dR_decode_parts_registers_spec hv; exact ⟨hv1,by simp [Ids,Idss]⟩
noncomputable abbrev PO_zp {α:Type}:ORC α:=[]
theorem ok_zp {α:Type}  (x0:Int) (k:Int→R α):bodyL PT_W27 (PO_zp ) [] ⟨1,[]⟩ Tryz.f167 [(.int .i64 x0)] emp (fun v _=>dR_decode_fence v k)=p_zp  x0 k:=by kernel_rfl
theorem mk_zp {α:Type} {I:Imm}:OrcOk (α:=α) Tryz.prog I 167 (.pure (ad_zp (p_zp ))):=by
  refine orc_pureK PT_W27_ok (O:=PO_zp ) (OOk.nil) (L:=[]) ⟨1,[]⟩ Tryz.func167 (by kernel_rfl) (by kernel_rfl) (by kernel_rfl) FLOk.nil ?_
  intro args k r hk
  unfold ad_zp at hk
  split at hk<;>try (cases hk; done)
  obtain ⟨x0,rfl,hk0⟩:=decI_spec hk
  have hkz:=hk0
  refine ⟨by simp [Ids,Idss],fun v=>dR_decode_fence v (fun r0=>k (.int .i64 r0)),?_,fun v hv=>?_⟩
  · rw [ok_zp]; exact hkz
  · obtain ⟨r0,rfl,hv1⟩:=dR_decode_fence_spec hv; exact ⟨hv1,by simp [Ids,Idss]⟩
noncomputable abbrev PO_zq {α:Type}:ORC α:=[]
theorem ok_zq {α:Type}  (x0:GDecode_parts) (k:GInsn→Bool→R α):bodyL PT_W27 (PO_zq ) [] ⟨1,[]⟩ Tryz.f168 [(GDecode_parts.sv x0)] emp (fun v _=>dR_decode_parts_guests v k)=p_zq  x0 k:=by kernel_rfl
theorem mk_zq {α:Type} {I:Imm}:OrcOk (α:=α) Tryz.prog I 168 (.pure (ad_zq (p_zq ))):=by
  refine orc_pureK PT_W27_ok (O:=PO_zq ) (OOk.nil) (L:=[]) ⟨1,[]⟩ Tryz.func168 (by kernel_rfl) (by kernel_rfl) (by kernel_rfl) FLOk.nil ?_
  intro args k r hk
  unfold ad_zq at hk
  split at hk<;>try (cases hk; done)
  obtain ⟨x0,rfl,hk0⟩:=GDecode_parts.dec_spec hk
  have hkz:=hk0
  refine ⟨by simp [Ids,Idss],fun v=>dR_decode_parts_guests v (fun r0 r1=>k (.tuple [(GInsn.sv r0),(.bool r1)])),?_,fun v hv=>?_⟩
  · rw [ok_zq]; exact hkz
  · obtain ⟨r0,r1,rfl,hv1⟩:=dR_decode_parts_guests_spec hv; exact ⟨hv1,by simp [Ids,Idss]⟩
noncomputable abbrev B_z56 {α:Type} (F_zp:Sg_zp α) (F_zq:Sg_zq α) (F_z1:Sg_z1 α):FF α:=byBody PT_W27 [] ⟨1,[]⟩ Tryz.f184
theorem cB_z56 {α:Type} {I:Imm} {F_zp:Sg_zp α} {F_zq:Sg_zq α} {F_z1:Sg_z1 α} (h_zp:OrcOk (α:=α) Tryz.prog I 167 (.pure (ad_zp F_zp))) (h_zq:OrcOk (α:=α) Tryz.prog I 168 (.pure (ad_zq F_zq))) (h_z1:OrcOk (α:=α) Tryz.prog I 68 (.pure (ad_z1 F_z1))):OrcOk (α:=α) Tryz.prog I 184 (.full (B_z56 F_zp F_zq F_z1)):=orc_body PT_W27_ok (OOk.nil) ⟨1,[]⟩ Tryz.func184 (by kernel_rfl) (by kernel_rfl) (by kernel_rfl)
noncomputable abbrev B_z57 {α:Type} (F_zp:Sg_zp α) (F_zq:Sg_zq α) (F_z1:Sg_z1 α):FF α:=byBody PT_W27 [(183,.full (xDo 184 (B_z56 F_zp F_zq F_z1)))] ⟨1,[]⟩ Tryz.f166
theorem cB_z57 {α:Type} {I:Imm} {F_zp:Sg_zp α} {F_zq:Sg_zq α} {F_z1:Sg_z1 α} (h_zp:OrcOk (α:=α) Tryz.prog I 167 (.pure (ad_zp F_zp))) (h_zq:OrcOk (α:=α) Tryz.prog I 168 (.pure (ad_zq F_zq))) (h_z1:OrcOk (α:=α) Tryz.prog I 68 (.pure (ad_z1 F_z1))):OrcOk (α:=α) Tryz.prog I 166 (.full (B_z57 F_zp F_zq F_z1)):=orc_body PT_W27_ok (OOk.cons (once_orc on_do_raw (enters_of Tryz.func183 (by kernel_rfl) (by kernel_rfl)) (cB_z56 h_zp h_zq h_z1)) (OOk.nil)) ⟨1,[]⟩ Tryz.func166 (by kernel_rfl) (by kernel_rfl) (by kernel_rfl)
noncomputable abbrev B_z58 {α:Type} (F_zp:Sg_zp α) (F_zq:Sg_zq α) (F_z1:Sg_z1 α):FF α:=byBody PT_W27 [(166,.full (B_z57 F_zp F_zq F_z1))] ⟨1,[]⟩ Tryz.f132
theorem cB_z58 {α:Type} {I:Imm} {F_zp:Sg_zp α} {F_zq:Sg_zq α} {F_z1:Sg_z1 α} (h_zp:OrcOk (α:=α) Tryz.prog I 167 (.pure (ad_zp F_zp))) (h_zq:OrcOk (α:=α) Tryz.prog I 168 (.pure (ad_zq F_zq))) (h_z1:OrcOk (α:=α) Tryz.prog I 68 (.pure (ad_z1 F_z1))):OrcOk (α:=α) Tryz.prog I 132 (.full (B_z58 F_zp F_zq F_z1)):=orc_body PT_W27_ok (OOk.cons (cB_z57 h_zp h_zq h_z1) (OOk.nil)) ⟨1,[]⟩ Tryz.func132 (by kernel_rfl) (by kernel_rfl) (by kernel_rfl)
noncomputable abbrev PO_zn {α:Type} (F_zp:Sg_zp α) (F_zq:Sg_zq α) (F_z1:Sg_z1 α):ORC α:=[(167,.pure (ad_zp F_zp)),(132,.full (B_z58 F_zp F_zq F_z1)),(168,.pure (ad_zq F_zq)),(68,.pure (ad_z1 F_z1))]
theorem ok_zn {α:Type} (F_zp:Sg_zp α) (F_zq:Sg_zq α) (F_z1:Sg_z1 α) (x0:GDecode_parts) (k:GInsn→Bool→R α):bodyL PT_W27 (PO_zn F_zp F_zq F_z1) [] ⟨1,[]⟩ Tryz.f133 [(GDecode_parts.sv x0)] emp (fun v _=>dR_decode_parts_system v k)=p_zn F_zp F_zq F_z1 x0 k:=by kernel_rfl
theorem mk_zn {α:Type} {I:Imm} {F_zp:Sg_zp α} {F_zq:Sg_zq α} {F_z1:Sg_z1 α} (h_zp:OrcOk (α:=α) Tryz.prog I 167 (.pure (ad_zp F_zp))) (h_zq:OrcOk (α:=α) Tryz.prog I 168 (.pure (ad_zq F_zq))) (h_z1:OrcOk (α:=α) Tryz.prog I 68 (.pure (ad_z1 F_z1))):OrcOk (α:=α) Tryz.prog I 133 (.pure (ad_zn (p_zn F_zp F_zq F_z1))):=by
  refine orc_pureK PT_W27_ok (O:=PO_zn F_zp F_zq F_z1) (OOk.cons h_zp (OOk.cons (cB_z58 h_zp h_zq h_z1) (OOk.cons h_zq (OOk.cons h_z1 (OOk.nil))))) (L:=[]) ⟨1,[]⟩ Tryz.func133 (by kernel_rfl) (by kernel_rfl) (by kernel_rfl) FLOk.nil ?_
  intro args k r hk
  unfold ad_zn at hk
  split at hk<;>try (cases hk; done)
  obtain ⟨x0,rfl,hk0⟩:=GDecode_parts.dec_spec hk
  have hkz:=hk0
  refine ⟨by simp [Ids,Idss],fun v=>dR_decode_parts_system v (fun r0 r1=>k (.tuple [(GInsn.sv r0),(.bool r1)])),?_,fun v hv=>?_⟩
  · rw [ok_zn]; exact hkz
  · obtain ⟨r0,r1,rfl,hv1⟩:=dR_decode_parts_system_spec hv; exact ⟨hv1,by simp [Ids,Idss]⟩
noncomputable abbrev B_z59 {α:Type} (F_za:Sg_za α) (F_z1:Sg_z1 α) (F_z5:Sg_z5 α) (F_zc:Sg_zc α) (F_zl:Sg_zl α) (F_zm:Sg_zm α) (F_zn:Sg_zn α):FF α:=byBody PT_W27 [(68,.pure (ad_z1 F_z1)),(148,.pure (ad_z5 F_z5))] ⟨5,[]⟩ Tryz.f128
theorem cB_z59 {α:Type} {I:Imm} {F_za:Sg_za α} {F_z1:Sg_z1 α} {F_z5:Sg_z5 α} {F_zc:Sg_zc α} {F_zl:Sg_zl α} {F_zm:Sg_zm α} {F_zn:Sg_zn α} (h_za:OrcOk (α:=α) Tryz.prog I 127 (.pure (ad_za F_za))) (h_z1:OrcOk (α:=α) Tryz.prog I 68 (.pure (ad_z1 F_z1))) (h_z5:OrcOk (α:=α) Tryz.prog I 148 (.pure (ad_z5 F_z5))) (h_zc:OrcOk (α:=α) Tryz.prog I 129 (.pure (ad_zc F_zc))) (h_zl:OrcOk (α:=α) Tryz.prog I 130 (.pure (ad_zl F_zl))) (h_zm:OrcOk (α:=α) Tryz.prog I 131 (.pure (ad_zm F_zm))) (h_zn:OrcOk (α:=α) Tryz.prog I 133 (.pure (ad_zn F_zn))):OrcOk (α:=α) Tryz.prog I 128 (.full (B_z59 F_za F_z1 F_z5 F_zc F_zl F_zm F_zn)):=orc_body PT_W27_ok (OOk.cons h_z1 (OOk.cons h_z5 (OOk.nil))) ⟨5,[]⟩ Tryz.func128 (by kernel_rfl) (by kernel_rfl) (by kernel_rfl)
noncomputable abbrev B_z5a {α:Type} (F_za:Sg_za α) (F_z1:Sg_z1 α) (F_z5:Sg_z5 α) (F_zc:Sg_zc α) (F_zl:Sg_zl α) (F_zm:Sg_zm α) (F_zn:Sg_zn α):FF α:=byBody PT_W27 [] ⟨5,[]⟩ Tryz.f184
theorem cB_z5a {α:Type} {I:Imm} {F_za:Sg_za α} {F_z1:Sg_z1 α} {F_z5:Sg_z5 α} {F_zc:Sg_zc α} {F_zl:Sg_zl α} {F_zm:Sg_zm α} {F_zn:Sg_zn α} (h_za:OrcOk (α:=α) Tryz.prog I 127 (.pure (ad_za F_za))) (h_z1:OrcOk (α:=α) Tryz.prog I 68 (.pure (ad_z1 F_z1))) (h_z5:OrcOk (α:=α) Tryz.prog I 148 (.pure (ad_z5 F_z5))) (h_zc:OrcOk (α:=α) Tryz.prog I 129 (.pure (ad_zc F_zc))) (h_zl:OrcOk (α:=α) Tryz.prog I 130 (.pure (ad_zl F_zl))) (h_zm:OrcOk (α:=α) Tryz.prog I 131 (.pure (ad_zm F_zm))) (h_zn:OrcOk (α:=α) Tryz.prog I 133 (.pure (ad_zn F_zn))):OrcOk (α:=α) Tryz.prog I 184 (.full (B_z5a F_za F_z1 F_z5 F_zc F_zl F_zm F_zn)):=orc_body PT_W27_ok (OOk.nil) ⟨5,[]⟩ Tryz.func184 (by kernel_rfl) (by kernel_rfl) (by kernel_rfl)
noncomputable abbrev B_z5b {α:Type} (F_za:Sg_za α) (F_z1:Sg_z1 α) (F_z5:Sg_z5 α) (F_zc:Sg_zc α) (F_zl:Sg_zl α) (F_zm:Sg_zm α) (F_zn:Sg_zn α):FF α:=byBody PT_W27 [(183,.full (xDo 184 (B_z5a F_za F_z1 F_z5 F_zc F_zl F_zm F_zn)))] ⟨5,[]⟩ Tryz.f166
theorem cB_z5b {α:Type} {I:Imm} {F_za:Sg_za α} {F_z1:Sg_z1 α} {F_z5:Sg_z5 α} {F_zc:Sg_zc α} {F_zl:Sg_zl α} {F_zm:Sg_zm α} {F_zn:Sg_zn α} (h_za:OrcOk (α:=α) Tryz.prog I 127 (.pure (ad_za F_za))) (h_z1:OrcOk (α:=α) Tryz.prog I 68 (.pure (ad_z1 F_z1))) (h_z5:OrcOk (α:=α) Tryz.prog I 148 (.pure (ad_z5 F_z5))) (h_zc:OrcOk (α:=α) Tryz.prog I 129 (.pure (ad_zc F_zc))) (h_zl:OrcOk (α:=α) Tryz.prog I 130 (.pure (ad_zl F_zl))) (h_zm:OrcOk (α:=α) Tryz.prog I 131 (.pure (ad_zm F_zm))) (h_zn:OrcOk (α:=α) Tryz.prog I 133 (.pure (ad_zn F_zn))):OrcOk (α:=α) Tryz.prog I 166 (.full (B_z5b F_za F_z1 F_z5 F_zc F_zl F_zm F_zn)):=orc_body PT_W27_ok (OOk.cons (once_orc on_do_raw (enters_of Tryz.func183 (by kernel_rfl) (by kernel_rfl)) (cB_z5a h_za h_z1 h_z5 h_zc h_zl h_zm h_zn)) (OOk.nil)) ⟨5,[]⟩ Tryz.func166 (by kernel_rfl) (by kernel_rfl) (by kernel_rfl)
noncomputable abbrev B_z5c {α:Type} (F_za:Sg_za α) (F_z1:Sg_z1 α) (F_z5:Sg_z5 α) (F_zc:Sg_zc α) (F_zl:Sg_zl α) (F_zm:Sg_zm α) (F_zn:Sg_zn α):FF α:=byBody PT_W27 [(166,.full (B_z5b F_za F_z1 F_z5 F_zc F_zl F_zm F_zn))] ⟨5,[]⟩ Tryz.f132
theorem cB_z5c {α:Type} {I:Imm} {F_za:Sg_za α} {F_z1:Sg_z1 α} {F_z5:Sg_z5 α} {F_zc:Sg_zc α} {F_zl:Sg_zl α} {F_zm:Sg_zm α} {F_zn:Sg_zn α} (h_za:OrcOk (α:=α) Tryz.prog I 127 (.pure (ad_za F_za))) (h_z1:OrcOk (α:=α) Tryz.prog I 68 (.pure (ad_z1 F_z1))) (h_z5:OrcOk (α:=α) Tryz.prog I 148 (.pure (ad_z5 F_z5))) (h_zc:OrcOk (α:=α) Tryz.prog I 129 (.pure (ad_zc F_zc))) (h_zl:OrcOk (α:=α) Tryz.prog I 130 (.pure (ad_zl F_zl))) (h_zm:OrcOk (α:=α) Tryz.prog I 131 (.pure (ad_zm F_zm))) (h_zn:OrcOk (α:=α) Tryz.prog I 133 (.pure (ad_zn F_zn))):OrcOk (α:=α) Tryz.prog I 132 (.full (B_z5c F_za F_z1 F_z5 F_zc F_zl F_zm F_zn)):=orc_body PT_W27_ok (OOk.cons (cB_z5b h_za h_z1 h_z5 h_zc h_zl h_zm h_zn) (OOk.nil)) ⟨5,[]⟩ Tryz.func132 (by kernel_rfl) (by kernel_rfl) (by kernel_rfl)
noncomputable abbrev PO_z1l {α:Type} (F_za:Sg_za α) (F_z1:Sg_z1 α) (F_z5:Sg_z5 α) (F_zc:Sg_zc α) (F_zl:Sg_zl α) (F_zm:Sg_zm α) (F_zn:Sg_zn α):ORC α:=[(127,.pure (ad_za F_za)),(128,.full (B_z59 F_za F_z1 F_z5 F_zc F_zl F_zm F_zn)),(129,.pure (ad_zc F_zc)),(130,.pure (ad_zl F_zl)),(131,.pure (ad_zm F_zm)),(132,.full (B_z5c F_za F_z1 F_z5 F_zc F_zl F_zm F_zn)),(133,.pure (ad_zn F_zn))]
theorem ok_z1l {α:Type} (F_za:Sg_za α) (F_z1:Sg_z1 α) (F_z5:Sg_z5 α) (F_zc:Sg_zc α) (F_zl:Sg_zl α) (F_zm:Sg_zm α) (F_zn:Sg_zn α) (x0:GDecode_parts) (k:GInsn→Bool→R α):bodyL PT_W27 (PO_z1l F_za F_z1 F_z5 F_zc F_zl F_zm F_zn) [] ⟨5,[]⟩ Tryz.f97 [(GDecode_parts.sv x0)] emp (fun v _=>dR_decode_parts_insn v k)=p_z1l F_za F_z1 F_z5 F_zc F_zl F_zm F_zn x0 k:=by kernel_rfl
theorem mk_z1l {α:Type} {I:Imm} {F_za:Sg_za α} {F_z1:Sg_z1 α} {F_z5:Sg_z5 α} {F_zc:Sg_zc α} {F_zl:Sg_zl α} {F_zm:Sg_zm α} {F_zn:Sg_zn α} (h_za:OrcOk (α:=α) Tryz.prog I 127 (.pure (ad_za F_za))) (h_z1:OrcOk (α:=α) Tryz.prog I 68 (.pure (ad_z1 F_z1))) (h_z5:OrcOk (α:=α) Tryz.prog I 148 (.pure (ad_z5 F_z5))) (h_zc:OrcOk (α:=α) Tryz.prog I 129 (.pure (ad_zc F_zc))) (h_zl:OrcOk (α:=α) Tryz.prog I 130 (.pure (ad_zl F_zl))) (h_zm:OrcOk (α:=α) Tryz.prog I 131 (.pure (ad_zm F_zm))) (h_zn:OrcOk (α:=α) Tryz.prog I 133 (.pure (ad_zn F_zn))):OrcOk (α:=α) Tryz.prog I 97 (.pure (ad_z1l (p_z1l F_za F_z1 F_z5 F_zc F_zl F_zm F_zn))):=by
  refine orc_pureK PT_W27_ok (O:=PO_z1l F_za F_z1 F_z5 F_zc F_zl F_zm F_zn) (OOk.cons h_za (OOk.cons (cB_z59 h_za h_z1 h_z5 h_zc h_zl h_zm h_zn) (OOk.cons h_zc (OOk.cons h_zl (OOk.cons h_zm (OOk.cons (cB_z5c h_za h_z1 h_z5 h_zc h_zl h_zm h_zn) (OOk.cons h_zn (OOk.nil)))))))) (L:=[]) ⟨5,[]⟩ Tryz.func97 (by kernel_rfl) (by kernel_rfl) (by kernel_rfl) FLOk.nil ?_
  intro args k r hk
  unfold ad_z1l at hk
  split at hk<;>try (cases hk; done)
  obtain ⟨x0,rfl,hk0⟩:=GDecode_parts.dec_spec hk
  have hkz:=hk0
  refine ⟨by simp [Ids,Idss],fun v=>dR_decode_parts_insn v (fun r0 r1=>k (.tuple [(GInsn.sv r0),(.bool r1)])),?_,fun v hv=>?_⟩
  · rw [ok_z1l]; exact hkz
  · obtain ⟨r0,r1,rfl,hv1⟩:=dR_decode_parts_insn_spec hv; exact ⟨hv1,by simp [Ids,Idss]⟩
noncomputable abbrev PO_z4 {α:Type}:ORC α:=[]
theorem ok_z4 {α:Type}  (x0:Int) (k:Int→R α):bodyL PT_W27 (PO_z4 ) [] ⟨13,[]⟩ Tryz.f100 [(.int .i64 x0)] emp (fun v _=>dR_insn_Class v k)=p_z4  x0 k:=by kernel_rfl
theorem mk_z4 {α:Type} {I:Imm}:OrcOk (α:=α) Tryz.prog I 100 (.pure (ad_z4 (p_z4 ))):=by
  refine orc_pureK PT_W27_ok (O:=PO_z4 ) (OOk.nil) (L:=[]) ⟨13,[]⟩ Tryz.func100 (by kernel_rfl) (by kernel_rfl) (by kernel_rfl) FLOk.nil ?_
  intro args k r hk
  unfold ad_z4 at hk
  split at hk<;>try (cases hk; done)
  obtain ⟨x0,rfl,hk0⟩:=decI_spec hk
  have hkz:=hk0
  refine ⟨by simp [Ids,Idss],fun v=>dR_insn_Class v (fun r0=>k (.int .i64 r0)),?_,fun v hv=>?_⟩
  · rw [ok_z4]; exact hkz
  · obtain ⟨r0,rfl,hv1⟩:=dR_insn_Class_spec hv; exact ⟨hv1,by simp [Ids,Idss]⟩
noncomputable abbrev PO_z1m {α:Type}:ORC α:=[]
theorem ok_z1m {α:Type}  (x0:Int) (k:GInsn_Fields→R α):bodyL PT_W27 (PO_z1m ) [] ⟨1,[]⟩ Tryz.f169 [(.int .i64 x0)] emp (fun v _=>dR_insn_jumps v k)=p_z1m  x0 k:=by kernel_rfl
theorem mk_z1m {α:Type} {I:Imm}:OrcOk (α:=α) Tryz.prog I 169 (.pure (ad_z1m (p_z1m ))):=by
  refine orc_pureK PT_W27_ok (O:=PO_z1m ) (OOk.nil) (L:=[]) ⟨1,[]⟩ Tryz.func169 (by kernel_rfl) (by kernel_rfl) (by kernel_rfl) FLOk.nil ?_
  intro args k r hk
  unfold ad_z1m at hk
  split at hk<;>try (cases hk; done)
  obtain ⟨x0,rfl,hk0⟩:=decI_spec hk
  have hkz:=hk0
  refine ⟨by simp [Ids,Idss],fun v=>dR_insn_jumps v (fun r0=>k (GInsn_Fields.sv r0)),?_,fun v hv=>?_⟩
  · rw [ok_z1m]; exact hkz
  · obtain ⟨r0,rfl,hv1⟩:=dR_insn_jumps_spec hv; exact ⟨hv1,by simp [Ids,Idss]⟩
noncomputable abbrev PO_z1n {α:Type}:ORC α:=[]
theorem ok_z1n {α:Type}  (x0:Int) (k:GInsn_Fields→R α):bodyL PT_W27 (PO_z1n ) [] ⟨1,[]⟩ Tryz.f170 [(.int .i64 x0)] emp (fun v _=>dR_insn_withNumber v k)=p_z1n  x0 k:=by kernel_rfl
theorem mk_z1n {α:Type} {I:Imm}:OrcOk (α:=α) Tryz.prog I 170 (.pure (ad_z1n (p_z1n ))):=by
  refine orc_pureK PT_W27_ok (O:=PO_z1n ) (OOk.nil) (L:=[]) ⟨1,[]⟩ Tryz.func170 (by kernel_rfl) (by kernel_rfl) (by kernel_rfl) FLOk.nil ?_
  intro args k r hk
  unfold ad_z1n at hk
  split at hk<;>try (cases hk; done)
  obtain ⟨x0,rfl,hk0⟩:=decI_spec hk
  have hkz:=hk0
  refine ⟨by simp [Ids,Idss],fun v=>dR_insn_withNumber v (fun r0=>k (GInsn_Fields.sv r0)),?_,fun v hv=>?_⟩
  · rw [ok_z1n]; exact hkz
  · obtain ⟨r0,rfl,hv1⟩:=dR_insn_withNumber_spec hv; exact ⟨hv1,by simp [Ids,Idss]⟩
noncomputable abbrev PO_z1o {α:Type} (F_z4:Sg_z4 α) (F_z1m:Sg_z1m α) (F_z1n:Sg_z1n α):ORC α:=[(100,.pure (ad_z4 F_z4)),(169,.pure (ad_z1m F_z1m)),(170,.pure (ad_z1n F_z1n))]
theorem ok_z1o {α:Type} (F_z4:Sg_z4 α) (F_z1m:Sg_z1m α) (F_z1n:Sg_z1n α) (x0:Int) (k:GInsn_Fields→R α):bodyL PT_W27 (PO_z1o F_z4 F_z1m F_z1n) [] ⟨1,[]⟩ Tryz.f134 [(.int .i64 x0)] emp (fun v _=>dR_insn_Of v k)=p_z1o F_z4 F_z1m F_z1n x0 k:=by kernel_rfl
theorem mk_z1o {α:Type} {I:Imm} {F_z4:Sg_z4 α} {F_z1m:Sg_z1m α} {F_z1n:Sg_z1n α} (h_z4:OrcOk (α:=α) Tryz.prog I 100 (.pure (ad_z4 F_z4))) (h_z1m:OrcOk (α:=α) Tryz.prog I 169 (.pure (ad_z1m F_z1m))) (h_z1n:OrcOk (α:=α) Tryz.prog I 170 (.pure (ad_z1n F_z1n))):OrcOk (α:=α) Tryz.prog I 134 (.pure (ad_z1o (p_z1o F_z4 F_z1m F_z1n))):=by
  refine orc_pureK PT_W27_ok (O:=PO_z1o F_z4 F_z1m F_z1n) (OOk.cons h_z4 (OOk.cons h_z1m (OOk.cons h_z1n (OOk.nil)))) (L:=[]) ⟨1,[]⟩ Tryz.func134 (by kernel_rfl) (by kernel_rfl) (by kernel_rfl) FLOk.nil ?_
  intro args k r hk
  unfold ad_z1o at hk
  split at hk<;>try (cases hk; done)
  obtain ⟨x0,rfl,hk0⟩:=decI_spec hk
  have hkz:=hk0
  refine ⟨by simp [Ids,Idss],fun v=>dR_insn_Of v (fun r0=>k (GInsn_Fields.sv r0)),?_,fun v hv=>?_⟩
  · rw [ok_z1o]; exact hkz
  · obtain ⟨r0,rfl,hv1⟩:=dR_insn_Of_spec hv; exact ⟨hv1,by simp [Ids,Idss]⟩
noncomputable abbrev PO_z11 {α:Type}:ORC α:=[]
theorem ok_z11 {α:Type}  (x0:Bool) (x1:Int) (x2:Int) (k:Bool→R α):bodyL PT_W27 (PO_z11 ) [] ⟨1,[]⟩ Tryz.f135 [(.bool x0),(.int .i64 x1),(.int .i64 x2)] emp (fun v _=>dR_insn_field v k)=p_z11  x0 x1 x2 k:=by kernel_rfl
theorem mk_z11 {α:Type} {I:Imm}:OrcOk (α:=α) Tryz.prog I 135 (.pure (ad_z11 (p_z11 ))):=by
  refine orc_pureK PT_W27_ok (O:=PO_z11 ) (OOk.nil) (L:=[]) ⟨1,[]⟩ Tryz.func135 (by kernel_rfl) (by kernel_rfl) (by kernel_rfl) FLOk.nil ?_
  intro args k r hk
  unfold ad_z11 at hk
  split at hk<;>try (cases hk; done)
  obtain ⟨x0,rfl,hk0⟩:=decB_spec hk
  obtain ⟨x1,rfl,hk1⟩:=decI_spec hk0
  obtain ⟨x2,rfl,hk2⟩:=decI_spec hk1
  have hkz:=hk2
  refine ⟨by simp [Ids,Idss],fun v=>dR_insn_field v (fun r0=>k (.bool r0)),?_,fun v hv=>?_⟩
  · rw [ok_z11]; exact hkz
  · obtain ⟨r0,rfl,hv1⟩:=dR_insn_field_spec hv; exact ⟨hv1,by simp [Ids,Idss]⟩
noncomputable abbrev PO_zd {α:Type} (F_z4:Sg_z4 α) (F_z1o:Sg_z1o α) (F_z11:Sg_z11 α):ORC α:=[(100,.pure (ad_z4 F_z4)),(134,.pure (ad_z1o F_z1o)),(135,.pure (ad_z11 F_z11))]
theorem ok_zd {α:Type} (F_z4:Sg_z4 α) (F_z1o:Sg_z1o α) (F_z11:Sg_z11 α) (x0:GInsn) (k:Bool→R α):bodyL PT_W27 (PO_zd F_z4 F_z1o F_z11) [] ⟨1,[]⟩ Tryz.f98 [(GInsn.sv x0)] emp (fun v _=>dR_insn_Is v k)=p_zd F_z4 F_z1o F_z11 x0 k:=by kernel_rfl
theorem mk_zd {α:Type} {I:Imm} {F_z4:Sg_z4 α} {F_z1o:Sg_z1o α} {F_z11:Sg_z11 α} (h_z4:OrcOk (α:=α) Tryz.prog I 100 (.pure (ad_z4 F_z4))) (h_z1o:OrcOk (α:=α) Tryz.prog I 134 (.pure (ad_z1o F_z1o))) (h_z11:OrcOk (α:=α) Tryz.prog I 135 (.pure (ad_z11 F_z11))):OrcOk (α:=α) Tryz.prog I 98 (.pure (ad_zd (p_zd F_z4 F_z1o F_z11))):=by
  refine orc_pureK PT_W27_ok (O:=PO_zd F_z4 F_z1o F_z11) (OOk.cons h_z4 (OOk.cons h_z1o (OOk.cons h_z11 (OOk.nil)))) (L:=[]) ⟨1,[]⟩ Tryz.func98 (by kernel_rfl) (by kernel_rfl) (by kernel_rfl) FLOk.nil ?_
  intro args k r hk
  unfold ad_zd at hk
  split at hk<;>try (cases hk; done)
  obtain ⟨x0,rfl,hk0⟩:=GInsn.dec_spec hk
  have hkz:=hk0
  refine ⟨by simp [Ids,Idss],fun v=>dR_insn_Is v (fun r0=>k (.bool r0)),?_,fun v hv=>?_⟩
  · rw [ok_zd]; exact hkz
  · obtain ⟨r0,rfl,hv1⟩:=dR_insn_Is_spec hv; exact ⟨hv1,by simp [Ids,Idss]⟩
noncomputable abbrev PO_z26 {α:Type} (F_z1k:Sg_z1k α) (F_z1l:Sg_z1l α) (F_zd:Sg_zd α):ORC α:=[(96,.pure (ad_z1k F_z1k)),(97,.pure (ad_z1l F_z1l)),(98,.pure (ad_zd F_zd))]
theorem ok_z26 {α:Type} (F_z1k:Sg_z1k α) (F_z1l:Sg_z1l α) (F_zd:Sg_zd α) (x0:Int) (k:GInsn→Int→R α):bodyL PT_W27 (PO_z26 F_z1k F_z1l F_zd) [] ⟨1,[]⟩ Tryz.f75 [(.int .u32 x0)] emp (fun v _=>dR_decode_Decode v k)=p_z26 F_z1k F_z1l F_zd x0 k:=by kernel_rfl
theorem mk_z26 {α:Type} {I:Imm} {F_z1k:Sg_z1k α} {F_z1l:Sg_z1l α} {F_zd:Sg_zd α} (h_z1k:OrcOk (α:=α) Tryz.prog I 96 (.pure (ad_z1k F_z1k))) (h_z1l:OrcOk (α:=α) Tryz.prog I 97 (.pure (ad_z1l F_z1l))) (h_zd:OrcOk (α:=α) Tryz.prog I 98 (.pure (ad_zd F_zd))):OrcOk (α:=α) Tryz.prog I 75 (.pure (ad_z26 (p_z26 F_z1k F_z1l F_zd))):=by
  refine orc_pureK PT_W27_ok (O:=PO_z26 F_z1k F_z1l F_zd) (OOk.cons h_z1k (OOk.cons h_z1l (OOk.cons h_zd (OOk.nil)))) (L:=[]) ⟨1,[]⟩ Tryz.func75 (by kernel_rfl) (by kernel_rfl) (by kernel_rfl) FLOk.nil ?_
  intro args k r hk
  unfold ad_z26 at hk
  split at hk<;>try (cases hk; done)
  obtain ⟨x0,rfl,hk0⟩:=decI_spec hk
  have hkz:=hk0
  refine ⟨by simp [Ids,Idss],fun v=>dR_decode_Decode v (fun r0 r1=>k (.tuple [(GInsn.sv r0),(.int .i64 r1)])),?_,fun v hv=>?_⟩
  · rw [ok_z26]; exact hkz
  · obtain ⟨r0,r1,rfl,hv1⟩:=dR_decode_Decode_spec hv; exact ⟨hv1,by simp [Ids,Idss]⟩
noncomputable abbrev PO_zj {α:Type}:ORC α:=[]
theorem ok_zj {α:Type}  (x0:GState) (k:Int→R α):bodyL PT_W27 (PO_zj ) [] ⟨1,[]⟩ Tryz.f99 [(GState.sv x0)] emp (fun v _=>dR_legal_Level v k)=p_zj  x0 k:=by kernel_rfl
theorem mk_zj {α:Type} {I:Imm}:OrcOk (α:=α) Tryz.prog I 99 (.pure (ad_zj (p_zj ))):=by
  refine orc_pureK PT_W27_ok (O:=PO_zj ) (OOk.nil) (L:=[]) ⟨1,[]⟩ Tryz.func99 (by kernel_rfl) (by kernel_rfl) (by kernel_rfl) FLOk.nil ?_
  intro args k r hk
  unfold ad_zj at hk
  split at hk<;>try (cases hk; done)
  obtain ⟨x0,rfl,hk0⟩:=GState.dec_spec hk
  have hkz:=hk0
  refine ⟨by simp [Ids,Idss],fun v=>dR_legal_Level v (fun r0=>k (.int .i64 r0)),?_,fun v hv=>?_⟩
  · rw [ok_zj]; exact hkz
  · obtain ⟨r0,rfl,hv1⟩:=dR_legal_Level_spec hv; exact ⟨hv1,by simp [Ids,Idss]⟩
noncomputable abbrev PO_zu {α:Type}:ORC α:=[]
theorem ok_zu {α:Type}  (x0:GInsn) (k:Bool→R α):bodyL PT_W27 (PO_zu ) [] ⟨1,[]⟩ Tryz.f102 [(GInsn.sv x0)] emp (fun v _=>dR_legal_Writes v k)=p_zu  x0 k:=by kernel_rfl
theorem mk_zu {α:Type} {I:Imm}:OrcOk (α:=α) Tryz.prog I 102 (.pure (ad_zu (p_zu ))):=by
  refine orc_pureK PT_W27_ok (O:=PO_zu ) (OOk.nil) (L:=[]) ⟨1,[]⟩ Tryz.func102 (by kernel_rfl) (by kernel_rfl) (by kernel_rfl) FLOk.nil ?_
  intro args k r hk
  unfold ad_zu at hk
  split at hk<;>try (cases hk; done)
  obtain ⟨x0,rfl,hk0⟩:=GInsn.dec_spec hk
  have hkz:=hk0
  refine ⟨by simp [Ids,Idss],fun v=>dR_legal_Writes v (fun r0=>k (.bool r0)),?_,fun v hv=>?_⟩
  · rw [ok_zu]; exact hkz
  · obtain ⟨r0,rfl,hv1⟩:=dR_legal_Writes_spec hv; exact ⟨hv1,by simp [Ids,Idss]⟩
noncomputable abbrev B_z5d {α:Type}:FF α:=byBody PT_W27 [] ⟨6,[]⟩ Tryz.f83
theorem cB_z5d {α:Type} {I:Imm}:OrcOk (α:=α) Tryz.prog I 83 (.full (B_z5d )):=orc_body PT_W27_ok (OOk.nil) ⟨6,[]⟩ Tryz.func83 (by kernel_rfl) (by kernel_rfl) (by kernel_rfl)
noncomputable abbrev PO_z2 {α:Type}:ORC α:=[(83,.full (B_z5d ))]
theorem ok_z2 {α:Type}   (k:Int→R α):bodyL PT_W27 (PO_z2 ) [] ⟨6,[]⟩ Tryz.f84 [] emp (fun v _=>dR_csr_guests v k)=p_z2   k:=by kernel_rfl
theorem mk_z2 {α:Type} {I:Imm}:OrcOk (α:=α) Tryz.prog I 84 (.pure (ad_z2 (p_z2 ))):=by
  refine orc_pureK PT_W27_ok (O:=PO_z2 ) (OOk.cons (cB_z5d ) (OOk.nil)) (L:=[]) ⟨6,[]⟩ Tryz.func84 (by kernel_rfl) (by kernel_rfl) (by kernel_rfl) FLOk.nil ?_
  intro args k r hk
  unfold ad_z2 at hk
  split at hk<;>try (cases hk; done)
  have hkz:=hk
  refine ⟨by simp [Ids,Idss],fun v=>dR_csr_guests v (fun r0=>k (.int .u64 r0)),?_,fun v hv=>?_⟩
  · rw [ok_z2]; exact hkz
  · obtain ⟨r0,rfl,hv1⟩:=dR_csr_guests_spec hv; exact ⟨hv1,by simp [Ids,Idss]⟩
noncomputable abbrev B_z5e {α:Type} (F_z2:Sg_z2 α):FF α:=byBody PT_W27 [] ⟨30,[]⟩ Tryz.f83
theorem cB_z5e {α:Type} {I:Imm} {F_z2:Sg_z2 α} (h_z2:OrcOk (α:=α) Tryz.prog I 84 (.pure (ad_z2 F_z2))):OrcOk (α:=α) Tryz.prog I 83 (.full (B_z5e F_z2)):=orc_body PT_W27_ok (OOk.nil) ⟨30,[]⟩ Tryz.func83 (by kernel_rfl) (by kernel_rfl) (by kernel_rfl)
noncomputable abbrev B_z5f {α:Type} (F_z2:Sg_z2 α):FF α:=byBody PT_W27 [(83,.full (B_z5e F_z2)),(84,.pure (ad_z2 F_z2))] ⟨30,[]⟩ Tryz.f62
theorem cB_z5f {α:Type} {I:Imm} {F_z2:Sg_z2 α} (h_z2:OrcOk (α:=α) Tryz.prog I 84 (.pure (ad_z2 F_z2))):OrcOk (α:=α) Tryz.prog I 62 (.full (B_z5f F_z2)):=orc_body PT_W27_ok (OOk.cons (cB_z5e h_z2) (OOk.cons h_z2 (OOk.nil))) ⟨30,[]⟩ Tryz.func62 (by kernel_rfl) (by kernel_rfl) (by kernel_rfl)
noncomputable abbrev PO_ze {α:Type} (F_z2:Sg_z2 α):ORC α:=[(62,.full (B_z5f F_z2))]
theorem ok_ze {α:Type} (F_z2:Sg_z2 α) (x0:Int) (k:Int→R α):bodyL PT_W27 (PO_ze F_z2) [] ⟨30,[]⟩ Tryz.f171 [(.int .i64 x0)] emp (fun v _=>dR_csr_Index v k)=p_ze F_z2 x0 k:=by kernel_rfl
theorem mk_ze {α:Type} {I:Imm} {F_z2:Sg_z2 α} (h_z2:OrcOk (α:=α) Tryz.prog I 84 (.pure (ad_z2 F_z2))):OrcOk (α:=α) Tryz.prog I 171 (.pure (ad_ze (p_ze F_z2))):=by
  refine orc_pureK PT_W27_ok (O:=PO_ze F_z2) (OOk.cons (cB_z5f h_z2) (OOk.nil)) (L:=[]) ⟨30,[]⟩ Tryz.func171 (by kernel_rfl) (by kernel_rfl) (by kernel_rfl) FLOk.nil ?_
  intro args k r hk
  unfold ad_ze at hk
  split at hk<;>try (cases hk; done)
  obtain ⟨x0,rfl,hk0⟩:=decI_spec hk
  have hkz:=hk0
  refine ⟨by simp [Ids,Idss],fun v=>dR_csr_Index v (fun r0=>k (.int .i64 r0)),?_,fun v hv=>?_⟩
  · rw [ok_ze]; exact hkz
  · obtain ⟨r0,rfl,hv1⟩:=dR_csr_Index_spec hv; exact ⟨hv1,by simp [Ids,Idss]⟩
noncomputable abbrev PO_z1p {α:Type} (F_ze:Sg_ze α):ORC α:=[(171,.pure (ad_ze F_ze))]
theorem ok_z1p {α:Type} (F_ze:Sg_ze α) (x0:Int) (k:Bool→R α):bodyL PT_W27 (PO_z1p F_ze) [] ⟨1,[]⟩ Tryz.f136 [(.int .i64 x0)] emp (fun v _=>dR_csr_Is v k)=p_z1p F_ze x0 k:=by kernel_rfl
theorem mk_z1p {α:Type} {I:Imm} {F_ze:Sg_ze α} (h_ze:OrcOk (α:=α) Tryz.prog I 171 (.pure (ad_ze F_ze))):OrcOk (α:=α) Tryz.prog I 136 (.pure (ad_z1p (p_z1p F_ze))):=by
  refine orc_pureK PT_W27_ok (O:=PO_z1p F_ze) (OOk.cons h_ze (OOk.nil)) (L:=[]) ⟨1,[]⟩ Tryz.func136 (by kernel_rfl) (by kernel_rfl) (by kernel_rfl) FLOk.nil ?_
  intro args k r hk
  unfold ad_z1p at hk
  split at hk<;>try (cases hk; done)
  obtain ⟨x0,rfl,hk0⟩:=decI_spec hk
  have hkz:=hk0
  refine ⟨by simp [Ids,Idss],fun v=>dR_csr_Is v (fun r0=>k (.bool r0)),?_,fun v hv=>?_⟩
  · rw [ok_z1p]; exact hkz
  · obtain ⟨r0,rfl,hv1⟩:=dR_csr_Is_spec hv; exact ⟨hv1,by simp [Ids,Idss]⟩
noncomputable abbrev PO_zo {α:Type}:ORC α:=[]
theorem ok_zo {α:Type}  (x0:Int) (k:Int→R α):bodyL PT_W27 (PO_zo ) [] ⟨1,[]⟩ Tryz.f138 [(.int .i64 x0)] emp (fun v _=>dR_legal_ask v k)=p_zo  x0 k:=by kernel_rfl
theorem mk_zo {α:Type} {I:Imm}:OrcOk (α:=α) Tryz.prog I 138 (.pure (ad_zo (p_zo ))):=by
  refine orc_pureK PT_W27_ok (O:=PO_zo ) (OOk.nil) (L:=[]) ⟨1,[]⟩ Tryz.func138 (by kernel_rfl) (by kernel_rfl) (by kernel_rfl) FLOk.nil ?_
  intro args k r hk
  unfold ad_zo at hk
  split at hk<;>try (cases hk; done)
  obtain ⟨x0,rfl,hk0⟩:=decI_spec hk
  have hkz:=hk0
  refine ⟨by simp [Ids,Idss],fun v=>dR_legal_ask v (fun r0=>k (.int .i64 r0)),?_,fun v hv=>?_⟩
  · rw [ok_zo]; exact hkz
  · obtain ⟨r0,rfl,hv1⟩:=dR_legal_ask_spec hv; exact ⟨hv1,by simp [Ids,Idss]⟩
noncomputable abbrev PO_z8 {α:Type}:ORC α:=[]
theorem ok_z8 {α:Type}  (x0:Bool) (x1:Int) (k:Int→Bool→R α):bodyL PT_W27 (PO_z8 ) [] ⟨1,[]⟩ Tryz.f103 [(.bool x0),(.int .u64 x1)] emp (fun v _=>dR_legal_because v k)=p_z8  x0 x1 k:=by kernel_rfl
theorem mk_z8 {α:Type} {I:Imm}:OrcOk (α:=α) Tryz.prog I 103 (.pure (ad_z8 (p_z8 ))):=by
  refine orc_pureK PT_W27_ok (O:=PO_z8 ) (OOk.nil) (L:=[]) ⟨1,[]⟩ Tryz.func103 (by kernel_rfl) (by kernel_rfl) (by kernel_rfl) FLOk.nil ?_
  intro args k r hk
  unfold ad_z8 at hk
  split at hk<;>try (cases hk; done)
  obtain ⟨x0,rfl,hk0⟩:=decB_spec hk
  obtain ⟨x1,rfl,hk1⟩:=decI_spec hk0
  have hkz:=hk1
  refine ⟨by simp [Ids,Idss],fun v=>dR_legal_because v (fun r0 r1=>k (.tuple [(.int .u64 r0),(.bool r1)])),?_,fun v hv=>?_⟩
  · rw [ok_z8]; exact hkz
  · obtain ⟨r0,r1,rfl,hv1⟩:=dR_legal_because_spec hv; exact ⟨hv1,by simp [Ids,Idss]⟩
noncomputable abbrev PO_z17 {α:Type} (F_zo:Sg_zo α) (F_z8:Sg_z8 α) (F_z3:Sg_z3 α):ORC α:=[(138,.pure (ad_zo F_zo)),(103,.pure (ad_z8 F_z8)),(69,.pure (ad_z3 F_z3))]
theorem ok_z17 {α:Type} (F_zo:Sg_zo α) (F_z8:Sg_z8 α) (F_z3:Sg_z3 α) (x0:GState) (x1:Int) (x2:Int) (k:Int→Bool→R α):bodyL PT_W27 (PO_z17 F_zo F_z8 F_z3) [] ⟨1,[]⟩ Tryz.f137 [(GState.sv x0),(.int .i64 x1),(.int .i64 x2)] emp (fun v _=>dR_legal_guestCsr v k)=p_z17 F_zo F_z8 F_z3 x0 x1 x2 k:=by kernel_rfl
theorem mk_z17 {α:Type} {I:Imm} {F_zo:Sg_zo α} {F_z8:Sg_z8 α} {F_z3:Sg_z3 α} (h_zo:OrcOk (α:=α) Tryz.prog I 138 (.pure (ad_zo F_zo))) (h_z8:OrcOk (α:=α) Tryz.prog I 103 (.pure (ad_z8 F_z8))) (h_z3:OrcOk (α:=α) Tryz.prog I 69 (.pure (ad_z3 F_z3))):OrcOk (α:=α) Tryz.prog I 137 (.pure (ad_z17 (p_z17 F_zo F_z8 F_z3))):=by
  refine orc_pureK PT_W27_ok (O:=PO_z17 F_zo F_z8 F_z3) (OOk.cons h_zo (OOk.cons h_z8 (OOk.cons h_z3 (OOk.nil)))) (L:=[]) ⟨1,[]⟩ Tryz.func137 (by kernel_rfl) (by kernel_rfl) (by kernel_rfl) FLOk.nil ?_
  intro args k r hk
  unfold ad_z17 at hk
  split at hk<;>try (cases hk; done)
  obtain ⟨x0,rfl,hk0⟩:=GState.dec_spec hk
  obtain ⟨x1,rfl,hk1⟩:=decI_spec hk0
  obtain ⟨x2,rfl,hk2⟩:=decI_spec hk1
  have hkz:=hk2
  refine ⟨by simp [Ids,Idss],fun v=>dR_legal_guestCsr v (fun r0 r1=>k (.tuple [(.int .u64 r0),(.bool r1)])),?_,fun v hv=>?_⟩
  · rw [ok_z17]; exact hkz
  · obtain ⟨r0,r1,rfl,hv1⟩:=dR_legal_guestCsr_spec hv; exact ⟨hv1,by simp [Ids,Idss]⟩
noncomputable abbrev PO_z1q {α:Type} (F_zj:Sg_zj α) (F_z1p:Sg_z1p α) (F_z17:Sg_z17 α) (F_z8:Sg_z8 α) (F_z3:Sg_z3 α) (F_zo:Sg_zo α):ORC α:=[(99,.pure (ad_zj F_zj)),(136,.pure (ad_z1p F_z1p)),(137,.pure (ad_z17 F_z17)),(103,.pure (ad_z8 F_z8)),(69,.pure (ad_z3 F_z3)),(138,.pure (ad_zo F_zo))]
theorem ok_z1q {α:Type} (F_zj:Sg_zj α) (F_z1p:Sg_z1p α) (F_z17:Sg_z17 α) (F_z8:Sg_z8 α) (F_z3:Sg_z3 α) (F_zo:Sg_zo α) (x0:GState) (x1:Int) (x2:Bool) (k:Int→Bool→R α):bodyL PT_W27 (PO_z1q F_zj F_z1p F_z17 F_z8 F_z3 F_zo) [] ⟨1,[]⟩ Tryz.f101 [(GState.sv x0),(.int .i64 x1),(.bool x2)] emp (fun v _=>dR_legal_Csr v k)=p_z1q F_zj F_z1p F_z17 F_z8 F_z3 F_zo x0 x1 x2 k:=by kernel_rfl
theorem mk_z1q {α:Type} {I:Imm} {F_zj:Sg_zj α} {F_z1p:Sg_z1p α} {F_z17:Sg_z17 α} {F_z8:Sg_z8 α} {F_z3:Sg_z3 α} {F_zo:Sg_zo α} (h_zj:OrcOk (α:=α) Tryz.prog I 99 (.pure (ad_zj F_zj))) (h_z1p:OrcOk (α:=α) Tryz.prog I 136 (.pure (ad_z1p F_z1p))) (h_z17:OrcOk (α:=α) Tryz.prog I 137 (.pure (ad_z17 F_z17))) (h_z8:OrcOk (α:=α) Tryz.prog I 103 (.pure (ad_z8 F_z8))) (h_z3:OrcOk (α:=α) Tryz.prog I 69 (.pure (ad_z3 F_z3))) (h_zo:OrcOk (α:=α) Tryz.prog I 138 (.pure (ad_zo F_zo))):OrcOk (α:=α) Tryz.prog I 101 (.pure (ad_z1q (p_z1q F_zj F_z1p F_z17 F_z8 F_z3 F_zo))):=by
  refine orc_pureK PT_W27_ok (O:=PO_z1q F_zj F_z1p F_z17 F_z8 F_z3 F_zo) (OOk.cons h_zj (OOk.cons h_z1p (OOk.cons h_z17 (OOk.cons h_z8 (OOk.cons h_z3 (OOk.cons h_zo (OOk.nil))))))) (L:=[]) ⟨1,[]⟩ Tryz.func101 (by kernel_rfl) (by kernel_rfl) (by kernel_rfl) FLOk.nil ?_
  intro args k r hk
  unfold ad_z1q at hk
  split at hk<;>try (cases hk; done)
  obtain ⟨x0,rfl,hk0⟩:=GState.dec_spec hk
  obtain ⟨x1,rfl,hk1⟩:=decI_spec hk0
  obtain ⟨x2,rfl,hk2⟩:=decB_spec hk1
  have hkz:=hk2
  refine ⟨by simp [Ids,Idss],fun v=>dR_legal_Csr v (fun r0 r1=>k (.tuple [(.int .u64 r0),(.bool r1)])),?_,fun v hv=>?_⟩
  · rw [ok_z1q]; exact hkz
  · obtain ⟨r0,r1,rfl,hv1⟩:=dR_legal_Csr_spec hv; exact ⟨hv1,by simp [Ids,Idss]⟩
noncomputable abbrev PO_z1f {α:Type} (F_z3:Sg_z3 α) (F_z8:Sg_z8 α):ORC α:=[(69,.pure (ad_z3 F_z3)),(103,.pure (ad_z8 F_z8))]
theorem ok_z1f {α:Type} (F_z3:Sg_z3 α) (F_z8:Sg_z8 α) (x0:GState) (x1:Int) (x2:Int) (x3:Int) (k:Int→Bool→R α):bodyL PT_W27 (PO_z1f F_z3 F_z8) [] ⟨1,[]⟩ Tryz.f104 [(GState.sv x0),(.int .i64 x1),(.int .i64 x2),(.int .i64 x3)] emp (fun v _=>dR_legal_plain v k)=p_z1f F_z3 F_z8 x0 x1 x2 x3 k:=by kernel_rfl
theorem mk_z1f {α:Type} {I:Imm} {F_z3:Sg_z3 α} {F_z8:Sg_z8 α} (h_z3:OrcOk (α:=α) Tryz.prog I 69 (.pure (ad_z3 F_z3))) (h_z8:OrcOk (α:=α) Tryz.prog I 103 (.pure (ad_z8 F_z8))):OrcOk (α:=α) Tryz.prog I 104 (.pure (ad_z1f (p_z1f F_z3 F_z8))):=by
  refine orc_pureK PT_W27_ok (O:=PO_z1f F_z3 F_z8) (OOk.cons h_z3 (OOk.cons h_z8 (OOk.nil))) (L:=[]) ⟨1,[]⟩ Tryz.func104 (by kernel_rfl) (by kernel_rfl) (by kernel_rfl) FLOk.nil ?_
  intro args k r hk
  unfold ad_z1f at hk
  split at hk<;>try (cases hk; done)
  obtain ⟨x0,rfl,hk0⟩:=GState.dec_spec hk
  obtain ⟨x1,rfl,hk1⟩:=decI_spec hk0
  obtain ⟨x2,rfl,hk2⟩:=decI_spec hk1
  obtain ⟨x3,rfl,hk3⟩:=decI_spec hk2
  have hkz:=hk3
  refine ⟨by simp [Ids,Idss],fun v=>dR_legal_plain v (fun r0 r1=>k (.tuple [(.int .u64 r0),(.bool r1)])),?_,fun v hv=>?_⟩
  · rw [ok_z1f]; exact hkz
  · obtain ⟨r0,r1,rfl,hv1⟩:=dR_legal_plain_spec hv; exact ⟨hv1,by simp [Ids,Idss]⟩
noncomputable abbrev PO_z1r {α:Type} (F_z3:Sg_z3 α):ORC α:=[(69,.pure (ad_z3 F_z3))]
theorem ok_z1r {α:Type} (F_z3:Sg_z3 α) (x0:GState) (x1:Int) (k:Int→Bool→R α):bodyL PT_W27 (PO_z1r F_z3) [] ⟨1,[]⟩ Tryz.f105 [(GState.sv x0),(.int .i64 x1)] emp (fun v _=>dR_legal_wfi v k)=p_z1r F_z3 x0 x1 k:=by kernel_rfl
theorem mk_z1r {α:Type} {I:Imm} {F_z3:Sg_z3 α} (h_z3:OrcOk (α:=α) Tryz.prog I 69 (.pure (ad_z3 F_z3))):OrcOk (α:=α) Tryz.prog I 105 (.pure (ad_z1r (p_z1r F_z3))):=by
  refine orc_pureK PT_W27_ok (O:=PO_z1r F_z3) (OOk.cons h_z3 (OOk.nil)) (L:=[]) ⟨1,[]⟩ Tryz.func105 (by kernel_rfl) (by kernel_rfl) (by kernel_rfl) FLOk.nil ?_
  intro args k r hk
  unfold ad_z1r at hk
  split at hk<;>try (cases hk; done)
  obtain ⟨x0,rfl,hk0⟩:=GState.dec_spec hk
  obtain ⟨x1,rfl,hk1⟩:=decI_spec hk0
  have hkz:=hk1
  refine ⟨by simp [Ids,Idss],fun v=>dR_legal_wfi v (fun r0 r1=>k (.tuple [(.int .u64 r0),(.bool r1)])),?_,fun v hv=>?_⟩
  · rw [ok_z1r]; exact hkz
  · obtain ⟨r0,r1,rfl,hv1⟩:=dR_legal_wfi_spec hv; exact ⟨hv1,by simp [Ids,Idss]⟩
noncomputable abbrev PO_z1c {α:Type} (F_z4:Sg_z4 α) (F_z3:Sg_z3 α) (F_z8:Sg_z8 α):ORC α:=[(100,.pure (ad_z4 F_z4)),(69,.pure (ad_z3 F_z3)),(103,.pure (ad_z8 F_z8))]
theorem ok_z1c {α:Type} (F_z4:Sg_z4 α) (F_z3:Sg_z3 α) (F_z8:Sg_z8 α) (x0:GState) (x1:Int) (x2:Int) (k:Int→Bool→R α):bodyL PT_W27 (PO_z1c F_z4 F_z3 F_z8) [] ⟨1,[]⟩ Tryz.f106 [(GState.sv x0),(.int .i64 x1),(.int .i64 x2)] emp (fun v _=>dR_legal_guests v k)=p_z1c F_z4 F_z3 F_z8 x0 x1 x2 k:=by kernel_rfl
theorem mk_z1c {α:Type} {I:Imm} {F_z4:Sg_z4 α} {F_z3:Sg_z3 α} {F_z8:Sg_z8 α} (h_z4:OrcOk (α:=α) Tryz.prog I 100 (.pure (ad_z4 F_z4))) (h_z3:OrcOk (α:=α) Tryz.prog I 69 (.pure (ad_z3 F_z3))) (h_z8:OrcOk (α:=α) Tryz.prog I 103 (.pure (ad_z8 F_z8))):OrcOk (α:=α) Tryz.prog I 106 (.pure (ad_z1c (p_z1c F_z4 F_z3 F_z8))):=by
  refine orc_pureK PT_W27_ok (O:=PO_z1c F_z4 F_z3 F_z8) (OOk.cons h_z4 (OOk.cons h_z3 (OOk.cons h_z8 (OOk.nil)))) (L:=[]) ⟨1,[]⟩ Tryz.func106 (by kernel_rfl) (by kernel_rfl) (by kernel_rfl) FLOk.nil ?_
  intro args k r hk
  unfold ad_z1c at hk
  split at hk<;>try (cases hk; done)
  obtain ⟨x0,rfl,hk0⟩:=GState.dec_spec hk
  obtain ⟨x1,rfl,hk1⟩:=decI_spec hk0
  obtain ⟨x2,rfl,hk2⟩:=decI_spec hk1
  have hkz:=hk2
  refine ⟨by simp [Ids,Idss],fun v=>dR_legal_guests v (fun r0 r1=>k (.tuple [(.int .u64 r0),(.bool r1)])),?_,fun v hv=>?_⟩
  · rw [ok_z1c]; exact hkz
  · obtain ⟨r0,r1,rfl,hv1⟩:=dR_legal_guests_spec hv; exact ⟨hv1,by simp [Ids,Idss]⟩
noncomputable abbrev PO_zt {α:Type} (F_zd:Sg_zd α) (F_zj:Sg_zj α) (F_z4:Sg_z4 α) (F_zu:Sg_zu α) (F_z1q:Sg_z1q α) (F_z8:Sg_z8 α) (F_z1f:Sg_z1f α) (F_z1r:Sg_z1r α) (F_z1c:Sg_z1c α):ORC α:=[(98,.pure (ad_zd F_zd)),(99,.pure (ad_zj F_zj)),(100,.pure (ad_z4 F_z4)),(102,.pure (ad_zu F_zu)),(101,.pure (ad_z1q F_z1q)),(103,.pure (ad_z8 F_z8)),(104,.pure (ad_z1f F_z1f)),(105,.pure (ad_z1r F_z1r)),(106,.pure (ad_z1c F_z1c))]
theorem ok_zt {α:Type} (F_zd:Sg_zd α) (F_zj:Sg_zj α) (F_z4:Sg_z4 α) (F_zu:Sg_zu α) (F_z1q:Sg_z1q α) (F_z8:Sg_z8 α) (F_z1f:Sg_z1f α) (F_z1r:Sg_z1r α) (F_z1c:Sg_z1c α) (x0:GState) (x1:GInsn) (k:Int→Bool→R α):bodyL PT_W27 (PO_zt F_zd F_zj F_z4 F_zu F_z1q F_z8 F_z1f F_z1r F_z1c) [] ⟨1,[]⟩ Tryz.f76 [(GState.sv x0),(GInsn.sv x1)] emp (fun v _=>dR_legal_Insn v k)=p_zt F_zd F_zj F_z4 F_zu F_z1q F_z8 F_z1f F_z1r F_z1c x0 x1 k:=by kernel_rfl
theorem mk_zt {α:Type} {I:Imm} {F_zd:Sg_zd α} {F_zj:Sg_zj α} {F_z4:Sg_z4 α} {F_zu:Sg_zu α} {F_z1q:Sg_z1q α} {F_z8:Sg_z8 α} {F_z1f:Sg_z1f α} {F_z1r:Sg_z1r α} {F_z1c:Sg_z1c α} (h_zd:OrcOk (α:=α) Tryz.prog I 98 (.pure (ad_zd F_zd))) (h_zj:OrcOk (α:=α) Tryz.prog I 99 (.pure (ad_zj F_zj))) (h_z4:OrcOk (α:=α) Tryz.prog I 100 (.pure (ad_z4 F_z4))) (h_zu:OrcOk (α:=α) Tryz.prog I 102 (.pure (ad_zu F_zu))) (h_z1q:OrcOk (α:=α) Tryz.prog I 101 (.pure (ad_z1q F_z1q))) (h_z8:OrcOk (α:=α) Tryz.prog I 103 (.pure (ad_z8 F_z8))) (h_z1f:OrcOk (α:=α) Tryz.prog I 104 (.pure (ad_z1f F_z1f))) (h_z1r:OrcOk (α:=α) Tryz.prog I 105 (.pure (ad_z1r F_z1r))) (h_z1c:OrcOk (α:=α) Tryz.prog I 106 (.pure (ad_z1c F_z1c))):OrcOk (α:=α) Tryz.prog I 76 (.pure (ad_zt (p_zt F_zd F_zj F_z4 F_zu F_z1q F_z8 F_z1f F_z1r F_z1c))):=by
  refine orc_pureK PT_W27_ok (O:=PO_zt F_zd F_zj F_z4 F_zu F_z1q F_z8 F_z1f F_z1r F_z1c) (OOk.cons h_zd (OOk.cons h_zj (OOk.cons h_z4 (OOk.cons h_zu (OOk.cons h_z1q (OOk.cons h_z8 (OOk.cons h_z1f (OOk.cons h_z1r (OOk.cons h_z1c (OOk.nil)))))))))) (L:=[]) ⟨1,[]⟩ Tryz.func76 (by kernel_rfl) (by kernel_rfl) (by kernel_rfl) FLOk.nil ?_
  intro args k r hk
  unfold ad_zt at hk
  split at hk<;>try (cases hk; done)
  obtain ⟨x0,rfl,hk0⟩:=GState.dec_spec hk
  obtain ⟨x1,rfl,hk1⟩:=GInsn.dec_spec hk0
  have hkz:=hk1
  refine ⟨by simp [Ids,Idss],fun v=>dR_legal_Insn v (fun r0 r1=>k (.tuple [(.int .u64 r0),(.bool r1)])),?_,fun v hv=>?_⟩
  · rw [ok_zt]; exact hkz
  · obtain ⟨r0,r1,rfl,hv1⟩:=dR_legal_Insn_spec hv; exact ⟨hv1,by simp [Ids,Idss]⟩
noncomputable abbrev PO_zi {α:Type}:ORC α:=[]
theorem ok_zi {α:Type}  (x0:GState) (x1:Int) (k:GExec_result→R α):bodyL PT_W27 (PO_zi ) [] ⟨1,[]⟩ Tryz.f141 [(GState.sv x0),(.int .u64 x1)] emp (fun v _=>dR_exec_done v k)=p_zi  x0 x1 k:=by kernel_rfl
theorem mk_zi {α:Type} {I:Imm}:OrcOk (α:=α) Tryz.prog I 141 (.pure (ad_zi (p_zi ))):=by
  refine orc_pureK PT_W27_ok (O:=PO_zi ) (OOk.nil) (L:=[]) ⟨1,[]⟩ Tryz.func141 (by kernel_rfl) (by kernel_rfl) (by kernel_rfl) FLOk.nil ?_
  intro args k r hk
  unfold ad_zi at hk
  split at hk<;>try (cases hk; done)
  obtain ⟨x0,rfl,hk0⟩:=GState.dec_spec hk
  obtain ⟨x1,rfl,hk1⟩:=decI_spec hk0
  have hkz:=hk1
  refine ⟨by simp [Ids,Idss],fun v=>dR_exec_done v (fun r0=>k (GExec_result.sv r0)),?_,fun v hv=>?_⟩
  · rw [ok_zi]; exact hkz
  · obtain ⟨r0,rfl,hv1⟩:=dR_exec_done_spec hv; exact ⟨hv1,by simp [Ids,Idss]⟩
noncomputable abbrev PO_zf {α:Type} (F_zi:Sg_zi α):ORC α:=[(141,.pure (ad_zi F_zi))]
theorem ok_zf {α:Type} (F_zi:Sg_zi α) (x0:GState) (x1:Int) (k:GExec_result→R α):bodyL PT_W27 (PO_zf F_zi) [] ⟨1,[]⟩ Tryz.f110 [(GState.sv x0),(.int .u64 x1)] emp (fun v _=>dR_exec_next v k)=p_zf F_zi x0 x1 k:=by kernel_rfl
theorem mk_zf {α:Type} {I:Imm} {F_zi:Sg_zi α} (h_zi:OrcOk (α:=α) Tryz.prog I 141 (.pure (ad_zi F_zi))):OrcOk (α:=α) Tryz.prog I 110 (.pure (ad_zf (p_zf F_zi))):=by
  refine orc_pureK PT_W27_ok (O:=PO_zf F_zi) (OOk.cons h_zi (OOk.nil)) (L:=[]) ⟨1,[]⟩ Tryz.func110 (by kernel_rfl) (by kernel_rfl) (by kernel_rfl) FLOk.nil ?_
  intro args k r hk
  unfold ad_zf at hk
  split at hk<;>try (cases hk; done)
  obtain ⟨x0,rfl,hk0⟩:=GState.dec_spec hk
  obtain ⟨x1,rfl,hk1⟩:=decI_spec hk0
  have hkz:=hk1
  refine ⟨by simp [Ids,Idss],fun v=>dR_exec_next v (fun r0=>k (GExec_result.sv r0)),?_,fun v hv=>?_⟩
  · rw [ok_zf]; exact hkz
  · obtain ⟨r0,rfl,hv1⟩:=dR_exec_next_spec hv; exact ⟨hv1,by simp [Ids,Idss]⟩
noncomputable abbrev PO_zw {α:Type}:ORC α:=[]
theorem ok_zw {α:Type}  (x0:Int) (x1:Int) (k:Bool→R α):bodyL PT_W27 (PO_zw ) [] ⟨1,[]⟩ Tryz.f172 [(.int .u64 x0),(.int .u64 x1)] emp (fun v _=>dR_word_High v k)=p_zw  x0 x1 k:=by kernel_rfl
theorem mk_zw {α:Type} {I:Imm}:OrcOk (α:=α) Tryz.prog I 172 (.pure (ad_zw (p_zw ))):=by
  refine orc_pureK PT_W27_ok (O:=PO_zw ) (OOk.nil) (L:=[]) ⟨1,[]⟩ Tryz.func172 (by kernel_rfl) (by kernel_rfl) (by kernel_rfl) FLOk.nil ?_
  intro args k r hk
  unfold ad_zw at hk
  split at hk<;>try (cases hk; done)
  obtain ⟨x0,rfl,hk0⟩:=decI_spec hk
  obtain ⟨x1,rfl,hk1⟩:=decI_spec hk0
  have hkz:=hk1
  refine ⟨by simp [Ids,Idss],fun v=>dR_word_High v (fun r0=>k (.bool r0)),?_,fun v hv=>?_⟩
  · rw [ok_zw]; exact hkz
  · obtain ⟨r0,rfl,hv1⟩:=dR_word_High_spec hv; exact ⟨hv1,by simp [Ids,Idss]⟩
noncomputable abbrev PO_zy {α:Type} (F_zw:Sg_zw α):ORC α:=[(172,.pure (ad_zw F_zw))]
theorem ok_zy {α:Type} (F_zw:Sg_zw α) (x0:Int) (x1:Int) (x2:Int) (k:Bool→R α):bodyL PT_W27 (PO_zy F_zw) [] ⟨1,[]⟩ Tryz.f140 [(.int .i64 x0),(.int .u64 x1),(.int .u64 x2)] emp (fun v _=>dR_alu_Taken v k)=p_zy F_zw x0 x1 x2 k:=by kernel_rfl
theorem mk_zy {α:Type} {I:Imm} {F_zw:Sg_zw α} (h_zw:OrcOk (α:=α) Tryz.prog I 172 (.pure (ad_zw F_zw))):OrcOk (α:=α) Tryz.prog I 140 (.pure (ad_zy (p_zy F_zw))):=by
  refine orc_pureK PT_W27_ok (O:=PO_zy F_zw) (OOk.cons h_zw (OOk.nil)) (L:=[]) ⟨1,[]⟩ Tryz.func140 (by kernel_rfl) (by kernel_rfl) (by kernel_rfl) FLOk.nil ?_
  intro args k r hk
  unfold ad_zy at hk
  split at hk<;>try (cases hk; done)
  obtain ⟨x0,rfl,hk0⟩:=decI_spec hk
  obtain ⟨x1,rfl,hk1⟩:=decI_spec hk0
  obtain ⟨x2,rfl,hk2⟩:=decI_spec hk1
  have hkz:=hk2
  refine ⟨by simp [Ids,Idss],fun v=>dR_alu_Taken v (fun r0=>k (.bool r0)),?_,fun v hv=>?_⟩
  · rw [ok_zy]; exact hkz
  · obtain ⟨r0,rfl,hv1⟩:=dR_alu_Taken_spec hv; exact ⟨hv1,by simp [Ids,Idss]⟩
noncomputable abbrev PO_z1s {α:Type} (F_zd:Sg_zd α) (F_z4:Sg_z4 α) (F_zy:Sg_zy α):ORC α:=[(98,.pure (ad_zd F_zd)),(100,.pure (ad_z4 F_z4)),(140,.pure (ad_zy F_zy))]
theorem ok_z1s {α:Type} (F_zd:Sg_zd α) (F_z4:Sg_z4 α) (F_zy:Sg_zy α) (x0:GState) (x1:GInsn) (k:Int→R α):bodyL PT_W27 (PO_z1s F_zd F_z4 F_zy) [] ⟨1,[]⟩ Tryz.f139 [(GState.sv x0),(GInsn.sv x1)] emp (fun v _=>dR_exec_Goes v k)=p_z1s F_zd F_z4 F_zy x0 x1 k:=by kernel_rfl
theorem mk_z1s {α:Type} {I:Imm} {F_zd:Sg_zd α} {F_z4:Sg_z4 α} {F_zy:Sg_zy α} (h_zd:OrcOk (α:=α) Tryz.prog I 98 (.pure (ad_zd F_zd))) (h_z4:OrcOk (α:=α) Tryz.prog I 100 (.pure (ad_z4 F_z4))) (h_zy:OrcOk (α:=α) Tryz.prog I 140 (.pure (ad_zy F_zy))):OrcOk (α:=α) Tryz.prog I 139 (.pure (ad_z1s (p_z1s F_zd F_z4 F_zy))):=by
  refine orc_pureK PT_W27_ok (O:=PO_z1s F_zd F_z4 F_zy) (OOk.cons h_zd (OOk.cons h_z4 (OOk.cons h_zy (OOk.nil)))) (L:=[]) ⟨1,[]⟩ Tryz.func139 (by kernel_rfl) (by kernel_rfl) (by kernel_rfl) FLOk.nil ?_
  intro args k r hk
  unfold ad_z1s at hk
  split at hk<;>try (cases hk; done)
  obtain ⟨x0,rfl,hk0⟩:=GState.dec_spec hk
  obtain ⟨x1,rfl,hk1⟩:=GInsn.dec_spec hk0
  have hkz:=hk1
  refine ⟨by simp [Ids,Idss],fun v=>dR_exec_Goes v (fun r0=>k (.int .u64 r0)),?_,fun v hv=>?_⟩
  · rw [ok_z1s]; exact hkz
  · obtain ⟨r0,rfl,hv1⟩:=dR_exec_Goes_spec hv; exact ⟨hv1,by simp [Ids,Idss]⟩
noncomputable abbrev PO_z13 {α:Type}:ORC α:=[]
theorem ok_z13 {α:Type}  (x0:GFault) (k:GExec_result→R α):bodyL PT_W27 (PO_z13 ) [] ⟨1,[]⟩ Tryz.f109 [(GFault.sv x0)] emp (fun v _=>dR_exec_failed v k)=p_z13  x0 k:=by kernel_rfl
theorem mk_z13 {α:Type} {I:Imm}:OrcOk (α:=α) Tryz.prog I 109 (.pure (ad_z13 (p_z13 ))):=by
  refine orc_pureK PT_W27_ok (O:=PO_z13 ) (OOk.nil) (L:=[]) ⟨1,[]⟩ Tryz.func109 (by kernel_rfl) (by kernel_rfl) (by kernel_rfl) FLOk.nil ?_
  intro args k r hk
  unfold ad_z13 at hk
  split at hk<;>try (cases hk; done)
  obtain ⟨x0,rfl,hk0⟩:=GFault.dec_spec hk
  have hkz:=hk0
  refine ⟨by simp [Ids,Idss],fun v=>dR_exec_failed v (fun r0=>k (GExec_result.sv r0)),?_,fun v hv=>?_⟩
  · rw [ok_z13]; exact hkz
  · obtain ⟨r0,rfl,hv1⟩:=dR_exec_failed_spec hv; exact ⟨hv1,by simp [Ids,Idss]⟩
noncomputable abbrev PO_z27 {α:Type} (F_zf:Sg_zf α) (F_z1s:Sg_z1s α) (F_z4:Sg_z4 α) (F_zy:Sg_zy α) (F_z13:Sg_z13 α) (F_zi:Sg_zi α):ORC α:=[(110,.pure (ad_zf F_zf)),(139,.pure (ad_z1s F_z1s)),(100,.pure (ad_z4 F_z4)),(140,.pure (ad_zy F_zy)),(109,.pure (ad_z13 F_z13)),(141,.pure (ad_zi F_zi))]
theorem ok_z27 {α:Type} (F_zf:Sg_zf α) (F_z1s:Sg_z1s α) (F_z4:Sg_z4 α) (F_zy:Sg_zy α) (F_z13:Sg_z13 α) (F_zi:Sg_zi α) (x0:GState) (x1:GInsn) (k:GExec_result→R α):bodyL PT_W27 (PO_z27 F_zf F_z1s F_z4 F_zy F_z13 F_zi) [] ⟨1,[]⟩ Tryz.f107 [(GState.sv x0),(GInsn.sv x1)] emp (fun v _=>dR_exec_jumps v k)=p_z27 F_zf F_z1s F_z4 F_zy F_z13 F_zi x0 x1 k:=by kernel_rfl
theorem mk_z27 {α:Type} {I:Imm} {F_zf:Sg_zf α} {F_z1s:Sg_z1s α} {F_z4:Sg_z4 α} {F_zy:Sg_zy α} {F_z13:Sg_z13 α} {F_zi:Sg_zi α} (h_zf:OrcOk (α:=α) Tryz.prog I 110 (.pure (ad_zf F_zf))) (h_z1s:OrcOk (α:=α) Tryz.prog I 139 (.pure (ad_z1s F_z1s))) (h_z4:OrcOk (α:=α) Tryz.prog I 100 (.pure (ad_z4 F_z4))) (h_zy:OrcOk (α:=α) Tryz.prog I 140 (.pure (ad_zy F_zy))) (h_z13:OrcOk (α:=α) Tryz.prog I 109 (.pure (ad_z13 F_z13))) (h_zi:OrcOk (α:=α) Tryz.prog I 141 (.pure (ad_zi F_zi))):OrcOk (α:=α) Tryz.prog I 107 (.pure (ad_z27 (p_z27 F_zf F_z1s F_z4 F_zy F_z13 F_zi))):=by
  refine orc_pureK PT_W27_ok (O:=PO_z27 F_zf F_z1s F_z4 F_zy F_z13 F_zi) (OOk.cons h_zf (OOk.cons h_z1s (OOk.cons h_z4 (OOk.cons h_zy (OOk.cons h_z13 (OOk.cons h_zi (OOk.nil))))))) (L:=[]) ⟨1,[]⟩ Tryz.func107 (by kernel_rfl) (by kernel_rfl) (by kernel_rfl) FLOk.nil ?_
  intro args k r hk
  unfold ad_z27 at hk
  split at hk<;>try (cases hk; done)
  obtain ⟨x0,rfl,hk0⟩:=GState.dec_spec hk
  obtain ⟨x1,rfl,hk1⟩:=GInsn.dec_spec hk0
  have hkz:=hk1
  refine ⟨by simp [Ids,Idss],fun v=>dR_exec_jumps v (fun r0=>k (GExec_result.sv r0)),?_,fun v hv=>?_⟩
  · rw [ok_z27]; exact hkz
  · obtain ⟨r0,rfl,hv1⟩:=dR_exec_jumps_spec hv; exact ⟨hv1,by simp [Ids,Idss]⟩
noncomputable abbrev PO_z28 {α:Type}:ORC α:=[]
theorem ok_z28 {α:Type}  (x0:Int) (k:Int→R α):bodyL PT_W27 (PO_z28 ) [] ⟨1,[]⟩ Tryz.f173 [(.int .u64 x0)] emp (fun v _=>dR_access_sort v k)=p_z28  x0 k:=by kernel_rfl
theorem mk_z28 {α:Type} {I:Imm}:OrcOk (α:=α) Tryz.prog I 173 (.pure (ad_z28 (p_z28 ))):=by
  refine orc_pureK PT_W27_ok (O:=PO_z28 ) (OOk.nil) (L:=[]) ⟨1,[]⟩ Tryz.func173 (by kernel_rfl) (by kernel_rfl) (by kernel_rfl) FLOk.nil ?_
  intro args k r hk
  unfold ad_z28 at hk
  split at hk<;>try (cases hk; done)
  obtain ⟨x0,rfl,hk0⟩:=decI_spec hk
  have hkz:=hk0
  refine ⟨by simp [Ids,Idss],fun v=>dR_access_sort v (fun r0=>k (.int .i64 r0)),?_,fun v hv=>?_⟩
  · rw [ok_z28]; exact hkz
  · obtain ⟨r0,rfl,hv1⟩:=dR_access_sort_spec hv; exact ⟨hv1,by simp [Ids,Idss]⟩
noncomputable abbrev PO_z16 {α:Type}:ORC α:=[]
theorem ok_z16 {α:Type}  (x0:Int) (k:Int→R α):bodyL PT_W27 (PO_z16 ) [] ⟨1,[]⟩ Tryz.f143 [(.int .i64 x0)] emp (fun v _=>dR_insn_Size v k)=p_z16  x0 k:=by kernel_rfl
theorem mk_z16 {α:Type} {I:Imm}:OrcOk (α:=α) Tryz.prog I 143 (.pure (ad_z16 (p_z16 ))):=by
  refine orc_pureK PT_W27_ok (O:=PO_z16 ) (OOk.nil) (L:=[]) ⟨1,[]⟩ Tryz.func143 (by kernel_rfl) (by kernel_rfl) (by kernel_rfl) FLOk.nil ?_
  intro args k r hk
  unfold ad_z16 at hk
  split at hk<;>try (cases hk; done)
  obtain ⟨x0,rfl,hk0⟩:=decI_spec hk
  have hkz:=hk0
  refine ⟨by simp [Ids,Idss],fun v=>dR_insn_Size v (fun r0=>k (.int .i64 r0)),?_,fun v hv=>?_⟩
  · rw [ok_z16]; exact hkz
  · obtain ⟨r0,rfl,hv1⟩:=dR_insn_Size_spec hv; exact ⟨hv1,by simp [Ids,Idss]⟩
noncomputable abbrev PO_zk {α:Type} (F_zg:Sg_zg α):ORC α:=[(82,.pure (ad_zg F_zg))]
theorem ok_zk {α:Type} (F_zg:Sg_zg α) (x0:Int) (x1:Int) (k:Int→R α):bodyL PT_W27 (PO_zk F_zg) [] ⟨1,[]⟩ Tryz.f61 [(.int .u64 x0),(.int .i64 x1)] emp (fun v _=>dR_word_Zext v k)=p_zk F_zg x0 x1 k:=by kernel_rfl
theorem mk_zk {α:Type} {I:Imm} {F_zg:Sg_zg α} (h_zg:OrcOk (α:=α) Tryz.prog I 82 (.pure (ad_zg F_zg))):OrcOk (α:=α) Tryz.prog I 61 (.pure (ad_zk (p_zk F_zg))):=by
  refine orc_pureK PT_W27_ok (O:=PO_zk F_zg) (OOk.cons h_zg (OOk.nil)) (L:=[]) ⟨1,[]⟩ Tryz.func61 (by kernel_rfl) (by kernel_rfl) (by kernel_rfl) FLOk.nil ?_
  intro args k r hk
  unfold ad_zk at hk
  split at hk<;>try (cases hk; done)
  obtain ⟨x0,rfl,hk0⟩:=decI_spec hk
  obtain ⟨x1,rfl,hk1⟩:=decI_spec hk0
  have hkz:=hk1
  refine ⟨by simp [Ids,Idss],fun v=>dR_word_Zext v (fun r0=>k (.int .u64 r0)),?_,fun v hv=>?_⟩
  · rw [ok_zk]; exact hkz
  · obtain ⟨r0,rfl,hv1⟩:=dR_word_Zext_spec hv; exact ⟨hv1,by simp [Ids,Idss]⟩
noncomputable abbrev PO_z21 {α:Type} (F_z16:Sg_z16 α) (F_zk:Sg_zk α) (F_z5:Sg_z5 α):ORC α:=[(143,.pure (ad_z16 F_z16)),(61,.pure (ad_zk F_zk)),(148,.pure (ad_z5 F_z5))]
theorem ok_z21 {α:Type} (F_z16:Sg_z16 α) (F_zk:Sg_zk α) (F_z5:Sg_z5 α) (x0:Int) (x1:Int) (k:Int→R α):bodyL PT_W27 (PO_z21 F_z16 F_zk F_z5) [] ⟨1,[]⟩ Tryz.f144 [(.int .i64 x0),(.int .u64 x1)] emp (fun v _=>dR_alu_Extend v k)=p_z21 F_z16 F_zk F_z5 x0 x1 k:=by kernel_rfl
theorem mk_z21 {α:Type} {I:Imm} {F_z16:Sg_z16 α} {F_zk:Sg_zk α} {F_z5:Sg_z5 α} (h_z16:OrcOk (α:=α) Tryz.prog I 143 (.pure (ad_z16 F_z16))) (h_zk:OrcOk (α:=α) Tryz.prog I 61 (.pure (ad_zk F_zk))) (h_z5:OrcOk (α:=α) Tryz.prog I 148 (.pure (ad_z5 F_z5))):OrcOk (α:=α) Tryz.prog I 144 (.pure (ad_z21 (p_z21 F_z16 F_zk F_z5))):=by
  refine orc_pureK PT_W27_ok (O:=PO_z21 F_z16 F_zk F_z5) (OOk.cons h_z16 (OOk.cons h_zk (OOk.cons h_z5 (OOk.nil)))) (L:=[]) ⟨1,[]⟩ Tryz.func144 (by kernel_rfl) (by kernel_rfl) (by kernel_rfl) FLOk.nil ?_
  intro args k r hk
  unfold ad_z21 at hk
  split at hk<;>try (cases hk; done)
  obtain ⟨x0,rfl,hk0⟩:=decI_spec hk
  obtain ⟨x1,rfl,hk1⟩:=decI_spec hk0
  have hkz:=hk1
  refine ⟨by simp [Ids,Idss],fun v=>dR_alu_Extend v (fun r0=>k (.int .u64 r0)),?_,fun v hv=>?_⟩
  · rw [ok_z21]; exact hkz
  · obtain ⟨r0,rfl,hv1⟩:=dR_alu_Extend_spec hv; exact ⟨hv1,by simp [Ids,Idss]⟩
noncomputable abbrev PO_z18 {α:Type}:ORC α:=[]
theorem ok_z18 {α:Type}  (x0:Int) (k:Bool→R α):bodyL PT_W27 (PO_z18 ) [] ⟨1,[]⟩ Tryz.f145 [(.int .i64 x0)] emp (fun v _=>dR_alu_narrow v k)=p_z18  x0 k:=by kernel_rfl
theorem mk_z18 {α:Type} {I:Imm}:OrcOk (α:=α) Tryz.prog I 145 (.pure (ad_z18 (p_z18 ))):=by
  refine orc_pureK PT_W27_ok (O:=PO_z18 ) (OOk.nil) (L:=[]) ⟨1,[]⟩ Tryz.func145 (by kernel_rfl) (by kernel_rfl) (by kernel_rfl) FLOk.nil ?_
  intro args k r hk
  unfold ad_z18 at hk
  split at hk<;>try (cases hk; done)
  obtain ⟨x0,rfl,hk0⟩:=decI_spec hk
  have hkz:=hk0
  refine ⟨by simp [Ids,Idss],fun v=>dR_alu_narrow v (fun r0=>k (.bool r0)),?_,fun v hv=>?_⟩
  · rw [ok_z18]; exact hkz
  · obtain ⟨r0,rfl,hv1⟩:=dR_alu_narrow_spec hv; exact ⟨hv1,by simp [Ids,Idss]⟩
noncomputable abbrev PO_z14 {α:Type} (F_z4:Sg_z4 α):ORC α:=[(100,.pure (ad_z4 F_z4))]
theorem ok_z14 {α:Type} (F_z4:Sg_z4 α) (x0:Int) (k:Int→R α):bodyL PT_W27 (PO_z14 F_z4) [] ⟨1,[]⟩ Tryz.f147 [(.int .i64 x0)] emp (fun v _=>dR_alu_plain v k)=p_z14 F_z4 x0 k:=by kernel_rfl
theorem mk_z14 {α:Type} {I:Imm} {F_z4:Sg_z4 α} (h_z4:OrcOk (α:=α) Tryz.prog I 100 (.pure (ad_z4 F_z4))):OrcOk (α:=α) Tryz.prog I 147 (.pure (ad_z14 (p_z14 F_z4))):=by
  refine orc_pureK PT_W27_ok (O:=PO_z14 F_z4) (OOk.cons h_z4 (OOk.nil)) (L:=[]) ⟨1,[]⟩ Tryz.func147 (by kernel_rfl) (by kernel_rfl) (by kernel_rfl) FLOk.nil ?_
  intro args k r hk
  unfold ad_z14 at hk
  split at hk<;>try (cases hk; done)
  obtain ⟨x0,rfl,hk0⟩:=decI_spec hk
  have hkz:=hk0
  refine ⟨by simp [Ids,Idss],fun v=>dR_alu_plain v (fun r0=>k (.int .i64 r0)),?_,fun v hv=>?_⟩
  · rw [ok_z14]; exact hkz
  · obtain ⟨r0,rfl,hv1⟩:=dR_alu_plain_spec hv; exact ⟨hv1,by simp [Ids,Idss]⟩
noncomputable abbrev PO_z1g {α:Type}:ORC α:=[]
theorem ok_z1g {α:Type}  (x0:Bool) (k:Int→R α):bodyL PT_W27 (PO_z1g ) [] ⟨1,[]⟩ Tryz.f174 [(.bool x0)] emp (fun v _=>dR_alu_one v k)=p_z1g  x0 k:=by kernel_rfl
theorem mk_z1g {α:Type} {I:Imm}:OrcOk (α:=α) Tryz.prog I 174 (.pure (ad_z1g (p_z1g ))):=by
  refine orc_pureK PT_W27_ok (O:=PO_z1g ) (OOk.nil) (L:=[]) ⟨1,[]⟩ Tryz.func174 (by kernel_rfl) (by kernel_rfl) (by kernel_rfl) FLOk.nil ?_
  intro args k r hk
  unfold ad_z1g at hk
  split at hk<;>try (cases hk; done)
  obtain ⟨x0,rfl,hk0⟩:=decB_spec hk
  have hkz:=hk0
  refine ⟨by simp [Ids,Idss],fun v=>dR_alu_one v (fun r0=>k (.int .u64 r0)),?_,fun v hv=>?_⟩
  · rw [ok_z1g]; exact hkz
  · obtain ⟨r0,rfl,hv1⟩:=dR_alu_one_spec hv; exact ⟨hv1,by simp [Ids,Idss]⟩
noncomputable abbrev PO_z15 {α:Type} (F_zw:Sg_zw α) (F_z1g:Sg_z1g α):ORC α:=[(172,.pure (ad_zw F_zw)),(174,.pure (ad_z1g F_z1g))]
theorem ok_z15 {α:Type} (F_zw:Sg_zw α) (F_z1g:Sg_z1g α) (x0:Int) (x1:Int) (x2:Int) (x3:Int) (k:Int→R α):bodyL PT_W27 (PO_z15 F_zw F_z1g) [] ⟨1,[]⟩ Tryz.f146 [(.int .i64 x0),(.int .u64 x1),(.int .u64 x2),(.int .i64 x3)] emp (fun v _=>dR_alu_does v k)=p_z15 F_zw F_z1g x0 x1 x2 x3 k:=by kernel_rfl
theorem mk_z15 {α:Type} {I:Imm} {F_zw:Sg_zw α} {F_z1g:Sg_z1g α} (h_zw:OrcOk (α:=α) Tryz.prog I 172 (.pure (ad_zw F_zw))) (h_z1g:OrcOk (α:=α) Tryz.prog I 174 (.pure (ad_z1g F_z1g))):OrcOk (α:=α) Tryz.prog I 146 (.pure (ad_z15 (p_z15 F_zw F_z1g))):=by
  refine orc_pureK PT_W27_ok (O:=PO_z15 F_zw F_z1g) (OOk.cons h_zw (OOk.cons h_z1g (OOk.nil))) (L:=[]) ⟨1,[]⟩ Tryz.func146 (by kernel_rfl) (by kernel_rfl) (by kernel_rfl) FLOk.nil ?_
  intro args k r hk
  unfold ad_z15 at hk
  split at hk<;>try (cases hk; done)
  obtain ⟨x0,rfl,hk0⟩:=decI_spec hk
  obtain ⟨x1,rfl,hk1⟩:=decI_spec hk0
  obtain ⟨x2,rfl,hk2⟩:=decI_spec hk1
  obtain ⟨x3,rfl,hk3⟩:=decI_spec hk2
  have hkz:=hk3
  refine ⟨by simp [Ids,Idss],fun v=>dR_alu_does v (fun r0=>k (.int .u64 r0)),?_,fun v hv=>?_⟩
  · rw [ok_z15]; exact hkz
  · obtain ⟨r0,rfl,hv1⟩:=dR_alu_does_spec hv; exact ⟨hv1,by simp [Ids,Idss]⟩
noncomputable abbrev PO_z29 {α:Type} (F_z4:Sg_z4 α) (F_z18:Sg_z18 α) (F_z14:Sg_z14 α) (F_z15:Sg_z15 α) (F_zk:Sg_zk α) (F_z5:Sg_z5 α):ORC α:=[(100,.pure (ad_z4 F_z4)),(145,.pure (ad_z18 F_z18)),(147,.pure (ad_z14 F_z14)),(146,.pure (ad_z15 F_z15)),(61,.pure (ad_zk F_zk)),(148,.pure (ad_z5 F_z5))]
theorem ok_z29 {α:Type} (F_z4:Sg_z4 α) (F_z18:Sg_z18 α) (F_z14:Sg_z14 α) (F_z15:Sg_z15 α) (F_zk:Sg_zk α) (F_z5:Sg_z5 α) (x0:Int) (x1:Int) (x2:Int) (k:Int→R α):bodyL PT_W27 (PO_z29 F_z4 F_z18 F_z14 F_z15 F_zk F_z5) [] ⟨1,[]⟩ Tryz.f111 [(.int .i64 x0),(.int .u64 x1),(.int .u64 x2)] emp (fun v _=>dR_alu_Do v k)=p_z29 F_z4 F_z18 F_z14 F_z15 F_zk F_z5 x0 x1 x2 k:=by kernel_rfl
theorem mk_z29 {α:Type} {I:Imm} {F_z4:Sg_z4 α} {F_z18:Sg_z18 α} {F_z14:Sg_z14 α} {F_z15:Sg_z15 α} {F_zk:Sg_zk α} {F_z5:Sg_z5 α} (h_z4:OrcOk (α:=α) Tryz.prog I 100 (.pure (ad_z4 F_z4))) (h_z18:OrcOk (α:=α) Tryz.prog I 145 (.pure (ad_z18 F_z18))) (h_z14:OrcOk (α:=α) Tryz.prog I 147 (.pure (ad_z14 F_z14))) (h_z15:OrcOk (α:=α) Tryz.prog I 146 (.pure (ad_z15 F_z15))) (h_zk:OrcOk (α:=α) Tryz.prog I 61 (.pure (ad_zk F_zk))) (h_z5:OrcOk (α:=α) Tryz.prog I 148 (.pure (ad_z5 F_z5))):OrcOk (α:=α) Tryz.prog I 111 (.pure (ad_z29 (p_z29 F_z4 F_z18 F_z14 F_z15 F_zk F_z5))):=by
  refine orc_pureK PT_W27_ok (O:=PO_z29 F_z4 F_z18 F_z14 F_z15 F_zk F_z5) (OOk.cons h_z4 (OOk.cons h_z18 (OOk.cons h_z14 (OOk.cons h_z15 (OOk.cons h_zk (OOk.cons h_z5 (OOk.nil))))))) (L:=[]) ⟨1,[]⟩ Tryz.func111 (by kernel_rfl) (by kernel_rfl) (by kernel_rfl) FLOk.nil ?_
  intro args k r hk
  unfold ad_z29 at hk
  split at hk<;>try (cases hk; done)
  obtain ⟨x0,rfl,hk0⟩:=decI_spec hk
  obtain ⟨x1,rfl,hk1⟩:=decI_spec hk0
  obtain ⟨x2,rfl,hk2⟩:=decI_spec hk1
  have hkz:=hk2
  refine ⟨by simp [Ids,Idss],fun v=>dR_alu_Do v (fun r0=>k (.int .u64 r0)),?_,fun v hv=>?_⟩
  · rw [ok_z29]; exact hkz
  · obtain ⟨r0,rfl,hv1⟩:=dR_alu_Do_spec hv; exact ⟨hv1,by simp [Ids,Idss]⟩
noncomputable abbrev PO_z2a {α:Type} (F_zj:Sg_zj α):ORC α:=[(99,.pure (ad_zj F_zj))]
theorem ok_z2a {α:Type} (F_zj:Sg_zj α) (x0:GState) (x1:GInsn) (k:GFault→R α):bodyL PT_W27 (PO_z2a F_zj) [] ⟨1,[]⟩ Tryz.f112 [(GState.sv x0),(GInsn.sv x1)] emp (fun v _=>dR_exec_calls v k)=p_z2a F_zj x0 x1 k:=by kernel_rfl
theorem mk_z2a {α:Type} {I:Imm} {F_zj:Sg_zj α} (h_zj:OrcOk (α:=α) Tryz.prog I 99 (.pure (ad_zj F_zj))):OrcOk (α:=α) Tryz.prog I 112 (.pure (ad_z2a (p_z2a F_zj))):=by
  refine orc_pureK PT_W27_ok (O:=PO_z2a F_zj) (OOk.cons h_zj (OOk.nil)) (L:=[]) ⟨1,[]⟩ Tryz.func112 (by kernel_rfl) (by kernel_rfl) (by kernel_rfl) FLOk.nil ?_
  intro args k r hk
  unfold ad_z2a at hk
  split at hk<;>try (cases hk; done)
  obtain ⟨x0,rfl,hk0⟩:=GState.dec_spec hk
  obtain ⟨x1,rfl,hk1⟩:=GInsn.dec_spec hk0
  have hkz:=hk1
  refine ⟨by simp [Ids,Idss],fun v=>dR_exec_calls v (fun r0=>k (GFault.sv r0)),?_,fun v hv=>?_⟩
  · rw [ok_z2a]; exact hkz
  · obtain ⟨r0,rfl,hv1⟩:=dR_exec_calls_spec hv; exact ⟨hv1,by simp [Ids,Idss]⟩
noncomputable abbrev PO_z1t {α:Type}:ORC α:=[]
theorem ok_z1t {α:Type}  (x0:Int) (k:Int→R α):bodyL PT_W27 (PO_z1t ) [] ⟨1,[]⟩ Tryz.f149 [(.int .i64 x0)] emp (fun v _=>dR_csr_Redirect v k)=p_z1t  x0 k:=by kernel_rfl
theorem mk_z1t {α:Type} {I:Imm}:OrcOk (α:=α) Tryz.prog I 149 (.pure (ad_z1t (p_z1t ))):=by
  refine orc_pureK PT_W27_ok (O:=PO_z1t ) (OOk.nil) (L:=[]) ⟨1,[]⟩ Tryz.func149 (by kernel_rfl) (by kernel_rfl) (by kernel_rfl) FLOk.nil ?_
  intro args k r hk
  unfold ad_z1t at hk
  split at hk<;>try (cases hk; done)
  obtain ⟨x0,rfl,hk0⟩:=decI_spec hk
  have hkz:=hk0
  refine ⟨by simp [Ids,Idss],fun v=>dR_csr_Redirect v (fun r0=>k (.int .i64 r0)),?_,fun v hv=>?_⟩
  · rw [ok_z1t]; exact hkz
  · obtain ⟨r0,rfl,hv1⟩:=dR_csr_Redirect_spec hv; exact ⟨hv1,by simp [Ids,Idss]⟩
noncomputable abbrev B_z5g {α:Type} (F_z2:Sg_z2 α) (F_ze:Sg_ze α):FF α:=byBody PT_W27 [] ⟨3,[]⟩ Tryz.f83
theorem cB_z5g {α:Type} {I:Imm} {F_z2:Sg_z2 α} {F_ze:Sg_ze α} (h_z2:OrcOk (α:=α) Tryz.prog I 84 (.pure (ad_z2 F_z2))) (h_ze:OrcOk (α:=α) Tryz.prog I 171 (.pure (ad_ze F_ze))):OrcOk (α:=α) Tryz.prog I 83 (.full (B_z5g F_z2 F_ze)):=orc_body PT_W27_ok (OOk.nil) ⟨3,[]⟩ Tryz.func83 (by kernel_rfl) (by kernel_rfl) (by kernel_rfl)
noncomputable abbrev PO_z1h {α:Type} (F_z2:Sg_z2 α) (F_ze:Sg_ze α):ORC α:=[(84,.pure (ad_z2 F_z2)),(83,.full (B_z5g F_z2 F_ze)),(171,.pure (ad_ze F_ze))]
theorem ok_z1h {α:Type} (F_z2:Sg_z2 α) (F_ze:Sg_ze α) (x0:GState) (x1:Int) (k:Int→Bool→R α):bodyL PT_W27 (PO_z1h F_z2 F_ze) [] ⟨3,[]⟩ Tryz.f150 [(GState.sv x0),(.int .i64 x1)] emp (fun v _=>dR_csr_Read v k)=p_z1h F_z2 F_ze x0 x1 k:=by kernel_rfl
theorem mk_z1h {α:Type} {I:Imm} {F_z2:Sg_z2 α} {F_ze:Sg_ze α} (h_z2:OrcOk (α:=α) Tryz.prog I 84 (.pure (ad_z2 F_z2))) (h_ze:OrcOk (α:=α) Tryz.prog I 171 (.pure (ad_ze F_ze))):OrcOk (α:=α) Tryz.prog I 150 (.pure (ad_z1h (p_z1h F_z2 F_ze))):=by
  refine orc_pureK PT_W27_ok (O:=PO_z1h F_z2 F_ze) (OOk.cons h_z2 (OOk.cons (cB_z5g h_z2 h_ze) (OOk.cons h_ze (OOk.nil)))) (L:=[]) ⟨3,[]⟩ Tryz.func150 (by kernel_rfl) (by kernel_rfl) (by kernel_rfl) FLOk.nil ?_
  intro args k r hk
  unfold ad_z1h at hk
  split at hk<;>try (cases hk; done)
  obtain ⟨x0,rfl,hk0⟩:=GState.dec_spec hk
  obtain ⟨x1,rfl,hk1⟩:=decI_spec hk0
  have hkz:=hk1
  refine ⟨by simp [Ids,Idss],fun v=>dR_csr_Read v (fun r0 r1=>k (.tuple [(.int .u64 r0),(.bool r1)])),?_,fun v hv=>?_⟩
  · rw [ok_z1h]; exact hkz
  · obtain ⟨r0,r1,rfl,hv1⟩:=dR_csr_Read_spec hv; exact ⟨hv1,by simp [Ids,Idss]⟩
noncomputable abbrev PO_z19 {α:Type}:ORC α:=[]
theorem ok_z19 {α:Type}  (x0:Int) (x1:Int) (x2:Int) (k:Int→R α):bodyL PT_W27 (PO_z19 ) [] ⟨1,[]⟩ Tryz.f152 [(.int .i64 x0),(.int .u64 x1),(.int .u64 x2)] emp (fun v _=>dR_alu_Csr v k)=p_z19  x0 x1 x2 k:=by kernel_rfl
theorem mk_z19 {α:Type} {I:Imm}:OrcOk (α:=α) Tryz.prog I 152 (.pure (ad_z19 (p_z19 ))):=by
  refine orc_pureK PT_W27_ok (O:=PO_z19 ) (OOk.nil) (L:=[]) ⟨1,[]⟩ Tryz.func152 (by kernel_rfl) (by kernel_rfl) (by kernel_rfl) FLOk.nil ?_
  intro args k r hk
  unfold ad_z19 at hk
  split at hk<;>try (cases hk; done)
  obtain ⟨x0,rfl,hk0⟩:=decI_spec hk
  obtain ⟨x1,rfl,hk1⟩:=decI_spec hk0
  obtain ⟨x2,rfl,hk2⟩:=decI_spec hk1
  have hkz:=hk2
  refine ⟨by simp [Ids,Idss],fun v=>dR_alu_Csr v (fun r0=>k (.int .u64 r0)),?_,fun v hv=>?_⟩
  · rw [ok_z19]; exact hkz
  · obtain ⟨r0,rfl,hv1⟩:=dR_alu_Csr_spec hv; exact ⟨hv1,by simp [Ids,Idss]⟩
noncomputable abbrev PO_z9 {α:Type} (F_z1:Sg_z1 α) (F_zb:Sg_zb α):ORC α:=[(68,.pure (ad_z1 F_z1)),(60,.pure (ad_zb F_zb))]
theorem ok_z9 {α:Type} (F_z1:Sg_z1 α) (F_zb:Sg_zb α) (x0:GState) (x1:Int) (x2:Int) (x3:Int) (k:GState→R α):bodyL PT_W27 (PO_z9 F_z1 F_zb) [] ⟨1,[]⟩ Tryz.f63 [(GState.sv x0),(.int .i64 x1),(.int .u64 x2),(.int .u64 x3)] emp (fun v _=>dR_csr_With v k)=p_z9 F_z1 F_zb x0 x1 x2 x3 k:=by kernel_rfl
theorem mk_z9 {α:Type} {I:Imm} {F_z1:Sg_z1 α} {F_zb:Sg_zb α} (h_z1:OrcOk (α:=α) Tryz.prog I 68 (.pure (ad_z1 F_z1))) (h_zb:OrcOk (α:=α) Tryz.prog I 60 (.pure (ad_zb F_zb))):OrcOk (α:=α) Tryz.prog I 63 (.pure (ad_z9 (p_z9 F_z1 F_zb))):=by
  refine orc_pureK PT_W27_ok (O:=PO_z9 F_z1 F_zb) (OOk.cons h_z1 (OOk.cons h_zb (OOk.nil))) (L:=[]) ⟨1,[]⟩ Tryz.func63 (by kernel_rfl) (by kernel_rfl) (by kernel_rfl) FLOk.nil ?_
  intro args k r hk
  unfold ad_z9 at hk
  split at hk<;>try (cases hk; done)
  obtain ⟨x0,rfl,hk0⟩:=GState.dec_spec hk
  obtain ⟨x1,rfl,hk1⟩:=decI_spec hk0
  obtain ⟨x2,rfl,hk2⟩:=decI_spec hk1
  obtain ⟨x3,rfl,hk3⟩:=decI_spec hk2
  have hkz:=hk3
  refine ⟨by simp [Ids,Idss],fun v=>dR_csr_With v (fun r0=>k (GState.sv r0)),?_,fun v hv=>?_⟩
  · rw [ok_z9]; exact hkz
  · obtain ⟨r0,rfl,hv1⟩:=dR_csr_With_spec hv; exact ⟨hv1,by simp [Ids,Idss]⟩
noncomputable abbrev B_z5h {α:Type} (F_z2:Sg_z2 α):FF α:=byBody PT_W27 [] ⟨15,[]⟩ Tryz.f83
theorem cB_z5h {α:Type} {I:Imm} {F_z2:Sg_z2 α} (h_z2:OrcOk (α:=α) Tryz.prog I 84 (.pure (ad_z2 F_z2))):OrcOk (α:=α) Tryz.prog I 83 (.full (B_z5h F_z2)):=orc_body PT_W27_ok (OOk.nil) ⟨15,[]⟩ Tryz.func83 (by kernel_rfl) (by kernel_rfl) (by kernel_rfl)
noncomputable abbrev B_z5i {α:Type} (F_z2:Sg_z2 α):FF α:=byBody PT_W27 [(83,.full (B_z5h F_z2)),(84,.pure (ad_z2 F_z2))] ⟨15,[]⟩ Tryz.f62
theorem cB_z5i {α:Type} {I:Imm} {F_z2:Sg_z2 α} (h_z2:OrcOk (α:=α) Tryz.prog I 84 (.pure (ad_z2 F_z2))):OrcOk (α:=α) Tryz.prog I 62 (.full (B_z5i F_z2)):=orc_body PT_W27_ok (OOk.cons (cB_z5h h_z2) (OOk.cons h_z2 (OOk.nil))) ⟨15,[]⟩ Tryz.func62 (by kernel_rfl) (by kernel_rfl) (by kernel_rfl)
noncomputable abbrev PO_z6 {α:Type} (F_z2:Sg_z2 α):ORC α:=[(62,.full (B_z5i F_z2))]
theorem ok_z49 {α:Type} (F_z2:Sg_z2 α)   (k:Int→R α):bodyL PT_W27 (PO_z6 F_z2) [] ⟨15,[]⟩ Tryz.f42 [(.int .i64 0)] emp (fun v _=>dR_csr_Mask v k)=p_z49 F_z2  k:=by kernel_rfl
theorem ok_z4a {α:Type} (F_z2:Sg_z2 α)   (k:Int→R α):bodyL PT_W27 (PO_z6 F_z2) [] ⟨15,[]⟩ Tryz.f42 [(.int .i64 1)] emp (fun v _=>dR_csr_Mask v k)=p_z4a F_z2  k:=by kernel_rfl
theorem ok_z4b {α:Type} (F_z2:Sg_z2 α)   (k:Int→R α):bodyL PT_W27 (PO_z6 F_z2) [] ⟨15,[]⟩ Tryz.f42 [(.int .i64 2)] emp (fun v _=>dR_csr_Mask v k)=p_z4b F_z2  k:=by kernel_rfl
theorem ok_z4c {α:Type} (F_z2:Sg_z2 α)   (k:Int→R α):bodyL PT_W27 (PO_z6 F_z2) [] ⟨15,[]⟩ Tryz.f42 [(.int .i64 3)] emp (fun v _=>dR_csr_Mask v k)=p_z4c F_z2  k:=by kernel_rfl
theorem ok_z4d {α:Type} (F_z2:Sg_z2 α)   (k:Int→R α):bodyL PT_W27 (PO_z6 F_z2) [] ⟨15,[]⟩ Tryz.f42 [(.int .i64 4)] emp (fun v _=>dR_csr_Mask v k)=p_z4d F_z2  k:=by kernel_rfl
theorem ok_z4e {α:Type} (F_z2:Sg_z2 α)   (k:Int→R α):bodyL PT_W27 (PO_z6 F_z2) [] ⟨15,[]⟩ Tryz.f42 [(.int .i64 5)] emp (fun v _=>dR_csr_Mask v k)=p_z4e F_z2  k:=by kernel_rfl
theorem ok_z4f {α:Type} (F_z2:Sg_z2 α)   (k:Int→R α):bodyL PT_W27 (PO_z6 F_z2) [] ⟨15,[]⟩ Tryz.f42 [(.int .i64 6)] emp (fun v _=>dR_csr_Mask v k)=p_z4f F_z2  k:=by kernel_rfl
theorem ok_z4g {α:Type} (F_z2:Sg_z2 α)   (k:Int→R α):bodyL PT_W27 (PO_z6 F_z2) [] ⟨15,[]⟩ Tryz.f42 [(.int .i64 7)] emp (fun v _=>dR_csr_Mask v k)=p_z4g F_z2  k:=by kernel_rfl
theorem ok_z4h {α:Type} (F_z2:Sg_z2 α)   (k:Int→R α):bodyL PT_W27 (PO_z6 F_z2) [] ⟨15,[]⟩ Tryz.f42 [(.int .i64 8)] emp (fun v _=>dR_csr_Mask v k)=p_z4h F_z2  k:=by kernel_rfl
theorem ok_z4i {α:Type} (F_z2:Sg_z2 α)   (k:Int→R α):bodyL PT_W27 (PO_z6 F_z2) [] ⟨15,[]⟩ Tryz.f42 [(.int .i64 9)] emp (fun v _=>dR_csr_Mask v k)=p_z4i F_z2  k:=by kernel_rfl
theorem ok_z4j {α:Type} (F_z2:Sg_z2 α)   (k:Int→R α):bodyL PT_W27 (PO_z6 F_z2) [] ⟨15,[]⟩ Tryz.f42 [(.int .i64 10)] emp (fun v _=>dR_csr_Mask v k)=p_z4j F_z2  k:=by kernel_rfl
theorem ok_z4k {α:Type} (F_z2:Sg_z2 α)   (k:Int→R α):bodyL PT_W27 (PO_z6 F_z2) [] ⟨15,[]⟩ Tryz.f42 [(.int .i64 11)] emp (fun v _=>dR_csr_Mask v k)=p_z4k F_z2  k:=by kernel_rfl
theorem ok_z4l {α:Type} (F_z2:Sg_z2 α)   (k:Int→R α):bodyL PT_W27 (PO_z6 F_z2) [] ⟨15,[]⟩ Tryz.f42 [(.int .i64 12)] emp (fun v _=>dR_csr_Mask v k)=p_z4l F_z2  k:=by kernel_rfl
theorem ok_z4m {α:Type} (F_z2:Sg_z2 α)   (k:Int→R α):bodyL PT_W27 (PO_z6 F_z2) [] ⟨15,[]⟩ Tryz.f42 [(.int .i64 13)] emp (fun v _=>dR_csr_Mask v k)=p_z4m F_z2  k:=by kernel_rfl
theorem ok_z4n {α:Type} (F_z2:Sg_z2 α)   (k:Int→R α):bodyL PT_W27 (PO_z6 F_z2) [] ⟨15,[]⟩ Tryz.f42 [(.int .i64 14)] emp (fun v _=>dR_csr_Mask v k)=p_z4n F_z2  k:=by kernel_rfl
theorem ok_z4o {α:Type} (F_z2:Sg_z2 α)   (k:Int→R α):bodyL PT_W27 (PO_z6 F_z2) [] ⟨15,[]⟩ Tryz.f42 [(.int .i64 15)] emp (fun v _=>dR_csr_Mask v k)=p_z4o F_z2  k:=by kernel_rfl
theorem ok_z4p {α:Type} (F_z2:Sg_z2 α)   (k:Int→R α):bodyL PT_W27 (PO_z6 F_z2) [] ⟨15,[]⟩ Tryz.f42 [(.int .i64 16)] emp (fun v _=>dR_csr_Mask v k)=p_z4p F_z2  k:=by kernel_rfl
theorem ok_z4q {α:Type} (F_z2:Sg_z2 α)   (k:Int→R α):bodyL PT_W27 (PO_z6 F_z2) [] ⟨15,[]⟩ Tryz.f42 [(.int .i64 17)] emp (fun v _=>dR_csr_Mask v k)=p_z4q F_z2  k:=by kernel_rfl
theorem ok_z4r {α:Type} (F_z2:Sg_z2 α)   (k:Int→R α):bodyL PT_W27 (PO_z6 F_z2) [] ⟨15,[]⟩ Tryz.f42 [(.int .i64 18)] emp (fun v _=>dR_csr_Mask v k)=p_z4r F_z2  k:=by kernel_rfl
theorem ok_z4s {α:Type} (F_z2:Sg_z2 α)   (k:Int→R α):bodyL PT_W27 (PO_z6 F_z2) [] ⟨15,[]⟩ Tryz.f42 [(.int .i64 19)] emp (fun v _=>dR_csr_Mask v k)=p_z4s F_z2  k:=by kernel_rfl
theorem ok_z4t {α:Type} (F_z2:Sg_z2 α)   (k:Int→R α):bodyL PT_W27 (PO_z6 F_z2) [] ⟨15,[]⟩ Tryz.f42 [(.int .i64 20)] emp (fun v _=>dR_csr_Mask v k)=p_z4t F_z2  k:=by kernel_rfl
theorem ok_z4u {α:Type} (F_z2:Sg_z2 α)   (k:Int→R α):bodyL PT_W27 (PO_z6 F_z2) [] ⟨15,[]⟩ Tryz.f42 [(.int .i64 21)] emp (fun v _=>dR_csr_Mask v k)=p_z4u F_z2  k:=by kernel_rfl
theorem ok_z4v {α:Type} (F_z2:Sg_z2 α)   (k:Int→R α):bodyL PT_W27 (PO_z6 F_z2) [] ⟨15,[]⟩ Tryz.f42 [(.int .i64 22)] emp (fun v _=>dR_csr_Mask v k)=p_z4v F_z2  k:=by kernel_rfl
theorem ok_z4w {α:Type} (F_z2:Sg_z2 α)   (k:Int→R α):bodyL PT_W27 (PO_z6 F_z2) [] ⟨15,[]⟩ Tryz.f42 [(.int .i64 23)] emp (fun v _=>dR_csr_Mask v k)=p_z4w F_z2  k:=by kernel_rfl
theorem ok_z4x {α:Type} (F_z2:Sg_z2 α)   (k:Int→R α):bodyL PT_W27 (PO_z6 F_z2) [] ⟨15,[]⟩ Tryz.f42 [(.int .i64 24)] emp (fun v _=>dR_csr_Mask v k)=p_z4x F_z2  k:=by kernel_rfl
theorem ok_z4y {α:Type} (F_z2:Sg_z2 α)   (k:Int→R α):bodyL PT_W27 (PO_z6 F_z2) [] ⟨15,[]⟩ Tryz.f42 [(.int .i64 25)] emp (fun v _=>dR_csr_Mask v k)=p_z4y F_z2  k:=by kernel_rfl
theorem ok_z4z {α:Type} (F_z2:Sg_z2 α)   (k:Int→R α):bodyL PT_W27 (PO_z6 F_z2) [] ⟨15,[]⟩ Tryz.f42 [(.int .i64 26)] emp (fun v _=>dR_csr_Mask v k)=p_z4z F_z2  k:=by kernel_rfl
theorem ok_z50 {α:Type} (F_z2:Sg_z2 α)   (k:Int→R α):bodyL PT_W27 (PO_z6 F_z2) [] ⟨15,[]⟩ Tryz.f42 [(.int .i64 27)] emp (fun v _=>dR_csr_Mask v k)=p_z50 F_z2  k:=by kernel_rfl
theorem ok_z51 {α:Type} (F_z2:Sg_z2 α)   (k:Int→R α):bodyL PT_W27 (PO_z6 F_z2) [] ⟨15,[]⟩ Tryz.f42 [(.int .i64 28)] emp (fun v _=>dR_csr_Mask v k)=p_z51 F_z2  k:=by kernel_rfl
theorem ok_z6 {α:Type} {F_z2:Sg_z2 α}  {x0:Int} {k:Int→R α} {r:α} (h:p_z6 F_z2 x0 k=some r):bodyL PT_W27 (PO_z6 F_z2) [] ⟨15,[]⟩ Tryz.f42 [(.int .i64 x0)] emp (fun v _=>dR_csr_Mask v k)=some r:=by
  unfold p_z6 at h
  cases e0:(x0==0)
  case true=>rw [e0] at h; simp only [cond_true] at h; rw [beq_iff_eq] at e0; subst e0; exact (ok_z49 F_z2   k).trans h
  rw [e0] at h; simp only [cond_false] at h
  cases e1:(x0==1)
  case true=>rw [e1] at h; simp only [cond_true] at h; rw [beq_iff_eq] at e1; subst e1; exact (ok_z4a F_z2   k).trans h
  rw [e1] at h; simp only [cond_false] at h
  cases e2:(x0==2)
  case true=>rw [e2] at h; simp only [cond_true] at h; rw [beq_iff_eq] at e2; subst e2; exact (ok_z4b F_z2   k).trans h
  rw [e2] at h; simp only [cond_false] at h
  cases e3:(x0==3)
  case true=>rw [e3] at h; simp only [cond_true] at h; rw [beq_iff_eq] at e3; subst e3; exact (ok_z4c F_z2   k).trans h
  rw [e3] at h; simp only [cond_false] at h
  cases e4:(x0==4)
  case true=>rw [e4] at h; simp only [cond_true] at h; rw [beq_iff_eq] at e4; subst e4; exact (ok_z4d F_z2   k).trans h
  rw [e4] at h; simp only [cond_false] at h
  cases e5:(x0==5)
  case true=>rw [e5] at h; simp only [cond_true] at h; rw [beq_iff_eq] at e5; subst e5; exact (ok_z4e F_z2   k).trans h
  rw [e5] at h; simp only [cond_false] at h
  cases e6:(x0==6)
  case true=>rw [e6] at h; simp only [cond_true] at h; rw [beq_iff_eq] at e6; subst e6; exact (ok_z4f F_z2   k).trans h
  rw [e6] at h; simp only [cond_false] at h
  cases e7:(x0==7)
  case true=>rw [e7] at h; simp only [cond_true] at h; rw [beq_iff_eq] at e7; subst e7; exact (ok_z4g F_z2   k).trans h
  rw [e7] at h; simp only [cond_false] at h
  cases e8:(x0==8)
  case true=>rw [e8] at h; simp only [cond_true] at h; rw [beq_iff_eq] at e8; subst e8; exact (ok_z4h F_z2   k).trans h
  rw [e8] at h; simp only [cond_false] at h
  cases e9:(x0==9)
  case true=>rw [e9] at h; simp only [cond_true] at h; rw [beq_iff_eq] at e9; subst e9; exact (ok_z4i F_z2   k).trans h
  rw [e9] at h; simp only [cond_false] at h
  cases e10:(x0==10)
  case true=>rw [e10] at h; simp only [cond_true] at h; rw [beq_iff_eq] at e10; subst e10; exact (ok_z4j F_z2   k).trans h
  rw [e10] at h; simp only [cond_false] at h
  cases e11:(x0==11)
  case true=>rw [e11] at h; simp only [cond_true] at h; rw [beq_iff_eq] at e11; subst e11; exact (ok_z4k F_z2   k).trans h
  rw [e11] at h; simp only [cond_false] at h
  cases e12:(x0==12)
  case true=>rw [e12] at h; simp only [cond_true] at h; rw [beq_iff_eq] at e12; subst e12; exact (ok_z4l F_z2   k).trans h
  rw [e12] at h; simp only [cond_false] at h
  cases e13:(x0==13)
  case true=>rw [e13] at h; simp only [cond_true] at h; rw [beq_iff_eq] at e13; subst e13; exact (ok_z4m F_z2   k).trans h
  rw [e13] at h; simp only [cond_false] at h
  cases e14:(x0==14)
  case true=>rw [e14] at h; simp only [cond_true] at h; rw [beq_iff_eq] at e14; subst e14; exact (ok_z4n F_z2   k).trans h
  rw [e14] at h; simp only [cond_false] at h
  cases e15:(x0==15)
  case true=>rw [e15] at h; simp only [cond_true] at h; rw [beq_iff_eq] at e15; subst e15; exact (ok_z4o F_z2   k).trans h
  rw [e15] at h; simp only [cond_false] at h
  cases e16:(x0==16)
  case true=>rw [e16] at h; simp only [cond_true] at h; rw [beq_iff_eq] at e16; subst e16; exact (ok_z4p F_z2   k).trans h
  rw [e16] at h; simp only [cond_false] at h
  cases e17:(x0==17)
  case true=>rw [e17] at h; simp only [cond_true] at h; rw [beq_iff_eq] at e17; subst e17; exact (ok_z4q F_z2   k).trans h
  rw [e17] at h; simp only [cond_false] at h
  cases e18:(x0==18)
  case true=>rw [e18] at h; simp only [cond_true] at h; rw [beq_iff_eq] at e18; subst e18; exact (ok_z4r F_z2   k).trans h
  rw [e18] at h; simp only [cond_false] at h
  cases e19:(x0==19)
  case true=>rw [e19] at h; simp only [cond_true] at h; rw [beq_iff_eq] at e19; subst e19; exact (ok_z4s F_z2   k).trans h
  rw [e19] at h; simp only [cond_false] at h
  cases e20:(x0==20)
  case true=>rw [e20] at h; simp only [cond_true] at h; rw [beq_iff_eq] at e20; subst e20; exact (ok_z4t F_z2   k).trans h
  rw [e20] at h; simp only [cond_false] at h
  cases e21:(x0==21)
  case true=>rw [e21] at h; simp only [cond_true] at h; rw [beq_iff_eq] at e21; subst e21; exact (ok_z4u F_z2   k).trans h
  rw [e21] at h; simp only [cond_false] at h
  cases e22:(x0==22)
  case true=>rw [e22] at h; simp only [cond_true] at h; rw [beq_iff_eq] at e22; subst e22; exact (ok_z4v F_z2   k).trans h
  rw [e22] at h; simp only [cond_false] at h
  cases e23:(x0==23)
  case true=>rw [e23] at h; simp only [cond_true] at h; rw [beq_iff_eq] at e23; subst e23; exact (ok_z4w F_z2   k).trans h
  rw [e23] at h; simp only [cond_false] at h
  cases e24:(x0==24)
  case true=>rw [e24] at h; simp only [cond_true] at h; rw [beq_iff_eq] at e24; subst e24; exact (ok_z4x F_z2   k).trans h
  rw [e24] at h; simp only [cond_false] at h
  cases e25:(x0==25)
  case true=>rw [e25] at h; simp only [cond_true] at h; rw [beq_iff_eq] at e25; subst e25; exact (ok_z4y F_z2   k).trans h
  rw [e25] at h; simp only [cond_false] at h
  cases e26:(x0==26)
  case true=>rw [e26] at h; simp only [cond_true] at h; rw [beq_iff_eq] at e26; subst e26; exact (ok_z4z F_z2   k).trans h
  rw [e26] at h; simp only [cond_false] at h
  cases e27:(x0==27)
  case true=>rw [e27] at h; simp only [cond_true] at h; rw [beq_iff_eq] at e27; subst e27; exact (ok_z50 F_z2   k).trans h
  rw [e27] at h; simp only [cond_false] at h
  cases e28:(x0==28)
  case true=>rw [e28] at h; simp only [cond_true] at h; rw [beq_iff_eq] at e28; subst e28; exact (ok_z51 F_z2   k).trans h
  rw [e28] at h; simp only [cond_false] at h
  cases h
theorem mk_z6 {α:Type} {I:Imm} {F_z2:Sg_z2 α} (h_z2:OrcOk (α:=α) Tryz.prog I 84 (.pure (ad_z2 F_z2))):OrcOk (α:=α) Tryz.prog I 42 (.pure (ad_z6 (p_z6 F_z2))):=by
  refine orc_pureK PT_W27_ok (O:=PO_z6 F_z2) (OOk.cons (cB_z5i h_z2) (OOk.nil)) (L:=[]) ⟨15,[]⟩ Tryz.func42 (by kernel_rfl) (by kernel_rfl) (by kernel_rfl) FLOk.nil ?_
  intro args k r hk
  unfold ad_z6 at hk
  split at hk<;>try (cases hk; done)
  obtain ⟨x0,rfl,hk0⟩:=decI_spec hk
  have hkz:=hk0
  refine ⟨by simp [Ids,Idss],fun v=>dR_csr_Mask v (fun r0=>k (.int .u64 r0)),?_,fun v hv=>?_⟩
  · exact ok_z6 hkz
  · obtain ⟨r0,rfl,hv1⟩:=dR_csr_Mask_spec hv; exact ⟨hv1,by simp [Ids,Idss]⟩
noncomputable abbrev B_z5j {α:Type} (F_z2:Sg_z2 α) (F_z9:Sg_z9 α) (F_ze:Sg_ze α) (F_z6:Sg_z6 α):FF α:=byBody PT_W27 [] ⟨3,[]⟩ Tryz.f83
theorem cB_z5j {α:Type} {I:Imm} {F_z2:Sg_z2 α} {F_z9:Sg_z9 α} {F_ze:Sg_ze α} {F_z6:Sg_z6 α} (h_z2:OrcOk (α:=α) Tryz.prog I 84 (.pure (ad_z2 F_z2))) (h_z9:OrcOk (α:=α) Tryz.prog I 63 (.pure (ad_z9 F_z9))) (h_ze:OrcOk (α:=α) Tryz.prog I 171 (.pure (ad_ze F_ze))) (h_z6:OrcOk (α:=α) Tryz.prog I 42 (.pure (ad_z6 F_z6))):OrcOk (α:=α) Tryz.prog I 83 (.full (B_z5j F_z2 F_z9 F_ze F_z6)):=orc_body PT_W27_ok (OOk.nil) ⟨3,[]⟩ Tryz.func83 (by kernel_rfl) (by kernel_rfl) (by kernel_rfl)
noncomputable abbrev PO_z1a {α:Type} (F_z2:Sg_z2 α) (F_z9:Sg_z9 α) (F_ze:Sg_ze α) (F_z6:Sg_z6 α):ORC α:=[(84,.pure (ad_z2 F_z2)),(63,.pure (ad_z9 F_z9)),(83,.full (B_z5j F_z2 F_z9 F_ze F_z6)),(171,.pure (ad_ze F_ze)),(42,.pure (ad_z6 F_z6))]
theorem ok_z1a {α:Type} (F_z2:Sg_z2 α) (F_z9:Sg_z9 α) (F_ze:Sg_ze α) (F_z6:Sg_z6 α) (x0:GState) (x1:Int) (x2:Int) (k:GState→Bool→R α):bodyL PT_W27 (PO_z1a F_z2 F_z9 F_ze F_z6) [] ⟨3,[]⟩ Tryz.f151 [(GState.sv x0),(.int .i64 x1),(.int .u64 x2)] emp (fun v _=>dR_csr_Write v k)=p_z1a F_z2 F_z9 F_ze F_z6 x0 x1 x2 k:=by kernel_rfl
theorem mk_z1a {α:Type} {I:Imm} {F_z2:Sg_z2 α} {F_z9:Sg_z9 α} {F_ze:Sg_ze α} {F_z6:Sg_z6 α} (h_z2:OrcOk (α:=α) Tryz.prog I 84 (.pure (ad_z2 F_z2))) (h_z9:OrcOk (α:=α) Tryz.prog I 63 (.pure (ad_z9 F_z9))) (h_ze:OrcOk (α:=α) Tryz.prog I 171 (.pure (ad_ze F_ze))) (h_z6:OrcOk (α:=α) Tryz.prog I 42 (.pure (ad_z6 F_z6))):OrcOk (α:=α) Tryz.prog I 151 (.pure (ad_z1a (p_z1a F_z2 F_z9 F_ze F_z6))):=by
  refine orc_pureK PT_W27_ok (O:=PO_z1a F_z2 F_z9 F_ze F_z6) (OOk.cons h_z2 (OOk.cons h_z9 (OOk.cons (cB_z5j h_z2 h_z9 h_ze h_z6) (OOk.cons h_ze (OOk.cons h_z6 (OOk.nil)))))) (L:=[]) ⟨3,[]⟩ Tryz.func151 (by kernel_rfl) (by kernel_rfl) (by kernel_rfl) FLOk.nil ?_
  intro args k r hk
  unfold ad_z1a at hk
  split at hk<;>try (cases hk; done)
  obtain ⟨x0,rfl,hk0⟩:=GState.dec_spec hk
  obtain ⟨x1,rfl,hk1⟩:=decI_spec hk0
  obtain ⟨x2,rfl,hk2⟩:=decI_spec hk1
  have hkz:=hk2
  refine ⟨by simp [Ids,Idss],fun v=>dR_csr_Write v (fun r0 r1=>k (.tuple [(GState.sv r0),(.bool r1)])),?_,fun v hv=>?_⟩
  · rw [ok_z1a]; exact hkz
  · obtain ⟨r0,r1,rfl,hv1⟩:=dR_csr_Write_spec hv; exact ⟨hv1,by simp [Ids,Idss]⟩
noncomputable abbrev PO_z2b {α:Type} (F_z1t:Sg_z1t α) (F_z1h:Sg_z1h α) (F_zu:Sg_zu α) (F_z19:Sg_z19 α) (F_z1a:Sg_z1a α) (F_zf:Sg_zf α):ORC α:=[(149,.pure (ad_z1t F_z1t)),(150,.pure (ad_z1h F_z1h)),(102,.pure (ad_zu F_zu)),(152,.pure (ad_z19 F_z19)),(151,.pure (ad_z1a F_z1a)),(110,.pure (ad_zf F_zf))]
theorem ok_z2b {α:Type} (F_z1t:Sg_z1t α) (F_z1h:Sg_z1h α) (F_zu:Sg_zu α) (F_z19:Sg_z19 α) (F_z1a:Sg_z1a α) (F_zf:Sg_zf α) (x0:GState) (x1:GInsn) (k:GExec_result→R α):bodyL PT_W27 (PO_z2b F_z1t F_z1h F_zu F_z19 F_z1a F_zf) [] ⟨1,[]⟩ Tryz.f113 [(GState.sv x0),(GInsn.sv x1)] emp (fun v _=>dR_exec_control v k)=p_z2b F_z1t F_z1h F_zu F_z19 F_z1a F_zf x0 x1 k:=by kernel_rfl
theorem mk_z2b {α:Type} {I:Imm} {F_z1t:Sg_z1t α} {F_z1h:Sg_z1h α} {F_zu:Sg_zu α} {F_z19:Sg_z19 α} {F_z1a:Sg_z1a α} {F_zf:Sg_zf α} (h_z1t:OrcOk (α:=α) Tryz.prog I 149 (.pure (ad_z1t F_z1t))) (h_z1h:OrcOk (α:=α) Tryz.prog I 150 (.pure (ad_z1h F_z1h))) (h_zu:OrcOk (α:=α) Tryz.prog I 102 (.pure (ad_zu F_zu))) (h_z19:OrcOk (α:=α) Tryz.prog I 152 (.pure (ad_z19 F_z19))) (h_z1a:OrcOk (α:=α) Tryz.prog I 151 (.pure (ad_z1a F_z1a))) (h_zf:OrcOk (α:=α) Tryz.prog I 110 (.pure (ad_zf F_zf))):OrcOk (α:=α) Tryz.prog I 113 (.pure (ad_z2b (p_z2b F_z1t F_z1h F_zu F_z19 F_z1a F_zf))):=by
  refine orc_pureK PT_W27_ok (O:=PO_z2b F_z1t F_z1h F_zu F_z19 F_z1a F_zf) (OOk.cons h_z1t (OOk.cons h_z1h (OOk.cons h_zu (OOk.cons h_z19 (OOk.cons h_z1a (OOk.cons h_zf (OOk.nil))))))) (L:=[]) ⟨1,[]⟩ Tryz.func113 (by kernel_rfl) (by kernel_rfl) (by kernel_rfl) FLOk.nil ?_
  intro args k r hk
  unfold ad_z2b at hk
  split at hk<;>try (cases hk; done)
  obtain ⟨x0,rfl,hk0⟩:=GState.dec_spec hk
  obtain ⟨x1,rfl,hk1⟩:=GInsn.dec_spec hk0
  have hkz:=hk1
  refine ⟨by simp [Ids,Idss],fun v=>dR_exec_control v (fun r0=>k (GExec_result.sv r0)),?_,fun v hv=>?_⟩
  · rw [ok_z2b]; exact hkz
  · obtain ⟨r0,rfl,hv1⟩:=dR_exec_control_spec hv; exact ⟨hv1,by simp [Ids,Idss]⟩
noncomputable abbrev PO_zv {α:Type} (F_z3:Sg_z3 α) (F_z7:Sg_z7 α):ORC α:=[(69,.pure (ad_z3 F_z3)),(44,.pure (ad_z7 F_z7))]
theorem ok_zv {α:Type} (F_z3:Sg_z3 α) (F_z7:Sg_z7 α) (x0:GTrap_kept) (x1:GState) (k:GState→R α):bodyL PT_W27 (PO_zv F_z3 F_z7) [] ⟨1,[]⟩ Tryz.f175 [(GTrap_kept.sv x0),(GState.sv x1)] emp (fun v _=>dR_trap_kept_back v k)=p_zv F_z3 F_z7 x0 x1 k:=by kernel_rfl
theorem mk_zv {α:Type} {I:Imm} {F_z3:Sg_z3 α} {F_z7:Sg_z7 α} (h_z3:OrcOk (α:=α) Tryz.prog I 69 (.pure (ad_z3 F_z3))) (h_z7:OrcOk (α:=α) Tryz.prog I 44 (.pure (ad_z7 F_z7))):OrcOk (α:=α) Tryz.prog I 175 (.pure (ad_zv (p_zv F_z3 F_z7))):=by
  refine orc_pureK PT_W27_ok (O:=PO_zv F_z3 F_z7) (OOk.cons h_z3 (OOk.cons h_z7 (OOk.nil))) (L:=[]) ⟨1,[]⟩ Tryz.func175 (by kernel_rfl) (by kernel_rfl) (by kernel_rfl) FLOk.nil ?_
  intro args k r hk
  unfold ad_zv at hk
  split at hk<;>try (cases hk; done)
  obtain ⟨x0,rfl,hk0⟩:=GTrap_kept.dec_spec hk
  obtain ⟨x1,rfl,hk1⟩:=GState.dec_spec hk0
  have hkz:=hk1
  refine ⟨by simp [Ids,Idss],fun v=>dR_trap_kept_back v (fun r0=>k (GState.sv r0)),?_,fun v hv=>?_⟩
  · rw [ok_zv]; exact hkz
  · obtain ⟨r0,rfl,hv1⟩:=dR_trap_kept_back_spec hv; exact ⟨hv1,by simp [Ids,Idss]⟩
noncomputable abbrev PO_z1u {α:Type} (F_zt:Sg_zt α) (F_z1:Sg_z1 α) (F_z3:Sg_z3 α) (F_zv:Sg_zv α) (F_zb:Sg_zb α) (F_z7:Sg_z7 α):ORC α:=[(76,.pure (ad_zt F_zt)),(68,.pure (ad_z1 F_z1)),(69,.pure (ad_z3 F_z3)),(175,.pure (ad_zv F_zv)),(60,.pure (ad_zb F_zb)),(44,.pure (ad_z7 F_z7))]
theorem ok_z1u {α:Type} (F_zt:Sg_zt α) (F_z1:Sg_z1 α) (F_z3:Sg_z3 α) (F_zv:Sg_zv α) (F_zb:Sg_zb α) (F_z7:Sg_z7 α) (x0:GState) (k:GState→Int→Bool→R α):bodyL PT_W27 (PO_z1u F_zt F_z1 F_z3 F_zv F_zb F_z7) [] ⟨1,[]⟩ Tryz.f153 [(GState.sv x0)] emp (fun v _=>dR_trap_Mret v k)=p_z1u F_zt F_z1 F_z3 F_zv F_zb F_z7 x0 k:=by kernel_rfl
theorem mk_z1u {α:Type} {I:Imm} {F_zt:Sg_zt α} {F_z1:Sg_z1 α} {F_z3:Sg_z3 α} {F_zv:Sg_zv α} {F_zb:Sg_zb α} {F_z7:Sg_z7 α} (h_zt:OrcOk (α:=α) Tryz.prog I 76 (.pure (ad_zt F_zt))) (h_z1:OrcOk (α:=α) Tryz.prog I 68 (.pure (ad_z1 F_z1))) (h_z3:OrcOk (α:=α) Tryz.prog I 69 (.pure (ad_z3 F_z3))) (h_zv:OrcOk (α:=α) Tryz.prog I 175 (.pure (ad_zv F_zv))) (h_zb:OrcOk (α:=α) Tryz.prog I 60 (.pure (ad_zb F_zb))) (h_z7:OrcOk (α:=α) Tryz.prog I 44 (.pure (ad_z7 F_z7))):OrcOk (α:=α) Tryz.prog I 153 (.pure (ad_z1u (p_z1u F_zt F_z1 F_z3 F_zv F_zb F_z7))):=by
  refine orc_pureK PT_W27_ok (O:=PO_z1u F_zt F_z1 F_z3 F_zv F_zb F_z7) (OOk.cons h_zt (OOk.cons h_z1 (OOk.cons h_z3 (OOk.cons h_zv (OOk.cons h_zb (OOk.cons h_z7 (OOk.nil))))))) (L:=[]) ⟨1,[]⟩ Tryz.func153 (by kernel_rfl) (by kernel_rfl) (by kernel_rfl) FLOk.nil ?_
  intro args k r hk
  unfold ad_z1u at hk
  split at hk<;>try (cases hk; done)
  obtain ⟨x0,rfl,hk0⟩:=GState.dec_spec hk
  have hkz:=hk0
  refine ⟨by simp [Ids,Idss],fun v=>dR_trap_Mret v (fun r0 r1 r2=>k (.tuple [(GState.sv r0),(.int .u64 r1),(.bool r2)])),?_,fun v hv=>?_⟩
  · rw [ok_z1u]; exact hkz
  · obtain ⟨r0,r1,r2,rfl,hv1⟩:=dR_trap_Mret_spec hv; exact ⟨hv1,by simp [Ids,Idss]⟩
noncomputable abbrev PO_z1v {α:Type} (F_zt:Sg_zt α) (F_z1:Sg_z1 α) (F_zv:Sg_zv α) (F_z7:Sg_z7 α) (F_z3:Sg_z3 α):ORC α:=[(76,.pure (ad_zt F_zt)),(68,.pure (ad_z1 F_z1)),(175,.pure (ad_zv F_zv)),(44,.pure (ad_z7 F_z7)),(69,.pure (ad_z3 F_z3))]
theorem ok_z1v {α:Type} (F_zt:Sg_zt α) (F_z1:Sg_z1 α) (F_zv:Sg_zv α) (F_z7:Sg_z7 α) (F_z3:Sg_z3 α) (x0:GState) (k:GState→Int→Bool→R α):bodyL PT_W27 (PO_z1v F_zt F_z1 F_zv F_z7 F_z3) [] ⟨1,[]⟩ Tryz.f154 [(GState.sv x0)] emp (fun v _=>dR_trap_Sret v k)=p_z1v F_zt F_z1 F_zv F_z7 F_z3 x0 k:=by kernel_rfl
theorem mk_z1v {α:Type} {I:Imm} {F_zt:Sg_zt α} {F_z1:Sg_z1 α} {F_zv:Sg_zv α} {F_z7:Sg_z7 α} {F_z3:Sg_z3 α} (h_zt:OrcOk (α:=α) Tryz.prog I 76 (.pure (ad_zt F_zt))) (h_z1:OrcOk (α:=α) Tryz.prog I 68 (.pure (ad_z1 F_z1))) (h_zv:OrcOk (α:=α) Tryz.prog I 175 (.pure (ad_zv F_zv))) (h_z7:OrcOk (α:=α) Tryz.prog I 44 (.pure (ad_z7 F_z7))) (h_z3:OrcOk (α:=α) Tryz.prog I 69 (.pure (ad_z3 F_z3))):OrcOk (α:=α) Tryz.prog I 154 (.pure (ad_z1v (p_z1v F_zt F_z1 F_zv F_z7 F_z3))):=by
  refine orc_pureK PT_W27_ok (O:=PO_z1v F_zt F_z1 F_zv F_z7 F_z3) (OOk.cons h_zt (OOk.cons h_z1 (OOk.cons h_zv (OOk.cons h_z7 (OOk.cons h_z3 (OOk.nil)))))) (L:=[]) ⟨1,[]⟩ Tryz.func154 (by kernel_rfl) (by kernel_rfl) (by kernel_rfl) FLOk.nil ?_
  intro args k r hk
  unfold ad_z1v at hk
  split at hk<;>try (cases hk; done)
  obtain ⟨x0,rfl,hk0⟩:=GState.dec_spec hk
  have hkz:=hk0
  refine ⟨by simp [Ids,Idss],fun v=>dR_trap_Sret v (fun r0 r1 r2=>k (.tuple [(GState.sv r0),(.int .u64 r1),(.bool r2)])),?_,fun v hv=>?_⟩
  · rw [ok_z1v]; exact hkz
  · obtain ⟨r0,r1,r2,rfl,hv1⟩:=dR_trap_Sret_spec hv; exact ⟨hv1,by simp [Ids,Idss]⟩
noncomputable abbrev PO_z2c {α:Type} (F_z1u:Sg_z1u α) (F_zi:Sg_zi α) (F_z1v:Sg_z1v α) (F_zf:Sg_zf α):ORC α:=[(153,.pure (ad_z1u F_z1u)),(141,.pure (ad_zi F_zi)),(154,.pure (ad_z1v F_z1v)),(110,.pure (ad_zf F_zf))]
theorem ok_z2c {α:Type} (F_z1u:Sg_z1u α) (F_zi:Sg_zi α) (F_z1v:Sg_z1v α) (F_zf:Sg_zf α) (x0:GState) (x1:GInsn) (k:GExec_result→R α):bodyL PT_W27 (PO_z2c F_z1u F_zi F_z1v F_zf) [] ⟨1,[]⟩ Tryz.f114 [(GState.sv x0),(GInsn.sv x1)] emp (fun v _=>dR_exec_returns v k)=p_z2c F_z1u F_zi F_z1v F_zf x0 x1 k:=by kernel_rfl
theorem mk_z2c {α:Type} {I:Imm} {F_z1u:Sg_z1u α} {F_zi:Sg_zi α} {F_z1v:Sg_z1v α} {F_zf:Sg_zf α} (h_z1u:OrcOk (α:=α) Tryz.prog I 153 (.pure (ad_z1u F_z1u))) (h_zi:OrcOk (α:=α) Tryz.prog I 141 (.pure (ad_zi F_zi))) (h_z1v:OrcOk (α:=α) Tryz.prog I 154 (.pure (ad_z1v F_z1v))) (h_zf:OrcOk (α:=α) Tryz.prog I 110 (.pure (ad_zf F_zf))):OrcOk (α:=α) Tryz.prog I 114 (.pure (ad_z2c (p_z2c F_z1u F_zi F_z1v F_zf))):=by
  refine orc_pureK PT_W27_ok (O:=PO_z2c F_z1u F_zi F_z1v F_zf) (OOk.cons h_z1u (OOk.cons h_zi (OOk.cons h_z1v (OOk.cons h_zf (OOk.nil))))) (L:=[]) ⟨1,[]⟩ Tryz.func114 (by kernel_rfl) (by kernel_rfl) (by kernel_rfl) FLOk.nil ?_
  intro args k r hk
  unfold ad_z2c at hk
  split at hk<;>try (cases hk; done)
  obtain ⟨x0,rfl,hk0⟩:=GState.dec_spec hk
  obtain ⟨x1,rfl,hk1⟩:=GInsn.dec_spec hk0
  have hkz:=hk1
  refine ⟨by simp [Ids,Idss],fun v=>dR_exec_returns v (fun r0=>k (GExec_result.sv r0)),?_,fun v hv=>?_⟩
  · rw [ok_z2c]; exact hkz
  · obtain ⟨r0,rfl,hv1⟩:=dR_exec_returns_spec hv; exact ⟨hv1,by simp [Ids,Idss]⟩
noncomputable abbrev PO_z2d {α:Type} (F_zd:Sg_zd α):ORC α:=[(98,.pure (ad_zd F_zd))]
theorem ok_z2d {α:Type} (F_zd:Sg_zd α) (x0:GInsn) (k:Int→R α):bodyL PT_W27 (PO_z2d F_zd) [] ⟨1,[]⟩ Tryz.f78 [(GInsn.sv x0)] emp (fun v _=>dR_insn_Writes v k)=p_z2d F_zd x0 k:=by kernel_rfl
theorem mk_z2d {α:Type} {I:Imm} {F_zd:Sg_zd α} (h_zd:OrcOk (α:=α) Tryz.prog I 98 (.pure (ad_zd F_zd))):OrcOk (α:=α) Tryz.prog I 78 (.pure (ad_z2d (p_z2d F_zd))):=by
  refine orc_pureK PT_W27_ok (O:=PO_z2d F_zd) (OOk.cons h_zd (OOk.nil)) (L:=[]) ⟨1,[]⟩ Tryz.func78 (by kernel_rfl) (by kernel_rfl) (by kernel_rfl) FLOk.nil ?_
  intro args k r hk
  unfold ad_z2d at hk
  split at hk<;>try (cases hk; done)
  obtain ⟨x0,rfl,hk0⟩:=GInsn.dec_spec hk
  have hkz:=hk0
  refine ⟨by simp [Ids,Idss],fun v=>dR_insn_Writes v (fun r0=>k (.int .i64 r0)),?_,fun v hv=>?_⟩
  · rw [ok_z2d]; exact hkz
  · obtain ⟨r0,rfl,hv1⟩:=dR_insn_Writes_spec hv; exact ⟨hv1,by simp [Ids,Idss]⟩
noncomputable abbrev PO_z22 {α:Type} (F_z6:Sg_z6 α) (F_z9:Sg_z9 α):ORC α:=[(42,.pure (ad_z6 F_z6)),(63,.pure (ad_z9 F_z9))]
theorem ok_z22 {α:Type} (F_z6:Sg_z6 α) (F_z9:Sg_z9 α) (x0:GState) (k:GState→R α):bodyL PT_W27 (PO_z22 F_z6 F_z9) [] ⟨30,[]⟩ Tryz.f45 [(GState.sv x0)] emp (fun v _=>dR_isa_Clean v k)=p_z22 F_z6 F_z9 x0 k:=by kernel_rfl
theorem mk_z22 {α:Type} {I:Imm} {F_z6:Sg_z6 α} {F_z9:Sg_z9 α} (h_z6:OrcOk (α:=α) Tryz.prog I 42 (.pure (ad_z6 F_z6))) (h_z9:OrcOk (α:=α) Tryz.prog I 63 (.pure (ad_z9 F_z9))):OrcOk (α:=α) Tryz.prog I 45 (.pure (ad_z22 (p_z22 F_z6 F_z9))):=by
  refine orc_pureK PT_W27_ok (O:=PO_z22 F_z6 F_z9) (OOk.cons h_z6 (OOk.cons h_z9 (OOk.nil))) (L:=[]) ⟨30,[]⟩ Tryz.func45 (by kernel_rfl) (by kernel_rfl) (by kernel_rfl) FLOk.nil ?_
  intro args k r hk
  unfold ad_z22 at hk
  split at hk<;>try (cases hk; done)
  obtain ⟨x0,rfl,hk0⟩:=GState.dec_spec hk
  have hkz:=hk0
  refine ⟨by simp [Ids,Idss],fun v=>dR_isa_Clean v (fun r0=>k (GState.sv r0)),?_,fun v hv=>?_⟩
  · rw [ok_z22]; exact hkz
  · obtain ⟨r0,rfl,hv1⟩:=dR_isa_Clean_spec hv; exact ⟨hv1,by simp [Ids,Idss]⟩
end Go.Proofs.YtodnffhcbhlifaaGreat
