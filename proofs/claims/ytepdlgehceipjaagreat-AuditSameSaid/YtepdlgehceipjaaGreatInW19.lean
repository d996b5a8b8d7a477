/-
  One instruction after the other (printed by wip/pr/pr.py): the functions come to just that.
-/
import Derived.Test.YtepdlgehceipjaaGreatInB18
import Derived.Test.YtepdlgehceipjaaGreatInOnce
import Derived.Test.YtepdlgehceipjaaGreatSpW19
set_option maxRecDepth 100000
namespace Go.Proofs.YtepdlgehceipjaaGreat
open Go Go.Sh Go.Proofs
set_option linter.unusedVariables false
set_option linter.unusedSimpArgs false
theorem pe_24 : TyOk Tryz.prog 24 ⟨.ints .u64 29 (fun _=>0),29,232,.ar 29 22 1 false,some (.ar 29 1 (.it .u64))⟩:=⟨fun _=>by kernel_rfl,⟨rfl,rfl,fun _ _=>by simp [Wf,Wfs]⟩,⟨Tryz.underlying24,by kernel_rfl,by kernel_rfl⟩,fun _ h=>by cases h; exact ⟨by kernel_rfl,by kernel_rfl⟩⟩
theorem pe_58 : TyOk Tryz.prog 58 ⟨.nils,1,24,.sc (.slice 3),none⟩:=⟨fun _=>by kernel_rfl,⟨rfl,rfl,fun _ _=>by simp [Wf,Wfs]⟩,⟨Tryz.underlying58,rfl⟩,fun _ h=>by cases h⟩
theorem pe_4 : TyOk Tryz.prog 4 ⟨.bool false,1,1,.sc (.bool),none⟩:=⟨fun _=>by kernel_rfl,⟨rfl,rfl,fun _ _=>by simp [Wf,Wfs]⟩,⟨Tryz.underlying4,rfl⟩,fun _ h=>by cases h⟩
theorem pe_149 : TyOk Tryz.prog 149 ⟨.agg [.int .i64 0,.int .i64 0,.bool false,.int .i64 0,.bool false],5,40,.st [(0,1,false),(1,1,false),(2,1,false),(3,1,false),(4,1,false)],some (.st [(0,1,false,.it .i64),(1,1,false,.it .i64),(2,1,false,.bl),(3,1,false,.it .i64),(4,1,false,.bl)])⟩:=⟨fun _=>by kernel_rfl,⟨rfl,rfl,fun _ _=>by simp [Wf,Wfs]⟩,⟨_,Tryz.underlying149,by kernel_rfl⟩,fun _ h=>by cases h; exact ⟨by kernel_rfl,by kernel_rfl⟩⟩
theorem pe_150 : TyOk Tryz.prog 150 ⟨.arr 5 8 (fun _=>.agg [.int .i64 0,.int .i64 0,.bool false,.int .i64 0,.bool false]),40,320,.ar 8 149 5 true,none⟩:=⟨fun _=>by kernel_rfl,⟨rfl,rfl,fun _ _=>by simp [Wf,Wfs]⟩,⟨Tryz.underlying150,by kernel_rfl,by kernel_rfl⟩,fun _ h=>by cases h⟩
theorem pe_214 : TyOk Tryz.prog 214 ⟨.agg [.int .i64 0,.int .i64 0,.int .i64 0,.int .i64 0,.int .i64 0],5,40,.st [(0,1,false),(1,1,false),(2,1,false),(3,1,false),(4,1,false)],some (.st [(0,1,false,.it .i64),(1,1,false,.it .i64),(2,1,false,.it .i64),(3,1,false,.it .i64),(4,1,false,.it .i64)])⟩:=⟨fun _=>by kernel_rfl,⟨rfl,rfl,fun _ _=>by simp [Wf,Wfs]⟩,⟨_,Tryz.underlying214,by kernel_rfl⟩,fun _ h=>by cases h; exact ⟨by kernel_rfl,by kernel_rfl⟩⟩
theorem pe_218 : TyOk Tryz.prog 218 ⟨.agg [.int .i64 0,.int .i64 0,.int .i64 0],3,24,.st [(0,1,false),(1,1,false),(2,1,false)],some (.st [(0,1,false,.it .i64),(1,1,false,.it .i64),(2,1,false,.it .i64)])⟩:=⟨fun _=>by kernel_rfl,⟨rfl,rfl,fun _ _=>by simp [Wf,Wfs]⟩,⟨_,Tryz.underlying218,by kernel_rfl⟩,fun _ h=>by cases h; exact ⟨by kernel_rfl,by kernel_rfl⟩⟩
theorem pe_212 : TyOk Tryz.prog 212 ⟨.agg [.int .i64 0,.bool false],2,16,.st [(0,1,false),(1,1,false)],some (.st [(0,1,false,.it .i64),(1,1,false,.bl)])⟩:=⟨fun _=>by kernel_rfl,⟨rfl,rfl,fun _ _=>by simp [Wf,Wfs]⟩,⟨_,Tryz.underlying212,by kernel_rfl⟩,fun _ h=>by cases h; exact ⟨by kernel_rfl,by kernel_rfl⟩⟩
theorem pe_47 : TyOk Tryz.prog 47 ⟨.agg [.int .u64 0,.int .u32 0,.int .i64 0,.int .u64 0,.bool false,.agg [.int .u64 0,.int .u64 0,.int .u64 0,.bool false],.int .i64 0,.bool false,.bool false],12,88,.st [(0,1,false),(1,1,false),(2,1,false),(3,1,false),(4,1,false),(5,4,true),(9,1,false),(10,1,false),(11,1,false)],some (.st [(0,1,false,.it .u64),(1,1,false,.it .u32),(2,1,false,.it .i64),(3,1,false,.it .u64),(4,1,false,.bl),(5,4,true,.st [(0,1,false,.it .u64),(1,1,false,.it .u64),(2,1,false,.it .u64),(3,1,false,.bl)]),(9,1,false,.it .i64),(10,1,false,.bl),(11,1,false,.bl)])⟩:=⟨fun _=>by kernel_rfl,⟨rfl,rfl,fun _ _=>by simp [Wf,Wfs]⟩,⟨_,Tryz.underlying47,by kernel_rfl⟩,fun _ h=>by cases h; exact ⟨by kernel_rfl,by kernel_rfl⟩⟩
theorem pe_43 : TyOk Tryz.prog 43 ⟨.int .u32 0,1,4,.sc (.int .u32),none⟩:=⟨fun _=>by kernel_rfl,⟨rfl,rfl,fun _ _=>by simp [Wf,Wfs]⟩,⟨Tryz.underlying43,rfl⟩,fun _ h=>by cases h⟩
theorem pe_227 : TyOk Tryz.prog 227 ⟨.agg [.int .u32 0,.int .i64 0,.int .i64 0,.int .i64 0,.int .i64 0,.int .i64 0],6,48,.st [(0,1,false),(1,1,false),(2,1,false),(3,1,false),(4,1,false),(5,1,false)],some (.st [(0,1,false,.it .u32),(1,1,false,.it .i64),(2,1,false,.it .i64),(3,1,false,.it .i64),(4,1,false,.it .i64),(5,1,false,.it .i64)])⟩:=⟨fun _=>by kernel_rfl,⟨rfl,rfl,fun _ _=>by simp [Wf,Wfs]⟩,⟨_,Tryz.underlying227,by kernel_rfl⟩,fun _ h=>by cases h; exact ⟨by kernel_rfl,by kernel_rfl⟩⟩
theorem pe_2 : TyOk Tryz.prog 2 ⟨.int .i64 0,1,8,.sc (.int .i64),none⟩:=⟨fun _=>by kernel_rfl,⟨rfl,rfl,fun _ _=>by simp [Wf,Wfs]⟩,⟨Tryz.underlying2,rfl⟩,fun _ h=>by cases h⟩
theorem pe_36 : TyOk Tryz.prog 36 ⟨.agg [.int .i64 0,.int .i64 0,.int .i64 0,.int .i64 0,.int .i64 0,.int .i64 0],6,48,.st [(0,1,false),(1,1,false),(2,1,false),(3,1,false),(4,1,false),(5,1,false)],some (.st [(0,1,false,.it .i64),(1,1,false,.it .i64),(2,1,false,.it .i64),(3,1,false,.it .i64),(4,1,false,.it .i64),(5,1,false,.it .i64)])⟩:=⟨fun _=>by kernel_rfl,⟨rfl,rfl,fun _ _=>by simp [Wf,Wfs]⟩,⟨_,Tryz.underlying36,by kernel_rfl⟩,fun _ h=>by cases h; exact ⟨by kernel_rfl,by kernel_rfl⟩⟩
theorem pe_277 : TyOk Tryz.prog 277 ⟨.ints .i64 2 (fun _=>0),2,16,.ar 2 3 1 false,some (.ar 2 1 (.it .i64))⟩:=⟨fun _=>by kernel_rfl,⟨rfl,rfl,fun _ _=>by simp [Wf,Wfs]⟩,⟨Tryz.underlying277,by kernel_rfl,by kernel_rfl⟩,fun _ h=>by cases h; exact ⟨by kernel_rfl,by kernel_rfl⟩⟩
theorem pe_307 : TyOk Tryz.prog 307 ⟨.nils,1,24,.sc (.slice 277),none⟩:=⟨fun _=>by kernel_rfl,⟨rfl,rfl,fun _ _=>by simp [Wf,Wfs]⟩,⟨Tryz.underlying307,rfl⟩,fun _ h=>by cases h⟩
theorem pe_279 : TyOk Tryz.prog 279 ⟨.ints .i64 8 (fun _=>0),8,64,.ar 8 3 1 false,some (.ar 8 1 (.it .i64))⟩:=⟨fun _=>by kernel_rfl,⟨rfl,rfl,fun _ _=>by simp [Wf,Wfs]⟩,⟨Tryz.underlying279,by kernel_rfl,by kernel_rfl⟩,fun _ h=>by cases h; exact ⟨by kernel_rfl,by kernel_rfl⟩⟩
theorem pe_308 : TyOk Tryz.prog 308 ⟨.nilmap,1,8,.sc (.map 3 3),none⟩:=⟨fun _=>by kernel_rfl,⟨rfl,rfl,fun _ _=>by simp [Wf,Wfs]⟩,⟨Tryz.underlying308,rfl⟩,fun _ h=>by cases h⟩
theorem pe_318 : TyOk Tryz.prog 318 ⟨.nilmap,1,8,.sc (.map 43 3),none⟩:=⟨fun _=>by kernel_rfl,⟨rfl,rfl,fun _ _=>by simp [Wf,Wfs]⟩,⟨Tryz.underlying318,rfl⟩,fun _ h=>by cases h⟩
theorem pe_320 : TyOk Tryz.prog 320 ⟨.agg [.agg [.agg [],.agg [.agg [],.int .u32 0],.agg [.agg [],.agg [.int .i32 0,.int .u32 0]]],.nilmap],4,24,.st [(0,3,true),(3,1,false)],none⟩:=⟨fun _=>by kernel_rfl,⟨rfl,rfl,fun _ _=>by simp [Wf,Wfs]⟩,⟨_,Tryz.underlying320,by kernel_rfl⟩,fun _ h=>by cases h⟩
theorem pe_327 : TyOk Tryz.prog 327 ⟨.nilp,1,8,.sc (.pointer 320),none⟩:=⟨fun _=>by kernel_rfl,⟨rfl,rfl,fun _ _=>by simp [Wf,Wfs]⟩,⟨Tryz.underlying327,rfl⟩,fun _ h=>by cases h⟩
theorem pe_285 : TyOk Tryz.prog 285 ⟨.ints .i64 12 (fun _=>0),12,96,.ar 12 3 1 false,some (.ar 12 1 (.it .i64))⟩:=⟨fun _=>by kernel_rfl,⟨rfl,rfl,fun _ _=>by simp [Wf,Wfs]⟩,⟨Tryz.underlying285,by kernel_rfl,by kernel_rfl⟩,fun _ h=>by cases h; exact ⟨by kernel_rfl,by kernel_rfl⟩⟩
theorem pe_281 : TyOk Tryz.prog 281 ⟨.agg [.bool false,.bool false,.bool false,.bool false,.int .i64 0,.int .i64 0,.int .i64 0],7,32,.st [(0,1,false),(1,1,false),(2,1,false),(3,1,false),(4,1,false),(5,1,false),(6,1,false)],some (.st [(0,1,false,.bl),(1,1,false,.bl),(2,1,false,.bl),(3,1,false,.bl),(4,1,false,.it .i64),(5,1,false,.it .i64),(6,1,false,.it .i64)])⟩:=⟨fun _=>by kernel_rfl,⟨rfl,rfl,fun _ _=>by simp [Wf,Wfs]⟩,⟨_,Tryz.underlying281,by kernel_rfl⟩,fun _ h=>by cases h; exact ⟨by kernel_rfl,by kernel_rfl⟩⟩
theorem pe_284 : TyOk Tryz.prog 284 ⟨.arr 2 2 (fun _=>.ints .i64 2 (fun _=>0)),4,32,.ar 2 277 2 true,none⟩:=⟨fun _=>by kernel_rfl,⟨rfl,rfl,fun _ _=>by simp [Wf,Wfs]⟩,⟨Tryz.underlying284,by kernel_rfl,by kernel_rfl⟩,fun _ h=>by cases h⟩
theorem pe_191 : TyOk Tryz.prog 191 ⟨.agg [.int .i64 0,.int .u64 0],2,16,.st [(0,1,false),(1,1,false)],some (.st [(0,1,false,.it .i64),(1,1,false,.it .u64)])⟩:=⟨fun _=>by kernel_rfl,⟨rfl,rfl,fun _ _=>by simp [Wf,Wfs]⟩,⟨_,Tryz.underlying191,by kernel_rfl⟩,fun _ h=>by cases h; exact ⟨by kernel_rfl,by kernel_rfl⟩⟩
theorem pe_192 : TyOk Tryz.prog 192 ⟨.arr 2 29 (fun _=>.agg [.int .i64 0,.int .u64 0]),58,464,.ar 29 191 2 true,none⟩:=⟨fun _=>by kernel_rfl,⟨rfl,rfl,fun _ _=>by simp [Wf,Wfs]⟩,⟨Tryz.underlying192,by kernel_rfl,by kernel_rfl⟩,fun _ h=>by cases h⟩
theorem pe_66 : TyOk Tryz.prog 66 ⟨.ints .i64 4 (fun _=>0),4,32,.ar 4 3 1 false,some (.ar 4 1 (.it .i64))⟩:=⟨fun _=>by kernel_rfl,⟨rfl,rfl,fun _ _=>by simp [Wf,Wfs]⟩,⟨Tryz.underlying66,by kernel_rfl,by kernel_rfl⟩,fun _ h=>by cases h; exact ⟨by kernel_rfl,by kernel_rfl⟩⟩
theorem pe_165 : TyOk Tryz.prog 165 ⟨.agg [.agg [.ints .u64 32 (fun _=>0),.int .u64 0,.int .i64 0,.bool false,.ints .u64 29 (fun _=>0),.int .u64 0],.int .u64 0,.agg [.int .u64 0,.int .u64 0,.int .u64 0,.bool false],.bool false],71,568,.st [(0,65,true),(65,1,false),(66,4,true),(70,1,false)],some (.st [(0,65,true,.st [(0,32,true,.ar 32 1 (.it .u64)),(32,1,false,.it .u64),(33,1,false,.it .i64),(34,1,false,.bl),(35,29,true,.ar 29 1 (.it .u64)),(64,1,false,.it .u64)]),(65,1,false,.it .u64),(66,4,true,.st [(0,1,false,.it .u64),(1,1,false,.it .u64),(2,1,false,.it .u64),(3,1,false,.bl)]),(70,1,false,.bl)])⟩:=⟨fun _=>by kernel_rfl,⟨rfl,rfl,fun _ _=>by simp [Wf,Wfs]⟩,⟨_,Tryz.underlying165,by kernel_rfl⟩,fun _ h=>by cases h; exact ⟨by kernel_rfl,by kernel_rfl⟩⟩
theorem pe_23 : TyOk Tryz.prog 23 ⟨.ints .u64 32 (fun _=>0),32,256,.ar 32 22 1 false,some (.ar 32 1 (.it .u64))⟩:=⟨fun _=>by kernel_rfl,⟨rfl,rfl,fun _ _=>by simp [Wf,Wfs]⟩,⟨Tryz.underlying23,by kernel_rfl,by kernel_rfl⟩,fun _ h=>by cases h; exact ⟨by kernel_rfl,by kernel_rfl⟩⟩
theorem pe_321 : TyOk Tryz.prog 321 ⟨.ints .i64 70 (fun _=>0),70,560,.ar 70 3 1 false,some (.ar 70 1 (.it .i64))⟩:=⟨fun _=>by kernel_rfl,⟨rfl,rfl,fun _ _=>by simp [Wf,Wfs]⟩,⟨Tryz.underlying321,by kernel_rfl,by kernel_rfl⟩,fun _ h=>by cases h; exact ⟨by kernel_rfl,by kernel_rfl⟩⟩
theorem pe_289 : TyOk Tryz.prog 289 ⟨.ints .u64 6 (fun _=>0),6,48,.ar 6 22 1 false,some (.ar 6 1 (.it .u64))⟩:=⟨fun _=>by kernel_rfl,⟨rfl,rfl,fun _ _=>by simp [Wf,Wfs]⟩,⟨Tryz.underlying289,by kernel_rfl,by kernel_rfl⟩,fun _ h=>by cases h; exact ⟨by kernel_rfl,by kernel_rfl⟩⟩
theorem pe_31 : TyOk Tryz.prog 31 ⟨.nilp,1,8,.sc (.pointer 89),none⟩:=⟨fun _=>by kernel_rfl,⟨rfl,rfl,fun _ _=>by simp [Wf,Wfs]⟩,⟨Tryz.underlying31,rfl⟩,fun _ h=>by cases h⟩
theorem pe_81 : TyOk Tryz.prog 81 ⟨.agg [.agg [.ints .u64 32 (fun _=>0),.int .u64 0,.int .i64 0,.bool false,.ints .u64 29 (fun _=>0),.int .u64 0],.nilp,.agg [.agg [],.agg [],.int .i64 0]],67,536,.st [(0,65,true),(65,1,false),(66,1,true)],none⟩:=⟨fun _=>by kernel_rfl,⟨rfl,rfl,fun _ _=>by simp [Wf,Wfs]⟩,⟨_,Tryz.underlying81,by kernel_rfl⟩,fun _ h=>by cases h⟩
theorem pe_79 : TyOk Tryz.prog 79 ⟨.agg [.agg [],.agg [],.int .i64 0],1,8,.st [(0,0,true),(0,0,true),(0,1,false)],none⟩:=⟨fun _=>by kernel_rfl,⟨rfl,rfl,fun _ _=>by simp [Wf,Wfs]⟩,⟨_,Tryz.underlying79,by kernel_rfl⟩,fun _ h=>by cases h⟩
theorem pe_52 : TyOk Tryz.prog 52 ⟨.int .u64 0,1,8,.sc (.int .u64),none⟩:=⟨fun _=>by kernel_rfl,⟨rfl,rfl,fun _ _=>by simp [Wf,Wfs]⟩,⟨Tryz.underlying52,rfl⟩,fun _ h=>by cases h⟩
abbrev PT_W19 : TE:=[(2,⟨.int .i64 0,1,8,.sc (.int .i64),none⟩),(3,⟨.int .i64 0,1,8,.sc (.int .i64),none⟩),(4,⟨.bool false,1,1,.sc (.bool),none⟩),(22,⟨.int .u64 0,1,8,.sc (.int .u64),none⟩),(23,⟨.ints .u64 32 (fun _=>0),32,256,.ar 32 22 1 false,some (.ar 32 1 (.it .u64))⟩),(24,⟨.ints .u64 29 (fun _=>0),29,232,.ar 29 22 1 false,some (.ar 29 1 (.it .u64))⟩),(26,⟨.agg [.ints .u64 32 (fun _=>0),.int .u64 0,.int .i64 0,.bool false,.ints .u64 29 (fun _=>0),.int .u64 0],65,520,.st [(0,32,true),(32,1,false),(33,1,false),(34,1,false),(35,29,true),(64,1,false)],some (.st [(0,32,true,.ar 32 1 (.it .u64)),(32,1,false,.it .u64),(33,1,false,.it .i64),(34,1,false,.bl),(35,29,true,.ar 29 1 (.it .u64)),(64,1,false,.it .u64)])⟩),(31,⟨.nilp,1,8,.sc (.pointer 89),none⟩),(36,⟨.agg [.int .i64 0,.int .i64 0,.int .i64 0,.int .i64 0,.int .i64 0,.int .i64 0],6,48,.st [(0,1,false),(1,1,false),(2,1,false),(3,1,false),(4,1,false),(5,1,false)],some (.st [(0,1,false,.it .i64),(1,1,false,.it .i64),(2,1,false,.it .i64),(3,1,false,.it .i64),(4,1,false,.it .i64),(5,1,false,.it .i64)])⟩),(43,⟨.int .u32 0,1,4,.sc (.int .u32),none⟩),(45,⟨.agg [.int .u64 0,.int .u64 0,.int .u64 0,.bool false],4,32,.st [(0,1,false),(1,1,false),(2,1,false),(3,1,false)],some (.st [(0,1,false,.it .u64),(1,1,false,.it .u64),(2,1,false,.it .u64),(3,1,false,.bl)])⟩),(47,⟨.agg [.int .u64 0,.int .u32 0,.int .i64 0,.int .u64 0,.bool false,.agg [.int .u64 0,.int .u64 0,.int .u64 0,.bool false],.int .i64 0,.bool false,.bool false],12,88,.st [(0,1,false),(1,1,false),(2,1,false),(3,1,false),(4,1,false),(5,4,true),(9,1,false),(10,1,false),(11,1,false)],some (.st [(0,1,false,.it .u64),(1,1,false,.it .u32),(2,1,false,.it .i64),(3,1,false,.it .u64),(4,1,false,.bl),(5,4,true,.st [(0,1,false,.it .u64),(1,1,false,.it .u64),(2,1,false,.it .u64),(3,1,false,.bl)]),(9,1,false,.it .i64),(10,1,false,.bl),(11,1,false,.bl)])⟩),(52,⟨.int .u64 0,1,8,.sc (.int .u64),none⟩),(58,⟨.nils,1,24,.sc (.slice 3),none⟩),(61,⟨.nilp,1,8,.sc (.pointer 127),none⟩),(66,⟨.ints .i64 4 (fun _=>0),4,32,.ar 4 3 1 false,some (.ar 4 1 (.it .i64))⟩),(79,⟨.agg [.agg [],.agg [],.int .i64 0],1,8,.st [(0,0,true),(0,0,true),(0,1,false)],none⟩),(81,⟨.agg [.agg [.ints .u64 32 (fun _=>0),.int .u64 0,.int .i64 0,.bool false,.ints .u64 29 (fun _=>0),.int .u64 0],.nilp,.agg [.agg [],.agg [],.int .i64 0]],67,536,.st [(0,65,true),(65,1,false),(66,1,true)],none⟩),(83,⟨.agg [.agg [],.agg [],.int .u64 0],1,8,.st [(0,0,true),(0,0,true),(0,1,false)],none⟩),(89,⟨.agg [.nilp,.agg [.agg [],.agg [],.int .u64 0],.int .u64 0,.arr 3 4 (fun _=>.agg [.nils,.nils,.int .i64 0])],15,248,.st [(0,1,false),(1,1,true),(2,1,false),(3,12,true)],none⟩),(96,⟨.int .i64 0,1,8,.sc (.int .i64),none⟩),(149,⟨.agg [.int .i64 0,.int .i64 0,.bool false,.int .i64 0,.bool false],5,40,.st [(0,1,false),(1,1,false),(2,1,false),(3,1,false),(4,1,false)],some (.st [(0,1,false,.it .i64),(1,1,false,.it .i64),(2,1,false,.bl),(3,1,false,.it .i64),(4,1,false,.bl)])⟩),(150,⟨.arr 5 8 (fun _=>.agg [.int .i64 0,.int .i64 0,.bool false,.int .i64 0,.bool false]),40,320,.ar 8 149 5 true,none⟩),(165,⟨.agg [.agg [.ints .u64 32 (fun _=>0),.int .u64 0,.int .i64 0,.bool false,.ints .u64 29 (fun _=>0),.int .u64 0],.int .u64 0,.agg [.int .u64 0,.int .u64 0,.int .u64 0,.bool false],.bool false],71,568,.st [(0,65,true),(65,1,false),(66,4,true),(70,1,false)],some (.st [(0,65,true,.st [(0,32,true,.ar 32 1 (.it .u64)),(32,1,false,.it .u64),(33,1,false,.it .i64),(34,1,false,.bl),(35,29,true,.ar 29 1 (.it .u64)),(64,1,false,.it .u64)]),(65,1,false,.it .u64),(66,4,true,.st [(0,1,false,.it .u64),(1,1,false,.it .u64),(2,1,false,.it .u64),(3,1,false,.bl)]),(70,1,false,.bl)])⟩),(172,⟨.agg [.bool false,.bool false,.int .i64 0,.int .i64 0,.int .i64 0,.int .i64 0,.int .i64 0,.int .i64 0,.int .i64 0],9,64,.st [(0,1,false),(1,1,false),(2,1,false),(3,1,false),(4,1,false),(5,1,false),(6,1,false),(7,1,false),(8,1,false)],some (.st [(0,1,false,.bl),(1,1,false,.bl),(2,1,false,.it .i64),(3,1,false,.it .i64),(4,1,false,.it .i64),(5,1,false,.it .i64),(6,1,false,.it .i64),(7,1,false,.it .i64),(8,1,false,.it .i64)])⟩),(191,⟨.agg [.int .i64 0,.int .u64 0],2,16,.st [(0,1,false),(1,1,false)],some (.st [(0,1,false,.it .i64),(1,1,false,.it .u64)])⟩),(192,⟨.arr 2 29 (fun _=>.agg [.int .i64 0,.int .u64 0]),58,464,.ar 29 191 2 true,none⟩),(212,⟨.agg [.int .i64 0,.bool false],2,16,.st [(0,1,false),(1,1,false)],some (.st [(0,1,false,.it .i64),(1,1,false,.bl)])⟩),(214,⟨.agg [.int .i64 0,.int .i64 0,.int .i64 0,.int .i64 0,.int .i64 0],5,40,.st [(0,1,false),(1,1,false),(2,1,false),(3,1,false),(4,1,false)],some (.st [(0,1,false,.it .i64),(1,1,false,.it .i64),(2,1,false,.it .i64),(3,1,false,.it .i64),(4,1,false,.it .i64)])⟩),(218,⟨.agg [.int .i64 0,.int .i64 0,.int .i64 0],3,24,.st [(0,1,false),(1,1,false),(2,1,false)],some (.st [(0,1,false,.it .i64),(1,1,false,.it .i64),(2,1,false,.it .i64)])⟩),(227,⟨.agg [.int .u32 0,.int .i64 0,.int .i64 0,.int .i64 0,.int .i64 0,.int .i64 0],6,48,.st [(0,1,false),(1,1,false),(2,1,false),(3,1,false),(4,1,false),(5,1,false)],some (.st [(0,1,false,.it .u32),(1,1,false,.it .i64),(2,1,false,.it .i64),(3,1,false,.it .i64),(4,1,false,.it .i64),(5,1,false,.it .i64)])⟩),(241,⟨.ints .u64 3 (fun _=>0),3,24,.ar 3 22 1 false,some (.ar 3 1 (.it .u64))⟩),(277,⟨.ints .i64 2 (fun _=>0),2,16,.ar 2 3 1 false,some (.ar 2 1 (.it .i64))⟩),(279,⟨.ints .i64 8 (fun _=>0),8,64,.ar 8 3 1 false,some (.ar 8 1 (.it .i64))⟩),(281,⟨.agg [.bool false,.bool false,.bool false,.bool false,.int .i64 0,.int .i64 0,.int .i64 0],7,32,.st [(0,1,false),(1,1,false),(2,1,false),(3,1,false),(4,1,false),(5,1,false),(6,1,false)],some (.st [(0,1,false,.bl),(1,1,false,.bl),(2,1,false,.bl),(3,1,false,.bl),(4,1,false,.it .i64),(5,1,false,.it .i64),(6,1,false,.it .i64)])⟩),(284,⟨.arr 2 2 (fun _=>.ints .i64 2 (fun _=>0)),4,32,.ar 2 277 2 true,none⟩),(285,⟨.ints .i64 12 (fun _=>0),12,96,.ar 12 3 1 false,some (.ar 12 1 (.it .i64))⟩),(289,⟨.ints .u64 6 (fun _=>0),6,48,.ar 6 22 1 false,some (.ar 6 1 (.it .u64))⟩),(307,⟨.nils,1,24,.sc (.slice 277),none⟩),(308,⟨.nilmap,1,8,.sc (.map 3 3),none⟩),(318,⟨.nilmap,1,8,.sc (.map 43 3),none⟩),(320,⟨.agg [.agg [.agg [],.agg [.agg [],.int .u32 0],.agg [.agg [],.agg [.int .i32 0,.int .u32 0]]],.nilmap],4,24,.st [(0,3,true),(3,1,false)],none⟩),(321,⟨.ints .i64 70 (fun _=>0),70,560,.ar 70 3 1 false,some (.ar 70 1 (.it .i64))⟩),(327,⟨.nilp,1,8,.sc (.pointer 320),none⟩)]
theorem PT_W19_ok : Prg Tryz.prog PT_W19:=⟨(.cons pe_2 (.cons pe_3 (.cons pe_4 (.cons pe_22 (.cons pe_23 (.cons pe_24 (.cons pe_26 (.cons pe_31 (.cons pe_36 (.cons pe_43 (.cons pe_45 (.cons pe_47 (.cons pe_52 (.cons pe_58 (.cons pe_61 (.cons pe_66 (.cons pe_79 (.cons pe_81 (.cons pe_83 (.cons pe_89 (.cons pe_96 (.cons pe_149 (.cons pe_150 (.cons pe_165 (.cons pe_172 (.cons pe_191 (.cons pe_192 (.cons pe_212 (.cons pe_214 (.cons pe_218 (.cons pe_227 (.cons pe_241 (.cons pe_277 (.cons pe_279 (.cons pe_281 (.cons pe_284 (.cons pe_285 (.cons pe_289 (.cons pe_307 (.cons pe_308 (.cons pe_318 (.cons pe_320 (.cons pe_321 (.cons pe_327 (TEok.nil _))))))))))))))))))))))))))))))))))))))))))))),by kernel_rfl⟩
noncomputable abbrev B_z3x {α:Type}:FF α:=byBody PT_W19 [] ⟨2,[]⟩ Tryz.f176
theorem cB_z3x {α:Type} {I:Imm}:OrcOk (α:=α) Tryz.prog I 176 (.full (B_z3x )):=orc_body PT_W19_ok (OOk.nil) ⟨2,[]⟩ Tryz.func176 (by kernel_rfl) (by kernel_rfl) (by kernel_rfl)
noncomputable abbrev PO_z12 {α:Type}:ORC α:=[(176,.full (B_z3x ))]
theorem ok_z12 {α:Type}  (x0:GState) (x1:Bool) (x2:Bool) (k:Int→R α):bodyL PT_W19 (PO_z12 ) [] ⟨2,[]⟩ Tryz.f119 [(GState.sv x0),(.bool x1),(.bool x2)] emp (fun v _=>dR_csr_Pending v k)=p_z12  x0 x1 x2 k:=by kernel_rfl
theorem mk_z12 {α:Type} {I:Imm}:OrcOk (α:=α) Tryz.prog I 119 (.pure (ad_z12 (p_z12 ))):=by
  refine orc_pureK PT_W19_ok (O:=PO_z12 ) (OOk.cons (cB_z3x ) (OOk.nil)) (L:=[]) ⟨2,[]⟩ Tryz.func119 (by kernel_rfl) (by kernel_rfl) (by kernel_rfl) FLOk.nil ?_
  intro args k r hk
  unfold ad_z12 at hk
  split at hk<;>try (cases hk; done)
  obtain ⟨x0,rfl,hk0⟩:=GState.dec_spec hk
  obtain ⟨x1,rfl,hk1⟩:=decB_spec hk0
  obtain ⟨x2,rfl,hk2⟩:=decB_spec hk1
  have hkz:=hk2
  refine ⟨by simp [Ids,Idss],fun v=>dR_csr_Pending v (fun r0=>k (.int .u64 r0)),?_,fun v hv=>?_⟩
  · rw [ok_z12]; exact hkz
  · obtain ⟨r0,rfl,hv1⟩:=dR_csr_Pending_spec hv; exact ⟨hv1,by simp [Ids,Idss]⟩
noncomputable abbrev PO_zv {α:Type} (F_z12:Sg_z12 α):ORC α:=[(119,.pure (ad_z12 F_z12))]
theorem ok_zv {α:Type} (F_z12:Sg_z12 α) (x0:GState) (x1:Bool) (x2:Bool) (k:Int→R α):bodyL PT_W19 (PO_zv F_z12) [] ⟨1,[]⟩ Tryz.f77 [(GState.sv x0),(.bool x1),(.bool x2)] emp (fun v _=>dR_route_Enabled v k)=p_zv F_z12 x0 x1 x2 k:=by kernel_rfl
theorem mk_zv {α:Type} {I:Imm} {F_z12:Sg_z12 α} (h_z12:OrcOk (α:=α) Tryz.prog I 119 (.pure (ad_z12 F_z12))):OrcOk (α:=α) Tryz.prog I 77 (.pure (ad_zv (p_zv F_z12))):=by
  refine orc_pureK PT_W19_ok (O:=PO_zv F_z12) (OOk.cons h_z12 (OOk.nil)) (L:=[]) ⟨1,[]⟩ Tryz.func77 (by kernel_rfl) (by kernel_rfl) (by kernel_rfl) FLOk.nil ?_
  intro args k r hk
  unfold ad_zv at hk
  split at hk<;>try (cases hk; done)
  obtain ⟨x0,rfl,hk0⟩:=GState.dec_spec hk
  obtain ⟨x1,rfl,hk1⟩:=decB_spec hk0
  obtain ⟨x2,rfl,hk2⟩:=decB_spec hk1
  have hkz:=hk2
  refine ⟨by simp [Ids,Idss],fun v=>dR_route_Enabled v (fun r0=>k (.int .u64 r0)),?_,fun v hv=>?_⟩
  · rw [ok_zv]; exact hkz
  · obtain ⟨r0,rfl,hv1⟩:=dR_route_Enabled_spec hv; exact ⟨hv1,by simp [Ids,Idss]⟩
noncomputable abbrev PO_zo {α:Type}:ORC α:=[]
theorem ok_zo {α:Type}  (x0:Int) (x1:Int) (k:Int→Int→R α):bodyL PT_W19 (PO_zo ) [] ⟨1,[]⟩ Tryz.f120 [(.int .i64 x0),(.int .i64 x1)] emp (fun v _=>dR_word_part v k)=p_zo  x0 x1 k:=by kernel_rfl
theorem mk_zo {α:Type} {I:Imm}:OrcOk (α:=α) Tryz.prog I 120 (.pure (ad_zo (p_zo ))):=by
  refine orc_pureK PT_W19_ok (O:=PO_zo ) (OOk.nil) (L:=[]) ⟨1,[]⟩ Tryz.func120 (by kernel_rfl) (by kernel_rfl) (by kernel_rfl) FLOk.nil ?_
  intro args k r hk
  unfold ad_zo at hk
  split at hk<;>try (cases hk; done)
  obtain ⟨x0,rfl,hk0⟩:=decI_spec hk
  obtain ⟨x1,rfl,hk1⟩:=decI_spec hk0
  have hkz:=hk1
  refine ⟨by simp [Ids,Idss],fun v=>dR_word_part v (fun r0 r1=>k (.tuple [(.int .i64 r0),(.int .i64 r1)])),?_,fun v hv=>?_⟩
  · rw [ok_zo]; exact hkz
  · obtain ⟨r0,r1,rfl,hv1⟩:=dR_word_part_spec hv; exact ⟨hv1,by simp [Ids,Idss]⟩
noncomputable abbrev PO_zk {α:Type}:ORC α:=[]
theorem ok_zk {α:Type}  (x0:Int) (k:Int→R α):bodyL PT_W19 (PO_zk ) [] ⟨1,[]⟩ Tryz.f121 [(.int .i64 x0)] emp (fun v _=>dR_word_mask v k)=p_zk  x0 k:=by kernel_rfl
theorem mk_zk {α:Type} {I:Imm}:OrcOk (α:=α) Tryz.prog I 121 (.pure (ad_zk (p_zk ))):=by
  refine orc_pureK PT_W19_ok (O:=PO_zk ) (OOk.nil) (L:=[]) ⟨1,[]⟩ Tryz.func121 (by kernel_rfl) (by kernel_rfl) (by kernel_rfl) FLOk.nil ?_
  intro args k r hk
  unfold ad_zk at hk
  split at hk<;>try (cases hk; done)
  obtain ⟨x0,rfl,hk0⟩:=decI_spec hk
  have hkz:=hk0
  refine ⟨by simp [Ids,Idss],fun v=>dR_word_mask v (fun r0=>k (.int .u64 r0)),?_,fun v hv=>?_⟩
  · rw [ok_zk]; exact hkz
  · obtain ⟨r0,rfl,hv1⟩:=dR_word_mask_spec hv; exact ⟨hv1,by simp [Ids,Idss]⟩
noncomputable abbrev PO_z1 {α:Type} (F_zo:Sg_zo α) (F_zk:Sg_zk α):ORC α:=[(120,.pure (ad_zo F_zo)),(121,.pure (ad_zk F_zk))]
theorem ok_z1 {α:Type} (F_zo:Sg_zo α) (F_zk:Sg_zk α) (x0:Int) (x1:Int) (x2:Int) (k:Int→R α):bodyL PT_W19 (PO_z1 F_zo F_zk) [] ⟨1,[]⟩ Tryz.f79 [(.int .u64 x0),(.int .i64 x1),(.int .i64 x2)] emp (fun v _=>dR_word_Bits v k)=p_z1 F_zo F_zk x0 x1 x2 k:=by kernel_rfl
theorem mk_z1 {α:Type} {I:Imm} {F_zo:Sg_zo α} {F_zk:Sg_zk α} (h_zo:OrcOk (α:=α) Tryz.prog I 120 (.pure (ad_zo F_zo))) (h_zk:OrcOk (α:=α) Tryz.prog I 121 (.pure (ad_zk F_zk))):OrcOk (α:=α) Tryz.prog I 79 (.pure (ad_z1 (p_z1 F_zo F_zk))):=by
  refine orc_pureK PT_W19_ok (O:=PO_z1 F_zo F_zk) (OOk.cons h_zo (OOk.cons h_zk (OOk.nil))) (L:=[]) ⟨1,[]⟩ Tryz.func79 (by kernel_rfl) (by kernel_rfl) (by kernel_rfl) FLOk.nil ?_
  intro args k r hk
  unfold ad_z1 at hk
  split at hk<;>try (cases hk; done)
  obtain ⟨x0,rfl,hk0⟩:=decI_spec hk
  obtain ⟨x1,rfl,hk1⟩:=decI_spec hk0
  obtain ⟨x2,rfl,hk2⟩:=decI_spec hk1
  have hkz:=hk2
  refine ⟨by simp [Ids,Idss],fun v=>dR_word_Bits v (fun r0=>k (.int .u64 r0)),?_,fun v hv=>?_⟩
  · rw [ok_z1]; exact hkz
  · obtain ⟨r0,rfl,hv1⟩:=dR_word_Bits_spec hv; exact ⟨hv1,by simp [Ids,Idss]⟩
noncomputable abbrev PO_z3 {α:Type} (F_z1:Sg_z1 α):ORC α:=[(79,.pure (ad_z1 F_z1))]
theorem ok_z3 {α:Type} (F_z1:Sg_z1 α) (x0:GState) (x1:Int) (x2:Int) (k:Bool→R α):bodyL PT_W19 (PO_z3 F_z1) [] ⟨1,[]⟩ Tryz.f80 [(GState.sv x0),(.int .i64 x1),(.int .i64 x2)] emp (fun v _=>dR_csr_Bit v k)=p_z3 F_z1 x0 x1 x2 k:=by kernel_rfl
theorem mk_z3 {α:Type} {I:Imm} {F_z1:Sg_z1 α} (h_z1:OrcOk (α:=α) Tryz.prog I 79 (.pure (ad_z1 F_z1))):OrcOk (α:=α) Tryz.prog I 80 (.pure (ad_z3 (p_z3 F_z1))):=by
  refine orc_pureK PT_W19_ok (O:=PO_z3 F_z1) (OOk.cons h_z1 (OOk.nil)) (L:=[]) ⟨1,[]⟩ Tryz.func80 (by kernel_rfl) (by kernel_rfl) (by kernel_rfl) FLOk.nil ?_
  intro args k r hk
  unfold ad_z3 at hk
  split at hk<;>try (cases hk; done)
  obtain ⟨x0,rfl,hk0⟩:=GState.dec_spec hk
  obtain ⟨x1,rfl,hk1⟩:=decI_spec hk0
  obtain ⟨x2,rfl,hk2⟩:=decI_spec hk1
  have hkz:=hk2
  refine ⟨by simp [Ids,Idss],fun v=>dR_csr_Bit v (fun r0=>k (.bool r0)),?_,fun v hv=>?_⟩
  · rw [ok_z3]; exact hkz
  · obtain ⟨r0,rfl,hv1⟩:=dR_csr_Bit_spec hv; exact ⟨hv1,by simp [Ids,Idss]⟩
noncomputable abbrev PO_zd {α:Type} (F_z3:Sg_z3 α):ORC α:=[(80,.pure (ad_z3 F_z3))]
theorem ok_zd {α:Type} (F_z3:Sg_z3 α) (x0:GState) (x1:GRoute_turn) (k:Bool→R α):bodyL PT_W19 (PO_zd F_z3) [] ⟨1,[]⟩ Tryz.f81 [(GState.sv x0),(GRoute_turn.sv x1)] emp (fun v _=>dR_route_open v k)=p_zd F_z3 x0 x1 k:=by kernel_rfl
theorem mk_zd {α:Type} {I:Imm} {F_z3:Sg_z3 α} (h_z3:OrcOk (α:=α) Tryz.prog I 80 (.pure (ad_z3 F_z3))):OrcOk (α:=α) Tryz.prog I 81 (.pure (ad_zd (p_zd F_z3))):=by
  refine orc_pureK PT_W19_ok (O:=PO_zd F_z3) (OOk.cons h_z3 (OOk.nil)) (L:=[]) ⟨1,[]⟩ Tryz.func81 (by kernel_rfl) (by kernel_rfl) (by kernel_rfl) FLOk.nil ?_
  intro args k r hk
  unfold ad_zd at hk
  split at hk<;>try (cases hk; done)
  obtain ⟨x0,rfl,hk0⟩:=GState.dec_spec hk
  obtain ⟨x1,rfl,hk1⟩:=GRoute_turn.dec_spec hk0
  have hkz:=hk1
  refine ⟨by simp [Ids,Idss],fun v=>dR_route_open v (fun r0=>k (.bool r0)),?_,fun v hv=>?_⟩
  · rw [ok_zd]; exact hkz
  · obtain ⟨r0,rfl,hv1⟩:=dR_route_open_spec hv; exact ⟨hv1,by simp [Ids,Idss]⟩
noncomputable abbrev B_z3y {α:Type} (F_zv:Sg_zv α) (F_z1:Sg_z1 α) (F_z3:Sg_z3 α) (F_zd:Sg_zd α):FF α:=byBody PT_W19 [] ⟨9,[]⟩ Tryz.f78
theorem cB_z3y {α:Type} {I:Imm} {F_zv:Sg_zv α} {F_z1:Sg_z1 α} {F_z3:Sg_z3 α} {F_zd:Sg_zd α} (h_zv:OrcOk (α:=α) Tryz.prog I 77 (.pure (ad_zv F_zv))) (h_z1:OrcOk (α:=α) Tryz.prog I 79 (.pure (ad_z1 F_z1))) (h_z3:OrcOk (α:=α) Tryz.prog I 80 (.pure (ad_z3 F_z3))) (h_zd:OrcOk (α:=α) Tryz.prog I 81 (.pure (ad_zd F_zd))):OrcOk (α:=α) Tryz.prog I 78 (.full (B_z3y F_zv F_z1 F_z3 F_zd)):=orc_body PT_W19_ok (OOk.nil) ⟨9,[]⟩ Tryz.func78 (by kernel_rfl) (by kernel_rfl) (by kernel_rfl)
noncomputable abbrev PO_z1i {α:Type} (F_zv:Sg_zv α) (F_z1:Sg_z1 α) (F_z3:Sg_z3 α) (F_zd:Sg_zd α):ORC α:=[(77,.pure (ad_zv F_zv)),(78,.full (B_z3y F_zv F_z1 F_z3 F_zd)),(79,.pure (ad_z1 F_z1)),(80,.pure (ad_z3 F_z3)),(81,.pure (ad_zd F_zd))]
theorem ok_z1i {α:Type} (F_zv:Sg_zv α) (F_z1:Sg_z1 α) (F_z3:Sg_z3 α) (F_zd:Sg_zd α) (x0:GState) (x1:Bool) (x2:Bool) (k:Int→Int→Bool→Bool→R α):bodyL PT_W19 (PO_z1i F_zv F_z1 F_z3 F_zd) [] ⟨9,[(3,[3,10,18,19])]⟩ Tryz.f44 [(GState.sv x0),(.bool x1),(.bool x2)] emp (fun v _=>dR_route_Interrupt v k)=p_z1i F_zv F_z1 F_z3 F_zd x0 x1 x2 k:=by kernel_rfl
theorem mk_z1i {α:Type} {I:Imm} {F_zv:Sg_zv α} {F_z1:Sg_z1 α} {F_z3:Sg_z3 α} {F_zd:Sg_zd α} (h_zv:OrcOk (α:=α) Tryz.prog I 77 (.pure (ad_zv F_zv))) (h_z1:OrcOk (α:=α) Tryz.prog I 79 (.pure (ad_z1 F_z1))) (h_z3:OrcOk (α:=α) Tryz.prog I 80 (.pure (ad_z3 F_z3))) (h_zd:OrcOk (α:=α) Tryz.prog I 81 (.pure (ad_zd F_zd))):OrcOk (α:=α) Tryz.prog I 44 (.pure (ad_z1i (p_z1i F_zv F_z1 F_z3 F_zd))):=by
  refine orc_pureK PT_W19_ok (O:=PO_z1i F_zv F_z1 F_z3 F_zd) (OOk.cons h_zv (OOk.cons (cB_z3y h_zv h_z1 h_z3 h_zd) (OOk.cons h_z1 (OOk.cons h_z3 (OOk.cons h_zd (OOk.nil)))))) (L:=[]) ⟨9,[(3,[3,10,18,19])]⟩ Tryz.func44 (by kernel_rfl) (by kernel_rfl) (by kernel_rfl) FLOk.nil ?_
  intro args k r hk
  unfold ad_z1i at hk
  split at hk<;>try (cases hk; done)
  obtain ⟨x0,rfl,hk0⟩:=GState.dec_spec hk
  obtain ⟨x1,rfl,hk1⟩:=decB_spec hk0
  obtain ⟨x2,rfl,hk2⟩:=decB_spec hk1
  have hkz:=hk2
  refine ⟨by simp [Ids,Idss],fun v=>dR_route_Interrupt v (fun r0 r1 r2 r3=>k (.tuple [(.int .u64 r0),(.int .i64 r1),(.bool r2),(.bool r3)])),?_,fun v hv=>?_⟩
  · rw [ok_z1i]; exact hkz
  · obtain ⟨r0,r1,r2,r3,rfl,hv1⟩:=dR_route_Interrupt_spec hv; exact ⟨hv1,by simp [Ids,Idss]⟩
noncomputable abbrev PO_zx {α:Type}:ORC α:=[]
theorem ok_zx {α:Type}  (x0:GTrap_told) (x1:GState) (x2:GFault) (k:GState→R α):bodyL PT_W19 (PO_zx ) [] ⟨1,[]⟩ Tryz.f123 [(GTrap_told.sv x0),(GState.sv x1),(GFault.sv x2)] emp (fun v _=>dR_trap_told_enter v k)=p_zx  x0 x1 x2 k:=by kernel_rfl
theorem mk_zx {α:Type} {I:Imm}:OrcOk (α:=α) Tryz.prog I 123 (.pure (ad_zx (p_zx ))):=by
  refine orc_pureK PT_W19_ok (O:=PO_zx ) (OOk.nil) (L:=[]) ⟨1,[]⟩ Tryz.func123 (by kernel_rfl) (by kernel_rfl) (by kernel_rfl) FLOk.nil ?_
  intro args k r hk
  unfold ad_zx at hk
  split at hk<;>try (cases hk; done)
  obtain ⟨x0,rfl,hk0⟩:=GTrap_told.dec_spec hk
  obtain ⟨x1,rfl,hk1⟩:=GState.dec_spec hk0
  obtain ⟨x2,rfl,hk2⟩:=GFault.dec_spec hk1
  have hkz:=hk2
  refine ⟨by simp [Ids,Idss],fun v=>dR_trap_told_enter v (fun r0=>k (GState.sv r0)),?_,fun v hv=>?_⟩
  · rw [ok_zx]; exact hkz
  · obtain ⟨r0,rfl,hv1⟩:=dR_trap_told_enter_spec hv; exact ⟨hv1,by simp [Ids,Idss]⟩
noncomputable abbrev PO_ze {α:Type} (F_zo:Sg_zo α) (F_zk:Sg_zk α):ORC α:=[(120,.pure (ad_zo F_zo)),(121,.pure (ad_zk F_zk))]
theorem ok_ze {α:Type} (F_zo:Sg_zo α) (F_zk:Sg_zk α) (x0:Int) (x1:Int) (x2:Int) (x3:Int) (k:Int→R α):bodyL PT_W19 (PO_ze F_zo F_zk) [] ⟨1,[]⟩ Tryz.f113 [(.int .u64 x0),(.int .i64 x1),(.int .i64 x2),(.int .u64 x3)] emp (fun v _=>dR_word_Set v k)=p_ze F_zo F_zk x0 x1 x2 x3 k:=by kernel_rfl
theorem mk_ze {α:Type} {I:Imm} {F_zo:Sg_zo α} {F_zk:Sg_zk α} (h_zo:OrcOk (α:=α) Tryz.prog I 120 (.pure (ad_zo F_zo))) (h_zk:OrcOk (α:=α) Tryz.prog I 121 (.pure (ad_zk F_zk))):OrcOk (α:=α) Tryz.prog I 113 (.pure (ad_ze (p_ze F_zo F_zk))):=by
  refine orc_pureK PT_W19_ok (O:=PO_ze F_zo F_zk) (OOk.cons h_zo (OOk.cons h_zk (OOk.nil))) (L:=[]) ⟨1,[]⟩ Tryz.func113 (by kernel_rfl) (by kernel_rfl) (by kernel_rfl) FLOk.nil ?_
  intro args k r hk
  unfold ad_ze at hk
  split at hk<;>try (cases hk; done)
  obtain ⟨x0,rfl,hk0⟩:=decI_spec hk
  obtain ⟨x1,rfl,hk1⟩:=decI_spec hk0
  obtain ⟨x2,rfl,hk2⟩:=decI_spec hk1
  obtain ⟨x3,rfl,hk3⟩:=decI_spec hk2
  have hkz:=hk3
  refine ⟨by simp [Ids,Idss],fun v=>dR_word_Set v (fun r0=>k (.int .u64 r0)),?_,fun v hv=>?_⟩
  · rw [ok_ze]; exact hkz
  · obtain ⟨r0,rfl,hv1⟩:=dR_word_Set_spec hv; exact ⟨hv1,by simp [Ids,Idss]⟩
noncomputable abbrev PO_zf {α:Type} (F_ze:Sg_ze α):ORC α:=[(113,.pure (ad_ze F_ze))]
theorem ok_zf {α:Type} (F_ze:Sg_ze α) (x0:GState) (x1:Int) (x2:Int) (x3:Bool) (k:GState→R α):bodyL PT_W19 (PO_zf F_ze) [] ⟨1,[]⟩ Tryz.f124 [(GState.sv x0),(.int .i64 x1),(.int .i64 x2),(.bool x3)] emp (fun v _=>dR_csr_Put v k)=p_zf F_ze x0 x1 x2 x3 k:=by kernel_rfl
theorem mk_zf {α:Type} {I:Imm} {F_ze:Sg_ze α} (h_ze:OrcOk (α:=α) Tryz.prog I 113 (.pure (ad_ze F_ze))):OrcOk (α:=α) Tryz.prog I 124 (.pure (ad_zf (p_zf F_ze))):=by
  refine orc_pureK PT_W19_ok (O:=PO_zf F_ze) (OOk.cons h_ze (OOk.nil)) (L:=[]) ⟨1,[]⟩ Tryz.func124 (by kernel_rfl) (by kernel_rfl) (by kernel_rfl) FLOk.nil ?_
  intro args k r hk
  unfold ad_zf at hk
  split at hk<;>try (cases hk; done)
  obtain ⟨x0,rfl,hk0⟩:=GState.dec_spec hk
  obtain ⟨x1,rfl,hk1⟩:=decI_spec hk0
  obtain ⟨x2,rfl,hk2⟩:=decI_spec hk1
  obtain ⟨x3,rfl,hk3⟩:=decB_spec hk2
  have hkz:=hk3
  refine ⟨by simp [Ids,Idss],fun v=>dR_csr_Put v (fun r0=>k (GState.sv r0)),?_,fun v hv=>?_⟩
  · rw [ok_zf]; exact hkz
  · obtain ⟨r0,rfl,hv1⟩:=dR_csr_Put_spec hv; exact ⟨hv1,by simp [Ids,Idss]⟩
noncomputable abbrev PO_zp {α:Type} (F_z3:Sg_z3 α) (F_zf:Sg_zf α):ORC α:=[(80,.pure (ad_z3 F_z3)),(124,.pure (ad_zf F_zf))]
theorem ok_zp {α:Type} (F_z3:Sg_z3 α) (F_zf:Sg_zf α) (x0:GTrap_kept) (x1:GState) (k:GState→R α):bodyL PT_W19 (PO_zp F_z3 F_zf) [] ⟨1,[]⟩ Tryz.f125 [(GTrap_kept.sv x0),(GState.sv x1)] emp (fun v _=>dR_trap_kept_enter v k)=p_zp F_z3 F_zf x0 x1 k:=by kernel_rfl
theorem mk_zp {α:Type} {I:Imm} {F_z3:Sg_z3 α} {F_zf:Sg_zf α} (h_z3:OrcOk (α:=α) Tryz.prog I 80 (.pure (ad_z3 F_z3))) (h_zf:OrcOk (α:=α) Tryz.prog I 124 (.pure (ad_zf F_zf))):OrcOk (α:=α) Tryz.prog I 125 (.pure (ad_zp (p_zp F_z3 F_zf))):=by
  refine orc_pureK PT_W19_ok (O:=PO_zp F_z3 F_zf) (OOk.cons h_z3 (OOk.cons h_zf (OOk.nil))) (L:=[]) ⟨1,[]⟩ Tryz.func125 (by kernel_rfl) (by kernel_rfl) (by kernel_rfl) FLOk.nil ?_
  intro args k r hk
  unfold ad_zp at hk
  split at hk<;>try (cases hk; done)
  obtain ⟨x0,rfl,hk0⟩:=GTrap_kept.dec_spec hk
  obtain ⟨x1,rfl,hk1⟩:=GState.dec_spec hk0
  have hkz:=hk1
  refine ⟨by simp [Ids,Idss],fun v=>dR_trap_kept_enter v (fun r0=>k (GState.sv r0)),?_,fun v hv=>?_⟩
  · rw [ok_zp]; exact hkz
  · obtain ⟨r0,rfl,hv1⟩:=dR_trap_kept_enter_spec hv; exact ⟨hv1,by simp [Ids,Idss]⟩
noncomputable abbrev PO_zz {α:Type} (F_zf:Sg_zf α) (F_zp:Sg_zp α):ORC α:=[(124,.pure (ad_zf F_zf)),(125,.pure (ad_zp F_zp))]
theorem ok_zz {α:Type} (F_zf:Sg_zf α) (F_zp:Sg_zp α) (x0:GState) (x1:Int) (x2:Int) (k:GState→R α):bodyL PT_W19 (PO_zz F_zf F_zp) [] ⟨1,[]⟩ Tryz.f126 [(GState.sv x0),(.int .i64 x1),(.int .i64 x2)] emp (fun v _=>dR_trap_lower v k)=p_zz F_zf F_zp x0 x1 x2 k:=by kernel_rfl
theorem mk_zz {α:Type} {I:Imm} {F_zf:Sg_zf α} {F_zp:Sg_zp α} (h_zf:OrcOk (α:=α) Tryz.prog I 124 (.pure (ad_zf F_zf))) (h_zp:OrcOk (α:=α) Tryz.prog I 125 (.pure (ad_zp F_zp))):OrcOk (α:=α) Tryz.prog I 126 (.pure (ad_zz (p_zz F_zf F_zp))):=by
  refine orc_pureK PT_W19_ok (O:=PO_zz F_zf F_zp) (OOk.cons h_zf (OOk.cons h_zp (OOk.nil))) (L:=[]) ⟨1,[]⟩ Tryz.func126 (by kernel_rfl) (by kernel_rfl) (by kernel_rfl) FLOk.nil ?_
  intro args k r hk
  unfold ad_zz at hk
  split at hk<;>try (cases hk; done)
  obtain ⟨x0,rfl,hk0⟩:=GState.dec_spec hk
  obtain ⟨x1,rfl,hk1⟩:=decI_spec hk0
  obtain ⟨x2,rfl,hk2⟩:=decI_spec hk1
  have hkz:=hk2
  refine ⟨by simp [Ids,Idss],fun v=>dR_trap_lower v (fun r0=>k (GState.sv r0)),?_,fun v hv=>?_⟩
  · rw [ok_zz]; exact hkz
  · obtain ⟨r0,rfl,hv1⟩:=dR_trap_lower_spec hv; exact ⟨hv1,by simp [Ids,Idss]⟩
noncomputable abbrev PO_zq {α:Type} (F_zx:Sg_zx α) (F_ze:Sg_ze α) (F_zf:Sg_zf α) (F_zp:Sg_zp α) (F_zz:Sg_zz α):ORC α:=[(123,.pure (ad_zx F_zx)),(113,.pure (ad_ze F_ze)),(124,.pure (ad_zf F_zf)),(125,.pure (ad_zp F_zp)),(126,.pure (ad_zz F_zz))]
theorem ok_zq {α:Type} (F_zx:Sg_zx α) (F_ze:Sg_ze α) (F_zf:Sg_zf α) (F_zp:Sg_zp α) (F_zz:Sg_zz α) (x0:GState) (x1:GFault) (x2:Int) (x3:Bool) (k:GState→R α):bodyL PT_W19 (PO_zq F_zx F_ze F_zf F_zp F_zz) [] ⟨1,[]⟩ Tryz.f83 [(GState.sv x0),(GFault.sv x1),(.int .i64 x2),(.bool x3)] emp (fun v _=>dR_trap_Enter v k)=p_zq F_zx F_ze F_zf F_zp F_zz x0 x1 x2 x3 k:=by kernel_rfl
theorem mk_zq {α:Type} {I:Imm} {F_zx:Sg_zx α} {F_ze:Sg_ze α} {F_zf:Sg_zf α} {F_zp:Sg_zp α} {F_zz:Sg_zz α} (h_zx:OrcOk (α:=α) Tryz.prog I 123 (.pure (ad_zx F_zx))) (h_ze:OrcOk (α:=α) Tryz.prog I 113 (.pure (ad_ze F_ze))) (h_zf:OrcOk (α:=α) Tryz.prog I 124 (.pure (ad_zf F_zf))) (h_zp:OrcOk (α:=α) Tryz.prog I 125 (.pure (ad_zp F_zp))) (h_zz:OrcOk (α:=α) Tryz.prog I 126 (.pure (ad_zz F_zz))):OrcOk (α:=α) Tryz.prog I 83 (.pure (ad_zq (p_zq F_zx F_ze F_zf F_zp F_zz))):=by
  refine orc_pureK PT_W19_ok (O:=PO_zq F_zx F_ze F_zf F_zp F_zz) (OOk.cons h_zx (OOk.cons h_ze (OOk.cons h_zf (OOk.cons h_zp (OOk.cons h_zz (OOk.nil)))))) (L:=[]) ⟨1,[]⟩ Tryz.func83 (by kernel_rfl) (by kernel_rfl) (by kernel_rfl) FLOk.nil ?_
  intro args k r hk
  unfold ad_zq at hk
  split at hk<;>try (cases hk; done)
  obtain ⟨x0,rfl,hk0⟩:=GState.dec_spec hk
  obtain ⟨x1,rfl,hk1⟩:=GFault.dec_spec hk0
  obtain ⟨x2,rfl,hk2⟩:=decI_spec hk1
  obtain ⟨x3,rfl,hk3⟩:=decB_spec hk2
  have hkz:=hk3
  refine ⟨by simp [Ids,Idss],fun v=>dR_trap_Enter v (fun r0=>k (GState.sv r0)),?_,fun v hv=>?_⟩
  · rw [ok_zq]; exact hkz
  · obtain ⟨r0,rfl,hv1⟩:=dR_trap_Enter_spec hv; exact ⟨hv1,by simp [Ids,Idss]⟩
noncomputable abbrev PO_z1j {α:Type} (F_zq:Sg_zq α):ORC α:=[(83,.pure (ad_zq F_zq))]
theorem ok_z1j {α:Type} (F_zq:Sg_zq α) (x0:GState) (x1:Int) (x2:Int) (x3:Bool) (k:GState→GRetire→R α):bodyL PT_W19 (PO_z1j F_zq) [] ⟨1,[]⟩ Tryz.f46 [(GState.sv x0),(.int .u64 x1),(.int .i64 x2),(.bool x3)] emp (fun v _=>dR_exec_Interrupt v k)=p_z1j F_zq x0 x1 x2 x3 k:=by kernel_rfl
theorem mk_z1j {α:Type} {I:Imm} {F_zq:Sg_zq α} (h_zq:OrcOk (α:=α) Tryz.prog I 83 (.pure (ad_zq F_zq))):OrcOk (α:=α) Tryz.prog I 46 (.pure (ad_z1j (p_z1j F_zq))):=by
  refine orc_pureK PT_W19_ok (O:=PO_z1j F_zq) (OOk.cons h_zq (OOk.nil)) (L:=[]) ⟨1,[]⟩ Tryz.func46 (by kernel_rfl) (by kernel_rfl) (by kernel_rfl) FLOk.nil ?_
  intro args k r hk
  unfold ad_z1j at hk
  split at hk<;>try (cases hk; done)
  obtain ⟨x0,rfl,hk0⟩:=GState.dec_spec hk
  obtain ⟨x1,rfl,hk1⟩:=decI_spec hk0
  obtain ⟨x2,rfl,hk2⟩:=decI_spec hk1
  obtain ⟨x3,rfl,hk3⟩:=decB_spec hk2
  have hkz:=hk3
  refine ⟨by simp [Ids,Idss],fun v=>dR_exec_Interrupt v (fun r0 r1=>k (.tuple [(GState.sv r0),(GRetire.sv r1)])),?_,fun v hv=>?_⟩
  · rw [ok_z1j]; exact hkz
  · obtain ⟨r0,r1,rfl,hv1⟩:=dR_exec_Interrupt_spec hv; exact ⟨hv1,by simp [Ids,Idss]⟩
noncomputable abbrev PO_z10 {α:Type} (F_z1:Sg_z1 α):ORC α:=[(79,.pure (ad_z1 F_z1))]
theorem ok_z10 {α:Type} (F_z1:Sg_z1 α) (x0:GState) (x1:Int) (x2:Int) (k:Bool→R α):bodyL PT_W19 (PO_z10 F_z1) [] ⟨1,[]⟩ Tryz.f130 [(GState.sv x0),(.int .i64 x1),(.int .u64 x2)] emp (fun v _=>dR_route_has v k)=p_z10 F_z1 x0 x1 x2 k:=by kernel_rfl
theorem mk_z10 {α:Type} {I:Imm} {F_z1:Sg_z1 α} (h_z1:OrcOk (α:=α) Tryz.prog I 79 (.pure (ad_z1 F_z1))):OrcOk (α:=α) Tryz.prog I 130 (.pure (ad_z10 (p_z10 F_z1))):=by
  refine orc_pureK PT_W19_ok (O:=PO_z10 F_z1) (OOk.cons h_z1 (OOk.nil)) (L:=[]) ⟨1,[]⟩ Tryz.func130 (by kernel_rfl) (by kernel_rfl) (by kernel_rfl) FLOk.nil ?_
  intro args k r hk
  unfold ad_z10 at hk
  split at hk<;>try (cases hk; done)
  obtain ⟨x0,rfl,hk0⟩:=GState.dec_spec hk
  obtain ⟨x1,rfl,hk1⟩:=decI_spec hk0
  obtain ⟨x2,rfl,hk2⟩:=decI_spec hk1
  have hkz:=hk2
  refine ⟨by simp [Ids,Idss],fun v=>dR_route_has v (fun r0=>k (.bool r0)),?_,fun v hv=>?_⟩
  · rw [ok_z10]; exact hkz
  · obtain ⟨r0,rfl,hv1⟩:=dR_route_has_spec hv; exact ⟨hv1,by simp [Ids,Idss]⟩
noncomputable abbrev PO_z13 {α:Type} (F_z10:Sg_z10 α):ORC α:=[(130,.pure (ad_z10 F_z10))]
theorem ok_z13 {α:Type} (F_z10:Sg_z10 α) (x0:GState) (x1:Int) (k:Int→Bool→R α):bodyL PT_W19 (PO_z13 F_z10) [] ⟨1,[]⟩ Tryz.f85 [(GState.sv x0),(.int .u64 x1)] emp (fun v _=>dR_route_Exception v k)=p_z13 F_z10 x0 x1 k:=by kernel_rfl
theorem mk_z13 {α:Type} {I:Imm} {F_z10:Sg_z10 α} (h_z10:OrcOk (α:=α) Tryz.prog I 130 (.pure (ad_z10 F_z10))):OrcOk (α:=α) Tryz.prog I 85 (.pure (ad_z13 (p_z13 F_z10))):=by
  refine orc_pureK PT_W19_ok (O:=PO_z13 F_z10) (OOk.cons h_z10 (OOk.nil)) (L:=[]) ⟨1,[]⟩ Tryz.func85 (by kernel_rfl) (by kernel_rfl) (by kernel_rfl) FLOk.nil ?_
  intro args k r hk
  unfold ad_z13 at hk
  split at hk<;>try (cases hk; done)
  obtain ⟨x0,rfl,hk0⟩:=GState.dec_spec hk
  obtain ⟨x1,rfl,hk1⟩:=decI_spec hk0
  have hkz:=hk1
  refine ⟨by simp [Ids,Idss],fun v=>dR_route_Exception v (fun r0 r1=>k (.tuple [(.int .i64 r0),(.bool r1)])),?_,fun v hv=>?_⟩
  · rw [ok_z13]; exact hkz
  · obtain ⟨r0,r1,rfl,hv1⟩:=dR_route_Exception_spec hv; exact ⟨hv1,by simp [Ids,Idss]⟩
noncomputable abbrev PO_z1h {α:Type} (F_z13:Sg_z13 α) (F_zq:Sg_zq α):ORC α:=[(85,.pure (ad_z13 F_z13)),(83,.pure (ad_zq F_zq))]
theorem ok_z1h {α:Type} (F_z13:Sg_z13 α) (F_zq:Sg_zq α) (x0:GState) (x1:GFault) (x2:Int) (k:GState→GRetire→R α):bodyL PT_W19 (PO_z1h F_z13 F_zq) [] ⟨1,[]⟩ Tryz.f48 [(GState.sv x0),(GFault.sv x1),(.int .u32 x2)] emp (fun v _=>dR_exec_Fault v k)=p_z1h F_z13 F_zq x0 x1 x2 k:=by kernel_rfl
theorem mk_z1h {α:Type} {I:Imm} {F_z13:Sg_z13 α} {F_zq:Sg_zq α} (h_z13:OrcOk (α:=α) Tryz.prog I 85 (.pure (ad_z13 F_z13))) (h_zq:OrcOk (α:=α) Tryz.prog I 83 (.pure (ad_zq F_zq))):OrcOk (α:=α) Tryz.prog I 48 (.pure (ad_z1h (p_z1h F_z13 F_zq))):=by
  refine orc_pureK PT_W19_ok (O:=PO_z1h F_z13 F_zq) (OOk.cons h_z13 (OOk.cons h_zq (OOk.nil))) (L:=[]) ⟨1,[]⟩ Tryz.func48 (by kernel_rfl) (by kernel_rfl) (by kernel_rfl) FLOk.nil ?_
  intro args k r hk
  unfold ad_z1h at hk
  split at hk<;>try (cases hk; done)
  obtain ⟨x0,rfl,hk0⟩:=GState.dec_spec hk
  obtain ⟨x1,rfl,hk1⟩:=GFault.dec_spec hk0
  obtain ⟨x2,rfl,hk2⟩:=decI_spec hk1
  have hkz:=hk2
  refine ⟨by simp [Ids,Idss],fun v=>dR_exec_Fault v (fun r0 r1=>k (.tuple [(GState.sv r0),(GRetire.sv r1)])),?_,fun v hv=>?_⟩
  · rw [ok_z1h]; exact hkz
  · obtain ⟨r0,r1,rfl,hv1⟩:=dR_exec_Fault_spec hv; exact ⟨hv1,by simp [Ids,Idss]⟩
noncomputable abbrev B_z3z {α:Type} (F_z1:Sg_z1 α):FF α:=byBody PT_W19 [(79,.pure (ad_z1 F_z1))] ⟨1,[]⟩ Tryz.f189
theorem cB_z3z {α:Type} {I:Imm} {F_z1:Sg_z1 α} (h_z1:OrcOk (α:=α) Tryz.prog I 79 (.pure (ad_z1 F_z1))):OrcOk (α:=α) Tryz.prog I 189 (.full (B_z3z F_z1)):=orc_body PT_W19_ok (OOk.cons h_z1 (OOk.nil)) ⟨1,[]⟩ Tryz.func189 (by kernel_rfl) (by kernel_rfl) (by kernel_rfl)
noncomputable abbrev PO_z14 {α:Type} (F_z1:Sg_z1 α):ORC α:=[(189,.full (B_z3z F_z1))]
theorem ok_z14 {α:Type} (F_z1:Sg_z1 α) (x0:Int) (k:GDecode_parts→R α):bodyL PT_W19 (PO_z14 F_z1) [] ⟨1,[]⟩ Tryz.f131 [(.int .u32 x0)] emp (fun v _=>dR_decode_of v k)=p_z14 F_z1 x0 k:=by kernel_rfl
theorem mk_z14 {α:Type} {I:Imm} {F_z1:Sg_z1 α} (h_z1:OrcOk (α:=α) Tryz.prog I 79 (.pure (ad_z1 F_z1))):OrcOk (α:=α) Tryz.prog I 131 (.pure (ad_z14 (p_z14 F_z1))):=by
  refine orc_pureK PT_W19_ok (O:=PO_z14 F_z1) (OOk.cons (cB_z3z h_z1) (OOk.nil)) (L:=[]) ⟨1,[]⟩ Tryz.func131 (by kernel_rfl) (by kernel_rfl) (by kernel_rfl) FLOk.nil ?_
  intro args k r hk
  unfold ad_z14 at hk
  split at hk<;>try (cases hk; done)
  obtain ⟨x0,rfl,hk0⟩:=decI_spec hk
  have hkz:=hk0
  refine ⟨by simp [Ids,Idss],fun v=>dR_decode_of v (fun r0=>k (GDecode_parts.sv r0)),?_,fun v hv=>?_⟩
  · rw [ok_z14]; exact hkz
  · obtain ⟨r0,rfl,hv1⟩:=dR_decode_of_spec hv; exact ⟨hv1,by simp [Ids,Idss]⟩
noncomputable abbrev PO_z6 {α:Type} (F_z1:Sg_z1 α):ORC α:=[(79,.pure (ad_z1 F_z1))]
theorem ok_z6 {α:Type} (F_z1:Sg_z1 α) (x0:Int) (k:Int→R α):bodyL PT_W19 (PO_z6 F_z1) [] ⟨1,[]⟩ Tryz.f190 [(.int .u32 x0)] emp (fun v _=>dR_decode_Opcode v k)=p_z6 F_z1 x0 k:=by kernel_rfl
theorem mk_z6 {α:Type} {I:Imm} {F_z1:Sg_z1 α} (h_z1:OrcOk (α:=α) Tryz.prog I 79 (.pure (ad_z1 F_z1))):OrcOk (α:=α) Tryz.prog I 190 (.pure (ad_z6 (p_z6 F_z1))):=by
  refine orc_pureK PT_W19_ok (O:=PO_z6 F_z1) (OOk.cons h_z1 (OOk.nil)) (L:=[]) ⟨1,[]⟩ Tryz.func190 (by kernel_rfl) (by kernel_rfl) (by kernel_rfl) FLOk.nil ?_
  intro args k r hk
  unfold ad_z6 at hk
  split at hk<;>try (cases hk; done)
  obtain ⟨x0,rfl,hk0⟩:=decI_spec hk
  have hkz:=hk0
  refine ⟨by simp [Ids,Idss],fun v=>dR_decode_Opcode v (fun r0=>k (.int .i64 r0)),?_,fun v hv=>?_⟩
  · rw [ok_z6]; exact hkz
  · obtain ⟨r0,rfl,hv1⟩:=dR_decode_Opcode_spec hv; exact ⟨hv1,by simp [Ids,Idss]⟩
noncomputable abbrev PO_z7 {α:Type}:ORC α:=[]
theorem ok_z7 {α:Type}  (x0:Int) (x1:Int) (k:Int→R α):bodyL PT_W19 (PO_z7 ) [] ⟨1,[]⟩ Tryz.f212 [(.int .u64 x0),(.int .i64 x1)] emp (fun v _=>dR_word_Sext v k)=p_z7  x0 x1 k:=by kernel_rfl
theorem mk_z7 {α:Type} {I:Imm}:OrcOk (α:=α) Tryz.prog I 212 (.pure (ad_z7 (p_z7 ))):=by
  refine orc_pureK PT_W19_ok (O:=PO_z7 ) (OOk.nil) (L:=[]) ⟨1,[]⟩ Tryz.func212 (by kernel_rfl) (by kernel_rfl) (by kernel_rfl) FLOk.nil ?_
  intro args k r hk
  unfold ad_z7 at hk
  split at hk<;>try (cases hk; done)
  obtain ⟨x0,rfl,hk0⟩:=decI_spec hk
  obtain ⟨x1,rfl,hk1⟩:=decI_spec hk0
  have hkz:=hk1
  refine ⟨by simp [Ids,Idss],fun v=>dR_word_Sext v (fun r0=>k (.int .u64 r0)),?_,fun v hv=>?_⟩
  · rw [ok_z7]; exact hkz
  · obtain ⟨r0,rfl,hv1⟩:=dR_word_Sext_spec hv; exact ⟨hv1,by simp [Ids,Idss]⟩
noncomputable abbrev B_z40 {α:Type} (F_z1:Sg_z1 α) (F_z7:Sg_z7 α):FF α:=byBody PT_W19 [(79,.pure (ad_z1 F_z1)),(212,.pure (ad_z7 F_z7))] ⟨2,[]⟩ Tryz.f191
theorem cB_z40 {α:Type} {I:Imm} {F_z1:Sg_z1 α} {F_z7:Sg_z7 α} (h_z1:OrcOk (α:=α) Tryz.prog I 79 (.pure (ad_z1 F_z1))) (h_z7:OrcOk (α:=α) Tryz.prog I 212 (.pure (ad_z7 F_z7))):OrcOk (α:=α) Tryz.prog I 191 (.full (B_z40 F_z1 F_z7)):=orc_body PT_W19_ok (OOk.cons h_z1 (OOk.cons h_z7 (OOk.nil))) ⟨2,[]⟩ Tryz.func191 (by kernel_rfl) (by kernel_rfl) (by kernel_rfl)
noncomputable abbrev PO_z9 {α:Type} (F_z1:Sg_z1 α) (F_z7:Sg_z7 α):ORC α:=[(191,.full (B_z40 F_z1 F_z7))]
theorem ok_z9 {α:Type} (F_z1:Sg_z1 α) (F_z7:Sg_z7 α) (x0:GDecode_parts) (x1:Int) (k:GInsn→R α):bodyL PT_W19 (PO_z9 F_z1 F_z7) [] ⟨2,[]⟩ Tryz.f192 [(GDecode_parts.sv x0),(.int .i64 x1)] emp (fun v _=>dR_decode_parts_immediate v k)=p_z9 F_z1 F_z7 x0 x1 k:=by kernel_rfl
theorem mk_z9 {α:Type} {I:Imm} {F_z1:Sg_z1 α} {F_z7:Sg_z7 α} (h_z1:OrcOk (α:=α) Tryz.prog I 79 (.pure (ad_z1 F_z1))) (h_z7:OrcOk (α:=α) Tryz.prog I 212 (.pure (ad_z7 F_z7))):OrcOk (α:=α) Tryz.prog I 192 (.pure (ad_z9 (p_z9 F_z1 F_z7))):=by
  refine orc_pureK PT_W19_ok (O:=PO_z9 F_z1 F_z7) (OOk.cons (cB_z40 h_z1 h_z7) (OOk.nil)) (L:=[]) ⟨2,[]⟩ Tryz.func192 (by kernel_rfl) (by kernel_rfl) (by kernel_rfl) FLOk.nil ?_
  intro args k r hk
  unfold ad_z9 at hk
  split at hk<;>try (cases hk; done)
  obtain ⟨x0,rfl,hk0⟩:=GDecode_parts.dec_spec hk
  obtain ⟨x1,rfl,hk1⟩:=decI_spec hk0
  have hkz:=hk1
  refine ⟨by simp [Ids,Idss],fun v=>dR_decode_parts_immediate v (fun r0=>k (GInsn.sv r0)),?_,fun v hv=>?_⟩
  · rw [ok_z9]; exact hkz
  · obtain ⟨r0,rfl,hv1⟩:=dR_decode_parts_immediate_spec hv; exact ⟨hv1,by simp [Ids,Idss]⟩
noncomputable abbrev PO_zh {α:Type} (F_z6:Sg_z6 α) (F_z9:Sg_z9 α) (F_z1:Sg_z1 α):ORC α:=[(190,.pure (ad_z6 F_z6)),(192,.pure (ad_z9 F_z9)),(79,.pure (ad_z1 F_z1))]
theorem ok_zh {α:Type} (F_z6:Sg_z6 α) (F_z9:Sg_z9 α) (F_z1:Sg_z1 α) (x0:GDecode_parts) (k:GInsn→Bool→R α):bodyL PT_W19 (PO_zh F_z6 F_z9 F_z1) [] ⟨1,[]⟩ Tryz.f193 [(GDecode_parts.sv x0)] emp (fun v _=>dR_decode_parts_reckons v k)=p_zh F_z6 F_z9 F_z1 x0 k:=by kernel_rfl
theorem mk_zh {α:Type} {I:Imm} {F_z6:Sg_z6 α} {F_z9:Sg_z9 α} {F_z1:Sg_z1 α} (h_z6:OrcOk (α:=α) Tryz.prog I 190 (.pure (ad_z6 F_z6))) (h_z9:OrcOk (α:=α) Tryz.prog I 192 (.pure (ad_z9 F_z9))) (h_z1:OrcOk (α:=α) Tryz.prog I 79 (.pure (ad_z1 F_z1))):OrcOk (α:=α) Tryz.prog I 193 (.pure (ad_zh (p_zh F_z6 F_z9 F_z1))):=by
  refine orc_pureK PT_W19_ok (O:=PO_zh F_z6 F_z9 F_z1) (OOk.cons h_z6 (OOk.cons h_z9 (OOk.cons h_z1 (OOk.nil)))) (L:=[]) ⟨1,[]⟩ Tryz.func193 (by kernel_rfl) (by kernel_rfl) (by kernel_rfl) FLOk.nil ?_
  intro args k r hk
  unfold ad_zh at hk
  split at hk<;>try (cases hk; done)
  obtain ⟨x0,rfl,hk0⟩:=GDecode_parts.dec_spec hk
  have hkz:=hk0
  refine ⟨by simp [Ids,Idss],fun v=>dR_decode_parts_reckons v (fun r0 r1=>k (.tuple [(GInsn.sv r0),(.bool r1)])),?_,fun v hv=>?_⟩
  · rw [ok_zh]; exact hkz
  · obtain ⟨r0,r1,rfl,hv1⟩:=dR_decode_parts_reckons_spec hv; exact ⟨hv1,by simp [Ids,Idss]⟩
noncomputable abbrev PO_zi {α:Type} (F_z6:Sg_z6 α):ORC α:=[(190,.pure (ad_z6 F_z6))]
theorem ok_zi {α:Type} (F_z6:Sg_z6 α) (x0:GDecode_parts) (k:GInsn→Bool→R α):bodyL PT_W19 (PO_zi F_z6) [] ⟨1,[]⟩ Tryz.f194 [(GDecode_parts.sv x0)] emp (fun v _=>dR_decode_parts_registers v k)=p_zi F_z6 x0 k:=by kernel_rfl
theorem mk_zi {α:Type} {I:Imm} {F_z6:Sg_z6 α} (h_z6:OrcOk (α:=α) Tryz.prog I 190 (.pure (ad_z6 F_z6))):OrcOk (α:=α) Tryz.prog I 194 (.pure (ad_zi (p_zi F_z6))):=by
  refine orc_pureK PT_W19_ok (O:=PO_zi F_z6) (OOk.cons h_z6 (OOk.nil)) (L:=[]) ⟨1,[]⟩ Tryz.func194 (by kernel_rfl) (by kernel_rfl) (by kernel_rfl) FLOk.nil ?_
  intro args k r hk
  unfold ad_zi at hk
  split at hk<;>try (cases hk; done)
  obtain ⟨x0,rfl,hk0⟩:=GDecode_parts.dec_spec hk
  have hkz:=hk0
  refine ⟨by simp [Ids,Idss],fun v=>dR_decode_parts_registers v (fun r0 r1=>k (.tuple [(GInsn.sv r0),(.bool r1)])),?_,fun v hv=>?_⟩
  · rw [ok_zi]; exact hkz
  · obtain ⟨r0,r1,rfl,hv1⟩:=dR_decode_parts_registers_spec hv; exact ⟨hv1,by simp [Ids,Idss]⟩
noncomputable abbrev PO_zm {α:Type}:ORC α:=[]
theorem ok_zm {α:Type}  (x0:Int) (k:Int→R α):bodyL PT_W19 (PO_zm ) [] ⟨1,[]⟩ Tryz.f237 [(.int .i64 x0)] emp (fun v _=>dR_decode_fence v k)=p_zm  x0 k:=by kernel_rfl
theorem mk_zm {α:Type} {I:Imm}:OrcOk (α:=α) Tryz.prog I 237 (.pure (ad_zm (p_zm ))):=by
  refine orc_pureK PT_W19_ok (O:=PO_zm ) (OOk.nil) (L:=[]) ⟨1,[]⟩ Tryz.func237 (by kernel_rfl) (by kernel_rfl) (by kernel_rfl) FLOk.nil ?_
  intro args k r hk
  unfold ad_zm at hk
  split at hk<;>try (cases hk; done)
  obtain ⟨x0,rfl,hk0⟩:=decI_spec hk
  have hkz:=hk0
  refine ⟨by simp [Ids,Idss],fun v=>dR_decode_fence v (fun r0=>k (.int .i64 r0)),?_,fun v hv=>?_⟩
  · rw [ok_zm]; exact hkz
  · obtain ⟨r0,rfl,hv1⟩:=dR_decode_fence_spec hv; exact ⟨hv1,by simp [Ids,Idss]⟩
noncomputable abbrev PO_zn {α:Type}:ORC α:=[]
theorem ok_zn {α:Type}  (x0:GDecode_parts) (k:GInsn→Bool→R α):bodyL PT_W19 (PO_zn ) [] ⟨1,[]⟩ Tryz.f238 [(GDecode_parts.sv x0)] emp (fun v _=>dR_decode_parts_guests v k)=p_zn  x0 k:=by kernel_rfl
theorem mk_zn {α:Type} {I:Imm}:OrcOk (α:=α) Tryz.prog I 238 (.pure (ad_zn (p_zn ))):=by
  refine orc_pureK PT_W19_ok (O:=PO_zn ) (OOk.nil) (L:=[]) ⟨1,[]⟩ Tryz.func238 (by kernel_rfl) (by kernel_rfl) (by kernel_rfl) FLOk.nil ?_
  intro args k r hk
  unfold ad_zn at hk
  split at hk<;>try (cases hk; done)
  obtain ⟨x0,rfl,hk0⟩:=GDecode_parts.dec_spec hk
  have hkz:=hk0
  refine ⟨by simp [Ids,Idss],fun v=>dR_decode_parts_guests v (fun r0 r1=>k (.tuple [(GInsn.sv r0),(.bool r1)])),?_,fun v hv=>?_⟩
  · rw [ok_zn]; exact hkz
  · obtain ⟨r0,r1,rfl,hv1⟩:=dR_decode_parts_guests_spec hv; exact ⟨hv1,by simp [Ids,Idss]⟩
noncomputable abbrev B_z41 {α:Type} (F_zm:Sg_zm α) (F_zn:Sg_zn α) (F_z1:Sg_z1 α):FF α:=byBody PT_W19 [] ⟨1,[]⟩ Tryz.f255
theorem cB_z41 {α:Type} {I:Imm} {F_zm:Sg_zm α} {F_zn:Sg_zn α} {F_z1:Sg_z1 α} (h_zm:OrcOk (α:=α) Tryz.prog I 237 (.pure (ad_zm F_zm))) (h_zn:OrcOk (α:=α) Tryz.prog I 238 (.pure (ad_zn F_zn))) (h_z1:OrcOk (α:=α) Tryz.prog I 79 (.pure (ad_z1 F_z1))):OrcOk (α:=α) Tryz.prog I 255 (.full (B_z41 F_zm F_zn F_z1)):=orc_body PT_W19_ok (OOk.nil) ⟨1,[]⟩ Tryz.func255 (by kernel_rfl) (by kernel_rfl) (by kernel_rfl)
noncomputable abbrev B_z42 {α:Type} (F_zm:Sg_zm α) (F_zn:Sg_zn α) (F_z1:Sg_z1 α):FF α:=byBody PT_W19 [(254,.full (xDo 255 (B_z41 F_zm F_zn F_z1)))] ⟨1,[]⟩ Tryz.f236
theorem cB_z42 {α:Type} {I:Imm} {F_zm:Sg_zm α} {F_zn:Sg_zn α} {F_z1:Sg_z1 α} (h_zm:OrcOk (α:=α) Tryz.prog I 237 (.pure (ad_zm F_zm))) (h_zn:OrcOk (α:=α) Tryz.prog I 238 (.pure (ad_zn F_zn))) (h_z1:OrcOk (α:=α) Tryz.prog I 79 (.pure (ad_z1 F_z1))):OrcOk (α:=α) Tryz.prog I 236 (.full (B_z42 F_zm F_zn F_z1)):=orc_body PT_W19_ok (OOk.cons (once_orc on_do_raw (enters_of Tryz.func254 (by kernel_rfl) (by kernel_rfl)) (cB_z41 h_zm h_zn h_z1)) (OOk.nil)) ⟨1,[]⟩ Tryz.func236 (by kernel_rfl) (by kernel_rfl) (by kernel_rfl)
noncomputable abbrev B_z43 {α:Type} (F_zm:Sg_zm α) (F_zn:Sg_zn α) (F_z1:Sg_z1 α):FF α:=byBody PT_W19 [(236,.full (B_z42 F_zm F_zn F_z1))] ⟨1,[]⟩ Tryz.f195
theorem cB_z43 {α:Type} {I:Imm} {F_zm:Sg_zm α} {F_zn:Sg_zn α} {F_z1:Sg_z1 α} (h_zm:OrcOk (α:=α) Tryz.prog I 237 (.pure (ad_zm F_zm))) (h_zn:OrcOk (α:=α) Tryz.prog I 238 (.pure (ad_zn F_zn))) (h_z1:OrcOk (α:=α) Tryz.prog I 79 (.pure (ad_z1 F_z1))):OrcOk (α:=α) Tryz.prog I 195 (.full (B_z43 F_zm F_zn F_z1)):=orc_body PT_W19_ok (OOk.cons (cB_z42 h_zm h_zn h_z1) (OOk.nil)) ⟨1,[]⟩ Tryz.func195 (by kernel_rfl) (by kernel_rfl) (by kernel_rfl)
noncomputable abbrev PO_zj {α:Type} (F_zm:Sg_zm α) (F_zn:Sg_zn α) (F_z1:Sg_z1 α):ORC α:=[(237,.pure (ad_zm F_zm)),(195,.full (B_z43 F_zm F_zn F_z1)),(238,.pure (ad_zn F_zn)),(79,.pure (ad_z1 F_z1))]
theorem ok_zj {α:Type} (F_zm:Sg_zm α) (F_zn:Sg_zn α) (F_z1:Sg_z1 α) (x0:GDecode_parts) (k:GInsn→Bool→R α):bodyL PT_W19 (PO_zj F_zm F_zn F_z1) [] ⟨1,[]⟩ Tryz.f196 [(GDecode_parts.sv x0)] emp (fun v _=>dR_decode_parts_system v k)=p_zj F_zm F_zn F_z1 x0 k:=by kernel_rfl
theorem mk_zj {α:Type} {I:Imm} {F_zm:Sg_zm α} {F_zn:Sg_zn α} {F_z1:Sg_z1 α} (h_zm:OrcOk (α:=α) Tryz.prog I 237 (.pure (ad_zm F_zm))) (h_zn:OrcOk (α:=α) Tryz.prog I 238 (.pure (ad_zn F_zn))) (h_z1:OrcOk (α:=α) Tryz.prog I 79 (.pure (ad_z1 F_z1))):OrcOk (α:=α) Tryz.prog I 196 (.pure (ad_zj (p_zj F_zm F_zn F_z1))):=by
  refine orc_pureK PT_W19_ok (O:=PO_zj F_zm F_zn F_z1) (OOk.cons h_zm (OOk.cons (cB_z43 h_zm h_zn h_z1) (OOk.cons h_zn (OOk.cons h_z1 (OOk.nil))))) (L:=[]) ⟨1,[]⟩ Tryz.func196 (by kernel_rfl) (by kernel_rfl) (by kernel_rfl) FLOk.nil ?_
  intro args k r hk
  unfold ad_zj at hk
  split at hk<;>try (cases hk; done)
  obtain ⟨x0,rfl,hk0⟩:=GDecode_parts.dec_spec hk
  have hkz:=hk0
  refine ⟨by simp [Ids,Idss],fun v=>dR_decode_parts_system v (fun r0 r1=>k (.tuple [(GInsn.sv r0),(.bool r1)])),?_,fun v hv=>?_⟩
  · rw [ok_zj]; exact hkz
  · obtain ⟨r0,r1,rfl,hv1⟩:=dR_decode_parts_system_spec hv; exact ⟨hv1,by simp [Ids,Idss]⟩
noncomputable abbrev B_z44 {α:Type} (F_z6:Sg_z6 α) (F_z1:Sg_z1 α) (F_z7:Sg_z7 α) (F_z9:Sg_z9 α) (F_zh:Sg_zh α) (F_zi:Sg_zi α) (F_zj:Sg_zj α):FF α:=byBody PT_W19 [(79,.pure (ad_z1 F_z1)),(212,.pure (ad_z7 F_z7))] ⟨5,[]⟩ Tryz.f191
theorem cB_z44 {α:Type} {I:Imm} {F_z6:Sg_z6 α} {F_z1:Sg_z1 α} {F_z7:Sg_z7 α} {F_z9:Sg_z9 α} {F_zh:Sg_zh α} {F_zi:Sg_zi α} {F_zj:Sg_zj α} (h_z6:OrcOk (α:=α) Tryz.prog I 190 (.pure (ad_z6 F_z6))) (h_z1:OrcOk (α:=α) Tryz.prog I 79 (.pure (ad_z1 F_z1))) (h_z7:OrcOk (α:=α) Tryz.prog I 212 (.pure (ad_z7 F_z7))) (h_z9:OrcOk (α:=α) Tryz.prog I 192 (.pure (ad_z9 F_z9))) (h_zh:OrcOk (α:=α) Tryz.prog I 193 (.pure (ad_zh F_zh))) (h_zi:OrcOk (α:=α) Tryz.prog I 194 (.pure (ad_zi F_zi))) (h_zj:OrcOk (α:=α) Tryz.prog I 196 (.pure (ad_zj F_zj))):OrcOk (α:=α) Tryz.prog I 191 (.full (B_z44 F_z6 F_z1 F_z7 F_z9 F_zh F_zi F_zj)):=orc_body PT_W19_ok (OOk.cons h_z1 (OOk.cons h_z7 (OOk.nil))) ⟨5,[]⟩ Tryz.func191 (by kernel_rfl) (by kernel_rfl) (by kernel_rfl)
noncomputable abbrev B_z45 {α:Type} (F_z6:Sg_z6 α) (F_z1:Sg_z1 α) (F_z7:Sg_z7 α) (F_z9:Sg_z9 α) (F_zh:Sg_zh α) (F_zi:Sg_zi α) (F_zj:Sg_zj α):FF α:=byBody PT_W19 [] ⟨5,[]⟩ Tryz.f255
theorem cB_z45 {α:Type} {I:Imm} {F_z6:Sg_z6 α} {F_z1:Sg_z1 α} {F_z7:Sg_z7 α} {F_z9:Sg_z9 α} {F_zh:Sg_zh α} {F_zi:Sg_zi α} {F_zj:Sg_zj α} (h_z6:OrcOk (α:=α) Tryz.prog I 190 (.pure (ad_z6 F_z6))) (h_z1:OrcOk (α:=α) Tryz.prog I 79 (.pure (ad_z1 F_z1))) (h_z7:OrcOk (α:=α) Tryz.prog I 212 (.pure (ad_z7 F_z7))) (h_z9:OrcOk (α:=α) Tryz.prog I 192 (.pure (ad_z9 F_z9))) (h_zh:OrcOk (α:=α) Tryz.prog I 193 (.pure (ad_zh F_zh))) (h_zi:OrcOk (α:=α) Tryz.prog I 194 (.pure (ad_zi F_zi))) (h_zj:OrcOk (α:=α) Tryz.prog I 196 (.pure (ad_zj F_zj))):OrcOk (α:=α) Tryz.prog I 255 (.full (B_z45 F_z6 F_z1 F_z7 F_z9 F_zh F_zi F_zj)):=orc_body PT_W19_ok (OOk.nil) ⟨5,[]⟩ Tryz.func255 (by kernel_rfl) (by kernel_rfl) (by kernel_rfl)
noncomputable abbrev B_z46 {α:Type} (F_z6:Sg_z6 α) (F_z1:Sg_z1 α) (F_z7:Sg_z7 α) (F_z9:Sg_z9 α) (F_zh:Sg_zh α) (F_zi:Sg_zi α) (F_zj:Sg_zj α):FF α:=byBody PT_W19 [(254,.full (xDo 255 (B_z45 F_z6 F_z1 F_z7 F_z9 F_zh F_zi F_zj)))] ⟨5,[]⟩ Tryz.f236
theorem cB_z46 {α:Type} {I:Imm} {F_z6:Sg_z6 α} {F_z1:Sg_z1 α} {F_z7:Sg_z7 α} {F_z9:Sg_z9 α} {F_zh:Sg_zh α} {F_zi:Sg_zi α} {F_zj:Sg_zj α} (h_z6:OrcOk (α:=α) Tryz.prog I 190 (.pure (ad_z6 F_z6))) (h_z1:OrcOk (α:=α) Tryz.prog I 79 (.pure (ad_z1 F_z1))) (h_z7:OrcOk (α:=α) Tryz.prog I 212 (.pure (ad_z7 F_z7))) (h_z9:OrcOk (α:=α) Tryz.prog I 192 (.pure (ad_z9 F_z9))) (h_zh:OrcOk (α:=α) Tryz.prog I 193 (.pure (ad_zh F_zh))) (h_zi:OrcOk (α:=α) Tryz.prog I 194 (.pure (ad_zi F_zi))) (h_zj:OrcOk (α:=α) Tryz.prog I 196 (.pure (ad_zj F_zj))):OrcOk (α:=α) Tryz.prog I 236 (.full (B_z46 F_z6 F_z1 F_z7 F_z9 F_zh F_zi F_zj)):=orc_body PT_W19_ok (OOk.cons (once_orc on_do_raw (enters_of Tryz.func254 (by kernel_rfl) (by kernel_rfl)) (cB_z45 h_z6 h_z1 h_z7 h_z9 h_zh h_zi h_zj)) (OOk.nil)) ⟨5,[]⟩ Tryz.func236 (by kernel_rfl) (by kernel_rfl) (by kernel_rfl)
noncomputable abbrev B_z47 {α:Type} (F_z6:Sg_z6 α) (F_z1:Sg_z1 α) (F_z7:Sg_z7 α) (F_z9:Sg_z9 α) (F_zh:Sg_zh α) (F_zi:Sg_zi α) (F_zj:Sg_zj α):FF α:=byBody PT_W19 [(236,.full (B_z46 F_z6 F_z1 F_z7 F_z9 F_zh F_zi F_zj))] ⟨5,[]⟩ Tryz.f195
theorem cB_z47 {α:Type} {I:Imm} {F_z6:Sg_z6 α} {F_z1:Sg_z1 α} {F_z7:Sg_z7 α} {F_z9:Sg_z9 α} {F_zh:Sg_zh α} {F_zi:Sg_zi α} {F_zj:Sg_zj α} (h_z6:OrcOk (α:=α) Tryz.prog I 190 (.pure (ad_z6 F_z6))) (h_z1:OrcOk (α:=α) Tryz.prog I 79 (.pure (ad_z1 F_z1))) (h_z7:OrcOk (α:=α) Tryz.prog I 212 (.pure (ad_z7 F_z7))) (h_z9:OrcOk (α:=α) Tryz.prog I 192 (.pure (ad_z9 F_z9))) (h_zh:OrcOk (α:=α) Tryz.prog I 193 (.pure (ad_zh F_zh))) (h_zi:OrcOk (α:=α) Tryz.prog I 194 (.pure (ad_zi F_zi))) (h_zj:OrcOk (α:=α) Tryz.prog I 196 (.pure (ad_zj F_zj))):OrcOk (α:=α) Tryz.prog I 195 (.full (B_z47 F_z6 F_z1 F_z7 F_z9 F_zh F_zi F_zj)):=orc_body PT_W19_ok (OOk.cons (cB_z46 h_z6 h_z1 h_z7 h_z9 h_zh h_zi h_zj) (OOk.nil)) ⟨5,[]⟩ Tryz.func195 (by kernel_rfl) (by kernel_rfl) (by kernel_rfl)
noncomputable abbrev PO_z15 {α:Type} (F_z6:Sg_z6 α) (F_z1:Sg_z1 α) (F_z7:Sg_z7 α) (F_z9:Sg_z9 α) (F_zh:Sg_zh α) (F_zi:Sg_zi α) (F_zj:Sg_zj α):ORC α:=[(190,.pure (ad_z6 F_z6)),(191,.full (B_z44 F_z6 F_z1 F_z7 F_z9 F_zh F_zi F_zj)),(192,.pure (ad_z9 F_z9)),(193,.pure (ad_zh F_zh)),(194,.pure (ad_zi F_zi)),(195,.full (B_z47 F_z6 F_z1 F_z7 F_z9 F_zh F_zi F_zj)),(196,.pure (ad_zj F_zj))]
theorem ok_z15 {α:Type} (F_z6:Sg_z6 α) (F_z1:Sg_z1 α) (F_z7:Sg_z7 α) (F_z9:Sg_z9 α) (F_zh:Sg_zh α) (F_zi:Sg_zi α) (F_zj:Sg_zj α) (x0:GDecode_parts) (k:GInsn→Bool→R α):bodyL PT_W19 (PO_z15 F_z6 F_z1 F_z7 F_z9 F_zh F_zi F_zj) [] ⟨5,[]⟩ Tryz.f132 [(GDecode_parts.sv x0)] emp (fun v _=>dR_decode_parts_insn v k)=p_z15 F_z6 F_z1 F_z7 F_z9 F_zh F_zi F_zj x0 k:=by kernel_rfl
theorem mk_z15 {α:Type} {I:Imm} {F_z6:Sg_z6 α} {F_z1:Sg_z1 α} {F_z7:Sg_z7 α} {F_z9:Sg_z9 α} {F_zh:Sg_zh α} {F_zi:Sg_zi α} {F_zj:Sg_zj α} (h_z6:OrcOk (α:=α) Tryz.prog I 190 (.pure (ad_z6 F_z6))) (h_z1:OrcOk (α:=α) Tryz.prog I 79 (.pure (ad_z1 F_z1))) (h_z7:OrcOk (α:=α) Tryz.prog I 212 (.pure (ad_z7 F_z7))) (h_z9:OrcOk (α:=α) Tryz.prog I 192 (.pure (ad_z9 F_z9))) (h_zh:OrcOk (α:=α) Tryz.prog I 193 (.pure (ad_zh F_zh))) (h_zi:OrcOk (α:=α) Tryz.prog I 194 (.pure (ad_zi F_zi))) (h_zj:OrcOk (α:=α) Tryz.prog I 196 (.pure (ad_zj F_zj))):OrcOk (α:=α) Tryz.prog I 132 (.pure (ad_z15 (p_z15 F_z6 F_z1 F_z7 F_z9 F_zh F_zi F_zj))):=by
  refine orc_pureK PT_W19_ok (O:=PO_z15 F_z6 F_z1 F_z7 F_z9 F_zh F_zi F_zj) (OOk.cons h_z6 (OOk.cons (cB_z44 h_z6 h_z1 h_z7 h_z9 h_zh h_zi h_zj) (OOk.cons h_z9 (OOk.cons h_zh (OOk.cons h_zi (OOk.cons (cB_z47 h_z6 h_z1 h_z7 h_z9 h_zh h_zi h_zj) (OOk.cons h_zj (OOk.nil)))))))) (L:=[]) ⟨5,[]⟩ Tryz.func132 (by kernel_rfl) (by kernel_rfl) (by kernel_rfl) FLOk.nil ?_
  intro args k r hk
  unfold ad_z15 at hk
  split at hk<;>try (cases hk; done)
  obtain ⟨x0,rfl,hk0⟩:=GDecode_parts.dec_spec hk
  have hkz:=hk0
  refine ⟨by simp [Ids,Idss],fun v=>dR_decode_parts_insn v (fun r0 r1=>k (.tuple [(GInsn.sv r0),(.bool r1)])),?_,fun v hv=>?_⟩
  · rw [ok_z15]; exact hkz
  · obtain ⟨r0,r1,rfl,hv1⟩:=dR_decode_parts_insn_spec hv; exact ⟨hv1,by simp [Ids,Idss]⟩
noncomputable abbrev PO_zb {α:Type}:ORC α:=[]
theorem ok_zb {α:Type}  (x0:Int) (k:Int→R α):bodyL PT_W19 (PO_zb ) [] ⟨13,[]⟩ Tryz.f135 [(.int .i64 x0)] emp (fun v _=>dR_insn_Class v k)=p_zb  x0 k:=by kernel_rfl
theorem mk_zb {α:Type} {I:Imm}:OrcOk (α:=α) Tryz.prog I 135 (.pure (ad_zb (p_zb ))):=by
  refine orc_pureK PT_W19_ok (O:=PO_zb ) (OOk.nil) (L:=[]) ⟨13,[]⟩ Tryz.func135 (by kernel_rfl) (by kernel_rfl) (by kernel_rfl) FLOk.nil ?_
  intro args k r hk
  unfold ad_zb at hk
  split at hk<;>try (cases hk; done)
  obtain ⟨x0,rfl,hk0⟩:=decI_spec hk
  have hkz:=hk0
  refine ⟨by simp [Ids,Idss],fun v=>dR_insn_Class v (fun r0=>k (.int .i64 r0)),?_,fun v hv=>?_⟩
  · rw [ok_zb]; exact hkz
  · obtain ⟨r0,rfl,hv1⟩:=dR_insn_Class_spec hv; exact ⟨hv1,by simp [Ids,Idss]⟩
noncomputable abbrev PO_z16 {α:Type}:ORC α:=[]
theorem ok_z16 {α:Type}  (x0:Int) (k:GInsn_Fields→R α):bodyL PT_W19 (PO_z16 ) [] ⟨1,[]⟩ Tryz.f239 [(.int .i64 x0)] emp (fun v _=>dR_insn_jumps v k)=p_z16  x0 k:=by kernel_rfl
theorem mk_z16 {α:Type} {I:Imm}:OrcOk (α:=α) Tryz.prog I 239 (.pure (ad_z16 (p_z16 ))):=by
  refine orc_pureK PT_W19_ok (O:=PO_z16 ) (OOk.nil) (L:=[]) ⟨1,[]⟩ Tryz.func239 (by kernel_rfl) (by kernel_rfl) (by kernel_rfl) FLOk.nil ?_
  intro args k r hk
  unfold ad_z16 at hk
  split at hk<;>try (cases hk; done)
  obtain ⟨x0,rfl,hk0⟩:=decI_spec hk
  have hkz:=hk0
  refine ⟨by simp [Ids,Idss],fun v=>dR_insn_jumps v (fun r0=>k (GInsn_Fields.sv r0)),?_,fun v hv=>?_⟩
  · rw [ok_z16]; exact hkz
  · obtain ⟨r0,rfl,hv1⟩:=dR_insn_jumps_spec hv; exact ⟨hv1,by simp [Ids,Idss]⟩
noncomputable abbrev PO_z17 {α:Type}:ORC α:=[]
theorem ok_z17 {α:Type}  (x0:Int) (k:GInsn_Fields→R α):bodyL PT_W19 (PO_z17 ) [] ⟨1,[]⟩ Tryz.f240 [(.int .i64 x0)] emp (fun v _=>dR_insn_withNumber v k)=p_z17  x0 k:=by kernel_rfl
theorem mk_z17 {α:Type} {I:Imm}:OrcOk (α:=α) Tryz.prog I 240 (.pure (ad_z17 (p_z17 ))):=by
  refine orc_pureK PT_W19_ok (O:=PO_z17 ) (OOk.nil) (L:=[]) ⟨1,[]⟩ Tryz.func240 (by kernel_rfl) (by kernel_rfl) (by kernel_rfl) FLOk.nil ?_
  intro args k r hk
  unfold ad_z17 at hk
  split at hk<;>try (cases hk; done)
  obtain ⟨x0,rfl,hk0⟩:=decI_spec hk
  have hkz:=hk0
  refine ⟨by simp [Ids,Idss],fun v=>dR_insn_withNumber v (fun r0=>k (GInsn_Fields.sv r0)),?_,fun v hv=>?_⟩
  · rw [ok_z17]; exact hkz
  · obtain ⟨r0,rfl,hv1⟩:=dR_insn_withNumber_spec hv; exact ⟨hv1,by simp [Ids,Idss]⟩
noncomputable abbrev PO_z18 {α:Type} (F_zb:Sg_zb α) (F_z16:Sg_z16 α) (F_z17:Sg_z17 α):ORC α:=[(135,.pure (ad_zb F_zb)),(239,.pure (ad_z16 F_z16)),(240,.pure (ad_z17 F_z17))]
theorem ok_z18 {α:Type} (F_zb:Sg_zb α) (F_z16:Sg_z16 α) (F_z17:Sg_z17 α) (x0:Int) (k:GInsn_Fields→R α):bodyL PT_W19 (PO_z18 F_zb F_z16 F_z17) [] ⟨1,[]⟩ Tryz.f197 [(.int .i64 x0)] emp (fun v _=>dR_insn_Of v k)=p_z18 F_zb F_z16 F_z17 x0 k:=by kernel_rfl
theorem mk_z18 {α:Type} {I:Imm} {F_zb:Sg_zb α} {F_z16:Sg_z16 α} {F_z17:Sg_z17 α} (h_zb:OrcOk (α:=α) Tryz.prog I 135 (.pure (ad_zb F_zb))) (h_z16:OrcOk (α:=α) Tryz.prog I 239 (.pure (ad_z16 F_z16))) (h_z17:OrcOk (α:=α) Tryz.prog I 240 (.pure (ad_z17 F_z17))):OrcOk (α:=α) Tryz.prog I 197 (.pure (ad_z18 (p_z18 F_zb F_z16 F_z17))):=by
  refine orc_pureK PT_W19_ok (O:=PO_z18 F_zb F_z16 F_z17) (OOk.cons h_zb (OOk.cons h_z16 (OOk.cons h_z17 (OOk.nil)))) (L:=[]) ⟨1,[]⟩ Tryz.func197 (by kernel_rfl) (by kernel_rfl) (by kernel_rfl) FLOk.nil ?_
  intro args k r hk
  unfold ad_z18 at hk
  split at hk<;>try (cases hk; done)
  obtain ⟨x0,rfl,hk0⟩:=decI_spec hk
  have hkz:=hk0
  refine ⟨by simp [Ids,Idss],fun v=>dR_insn_Of v (fun r0=>k (GInsn_Fields.sv r0)),?_,fun v hv=>?_⟩
  · rw [ok_z18]; exact hkz
  · obtain ⟨r0,rfl,hv1⟩:=dR_insn_Of_spec hv; exact ⟨hv1,by simp [Ids,Idss]⟩
noncomputable abbrev PO_zu {α:Type}:ORC α:=[]
theorem ok_zu {α:Type}  (x0:Bool) (x1:Int) (x2:Int) (k:Bool→R α):bodyL PT_W19 (PO_zu ) [] ⟨1,[]⟩ Tryz.f198 [(.bool x0),(.int .i64 x1),(.int .i64 x2)] emp (fun v _=>dR_insn_field v k)=p_zu  x0 x1 x2 k:=by kernel_rfl
theorem mk_zu {α:Type} {I:Imm}:OrcOk (α:=α) Tryz.prog I 198 (.pure (ad_zu (p_zu ))):=by
  refine orc_pureK PT_W19_ok (O:=PO_zu ) (OOk.nil) (L:=[]) ⟨1,[]⟩ Tryz.func198 (by kernel_rfl) (by kernel_rfl) (by kernel_rfl) FLOk.nil ?_
  intro args k r hk
  unfold ad_zu at hk
  split at hk<;>try (cases hk; done)
  obtain ⟨x0,rfl,hk0⟩:=decB_spec hk
  obtain ⟨x1,rfl,hk1⟩:=decI_spec hk0
  obtain ⟨x2,rfl,hk2⟩:=decI_spec hk1
  have hkz:=hk2
  refine ⟨by simp [Ids,Idss],fun v=>dR_insn_field v (fun r0=>k (.bool r0)),?_,fun v hv=>?_⟩
  · rw [ok_zu]; exact hkz
  · obtain ⟨r0,rfl,hv1⟩:=dR_insn_field_spec hv; exact ⟨hv1,by simp [Ids,Idss]⟩
noncomputable abbrev PO_zg {α:Type} (F_zb:Sg_zb α) (F_z18:Sg_z18 α) (F_zu:Sg_zu α):ORC α:=[(135,.pure (ad_zb F_zb)),(197,.pure (ad_z18 F_z18)),(198,.pure (ad_zu F_zu))]
theorem ok_zg {α:Type} (F_zb:Sg_zb α) (F_z18:Sg_z18 α) (F_zu:Sg_zu α) (x0:GInsn) (k:Bool→R α):bodyL PT_W19 (PO_zg F_zb F_z18 F_zu) [] ⟨1,[]⟩ Tryz.f133 [(GInsn.sv x0)] emp (fun v _=>dR_insn_Is v k)=p_zg F_zb F_z18 F_zu x0 k:=by kernel_rfl
theorem mk_zg {α:Type} {I:Imm} {F_zb:Sg_zb α} {F_z18:Sg_z18 α} {F_zu:Sg_zu α} (h_zb:OrcOk (α:=α) Tryz.prog I 135 (.pure (ad_zb F_zb))) (h_z18:OrcOk (α:=α) Tryz.prog I 197 (.pure (ad_z18 F_z18))) (h_zu:OrcOk (α:=α) Tryz.prog I 198 (.pure (ad_zu F_zu))):OrcOk (α:=α) Tryz.prog I 133 (.pure (ad_zg (p_zg F_zb F_z18 F_zu))):=by
  refine orc_pureK PT_W19_ok (O:=PO_zg F_zb F_z18 F_zu) (OOk.cons h_zb (OOk.cons h_z18 (OOk.cons h_zu (OOk.nil)))) (L:=[]) ⟨1,[]⟩ Tryz.func133 (by kernel_rfl) (by kernel_rfl) (by kernel_rfl) FLOk.nil ?_
  intro args k r hk
  unfold ad_zg at hk
  split at hk<;>try (cases hk; done)
  obtain ⟨x0,rfl,hk0⟩:=GInsn.dec_spec hk
  have hkz:=hk0
  refine ⟨by simp [Ids,Idss],fun v=>dR_insn_Is v (fun r0=>k (.bool r0)),?_,fun v hv=>?_⟩
  · rw [ok_zg]; exact hkz
  · obtain ⟨r0,rfl,hv1⟩:=dR_insn_Is_spec hv; exact ⟨hv1,by simp [Ids,Idss]⟩
noncomputable abbrev PO_z1k {α:Type} (F_z14:Sg_z14 α) (F_z15:Sg_z15 α) (F_zg:Sg_zg α):ORC α:=[(131,.pure (ad_z14 F_z14)),(132,.pure (ad_z15 F_z15)),(133,.pure (ad_zg F_zg))]
theorem ok_z1k {α:Type} (F_z14:Sg_z14 α) (F_z15:Sg_z15 α) (F_zg:Sg_zg α) (x0:Int) (k:GInsn→Int→R α):bodyL PT_W19 (PO_z1k F_z14 F_z15 F_zg) [] ⟨1,[]⟩ Tryz.f86 [(.int .u32 x0)] emp (fun v _=>dR_decode_Decode v k)=p_z1k F_z14 F_z15 F_zg x0 k:=by kernel_rfl
theorem mk_z1k {α:Type} {I:Imm} {F_z14:Sg_z14 α} {F_z15:Sg_z15 α} {F_zg:Sg_zg α} (h_z14:OrcOk (α:=α) Tryz.prog I 131 (.pure (ad_z14 F_z14))) (h_z15:OrcOk (α:=α) Tryz.prog I 132 (.pure (ad_z15 F_z15))) (h_zg:OrcOk (α:=α) Tryz.prog I 133 (.pure (ad_zg F_zg))):OrcOk (α:=α) Tryz.prog I 86 (.pure (ad_z1k (p_z1k F_z14 F_z15 F_zg))):=by
  refine orc_pureK PT_W19_ok (O:=PO_z1k F_z14 F_z15 F_zg) (OOk.cons h_z14 (OOk.cons h_z15 (OOk.cons h_zg (OOk.nil)))) (L:=[]) ⟨1,[]⟩ Tryz.func86 (by kernel_rfl) (by kernel_rfl) (by kernel_rfl) FLOk.nil ?_
  intro args k r hk
  unfold ad_z1k at hk
  split at hk<;>try (cases hk; done)
  obtain ⟨x0,rfl,hk0⟩:=decI_spec hk
  have hkz:=hk0
  refine ⟨by simp [Ids,Idss],fun v=>dR_decode_Decode v (fun r0 r1=>k (.tuple [(GInsn.sv r0),(.int .i64 r1)])),?_,fun v hv=>?_⟩
  · rw [ok_z1k]; exact hkz
  · obtain ⟨r0,r1,rfl,hv1⟩:=dR_decode_Decode_spec hv; exact ⟨hv1,by simp [Ids,Idss]⟩
noncomputable abbrev PO_zr {α:Type}:ORC α:=[]
theorem ok_zr {α:Type}  (x0:GState) (k:Int→R α):bodyL PT_W19 (PO_zr ) [] ⟨1,[]⟩ Tryz.f134 [(GState.sv x0)] emp (fun v _=>dR_legal_Level v k)=p_zr  x0 k:=by kernel_rfl
theorem mk_zr {α:Type} {I:Imm}:OrcOk (α:=α) Tryz.prog I 134 (.pure (ad_zr (p_zr ))):=by
  refine orc_pureK PT_W19_ok (O:=PO_zr ) (OOk.nil) (L:=[]) ⟨1,[]⟩ Tryz.func134 (by kernel_rfl) (by kernel_rfl) (by kernel_rfl) FLOk.nil ?_
  intro args k r hk
  unfold ad_zr at hk
  split at hk<;>try (cases hk; done)
  obtain ⟨x0,rfl,hk0⟩:=GState.dec_spec hk
  have hkz:=hk0
  refine ⟨by simp [Ids,Idss],fun v=>dR_legal_Level v (fun r0=>k (.int .i64 r0)),?_,fun v hv=>?_⟩
  · rw [ok_zr]; exact hkz
  · obtain ⟨r0,rfl,hv1⟩:=dR_legal_Level_spec hv; exact ⟨hv1,by simp [Ids,Idss]⟩
noncomputable abbrev PO_z19 {α:Type}:ORC α:=[]
theorem ok_z19 {α:Type}  (x0:GInsn) (k:Bool→R α):bodyL PT_W19 (PO_z19 ) [] ⟨1,[]⟩ Tryz.f137 [(GInsn.sv x0)] emp (fun v _=>dR_legal_Writes v k)=p_z19  x0 k:=by kernel_rfl
theorem mk_z19 {α:Type} {I:Imm}:OrcOk (α:=α) Tryz.prog I 137 (.pure (ad_z19 (p_z19 ))):=by
  refine orc_pureK PT_W19_ok (O:=PO_z19 ) (OOk.nil) (L:=[]) ⟨1,[]⟩ Tryz.func137 (by kernel_rfl) (by kernel_rfl) (by kernel_rfl) FLOk.nil ?_
  intro args k r hk
  unfold ad_z19 at hk
  split at hk<;>try (cases hk; done)
  obtain ⟨x0,rfl,hk0⟩:=GInsn.dec_spec hk
  have hkz:=hk0
  refine ⟨by simp [Ids,Idss],fun v=>dR_legal_Writes v (fun r0=>k (.bool r0)),?_,fun v hv=>?_⟩
  · rw [ok_z19]; exact hkz
  · obtain ⟨r0,rfl,hv1⟩:=dR_legal_Writes_spec hv; exact ⟨hv1,by simp [Ids,Idss]⟩
noncomputable abbrev B_z48 {α:Type}:FF α:=byBody PT_W19 [] ⟨6,[]⟩ Tryz.f176
theorem cB_z48 {α:Type} {I:Imm}:OrcOk (α:=α) Tryz.prog I 176 (.full (B_z48 )):=orc_body PT_W19_ok (OOk.nil) ⟨6,[]⟩ Tryz.func176 (by kernel_rfl) (by kernel_rfl) (by kernel_rfl)
noncomputable abbrev PO_z2 {α:Type}:ORC α:=[(176,.full (B_z48 ))]
theorem ok_z2 {α:Type}   (k:Int→R α):bodyL PT_W19 (PO_z2 ) [] ⟨6,[]⟩ Tryz.f177 [] emp (fun v _=>dR_csr_guests v k)=p_z2   k:=by kernel_rfl
theorem mk_z2 {α:Type} {I:Imm}:OrcOk (α:=α) Tryz.prog I 177 (.pure (ad_z2 (p_z2 ))):=by
  refine orc_pureK PT_W19_ok (O:=PO_z2 ) (OOk.cons (cB_z48 ) (OOk.nil)) (L:=[]) ⟨6,[]⟩ Tryz.func177 (by kernel_rfl) (by kernel_rfl) (by kernel_rfl) FLOk.nil ?_
  intro args k r hk
  unfold ad_z2 at hk
  split at hk<;>try (cases hk; done)
  have hkz:=hk
  refine ⟨by simp [Ids,Idss],fun v=>dR_csr_guests v (fun r0=>k (.int .u64 r0)),?_,fun v hv=>?_⟩
  · rw [ok_z2]; exact hkz
  · obtain ⟨r0,rfl,hv1⟩:=dR_csr_guests_spec hv; exact ⟨hv1,by simp [Ids,Idss]⟩
noncomputable abbrev B_z49 {α:Type} (F_z2:Sg_z2 α):FF α:=byBody PT_W19 [] ⟨30,[]⟩ Tryz.f176
theorem cB_z49 {α:Type} {I:Imm} {F_z2:Sg_z2 α} (h_z2:OrcOk (α:=α) Tryz.prog I 177 (.pure (ad_z2 F_z2))):OrcOk (α:=α) Tryz.prog I 176 (.full (B_z49 F_z2)):=orc_body PT_W19_ok (OOk.nil) ⟨30,[]⟩ Tryz.func176 (by kernel_rfl) (by kernel_rfl) (by kernel_rfl)
noncomputable abbrev B_z4a {α:Type} (F_z2:Sg_z2 α):FF α:=byBody PT_W19 [(176,.full (B_z49 F_z2)),(177,.pure (ad_z2 F_z2))] ⟨30,[]⟩ Tryz.f114
theorem cB_z4a {α:Type} {I:Imm} {F_z2:Sg_z2 α} (h_z2:OrcOk (α:=α) Tryz.prog I 177 (.pure (ad_z2 F_z2))):OrcOk (α:=α) Tryz.prog I 114 (.full (B_z4a F_z2)):=orc_body PT_W19_ok (OOk.cons (cB_z49 h_z2) (OOk.cons h_z2 (OOk.nil))) ⟨30,[]⟩ Tryz.func114 (by kernel_rfl) (by kernel_rfl) (by kernel_rfl)
noncomputable abbrev PO_z1a {α:Type} (F_z2:Sg_z2 α):ORC α:=[(114,.full (B_z4a F_z2))]
theorem ok_z1a {α:Type} (F_z2:Sg_z2 α) (x0:Int) (k:Int→R α):bodyL PT_W19 (PO_z1a F_z2) [] ⟨30,[]⟩ Tryz.f241 [(.int .i64 x0)] emp (fun v _=>dR_csr_Index v k)=p_z1a F_z2 x0 k:=by kernel_rfl
theorem mk_z1a {α:Type} {I:Imm} {F_z2:Sg_z2 α} (h_z2:OrcOk (α:=α) Tryz.prog I 177 (.pure (ad_z2 F_z2))):OrcOk (α:=α) Tryz.prog I 241 (.pure (ad_z1a (p_z1a F_z2))):=by
  refine orc_pureK PT_W19_ok (O:=PO_z1a F_z2) (OOk.cons (cB_z4a h_z2) (OOk.nil)) (L:=[]) ⟨30,[]⟩ Tryz.func241 (by kernel_rfl) (by kernel_rfl) (by kernel_rfl) FLOk.nil ?_
  intro args k r hk
  unfold ad_z1a at hk
  split at hk<;>try (cases hk; done)
  obtain ⟨x0,rfl,hk0⟩:=decI_spec hk
  have hkz:=hk0
  refine ⟨by simp [Ids,Idss],fun v=>dR_csr_Index v (fun r0=>k (.int .i64 r0)),?_,fun v hv=>?_⟩
  · rw [ok_z1a]; exact hkz
  · obtain ⟨r0,rfl,hv1⟩:=dR_csr_Index_spec hv; exact ⟨hv1,by simp [Ids,Idss]⟩
noncomputable abbrev PO_z1b {α:Type} (F_z1a:Sg_z1a α):ORC α:=[(241,.pure (ad_z1a F_z1a))]
theorem ok_z1b {α:Type} (F_z1a:Sg_z1a α) (x0:Int) (k:Bool→R α):bodyL PT_W19 (PO_z1b F_z1a) [] ⟨1,[]⟩ Tryz.f199 [(.int .i64 x0)] emp (fun v _=>dR_csr_Is v k)=p_z1b F_z1a x0 k:=by kernel_rfl
theorem mk_z1b {α:Type} {I:Imm} {F_z1a:Sg_z1a α} (h_z1a:OrcOk (α:=α) Tryz.prog I 241 (.pure (ad_z1a F_z1a))):OrcOk (α:=α) Tryz.prog I 199 (.pure (ad_z1b (p_z1b F_z1a))):=by
  refine orc_pureK PT_W19_ok (O:=PO_z1b F_z1a) (OOk.cons h_z1a (OOk.nil)) (L:=[]) ⟨1,[]⟩ Tryz.func199 (by kernel_rfl) (by kernel_rfl) (by kernel_rfl) FLOk.nil ?_
  intro args k r hk
  unfold ad_z1b at hk
  split at hk<;>try (cases hk; done)
  obtain ⟨x0,rfl,hk0⟩:=decI_spec hk
  have hkz:=hk0
  refine ⟨by simp [Ids,Idss],fun v=>dR_csr_Is v (fun r0=>k (.bool r0)),?_,fun v hv=>?_⟩
  · rw [ok_z1b]; exact hkz
  · obtain ⟨r0,rfl,hv1⟩:=dR_csr_Is_spec hv; exact ⟨hv1,by simp [Ids,Idss]⟩
noncomputable abbrev PO_zl {α:Type}:ORC α:=[]
theorem ok_zl {α:Type}  (x0:Int) (k:Int→R α):bodyL PT_W19 (PO_zl ) [] ⟨1,[]⟩ Tryz.f201 [(.int .i64 x0)] emp (fun v _=>dR_legal_ask v k)=p_zl  x0 k:=by kernel_rfl
theorem mk_zl {α:Type} {I:Imm}:OrcOk (α:=α) Tryz.prog I 201 (.pure (ad_zl (p_zl ))):=by
  refine orc_pureK PT_W19_ok (O:=PO_zl ) (OOk.nil) (L:=[]) ⟨1,[]⟩ Tryz.func201 (by kernel_rfl) (by kernel_rfl) (by kernel_rfl) FLOk.nil ?_
  intro args k r hk
  unfold ad_zl at hk
  split at hk<;>try (cases hk; done)
  obtain ⟨x0,rfl,hk0⟩:=decI_spec hk
  have hkz:=hk0
  refine ⟨by simp [Ids,Idss],fun v=>dR_legal_ask v (fun r0=>k (.int .i64 r0)),?_,fun v hv=>?_⟩
  · rw [ok_zl]; exact hkz
  · obtain ⟨r0,rfl,hv1⟩:=dR_legal_ask_spec hv; exact ⟨hv1,by simp [Ids,Idss]⟩
noncomputable abbrev PO_z4 {α:Type}:ORC α:=[]
theorem ok_z4 {α:Type}  (x0:Bool) (x1:Int) (k:Int→Bool→R α):bodyL PT_W19 (PO_z4 ) [] ⟨1,[]⟩ Tryz.f138 [(.bool x0),(.int .u64 x1)] emp (fun v _=>dR_legal_because v k)=p_z4  x0 x1 k:=by kernel_rfl
theorem mk_z4 {α:Type} {I:Imm}:OrcOk (α:=α) Tryz.prog I 138 (.pure (ad_z4 (p_z4 ))):=by
  refine orc_pureK PT_W19_ok (O:=PO_z4 ) (OOk.nil) (L:=[]) ⟨1,[]⟩ Tryz.func138 (by kernel_rfl) (by kernel_rfl) (by kernel_rfl) FLOk.nil ?_
  intro args k r hk
  unfold ad_z4 at hk
  split at hk<;>try (cases hk; done)
  obtain ⟨x0,rfl,hk0⟩:=decB_spec hk
  obtain ⟨x1,rfl,hk1⟩:=decI_spec hk0
  have hkz:=hk1
  refine ⟨by simp [Ids,Idss],fun v=>dR_legal_because v (fun r0 r1=>k (.tuple [(.int .u64 r0),(.bool r1)])),?_,fun v hv=>?_⟩
  · rw [ok_z4]; exact hkz
  · obtain ⟨r0,r1,rfl,hv1⟩:=dR_legal_because_spec hv; exact ⟨hv1,by simp [Ids,Idss]⟩
noncomputable abbrev PO_zw {α:Type} (F_zl:Sg_zl α) (F_z4:Sg_z4 α) (F_z3:Sg_z3 α):ORC α:=[(201,.pure (ad_zl F_zl)),(138,.pure (ad_z4 F_z4)),(80,.pure (ad_z3 F_z3))]
theorem ok_zw {α:Type} (F_zl:Sg_zl α) (F_z4:Sg_z4 α) (F_z3:Sg_z3 α) (x0:GState) (x1:Int) (x2:Int) (k:Int→Bool→R α):bodyL PT_W19 (PO_zw F_zl F_z4 F_z3) [] ⟨1,[]⟩ Tryz.f200 [(GState.sv x0),(.int .i64 x1),(.int .i64 x2)] emp (fun v _=>dR_legal_guestCsr v k)=p_zw F_zl F_z4 F_z3 x0 x1 x2 k:=by kernel_rfl
theorem mk_zw {α:Type} {I:Imm} {F_zl:Sg_zl α} {F_z4:Sg_z4 α} {F_z3:Sg_z3 α} (h_zl:OrcOk (α:=α) Tryz.prog I 201 (.pure (ad_zl F_zl))) (h_z4:OrcOk (α:=α) Tryz.prog I 138 (.pure (ad_z4 F_z4))) (h_z3:OrcOk (α:=α) Tryz.prog I 80 (.pure (ad_z3 F_z3))):OrcOk (α:=α) Tryz.prog I 200 (.pure (ad_zw (p_zw F_zl F_z4 F_z3))):=by
  refine orc_pureK PT_W19_ok (O:=PO_zw F_zl F_z4 F_z3) (OOk.cons h_zl (OOk.cons h_z4 (OOk.cons h_z3 (OOk.nil)))) (L:=[]) ⟨1,[]⟩ Tryz.func200 (by kernel_rfl) (by kernel_rfl) (by kernel_rfl) FLOk.nil ?_
  intro args k r hk
  unfold ad_zw at hk
  split at hk<;>try (cases hk; done)
  obtain ⟨x0,rfl,hk0⟩:=GState.dec_spec hk
  obtain ⟨x1,rfl,hk1⟩:=decI_spec hk0
  obtain ⟨x2,rfl,hk2⟩:=decI_spec hk1
  have hkz:=hk2
  refine ⟨by simp [Ids,Idss],fun v=>dR_legal_guestCsr v (fun r0 r1=>k (.tuple [(.int .u64 r0),(.bool r1)])),?_,fun v hv=>?_⟩
  · rw [ok_zw]; exact hkz
  · obtain ⟨r0,r1,rfl,hv1⟩:=dR_legal_guestCsr_spec hv; exact ⟨hv1,by simp [Ids,Idss]⟩
noncomputable abbrev PO_z1c {α:Type} (F_zr:Sg_zr α) (F_z1b:Sg_z1b α) (F_zw:Sg_zw α) (F_z4:Sg_z4 α) (F_z3:Sg_z3 α) (F_zl:Sg_zl α):ORC α:=[(134,.pure (ad_zr F_zr)),(199,.pure (ad_z1b F_z1b)),(200,.pure (ad_zw F_zw)),(138,.pure (ad_z4 F_z4)),(80,.pure (ad_z3 F_z3)),(201,.pure (ad_zl F_zl))]
theorem ok_z1c {α:Type} (F_zr:Sg_zr α) (F_z1b:Sg_z1b α) (F_zw:Sg_zw α) (F_z4:Sg_z4 α) (F_z3:Sg_z3 α) (F_zl:Sg_zl α) (x0:GState) (x1:Int) (x2:Bool) (k:Int→Bool→R α):bodyL PT_W19 (PO_z1c F_zr F_z1b F_zw F_z4 F_z3 F_zl) [] ⟨1,[]⟩ Tryz.f136 [(GState.sv x0),(.int .i64 x1),(.bool x2)] emp (fun v _=>dR_legal_Csr v k)=p_z1c F_zr F_z1b F_zw F_z4 F_z3 F_zl x0 x1 x2 k:=by kernel_rfl
theorem mk_z1c {α:Type} {I:Imm} {F_zr:Sg_zr α} {F_z1b:Sg_z1b α} {F_zw:Sg_zw α} {F_z4:Sg_z4 α} {F_z3:Sg_z3 α} {F_zl:Sg_zl α} (h_zr:OrcOk (α:=α) Tryz.prog I 134 (.pure (ad_zr F_zr))) (h_z1b:OrcOk (α:=α) Tryz.prog I 199 (.pure (ad_z1b F_z1b))) (h_zw:OrcOk (α:=α) Tryz.prog I 200 (.pure (ad_zw F_zw))) (h_z4:OrcOk (α:=α) Tryz.prog I 138 (.pure (ad_z4 F_z4))) (h_z3:OrcOk (α:=α) Tryz.prog I 80 (.pure (ad_z3 F_z3))) (h_zl:OrcOk (α:=α) Tryz.prog I 201 (.pure (ad_zl F_zl))):OrcOk (α:=α) Tryz.prog I 136 (.pure (ad_z1c (p_z1c F_zr F_z1b F_zw F_z4 F_z3 F_zl))):=by
  refine orc_pureK PT_W19_ok (O:=PO_z1c F_zr F_z1b F_zw F_z4 F_z3 F_zl) (OOk.cons h_zr (OOk.cons h_z1b (OOk.cons h_zw (OOk.cons h_z4 (OOk.cons h_z3 (OOk.cons h_zl (OOk.nil))))))) (L:=[]) ⟨1,[]⟩ Tryz.func136 (by kernel_rfl) (by kernel_rfl) (by kernel_rfl) FLOk.nil ?_
  intro args k r hk
  unfold ad_z1c at hk
  split at hk<;>try (cases hk; done)
  obtain ⟨x0,rfl,hk0⟩:=GState.dec_spec hk
  obtain ⟨x1,rfl,hk1⟩:=decI_spec hk0
  obtain ⟨x2,rfl,hk2⟩:=decB_spec hk1
  have hkz:=hk2
  refine ⟨by simp [Ids,Idss],fun v=>dR_legal_Csr v (fun r0 r1=>k (.tuple [(.int .u64 r0),(.bool r1)])),?_,fun v hv=>?_⟩
  · rw [ok_z1c]; exact hkz
  · obtain ⟨r0,r1,rfl,hv1⟩:=dR_legal_Csr_spec hv; exact ⟨hv1,by simp [Ids,Idss]⟩
noncomputable abbrev PO_z11 {α:Type} (F_z3:Sg_z3 α) (F_z4:Sg_z4 α):ORC α:=[(80,.pure (ad_z3 F_z3)),(138,.pure (ad_z4 F_z4))]
theorem ok_z11 {α:Type} (F_z3:Sg_z3 α) (F_z4:Sg_z4 α) (x0:GState) (x1:Int) (x2:Int) (x3:Int) (k:Int→Bool→R α):bodyL PT_W19 (PO_z11 F_z3 F_z4) [] ⟨1,[]⟩ Tryz.f139 [(GState.sv x0),(.int .i64 x1),(.int .i64 x2),(.int .i64 x3)] emp (fun v _=>dR_legal_plain v k)=p_z11 F_z3 F_z4 x0 x1 x2 x3 k:=by kernel_rfl
theorem mk_z11 {α:Type} {I:Imm} {F_z3:Sg_z3 α} {F_z4:Sg_z4 α} (h_z3:OrcOk (α:=α) Tryz.prog I 80 (.pure (ad_z3 F_z3))) (h_z4:OrcOk (α:=α) Tryz.prog I 138 (.pure (ad_z4 F_z4))):OrcOk (α:=α) Tryz.prog I 139 (.pure (ad_z11 (p_z11 F_z3 F_z4))):=by
  refine orc_pureK PT_W19_ok (O:=PO_z11 F_z3 F_z4) (OOk.cons h_z3 (OOk.cons h_z4 (OOk.nil))) (L:=[]) ⟨1,[]⟩ Tryz.func139 (by kernel_rfl) (by kernel_rfl) (by kernel_rfl) FLOk.nil ?_
  intro args k r hk
  unfold ad_z11 at hk
  split at hk<;>try (cases hk; done)
  obtain ⟨x0,rfl,hk0⟩:=GState.dec_spec hk
  obtain ⟨x1,rfl,hk1⟩:=decI_spec hk0
  obtain ⟨x2,rfl,hk2⟩:=decI_spec hk1
  obtain ⟨x3,rfl,hk3⟩:=decI_spec hk2
  have hkz:=hk3
  refine ⟨by simp [Ids,Idss],fun v=>dR_legal_plain v (fun r0 r1=>k (.tuple [(.int .u64 r0),(.bool r1)])),?_,fun v hv=>?_⟩
  · rw [ok_z11]; exact hkz
  · obtain ⟨r0,r1,rfl,hv1⟩:=dR_legal_plain_spec hv; exact ⟨hv1,by simp [Ids,Idss]⟩
noncomputable abbrev PO_z1d {α:Type} (F_z3:Sg_z3 α):ORC α:=[(80,.pure (ad_z3 F_z3))]
theorem ok_z1d {α:Type} (F_z3:Sg_z3 α) (x0:GState) (x1:Int) (k:Int→Bool→R α):bodyL PT_W19 (PO_z1d F_z3) [] ⟨1,[]⟩ Tryz.f140 [(GState.sv x0),(.int .i64 x1)] emp (fun v _=>dR_legal_wfi v k)=p_z1d F_z3 x0 x1 k:=by kernel_rfl
theorem mk_z1d {α:Type} {I:Imm} {F_z3:Sg_z3 α} (h_z3:OrcOk (α:=α) Tryz.prog I 80 (.pure (ad_z3 F_z3))):OrcOk (α:=α) Tryz.prog I 140 (.pure (ad_z1d (p_z1d F_z3))):=by
  refine orc_pureK PT_W19_ok (O:=PO_z1d F_z3) (OOk.cons h_z3 (OOk.nil)) (L:=[]) ⟨1,[]⟩ Tryz.func140 (by kernel_rfl) (by kernel_rfl) (by kernel_rfl) FLOk.nil ?_
  intro args k r hk
  unfold ad_z1d at hk
  split at hk<;>try (cases hk; done)
  obtain ⟨x0,rfl,hk0⟩:=GState.dec_spec hk
  obtain ⟨x1,rfl,hk1⟩:=decI_spec hk0
  have hkz:=hk1
  refine ⟨by simp [Ids,Idss],fun v=>dR_legal_wfi v (fun r0 r1=>k (.tuple [(.int .u64 r0),(.bool r1)])),?_,fun v hv=>?_⟩
  · rw [ok_z1d]; exact hkz
  · obtain ⟨r0,r1,rfl,hv1⟩:=dR_legal_wfi_spec hv; exact ⟨hv1,by simp [Ids,Idss]⟩
noncomputable abbrev PO_zy {α:Type} (F_zb:Sg_zb α) (F_z3:Sg_z3 α) (F_z4:Sg_z4 α):ORC α:=[(135,.pure (ad_zb F_zb)),(80,.pure (ad_z3 F_z3)),(138,.pure (ad_z4 F_z4))]
theorem ok_zy {α:Type} (F_zb:Sg_zb α) (F_z3:Sg_z3 α) (F_z4:Sg_z4 α) (x0:GState) (x1:Int) (x2:Int) (k:Int→Bool→R α):bodyL PT_W19 (PO_zy F_zb F_z3 F_z4) [] ⟨1,[]⟩ Tryz.f141 [(GState.sv x0),(.int .i64 x1),(.int .i64 x2)] emp (fun v _=>dR_legal_guests v k)=p_zy F_zb F_z3 F_z4 x0 x1 x2 k:=by kernel_rfl
theorem mk_zy {α:Type} {I:Imm} {F_zb:Sg_zb α} {F_z3:Sg_z3 α} {F_z4:Sg_z4 α} (h_zb:OrcOk (α:=α) Tryz.prog I 135 (.pure (ad_zb F_zb))) (h_z3:OrcOk (α:=α) Tryz.prog I 80 (.pure (ad_z3 F_z3))) (h_z4:OrcOk (α:=α) Tryz.prog I 138 (.pure (ad_z4 F_z4))):OrcOk (α:=α) Tryz.prog I 141 (.pure (ad_zy (p_zy F_zb F_z3 F_z4))):=by
  refine orc_pureK PT_W19_ok (O:=PO_zy F_zb F_z3 F_z4) (OOk.cons h_zb (OOk.cons h_z3 (OOk.cons h_z4 (OOk.nil)))) (L:=[]) ⟨1,[]⟩ Tryz.func141 (by kernel_rfl) (by kernel_rfl) (by kernel_rfl) FLOk.nil ?_
  intro args k r hk
  unfold ad_zy at hk
  split at hk<;>try (cases hk; done)
  obtain ⟨x0,rfl,hk0⟩:=GState.dec_spec hk
  obtain ⟨x1,rfl,hk1⟩:=decI_spec hk0
  obtain ⟨x2,rfl,hk2⟩:=decI_spec hk1
  have hkz:=hk2
  refine ⟨by simp [Ids,Idss],fun v=>dR_legal_guests v (fun r0 r1=>k (.tuple [(.int .u64 r0),(.bool r1)])),?_,fun v hv=>?_⟩
  · rw [ok_zy]; exact hkz
  · obtain ⟨r0,r1,rfl,hv1⟩:=dR_legal_guests_spec hv; exact ⟨hv1,by simp [Ids,Idss]⟩
noncomputable abbrev PO_z1l {α:Type} (F_zg:Sg_zg α) (F_zr:Sg_zr α) (F_zb:Sg_zb α) (F_z19:Sg_z19 α) (F_z1c:Sg_z1c α) (F_z4:Sg_z4 α) (F_z11:Sg_z11 α) (F_z1d:Sg_z1d α) (F_zy:Sg_zy α):ORC α:=[(133,.pure (ad_zg F_zg)),(134,.pure (ad_zr F_zr)),(135,.pure (ad_zb F_zb)),(137,.pure (ad_z19 F_z19)),(136,.pure (ad_z1c F_z1c)),(138,.pure (ad_z4 F_z4)),(139,.pure (ad_z11 F_z11)),(140,.pure (ad_z1d F_z1d)),(141,.pure (ad_zy F_zy))]
theorem ok_z1l {α:Type} (F_zg:Sg_zg α) (F_zr:Sg_zr α) (F_zb:Sg_zb α) (F_z19:Sg_z19 α) (F_z1c:Sg_z1c α) (F_z4:Sg_z4 α) (F_z11:Sg_z11 α) (F_z1d:Sg_z1d α) (F_zy:Sg_zy α) (x0:GState) (x1:GInsn) (k:Int→Bool→R α):bodyL PT_W19 (PO_z1l F_zg F_zr F_zb F_z19 F_z1c F_z4 F_z11 F_z1d F_zy) [] ⟨1,[]⟩ Tryz.f87 [(GState.sv x0),(GInsn.sv x1)] emp (fun v _=>dR_legal_Insn v k)=p_z1l F_zg F_zr F_zb F_z19 F_z1c F_z4 F_z11 F_z1d F_zy x0 x1 k:=by kernel_rfl
theorem mk_z1l {α:Type} {I:Imm} {F_zg:Sg_zg α} {F_zr:Sg_zr α} {F_zb:Sg_zb α} {F_z19:Sg_z19 α} {F_z1c:Sg_z1c α} {F_z4:Sg_z4 α} {F_z11:Sg_z11 α} {F_z1d:Sg_z1d α} {F_zy:Sg_zy α} (h_zg:OrcOk (α:=α) Tryz.prog I 133 (.pure (ad_zg F_zg))) (h_zr:OrcOk (α:=α) Tryz.prog I 134 (.pure (ad_zr F_zr))) (h_zb:OrcOk (α:=α) Tryz.prog I 135 (.pure (ad_zb F_zb))) (h_z19:OrcOk (α:=α) Tryz.prog I 137 (.pure (ad_z19 F_z19))) (h_z1c:OrcOk (α:=α) Tryz.prog I 136 (.pure (ad_z1c F_z1c))) (h_z4:OrcOk (α:=α) Tryz.prog I 138 (.pure (ad_z4 F_z4))) (h_z11:OrcOk (α:=α) Tryz.prog I 139 (.pure (ad_z11 F_z11))) (h_z1d:OrcOk (α:=α) Tryz.prog I 140 (.pure (ad_z1d F_z1d))) (h_zy:OrcOk (α:=α) Tryz.prog I 141 (.pure (ad_zy F_zy))):OrcOk (α:=α) Tryz.prog I 87 (.pure (ad_z1l (p_z1l F_zg F_zr F_zb F_z19 F_z1c F_z4 F_z11 F_z1d F_zy))):=by
  refine orc_pureK PT_W19_ok (O:=PO_z1l F_zg F_zr F_zb F_z19 F_z1c F_z4 F_z11 F_z1d F_zy) (OOk.cons h_zg (OOk.cons h_zr (OOk.cons h_zb (OOk.cons h_z19 (OOk.cons h_z1c (OOk.cons h_z4 (OOk.cons h_z11 (OOk.cons h_z1d (OOk.cons h_zy (OOk.nil)))))))))) (L:=[]) ⟨1,[]⟩ Tryz.func87 (by kernel_rfl) (by kernel_rfl) (by kernel_rfl) FLOk.nil ?_
  intro args k r hk
  unfold ad_z1l at hk
  split at hk<;>try (cases hk; done)
  obtain ⟨x0,rfl,hk0⟩:=GState.dec_spec hk
  obtain ⟨x1,rfl,hk1⟩:=GInsn.dec_spec hk0
  have hkz:=hk1
  refine ⟨by simp [Ids,Idss],fun v=>dR_legal_Insn v (fun r0 r1=>k (.tuple [(.int .u64 r0),(.bool r1)])),?_,fun v hv=>?_⟩
  · rw [ok_z1l]; exact hkz
  · obtain ⟨r0,r1,rfl,hv1⟩:=dR_legal_Insn_spec hv; exact ⟨hv1,by simp [Ids,Idss]⟩
noncomputable abbrev PO_zc {α:Type} (F_z1:Sg_z1 α) (F_ze:Sg_ze α):ORC α:=[(79,.pure (ad_z1 F_z1)),(113,.pure (ad_ze F_ze))]
theorem ok_zc {α:Type} (F_z1:Sg_z1 α) (F_ze:Sg_ze α) (x0:GState) (x1:Int) (x2:Int) (x3:Int) (k:GState→R α):bodyL PT_W19 (PO_zc F_z1 F_ze) [] ⟨1,[]⟩ Tryz.f66 [(GState.sv x0),(.int .i64 x1),(.int .u64 x2),(.int .u64 x3)] emp (fun v _=>dR_csr_With v k)=p_zc F_z1 F_ze x0 x1 x2 x3 k:=by kernel_rfl
theorem mk_zc {α:Type} {I:Imm} {F_z1:Sg_z1 α} {F_ze:Sg_ze α} (h_z1:OrcOk (α:=α) Tryz.prog I 79 (.pure (ad_z1 F_z1))) (h_ze:OrcOk (α:=α) Tryz.prog I 113 (.pure (ad_ze F_ze))):OrcOk (α:=α) Tryz.prog I 66 (.pure (ad_zc (p_zc F_z1 F_ze))):=by
  refine orc_pureK PT_W19_ok (O:=PO_zc F_z1 F_ze) (OOk.cons h_z1 (OOk.cons h_ze (OOk.nil))) (L:=[]) ⟨1,[]⟩ Tryz.func66 (by kernel_rfl) (by kernel_rfl) (by kernel_rfl) FLOk.nil ?_
  intro args k r hk
  unfold ad_zc at hk
  split at hk<;>try (cases hk; done)
  obtain ⟨x0,rfl,hk0⟩:=GState.dec_spec hk
  obtain ⟨x1,rfl,hk1⟩:=decI_spec hk0
  obtain ⟨x2,rfl,hk2⟩:=decI_spec hk1
  obtain ⟨x3,rfl,hk3⟩:=decI_spec hk2
  have hkz:=hk3
  refine ⟨by simp [Ids,Idss],fun v=>dR_csr_With v (fun r0=>k (GState.sv r0)),?_,fun v hv=>?_⟩
  · rw [ok_zc]; exact hkz
  · obtain ⟨r0,rfl,hv1⟩:=dR_csr_With_spec hv; exact ⟨hv1,by simp [Ids,Idss]⟩
noncomputable abbrev B_z4b {α:Type} (F_z2:Sg_z2 α):FF α:=byBody PT_W19 [] ⟨15,[]⟩ Tryz.f176
theorem cB_z4b {α:Type} {I:Imm} {F_z2:Sg_z2 α} (h_z2:OrcOk (α:=α) Tryz.prog I 177 (.pure (ad_z2 F_z2))):OrcOk (α:=α) Tryz.prog I 176 (.full (B_z4b F_z2)):=orc_body PT_W19_ok (OOk.nil) ⟨15,[]⟩ Tryz.func176 (by kernel_rfl) (by kernel_rfl) (by kernel_rfl)
noncomputable abbrev B_z4c {α:Type} (F_z2:Sg_z2 α):FF α:=byBody PT_W19 [(176,.full (B_z4b F_z2)),(177,.pure (ad_z2 F_z2))] ⟨15,[]⟩ Tryz.f114
theorem cB_z4c {α:Type} {I:Imm} {F_z2:Sg_z2 α} (h_z2:OrcOk (α:=α) Tryz.prog I 177 (.pure (ad_z2 F_z2))):OrcOk (α:=α) Tryz.prog I 114 (.full (B_z4c F_z2)):=orc_body PT_W19_ok (OOk.cons (cB_z4b h_z2) (OOk.cons h_z2 (OOk.nil))) ⟨15,[]⟩ Tryz.func114 (by kernel_rfl) (by kernel_rfl) (by kernel_rfl)
noncomputable abbrev PO_z5 {α:Type} (F_z2:Sg_z2 α):ORC α:=[(114,.full (B_z4c F_z2))]
theorem ok_z34 {α:Type} (F_z2:Sg_z2 α)   (k:Int→R α):bodyL PT_W19 (PO_z5 F_z2) [] ⟨15,[]⟩ Tryz.f67 [(.int .i64 0)] emp (fun v _=>dR_csr_Mask v k)=p_z34 F_z2  k:=by kernel_rfl
theorem ok_z35 {α:Type} (F_z2:Sg_z2 α)   (k:Int→R α):bodyL PT_W19 (PO_z5 F_z2) [] ⟨15,[]⟩ Tryz.f67 [(.int .i64 1)] emp (fun v _=>dR_csr_Mask v k)=p_z35 F_z2  k:=by kernel_rfl
theorem ok_z36 {α:Type} (F_z2:Sg_z2 α)   (k:Int→R α):bodyL PT_W19 (PO_z5 F_z2) [] ⟨15,[]⟩ Tryz.f67 [(.int .i64 2)] emp (fun v _=>dR_csr_Mask v k)=p_z36 F_z2  k:=by kernel_rfl
theorem ok_z37 {α:Type} (F_z2:Sg_z2 α)   (k:Int→R α):bodyL PT_W19 (PO_z5 F_z2) [] ⟨15,[]⟩ Tryz.f67 [(.int .i64 3)] emp (fun v _=>dR_csr_Mask v k)=p_z37 F_z2  k:=by kernel_rfl
theorem ok_z38 {α:Type} (F_z2:Sg_z2 α)   (k:Int→R α):bodyL PT_W19 (PO_z5 F_z2) [] ⟨15,[]⟩ Tryz.f67 [(.int .i64 4)] emp (fun v _=>dR_csr_Mask v k)=p_z38 F_z2  k:=by kernel_rfl
theorem ok_z39 {α:Type} (F_z2:Sg_z2 α)   (k:Int→R α):bodyL PT_W19 (PO_z5 F_z2) [] ⟨15,[]⟩ Tryz.f67 [(.int .i64 5)] emp (fun v _=>dR_csr_Mask v k)=p_z39 F_z2  k:=by kernel_rfl
theorem ok_z3a {α:Type} (F_z2:Sg_z2 α)   (k:Int→R α):bodyL PT_W19 (PO_z5 F_z2) [] ⟨15,[]⟩ Tryz.f67 [(.int .i64 6)] emp (fun v _=>dR_csr_Mask v k)=p_z3a F_z2  k:=by kernel_rfl
theorem ok_z3b {α:Type} (F_z2:Sg_z2 α)   (k:Int→R α):bodyL PT_W19 (PO_z5 F_z2) [] ⟨15,[]⟩ Tryz.f67 [(.int .i64 7)] emp (fun v _=>dR_csr_Mask v k)=p_z3b F_z2  k:=by kernel_rfl
theorem ok_z3c {α:Type} (F_z2:Sg_z2 α)   (k:Int→R α):bodyL PT_W19 (PO_z5 F_z2) [] ⟨15,[]⟩ Tryz.f67 [(.int .i64 8)] emp (fun v _=>dR_csr_Mask v k)=p_z3c F_z2  k:=by kernel_rfl
theorem ok_z3d {α:Type} (F_z2:Sg_z2 α)   (k:Int→R α):bodyL PT_W19 (PO_z5 F_z2) [] ⟨15,[]⟩ Tryz.f67 [(.int .i64 9)] emp (fun v _=>dR_csr_Mask v k)=p_z3d F_z2  k:=by kernel_rfl
theorem ok_z3e {α:Type} (F_z2:Sg_z2 α)   (k:Int→R α):bodyL PT_W19 (PO_z5 F_z2) [] ⟨15,[]⟩ Tryz.f67 [(.int .i64 10)] emp (fun v _=>dR_csr_Mask v k)=p_z3e F_z2  k:=by kernel_rfl
theorem ok_z3f {α:Type} (F_z2:Sg_z2 α)   (k:Int→R α):bodyL PT_W19 (PO_z5 F_z2) [] ⟨15,[]⟩ Tryz.f67 [(.int .i64 11)] emp (fun v _=>dR_csr_Mask v k)=p_z3f F_z2  k:=by kernel_rfl
theorem ok_z3g {α:Type} (F_z2:Sg_z2 α)   (k:Int→R α):bodyL PT_W19 (PO_z5 F_z2) [] ⟨15,[]⟩ Tryz.f67 [(.int .i64 12)] emp (fun v _=>dR_csr_Mask v k)=p_z3g F_z2  k:=by kernel_rfl
theorem ok_z3h {α:Type} (F_z2:Sg_z2 α)   (k:Int→R α):bodyL PT_W19 (PO_z5 F_z2) [] ⟨15,[]⟩ Tryz.f67 [(.int .i64 13)] emp (fun v _=>dR_csr_Mask v k)=p_z3h F_z2  k:=by kernel_rfl
theorem ok_z3i {α:Type} (F_z2:Sg_z2 α)   (k:Int→R α):bodyL PT_W19 (PO_z5 F_z2) [] ⟨15,[]⟩ Tryz.f67 [(.int .i64 14)] emp (fun v _=>dR_csr_Mask v k)=p_z3i F_z2  k:=by kernel_rfl
theorem ok_z3j {α:Type} (F_z2:Sg_z2 α)   (k:Int→R α):bodyL PT_W19 (PO_z5 F_z2) [] ⟨15,[]⟩ Tryz.f67 [(.int .i64 15)] emp (fun v _=>dR_csr_Mask v k)=p_z3j F_z2  k:=by kernel_rfl
theorem ok_z3k {α:Type} (F_z2:Sg_z2 α)   (k:Int→R α):bodyL PT_W19 (PO_z5 F_z2) [] ⟨15,[]⟩ Tryz.f67 [(.int .i64 16)] emp (fun v _=>dR_csr_Mask v k)=p_z3k F_z2  k:=by kernel_rfl
theorem ok_z3l {α:Type} (F_z2:Sg_z2 α)   (k:Int→R α):bodyL PT_W19 (PO_z5 F_z2) [] ⟨15,[]⟩ Tryz.f67 [(.int .i64 17)] emp (fun v _=>dR_csr_Mask v k)=p_z3l F_z2  k:=by kernel_rfl
theorem ok_z3m {α:Type} (F_z2:Sg_z2 α)   (k:Int→R α):bodyL PT_W19 (PO_z5 F_z2) [] ⟨15,[]⟩ Tryz.f67 [(.int .i64 18)] emp (fun v _=>dR_csr_Mask v k)=p_z3m F_z2  k:=by kernel_rfl
theorem ok_z3n {α:Type} (F_z2:Sg_z2 α)   (k:Int→R α):bodyL PT_W19 (PO_z5 F_z2) [] ⟨15,[]⟩ Tryz.f67 [(.int .i64 19)] emp (fun v _=>dR_csr_Mask v k)=p_z3n F_z2  k:=by kernel_rfl
theorem ok_z3o {α:Type} (F_z2:Sg_z2 α)   (k:Int→R α):bodyL PT_W19 (PO_z5 F_z2) [] ⟨15,[]⟩ Tryz.f67 [(.int .i64 20)] emp (fun v _=>dR_csr_Mask v k)=p_z3o F_z2  k:=by kernel_rfl
theorem ok_z3p {α:Type} (F_z2:Sg_z2 α)   (k:Int→R α):bodyL PT_W19 (PO_z5 F_z2) [] ⟨15,[]⟩ Tryz.f67 [(.int .i64 21)] emp (fun v _=>dR_csr_Mask v k)=p_z3p F_z2  k:=by kernel_rfl
theorem ok_z3q {α:Type} (F_z2:Sg_z2 α)   (k:Int→R α):bodyL PT_W19 (PO_z5 F_z2) [] ⟨15,[]⟩ Tryz.f67 [(.int .i64 22)] emp (fun v _=>dR_csr_Mask v k)=p_z3q F_z2  k:=by kernel_rfl
theorem ok_z3r {α:Type} (F_z2:Sg_z2 α)   (k:Int→R α):bodyL PT_W19 (PO_z5 F_z2) [] ⟨15,[]⟩ Tryz.f67 [(.int .i64 23)] emp (fun v _=>dR_csr_Mask v k)=p_z3r F_z2  k:=by kernel_rfl
theorem ok_z3s {α:Type} (F_z2:Sg_z2 α)   (k:Int→R α):bodyL PT_W19 (PO_z5 F_z2) [] ⟨15,[]⟩ Tryz.f67 [(.int .i64 24)] emp (fun v _=>dR_csr_Mask v k)=p_z3s F_z2  k:=by kernel_rfl
theorem ok_z3t {α:Type} (F_z2:Sg_z2 α)   (k:Int→R α):bodyL PT_W19 (PO_z5 F_z2) [] ⟨15,[]⟩ Tryz.f67 [(.int .i64 25)] emp (fun v _=>dR_csr_Mask v k)=p_z3t F_z2  k:=by kernel_rfl
theorem ok_z3u {α:Type} (F_z2:Sg_z2 α)   (k:Int→R α):bodyL PT_W19 (PO_z5 F_z2) [] ⟨15,[]⟩ Tryz.f67 [(.int .i64 26)] emp (fun v _=>dR_csr_Mask v k)=p_z3u F_z2  k:=by kernel_rfl
theorem ok_z3v {α:Type} (F_z2:Sg_z2 α)   (k:Int→R α):bodyL PT_W19 (PO_z5 F_z2) [] ⟨15,[]⟩ Tryz.f67 [(.int .i64 27)] emp (fun v _=>dR_csr_Mask v k)=p_z3v F_z2  k:=by kernel_rfl
theorem ok_z3w {α:Type} (F_z2:Sg_z2 α)   (k:Int→R α):bodyL PT_W19 (PO_z5 F_z2) [] ⟨15,[]⟩ Tryz.f67 [(.int .i64 28)] emp (fun v _=>dR_csr_Mask v k)=p_z3w F_z2  k:=by kernel_rfl
theorem ok_z5 {α:Type} {F_z2:Sg_z2 α}  {x0:Int} {k:Int→R α} {r:α} (h:p_z5 F_z2 x0 k=some r):bodyL PT_W19 (PO_z5 F_z2) [] ⟨15,[]⟩ Tryz.f67 [(.int .i64 x0)] emp (fun v _=>dR_csr_Mask v k)=some r:=by
  unfold p_z5 at h
  cases e0:(x0==0)
  case true=>rw [e0] at h; simp only [cond_true] at h; rw [beq_iff_eq] at e0; subst e0; exact (ok_z34 F_z2   k).trans h
  rw [e0] at h; simp only [cond_false] at h
  cases e1:(x0==1)
  case true=>rw [e1] at h; simp only [cond_true] at h; rw [beq_iff_eq] at e1; subst e1; exact (ok_z35 F_z2   k).trans h
  rw [e1] at h; simp only [cond_false] at h
  cases e2:(x0==2)
  case true=>rw [e2] at h; simp only [cond_true] at h; rw [beq_iff_eq] at e2; subst e2; exact (ok_z36 F_z2   k).trans h
  rw [e2] at h; simp only [cond_false] at h
  cases e3:(x0==3)
  case true=>rw [e3] at h; simp only [cond_true] at h; rw [beq_iff_eq] at e3; subst e3; exact (ok_z37 F_z2   k).trans h
  rw [e3] at h; simp only [cond_false] at h
  cases e4:(x0==4)
  case true=>rw [e4] at h; simp only [cond_true] at h; rw [beq_iff_eq] at e4; subst e4; exact (ok_z38 F_z2   k).trans h
  rw [e4] at h; simp only [cond_false] at h
  cases e5:(x0==5)
  case true=>rw [e5] at h; simp only [cond_true] at h; rw [beq_iff_eq] at e5; subst e5; exact (ok_z39 F_z2   k).trans h
  rw [e5] at h; simp only [cond_false] at h
  cases e6:(x0==6)
  case true=>rw [e6] at h; simp only [cond_true] at h; rw [beq_iff_eq] at e6; subst e6; exact (ok_z3a F_z2   k).trans h
  rw [e6] at h; simp only [cond_false] at h
  cases e7:(x0==7)
  case true=>rw [e7] at h; simp only [cond_true] at h; rw [beq_iff_eq] at e7; subst e7; exact (ok_z3b F_z2   k).trans h
  rw [e7] at h; simp only [cond_false] at h
  cases e8:(x0==8)
  case true=>rw [e8] at h; simp only [cond_true] at h; rw [beq_iff_eq] at e8; subst e8; exact (ok_z3c F_z2   k).trans h
  rw [e8] at h; simp only [cond_false] at h
  cases e9:(x0==9)
  case true=>rw [e9] at h; simp only [cond_true] at h; rw [beq_iff_eq] at e9; subst e9; exact (ok_z3d F_z2   k).trans h
  rw [e9] at h; simp only [cond_false] at h
  cases e10:(x0==10)
  case true=>rw [e10] at h; simp only [cond_true] at h; rw [beq_iff_eq] at e10; subst e10; exact (ok_z3e F_z2   k).trans h
  rw [e10] at h; simp only [cond_false] at h
  cases e11:(x0==11)
  case true=>rw [e11] at h; simp only [cond_true] at h; rw [beq_iff_eq] at e11; subst e11; exact (ok_z3f F_z2   k).trans h
  rw [e11] at h; simp only [cond_false] at h
  cases e12:(x0==12)
  case true=>rw [e12] at h; simp only [cond_true] at h; rw [beq_iff_eq] at e12; subst e12; exact (ok_z3g F_z2   k).trans h
  rw [e12] at h; simp only [cond_false] at h
  cases e13:(x0==13)
  case true=>rw [e13] at h; simp only [cond_true] at h; rw [beq_iff_eq] at e13; subst e13; exact (ok_z3h F_z2   k).trans h
  rw [e13] at h; simp only [cond_false] at h
  cases e14:(x0==14)
  case true=>rw [e14] at h; simp only [cond_true] at h; rw [beq_iff_eq] at e14; subst e14; exact (ok_z3i F_z2   k).trans h
  rw [e14] at h; simp only [cond_false] at h
  cases e15:(x0==15)
  case true=>rw [e15] at h; simp only [cond_true] at h; rw [beq_iff_eq] at e15; subst e15; exact (ok_z3j F_z2   k).trans h
  rw [e15] at h; simp only [cond_false] at h
  cases e16:(x0==16)
  case true=>rw [e16] at h; simp only [cond_true] at h; rw [beq_iff_eq] at e16; subst e16; exact (ok_z3k F_z2   k).trans h
  rw [e16] at h; simp only [cond_false] at h
  cases e17:(x0==17)
  case true=>rw [e17] at h; simp only [cond_true] at h; rw [beq_iff_eq] at e17; subst e17; exact (ok_z3l F_z2   k).trans h
  rw [e17] at h; simp only [cond_false] at h
  cases e18:(x0==18)
  case true=>rw [e18] at h; simp only [cond_true] at h; rw [beq_iff_eq] at e18; subst e18; exact (ok_z3m F_z2   k).trans h
  rw [e18] at h; simp only [cond_false] at h
  cases e19:(x0==19)
  case true=>rw [e19] at h; simp only [cond_true] at h; rw [beq_iff_eq] at e19; subst e19; exact (ok_z3n F_z2   k).trans h
  rw [e19] at h; simp only [cond_false] at h
  cases e20:(x0==20)
  case true=>rw [e20] at h; simp only [cond_true] at h; rw [beq_iff_eq] at e20; subst e20; exact (ok_z3o F_z2   k).trans h
  rw [e20] at h; simp only [cond_false] at h
  cases e21:(x0==21)
  case true=>rw [e21] at h; simp only [cond_true] at h; rw [beq_iff_eq] at e21; subst e21; exact (ok_z3p F_z2   k).trans h
  rw [e21] at h; simp only [cond_false] at h
  cases e22:(x0==22)
  case true=>rw [e22] at h; simp only [cond_true] at h; rw [beq_iff_eq] at e22; subst e22; exact (ok_z3q F_z2   k).trans h
  rw [e22] at h; simp only [cond_false] at h
  cases e23:(x0==23)
  case true=>rw [e23] at h; simp only [cond_true] at h; rw [beq_iff_eq] at e23; subst e23; exact (ok_z3r F_z2   k).trans h
  rw [e23] at h; simp only [cond_false] at h
  cases e24:(x0==24)
  case true=>rw [e24] at h; simp only [cond_true] at h; rw [beq_iff_eq] at e24; subst e24; exact (ok_z3s F_z2   k).trans h
  rw [e24] at h; simp only [cond_false] at h
  cases e25:(x0==25)
  case true=>rw [e25] at h; simp only [cond_true] at h; rw [beq_iff_eq] at e25; subst e25; exact (ok_z3t F_z2   k).trans h
  rw [e25] at h; simp only [cond_false] at h
  cases e26:(x0==26)
  case true=>rw [e26] at h; simp only [cond_true] at h; rw [beq_iff_eq] at e26; subst e26; exact (ok_z3u F_z2   k).trans h
  rw [e26] at h; simp only [cond_false] at h
  cases e27:(x0==27)
  case true=>rw [e27] at h; simp only [cond_true] at h; rw [beq_iff_eq] at e27; subst e27; exact (ok_z3v F_z2   k).trans h
  rw [e27] at h; simp only [cond_false] at h
  cases e28:(x0==28)
  case true=>rw [e28] at h; simp only [cond_true] at h; rw [beq_iff_eq] at e28; subst e28; exact (ok_z3w F_z2   k).trans h
  rw [e28] at h; simp only [cond_false] at h
  cases h
theorem mk_z5 {α:Type} {I:Imm} {F_z2:Sg_z2 α} (h_z2:OrcOk (α:=α) Tryz.prog I 177 (.pure (ad_z2 F_z2))):OrcOk (α:=α) Tryz.prog I 67 (.pure (ad_z5 (p_z5 F_z2))):=by
  refine orc_pureK PT_W19_ok (O:=PO_z5 F_z2) (OOk.cons (cB_z4c h_z2) (OOk.nil)) (L:=[]) ⟨15,[]⟩ Tryz.func67 (by kernel_rfl) (by kernel_rfl) (by kernel_rfl) FLOk.nil ?_
  intro args k r hk
  unfold ad_z5 at hk
  split at hk<;>try (cases hk; done)
  obtain ⟨x0,rfl,hk0⟩:=decI_spec hk
  have hkz:=hk0
  refine ⟨by simp [Ids,Idss],fun v=>dR_csr_Mask v (fun r0=>k (.int .u64 r0)),?_,fun v hv=>?_⟩
  · exact ok_z5 hkz
  · obtain ⟨r0,rfl,hv1⟩:=dR_csr_Mask_spec hv; exact ⟨hv1,by simp [Ids,Idss]⟩
noncomputable abbrev PO_z1m {α:Type} (F_zg:Sg_zg α):ORC α:=[(133,.pure (ad_zg F_zg))]
theorem ok_z1m {α:Type} (F_zg:Sg_zg α) (x0:GInsn) (k:Int→R α):bodyL PT_W19 (PO_z1m F_zg) [] ⟨1,[]⟩ Tryz.f89 [(GInsn.sv x0)] emp (fun v _=>dR_insn_Writes v k)=p_z1m F_zg x0 k:=by kernel_rfl
theorem mk_z1m {α:Type} {I:Imm} {F_zg:Sg_zg α} (h_zg:OrcOk (α:=α) Tryz.prog I 133 (.pure (ad_zg F_zg))):OrcOk (α:=α) Tryz.prog I 89 (.pure (ad_z1m (p_z1m F_zg))):=by
  refine orc_pureK PT_W19_ok (O:=PO_z1m F_zg) (OOk.cons h_zg (OOk.nil)) (L:=[]) ⟨1,[]⟩ Tryz.func89 (by kernel_rfl) (by kernel_rfl) (by kernel_rfl) FLOk.nil ?_
  intro args k r hk
  unfold ad_z1m at hk
  split at hk<;>try (cases hk; done)
  obtain ⟨x0,rfl,hk0⟩:=GInsn.dec_spec hk
  have hkz:=hk0
  refine ⟨by simp [Ids,Idss],fun v=>dR_insn_Writes v (fun r0=>k (.int .i64 r0)),?_,fun v hv=>?_⟩
  · rw [ok_z1m]; exact hkz
  · obtain ⟨r0,rfl,hv1⟩:=dR_insn_Writes_spec hv; exact ⟨hv1,by simp [Ids,Idss]⟩
noncomputable abbrev PO_z1n {α:Type} (F_z5:Sg_z5 α) (F_zc:Sg_zc α):ORC α:=[(67,.pure (ad_z5 F_z5)),(66,.pure (ad_zc F_zc))]
theorem ok_z1n {α:Type} (F_z5:Sg_z5 α) (F_zc:Sg_zc α) (x0:GState) (k:GState→R α):bodyL PT_W19 (PO_z1n F_z5 F_zc) [] ⟨30,[]⟩ Tryz.f29 [(GState.sv x0)] emp (fun v _=>dR_isa_Clean v k)=p_z1n F_z5 F_zc x0 k:=by kernel_rfl
theorem mk_z1n {α:Type} {I:Imm} {F_z5:Sg_z5 α} {F_zc:Sg_zc α} (h_z5:OrcOk (α:=α) Tryz.prog I 67 (.pure (ad_z5 F_z5))) (h_zc:OrcOk (α:=α) Tryz.prog I 66 (.pure (ad_zc F_zc))):OrcOk (α:=α) Tryz.prog I 29 (.pure (ad_z1n (p_z1n F_z5 F_zc))):=by
  refine orc_pureK PT_W19_ok (O:=PO_z1n F_z5 F_zc) (OOk.cons h_z5 (OOk.cons h_zc (OOk.nil))) (L:=[]) ⟨30,[]⟩ Tryz.func29 (by kernel_rfl) (by kernel_rfl) (by kernel_rfl) FLOk.nil ?_
  intro args k r hk
  unfold ad_z1n at hk
  split at hk<;>try (cases hk; done)
  obtain ⟨x0,rfl,hk0⟩:=GState.dec_spec hk
  have hkz:=hk0
  refine ⟨by simp [Ids,Idss],fun v=>dR_isa_Clean v (fun r0=>k (GState.sv r0)),?_,fun v hv=>?_⟩
  · rw [ok_z1n]; exact hkz
  · obtain ⟨r0,rfl,hv1⟩:=dR_isa_Clean_spec hv; exact ⟨hv1,by simp [Ids,Idss]⟩
end Go.Proofs.YtepdlgehceipjaaGreat
