/-
  One instruction after the other (printed by wip/pr/pr.py): the functions come to just that.
-/
import Derived.Test.YtepdlgehceipjaaGreatInB18
import Derived.Test.YtepdlgehceipjaaGreatInOnce
import Derived.Test.YtepdlgehceipjaaGreatSpW19
set_option maxRecDepth 100000
namespace Go.Proofs.YtepdlgehceipjaaGreat
open Go Go.Sh Go.Proofs
set_option linter.unusedVariables false
set_option linter.unusedSimpArgs false
theorem pe_24 : TyOk Tryz.prog 24 ⟨.ints .u64 29 (fun _=>0),29,232,.ar 29 22 1 false,some (.ar 29 1 (.it .u64))⟩:=⟨fun _=>by kernel_rfl,⟨rfl,rfl,fun _ _=>by simp [Wf,Wfs]⟩,⟨Tryz.underlying24,by kernel_rfl,by kernel_rfl⟩,fun _ h=>by cases h; exact ⟨by kernel_rfl,by kernel_rfl⟩⟩
theorem pe_58 : TyOk Tryz.prog 58 ⟨.nils,1,24,.sc (.slice 3),none⟩:=⟨fun _=>by kernel_rfl,⟨rfl,rfl,fun _ _=>by simp [Wf,Wfs]⟩,⟨Tryz.underlying58,rfl⟩,fun _ h=>by cases h⟩
theorem pe_4 : TyOk Tryz.prog 4 ⟨.bool false,1,1,.sc (.bool),none⟩:=⟨fun _=>by kernel_rfl,⟨rfl,rfl,fun _ _=>by simp [Wf,Wfs]⟩,⟨Tryz.underlying4,rfl⟩,fun _ h=>by cases h⟩
theorem pe_149 : TyOk Tryz.prog 149 ⟨.agg [.int .i64 0,.int .i64 0,.bool false,.int .i64 0,.bool false],5,40,.st [(0,1,false),(1,1,false),(2,1,false),(3,1,false),(4,1,false)],some (.st [(0,1,false,.it .i64),(1,1,false,.it .i64),(2,1,false,.bl),(3,1,false,.it .i64),(4,1,false,.bl)])⟩:=⟨fun _=>by kernel_rfl,⟨rfl,rfl,fun _ _=>by simp [Wf,Wfs]⟩,⟨_,Tryz.underlying149,by kernel_rfl⟩,fun _ h=>by cases h; exact ⟨by kernel_rfl,by kernel_rfl⟩⟩
theorem pe_150 : TyOk Tryz.prog 150 ⟨.arr 5 8 (fun _=>.agg [.int .i64 0,.int .i64 0,.bool false,.int .i64 0,.bool false]),40,320,.ar 8 149 5 true,none⟩:=⟨fun _=>by kernel_rfl,⟨rfl,rfl,fun _ _=>by simp [Wf,Wfs]⟩,⟨Tryz.underlying150,by kernel_rfl,by kernel_rfl⟩,fun _ h=>by cases h⟩
theorem pe_214 : TyOk Tryz.prog 214 ⟨.agg [.int .i64 0,.int .i64 0,.int .i64 0,.int .i64 0,.int .i64 0],5,40,.st [(0,1,false),(1,1,false),(2,1,false),(3,1,false),(4,1,false)],some (.st [(0,1,false,.it .i64),(1,1,false,.it .i64),(2,1,false,.it .i64),(3,1,false,.it .i64),(4,1,false,.it .i64)])⟩:=⟨fun _=>by kernel_rfl,⟨rfl,rfl,fun _ _=>by simp [Wf,Wfs]⟩,⟨_,Tryz.underlying214,by kernel_rfl⟩,fun _ h=>by cases h; exact ⟨by kernel_rfl,by kernel_rfl⟩⟩
theorem pe_218 : TyOk Tryz.prog 218 ⟨.agg [.int .i64 0,.int .i64 0,.int .i64 0],3,24,.st [(0,1,false),(1,1,false),(2,1,false)],some (.st [(0,1,false,.it .i64),(1,1,false,.it .i64),(2,1,false,.it .i64)])⟩:=⟨fun _=>by kernel_rfl,⟨rfl,rfl,fun _ _=>by simp [Wf,Wfs]⟩,⟨_,Tryz.underlying218,by kernel_rfl⟩,fun _ h=>by cases h; exact ⟨by kernel_rfl,by kernel_rfl⟩⟩
theorem pe_212 : TyOk Tryz.prog 212 ⟨.agg [.int .i64 0,.bool false],2,16,.st [(0,1,false),(1,1,false)],some (.st [(0,1,false,.it .i64),(1,1,false,.bl)])⟩:=⟨fun _=>by kernel_rfl,⟨rfl,rfl,fun _ _=>by simp [Wf,Wfs]⟩,⟨_,Tryz.underlying212,by kernel_rfl⟩,fun _ h=>by cases h; exact ⟨by kernel_rfl,by kernel_rfl⟩⟩
theorem pe_47 : TyOk Tryz.prog 47 ⟨.agg [.int .u64 0,.int .u32 0,.int .i64 0,.int .u64 0,.bool false,.agg [.int .u64 0,.int .u64 0,.int .u64 0,.bool false],.int .i64 0,.bool false,.bool false],12,88,.st [(0,1,false),(1,1,false),(2,1,false),(3,1,false),(4,1,false),(5,4,true),(9,1,false),(10,1,false),(11,1,false)],some (.st [(0,1,false,.it .u64),(1,1,false,.it .u32),(2,1,false,.it .i64),(3,1,false,.it .u64),(4,1,false,.bl),(5,4,true,.st [(0,1,false,.it .u64),(1,1,false,.it .u64),(2,1,false,.it .u64),(3,1,false,.bl)]),(9,1,false,.it .i64),(10,1,false,.bl),(11,1,false,.bl)])⟩:=⟨fun _=>by kernel_rfl,⟨rfl,rfl,fun _ _=>by simp [Wf,Wfs]⟩,⟨_,Tryz.underlying47,by kernel_rfl⟩,fun _ h=>by cases h; exact ⟨by kernel_rfl,by kernel_rfl⟩⟩
theorem pe_43 : TyOk Tryz.prog 43 ⟨.int .u32 0,1,4,.sc (.int .u32),none⟩:=⟨fun _=>by kernel_rfl,⟨rfl,rfl,fun _ _=>by simp [Wf,Wfs]⟩,⟨Tryz.underlying43,rfl⟩,fun _ h=>by cases h⟩
theorem pe_227 : TyOk Tryz.prog 227 ⟨.agg [.int .u32 0,.int .i64 0,.int .i64 0,.int .i64 0,.int .i64 0,.int .i64 0],6,48,.st [(0,1,false),(1,1,false),(2,1,false),(3,1,false),(4,1,false),(5,1,false)],some (.st [(0,1,false,.it .u32),(1,1,false,.it .i64),(2,1,false,.it .i64),(3,1,false,.it .i64),(4,1,false,.it .i64),(5,1,false,.it .i64)])⟩:=⟨fun _=>by kernel_rfl,⟨rfl,rfl,fun _ _=>by simp [Wf,Wfs]⟩,⟨_,Tryz.underlying227,by kernel_rfl⟩,fun _ h=>by cases h; exact ⟨by kernel_rfl,by kernel_rfl⟩⟩
theorem pe_2 : TyOk Tryz.prog 2 ⟨.int .i64 0,1,8,.sc (.int .i64),none⟩:=⟨fun _=>by kernel_rfl,⟨rfl,rfl,fun _ _=>by simp [Wf,Wfs]⟩,⟨Tryz.underlying2,rfl⟩,fun _ h=>by cases h⟩
theorem pe_36 : TyOk Tryz.prog 36 ⟨.agg [.int .i64 0,.int .i64 0,.int .i64 0,.int .i64 0,.int .i64 0,.int .i64 0],6,48,.st [(0,1,false),(1,1,false),(2,1,false),(3,1,false),(4,1,false),(5,1,false)],some (.st [(0,1,false,.it .i64),(1,1,false,.it .i64),(2,1,false,.it .i64),(3,1,false,.it .i64),(4,1,false,.it .i64),(5,1,false,.it .i64)])⟩:=⟨fun _=>by kernel_rfl,⟨rfl,rfl,fun _ _=>by simp [Wf,Wfs]⟩,⟨_,Tryz.underlying36,by kernel_rfl⟩,fun _ h=>by cases h; exact ⟨by kernel_rfl,by kernel_rfl⟩⟩
theorem pe_277 : TyOk Tryz.prog 277 ⟨.ints .i64 2 (fun _=>0),2,16,.ar 2 3 1 false,some (.ar 2 1 (.it .i64))⟩:=⟨fun _=>by kernel_rfl,⟨rfl,rfl,fun _ _=>by simp [Wf,Wfs]⟩,⟨Tryz.underlying277,by kernel_rfl,by kernel_rfl⟩,fun _ h=>by cases h; exact ⟨by kernel_rfl,by kernel_rfl⟩⟩
theorem pe_307 : TyOk Tryz.prog 307 ⟨.nils,1,24,.sc (.slice 277),none⟩:=⟨fun _=>by kernel_rfl,⟨rfl,rfl,fun _ _=>by simp [Wf,Wfs]⟩,⟨Tryz.underlying307,rfl⟩,fun _ h=>by cases h⟩
theorem pe_279 : TyOk Tryz.prog 279 ⟨.ints .i64 8 (fun _=>0),8,64,.ar 8 3 1 false,some (.ar 8 1 (.it .i64))⟩:=⟨fun _=>by kernel_rfl,⟨rfl,rfl,fun _ _=>by simp [Wf,Wfs]⟩,⟨Tryz.underlying279,by kernel_rfl,by kernel_rfl⟩,fun _ h=>by cases h; exact ⟨by kernel_rfl,by kernel_rfl⟩⟩
theorem pe_308 : TyOk Tryz.prog 308 ⟨.nilmap,1,8,.sc (.map 3 3),none⟩:=⟨fun _=>by kernel_rfl,⟨rfl,rfl,fun _ _=>by simp [Wf,Wfs]⟩,⟨Tryz.underlying308,rfl⟩,fun _ h=>by cases h⟩
theorem pe_318 : TyOk Tryz.prog 318 ⟨.nilmap,1,8,.sc (.map 43 3),none⟩:=⟨fun _=>by kernel_rfl,⟨rfl,rfl,fun _ _=>by simp [Wf,Wfs]⟩,⟨Tryz.underlying318,rfl⟩,fun _ h=>by cases h⟩
theorem pe_320 : TyOk Tryz.prog 320 ⟨.agg [.agg [.agg [],.agg [.agg [],.int .u32 0],.agg [.agg [],.agg [.int .i32 0,.int .u32 0]]],.nilmap],4,24,.st [(0,3,true),(3,1,false)],none⟩:=⟨fun _=>by kernel_rfl,⟨rfl,rfl,fun _ _=>by simp [Wf,Wfs]⟩,⟨_,Tryz.underlying320,by kernel_rfl⟩,fun _ h=>by cases h⟩
theorem pe_327 : TyOk Tryz.prog 327 ⟨.nilp,1,8,.sc (.pointer 320),none⟩:=⟨fun _=>by kernel_rfl,⟨rfl,rfl,fun _ _=>by simp [Wf,Wfs]⟩,⟨Tryz.underlying327,rfl⟩,fun _ h=>by cases h⟩
theorem pe_285 : TyOk Tryz.prog 285 ⟨.ints .i64 12 (fun _=>0),12,96,.ar 12 3 1 false,some (.ar 12 1 (.it .i64))⟩:=⟨fun _=>by kernel_rfl,⟨rfl,rfl,fun _ _=>by simp [Wf,Wfs]⟩,⟨Tryz.underlying285,by kernel_rfl,by kernel_rfl⟩,fun _ h=>by cases h; exact ⟨by kernel_rfl,by kernel_rfl⟩⟩
theorem pe_281 : TyOk Tryz.prog 281 ⟨.agg [.bool false,.bool false,.bool false,.bool false,.int .i64 0,.int .i64 0,.int .i64 0],7,32,.st [(0,1,false),(1,1,false),(2,1,false),(3,1,false),(4,1,false),(5,1,false),(6,1,false)],some (.st [(0,1,false,.bl),(1,1,false,.bl),(2,1,false,.bl),(3,1,false,.bl),(4,1,false,.it .i64),(5,1,false,.it .i64),(6,1,false,.it .i64)])⟩:=⟨fun _=>by kernel_rfl,⟨rfl,rfl,fun _ _=>by simp [Wf,Wfs]⟩,⟨_,Tryz.underlying281,by kernel_rfl⟩,fun _ h=>by cases h; exact ⟨by kernel_rfl,by kernel_rfl⟩⟩
theorem pe_284 : TyOk Tryz.prog 284 ⟨.arr 2 2 (fun _=>.ints .i64 2 (fun _=>0)),4,32,.ar 2 277 2 true,none⟩:=⟨fun _=>by kernel_rfl,⟨rfl,rfl,fun _ _=>by simp [Wf,Wfs]⟩,⟨Tryz.underlying284,by kernel_rfl,by kernel_rfl⟩,fun _ h=>by cases h⟩
theorem pe_191 : TyOk Tryz.prog 191 ⟨.agg [.int .i64 0,.int .u64 0],2,16,.st [(0,1,false),(1,1,false)],some (.st [(0,1,false,.it .i64),(1,1,false,.it .u64)])⟩:=⟨fun _=>by kernel_rfl,⟨rfl,rfl,fun _ _=>by simp [Wf,Wfs]⟩,⟨_,Tryz.underlying191,by kernel_rfl⟩,fun _ h=>by cases h; exact ⟨by kernel_rfl,by kernel_rfl⟩⟩
theorem pe_192 : TyOk Tryz.prog 192 ⟨.arr 2 29 (fun _=>.agg [.int .i64 0,.int .u64 0]),58,464,.ar 29 191 2 true,none⟩:=⟨fun _=>by kernel_rfl,⟨rfl,rfl,fun _ _=>by simp [Wf,Wfs]⟩,⟨Tryz.underlying192,by kernel_rfl,by kernel_rfl⟩,fun _ h=>by cases h⟩
theorem pe_66 : TyOk Tryz.prog 66 ⟨.ints .i64 4 (fun _=>0),4,32,.ar 4 3 1 false,some (.ar 4 1 (.it .i64))⟩:=⟨fun _=>by kernel_rfl,⟨rfl,rfl,fun _ _=>by simp [Wf,Wfs]⟩,⟨Tryz.underlying66,by kernel_rfl,by kernel_rfl⟩,fun _ h=>by cases h; exact ⟨by kernel_rfl,by kernel_rfl⟩⟩
theorem pe_165 : TyOk Tryz.prog 165 ⟨.agg [.agg [.ints .u64 32 (fun _=>0),.int .u64 0,.int .i64 0,.bool false,.ints .u64 29 (fun _=>0),.int .u64 0],.int .u64 0,.agg [.int .u64 0,.int .u64 0,.int .u64 0,.bool false],.bool false],71,568,.st [(0,65,true),(65,1,false),(66,4,true),(70,1,false)],some (.st [(0,65,true,.st [(0,32,true,.ar 32 1 (.it .u64)),(32,1,false,.it .u64),(33,1,false,.it .i64),(34,1,false,.bl),(35,29,true,.ar 29 1 (.it .u64)),(64,1,false,.it .u64)]),(65,1,false,.it .u64),(66,4,true,.st [(0,1,false,.it .u64),(1,1,false,.it .u64),(2,1,false,.it .u64),(3,1,false,.bl)]),(70,1,false,.bl)])⟩:=⟨fun _=>by kernel_rfl,⟨rfl,rfl,fun _ _=>by simp [Wf,Wfs]⟩,⟨_,Tryz.underlying165,by kernel_rfl⟩,fun _ h=>by cases h; exact ⟨by kernel_rfl,by kernel_rfl⟩⟩
theorem pe_23 : TyOk Tryz.prog 23 ⟨.ints .u64 32 (fun _=>0),32,256,.ar 32 22 1 false,some (.ar 32 1 (.it .u64))⟩:=⟨fun _=>by kernel_rfl,⟨rfl,rfl,fun _ _=>by simp [Wf,Wfs]⟩,⟨Tryz.underlying23,by kernel_rfl,by kernel_rfl⟩,fun _ h=>by cases h; exact ⟨by kernel_rfl,by kernel_rfl⟩⟩
theorem pe_321 : TyOk Tryz.prog 321 ⟨.ints .i64 70 (fun _=>0),70,560,.ar 70 3 1 false,some (.ar 70 1 (.it .i64))⟩:=⟨fun _=>by kernel_rfl,⟨rfl,rfl,fun _ _=>by simp [Wf,Wfs]⟩,⟨Tryz.underlying321,by kernel_rfl,by kernel_rfl⟩,fun _ h=>by cases h; exact ⟨by kernel_rfl,by kernel_rfl⟩⟩
theorem pe_289 : TyOk Tryz.prog 289 ⟨.ints .u64 6 (fun _=>0),6,48,.ar 6 22 1 false,some (.ar 6 1 (.it .u64))⟩:=⟨fun _=>by kernel_rfl,⟨rfl,rfl,fun _ _=>by simp [Wf,Wfs]⟩,⟨Tryz.underlying289,by kernel_rfl,by kernel_rfl⟩,fun _ h=>by cases h; exact ⟨by kernel_rfl,by kernel_rfl⟩⟩
theorem pe_31 : TyOk Tryz.prog 31 ⟨.nilp,1,8,.sc (.pointer 89),none⟩:=⟨fun _=>by kernel_rfl,⟨rfl,rfl,fun _ _=>by simp [Wf,Wfs]⟩,⟨Tryz.underlying31,rfl⟩,fun _ h=>by cases h⟩
theorem pe_81 : TyOk Tryz.prog 81 ⟨.agg [.agg [.ints .u64 32 (fun _=>0),.int .u64 0,.int .i64 0,.bool false,.ints .u64 29 (fun _=>0),.int .u64 0],.nilp,.agg [.agg [],.agg [],.int .i64 0]],67,536,.st [(0,65,true),(65,1,false),(66,1,true)],none⟩:=⟨fun _=>by kernel_rfl,⟨rfl,rfl,fun _ _=>by simp [Wf,Wfs]⟩,⟨_,Tryz.underlying81,by kernel_rfl⟩,fun _ h=>by cases h⟩
theorem pe_79 : TyOk Tryz.prog 79 ⟨.agg [.agg [],.agg [],.int .i64 0],1,8,.st [(0,0,true),(0,0,true),(0,1,false)],none⟩:=⟨fun _=>by kernel_rfl,⟨rfl,rfl,fun _ _=>by simp [Wf,Wfs]⟩,⟨_,Tryz.underlying79,by kernel_rfl⟩,fun _ h=>by cases h⟩
theorem pe_52 : TyOk Tryz.prog 52 ⟨.int .u64 0,1,8,.sc (.int .u64),none⟩:=⟨fun _=>by kernel_rfl,⟨rfl,rfl,fun _ _=>by simp [Wf,Wfs]⟩,⟨Tryz.underlying52,rfl⟩,fun _ h=>by cases h⟩
abbrev PT_W19 : TE:=[(2,⟨.int .i64 0,1,8,.sc (.int .i64),none⟩),(3,⟨.int .i64 0,1,8,.sc (.int .i64),none⟩),(4,⟨.bool false,1,1,.sc (.bool),none⟩),(22,⟨.int .u64 0,1,8,.sc (.int .u64),none⟩),(23,⟨.ints .u64 32 (fun _=>0),32,256,.ar 32 22 1 false,some (.ar 32 1 (.it .u64))⟩),(24,⟨.ints .u64 29 (fun _=>0),29,232,.ar 29 22 1 false,some (.ar 29 1 (.it .u64))⟩),(26,⟨.agg [.ints .u64 32 (fun _=>0),.int .u64 0,.int .i64 0,.bool false,.ints .u64 29 (fun _=>0),.int .u64 0],65,520,.st [(0,32,true),(32,1,false),(33,1,false),(34,1,false),(35,29,true),(64,1,false)],some (.st [(0,32,true,.ar 32 1 (.it .u64)),(32,1,false,.it .u64),(33,1,false,.it .i64),(34,1,false,.bl),(35,29,true,.ar 29 1 (.it .u64)),(64,1,false,.it .u64)])⟩),(31,⟨.nilp,1,8,.sc (.pointer 89),none⟩),(36,⟨.agg [.int .i64 0,.int .i64 0,.int .i64 0,.int .i64 0,.int .i64 0,.int .i64 0],6,48,.st [(0,1,false),(1,1,false),(2,1,false),(3,1,false),(4,1,false),(5,1,false)],some (.st [(0,1,false,.it .i64),(1,1,false,.it .i64),(2,1,false,.it .i64),(3,1,false,.it .i64),(4,1,false,.it .i64),(5,1,false,.it .i64)])⟩),(43,⟨.int .u32 0,1,4,.sc (.int .u32),none⟩),(45,⟨.agg [.int .u64 0,.int .u64 0,.int .u64 0,.bool false],4,32,.st [(0,1,false),(1,1,false),(2,1,false),(3,1,false)],some (.st [(0,1,false,.it .u64),(1,1,false,.it .u64),(2,1,false,.it .u64),(3,1,false,.bl)])⟩),(47,⟨.agg [.int .u64 0,.int .u32 0,.int .i64 0,.int .u64 0,.bool false,.agg [.int .u64 0,.int .u64 0,.int .u64 0,.bool false],.int .i64 0,.bool false,.bool false],12,88,.st [(0,1,false),(1,1,false),(2,1,false),(3,1,false),(4,1,false),(5,4,true),(9,1,false),(10,1,false),(11,1,false)],some (.st [(0,1,false,.it .u64),(1,1,false,.it .u32),(2,1,false,.it .i64),(3,1,false,.it .u64),(4,1,false,.bl),(5,4,true,.st [(0,1,false,.it .u64),(1,1,false,.it .u64),(2,1,false,.it .u64),(3,1,false,.bl)]),(9,1,false,.it .i64),(10,1,false,.bl),(11,1,false,.bl)])⟩),(52,⟨.int .u64 0,1,8,.sc (.int .u64),none⟩),(58,⟨.nils,1,24,.sc (.slice 3),none⟩),(61,⟨.nilp,1,8,.sc (.pointer 127),none⟩),(66,⟨.ints .i64 4 (fun _=>0),4,32,.ar 4 3 1 false,some (.ar 4 1 (.it .i64))⟩),(79,⟨.agg [.agg [],.agg [],.int .i64 0],1,8,.st [(0,0,true),(0,0,true),(0,1,false)],none⟩),(81,⟨.agg [.agg [.ints .u64 32 (fun _=>0),.int .u64 0,.int .i64 0,.bool false,.ints .u64 29 (fun _=>0),.int .u64 0],.nilp,.agg [.agg [],.agg [],.int .i64 0]],67,536,.st [(0,65,true),(65,1,false),(66,1,true)],none⟩),(83,⟨.agg [.agg [],.agg [],.int .u64 0],1,8,.st [(0,0,true),(0,0,true),(0,1,false)],none⟩),(89,⟨.agg [.nilp,.agg [.agg [],.agg [],.int .u64 0],.int .u64 0,.arr 3 4 (fun _=>.agg [.nils,.nils,.int .i64 0])],15,248,.st [(0,1,false),(1,1,true),(2,1,false),(3,12,true)],none⟩),(96,⟨.int .i64 0,1,8,.sc (.int .i64),none⟩),(149,⟨.agg [.int .i64 0,.int .i64 0,.bool false,.int .i64 0,.bool false],5,40,.st [(0,1,false),(1,1,false),(2,1,false),(3,1,false),(4,1,false)],some (.st [(0,1,false,.it .i64),(1,1,false,.it .i64),(2,1,false,.bl),(3,1,false,.it .i64),(4,1,false,.bl)])⟩),(150,⟨.arr 5 8 (fun _=>.agg [.int .i64 0,.int .i64 0,.bool false,.int .i64 0,.bool false]),40,320,.ar 8 149 5 true,none⟩),(165,⟨.agg [.agg [.ints .u64 32 (fun _=>0),.int .u64 0,.int .i64 0,.bool false,.ints .u64 29 (fun _=>0),.int .u64 0],.int .u64 0,.agg [.int .u64 0,.int .u64 0,.int .u64 0,.bool false],.bool false],71,568,.st [(0,65,true),(65,1,false),(66,4,true),(70,1,false)],some (.st [(0,65,true,.st [(0,32,true,.ar 32 1 (.it .u64)),(32,1,false,.it .u64),(33,1,false,.it .i64),(34,1,false,.bl),(35,29,true,.ar 29 1 (.it .u64)),(64,1,false,.it .u64)]),(65,1,false,.it .u64),(66,4,true,.st [(0,1,false,.it .u64),(1,1,false,.it .u64),(2,1,false,.it .u64),(3,1,false,.bl)]),(70,1,false,.bl)])⟩),(172,⟨.agg [.bool false,.bool false,.int .i64 0,.int .i64 0,.int .i64 0,.int .i64 0,.int .i64 0,.int .i64 0,.int .i64 0],9,64,.st [(0,1,false),(1,1,false),(2,1,false),(3,1,false),(4,1,false),(5,1,false),(6,1,false),(7,1,false),(8,1,false)],some (.st [(0,1,false,.bl),(1,1,false,.bl),(2,1,false,.it .i64),(3,1,false,.it .i64),(4,1,false,.it .i64),(5,1,false,.it .i64),(6,1,false,.it .i64),(7,1,false,.it .i64),(8,1,false,.it .i64)])⟩),(191,⟨.agg [.int .i64 0,.int .u64 0],2,16,.st [(0,1,false),(1,1,false)],some (.st [(0,1,false,.it .i64),(1,1,false,.it .u64)])⟩),(192,⟨.arr 2 29 (fun _=>.agg [.int .i64 0,.int .u64 0]),58,464,.ar 29 191 2 true,none⟩),(212,⟨.agg [.int .i64 0,.bool false],2,16,.st [(0,1,false),(1,1,false)],some (.st [(0,1,false,.it .i64),(1,1,false,.bl)])⟩),(214,⟨.agg [.int .i64 0,.int .i64 0,.int .i64 0,.int .i64 0,.int .i64 0],5,40,.st [(0,1,false),(1,1,false),(2,1,false),(3,1,false),(4,1,false)],some (.st [(0,1,false,.it .i64),(1,1,false,.it .i64),(2,1,false,.it .i64),(3,1,false,.it .i64),(4,1,false,.it .i64)])⟩),(218,⟨.agg [.int .i64 0,.int .i64 0,.int .i64 0],3,24,.st [(0,1,false),(1,1,false),(2,1,false)],some (.st [(0,1,false,.it .i64),(1,1,false,.it .i64),(2,1,false,.it .i64)])⟩),(227,⟨.agg [.int .u32 0,.int .i64 0,.int .i64 0,.int .i64 0,.int .i64 0,.int .i64 0],6,48,.st [(0,1,false),(1,1,false),(2,1,false),(3,1,false),(4,1,false),(5,1,false)],some (.st [(0,1,false,.it .u32),(1,1,false,.it .i64),(2,1,false,.it .i64),(3,1,false,.it .i64),(4,1,false,.it .i64),(5,1,false,.it .i64)])⟩),(241,⟨.ints .u64 3 (fun _=>0),3,24,.ar 3 22 1 false,some (.ar 3 1 (.it .u64))⟩),(277,⟨.ints .i64 2 (fun _=>0),2,16,.ar 2 3 1 false,some (.ar 2 1 (.it .i64))⟩),(279,⟨.ints .i64 8 (fun _=>0),8,64,.ar 8 3 1 false,some (.ar 8 1 (.it .i64))⟩),(281,⟨.agg [.bool false,.bool false,.bool false,.bool false,.int .i64 0,.int .i64 0,.int .i64 0],7,32,.st [(0,1,false),(1,1,false),(2,1,false),(3,1,false),(4,1,false),(5,1,false),(6,1,false)],some (.st [(0,1,false,.bl),(1,1,false,.bl),(2,1,false,.bl),(3,1,false,.bl),(4,1,false,.it .i64),(5,1,false,.it .i64),(6,1,false,.it .i64)])⟩),(284,⟨.arr 2 2 (fun _=>.ints .i64 2 (fun _=>0)),4,32,.ar 2 277 2 true,none⟩),(285,⟨.ints .i64 12 (fun _=>0),12,96,.ar 12 3 1 false,some (.ar 12 1 (.it .i64))⟩),(289,⟨.ints .u64 6 (fun _=>0),6,48,.ar 6 22 1 false,some (.ar 6 1 (.it .u64))⟩),(307,⟨.nils,1,24,.sc (.slice 277),none⟩),(308,⟨.nilmap,1,8,.sc (.map 3 3),none⟩),(318,⟨.nilmap,1,8,.sc (.map 43 3),none⟩),(320,⟨.agg [.agg [.agg [],.agg [.agg [],.int .u32 0],.agg [.agg [],.agg [.int .i32 0,.int .u32 0]]],.nilmap],4,24,.st [(0,3,true),(3,1,false)],none⟩),(321,⟨.ints .i64 70 (fun _=>0),70,560,.ar 70 3 1 false,some (.ar 70 1 (.it .i64))⟩),(327,⟨.nilp,1,8,.sc (.pointer 320),none⟩)]
theorem PT_W19_ok : Prg Tryz.prog PT_W19:=⟨(.cons pe_2 (.cons pe_3 (.cons pe_4 (.cons pe_22 (.cons pe_23 (.cons pe_24 (.cons pe_26 (.cons pe_31 (.cons pe_36 (.cons pe_43 (.cons pe_45 (.cons pe_47 (.cons pe_52 (.cons pe_58 (.cons pe_61 (.cons pe_66 (.cons pe_79 (.cons pe_81 (.cons pe_83 (.cons pe_89 (.cons pe_96 (.cons pe_149 (.cons pe_150 (.cons pe_165 (.cons pe_172 (.cons pe_191 (.cons pe_192 (.cons pe_212 (.cons pe_214 (.cons pe_218 (.cons pe_227 (.cons pe_241 (.cons pe_277 (.cons pe_279 (.cons pe_281 (.cons pe_284 (.cons pe_285 (.cons pe_289 (.cons pe_307 (.cons pe_308 (.cons pe_318 (.cons pe_320 (.cons pe_321 (.cons pe_327 (TEok.nil _))))))))))))))))))))))))))))))))))))))))))))),by kernel_rfl⟩
noncomputable abbrev B_z4z {α:Type}:FF α:=byBody PT_W19 [] ⟨2,[]⟩ Tryz.f176
theorem cB_z4z {α:Type} {I:Imm}:OrcOk (α:=α) Tryz.prog I 176 (.full (B_z4z )):=orc_body PT_W19_ok (OOk.nil) ⟨2,[]⟩ Tryz.func176 (by kernel_rfl) (by kernel_rfl) (by kernel_rfl)
noncomputable abbrev PO_z2o {α:Type}:ORC α:=[(176,.full (B_z4z ))]
theorem ok_z2o {α:Type}  (x0:GState) (x1:Bool) (x2:Bool) (k:Int→R α):bodyL PT_W19 (PO_z2o ) [] ⟨2,[]⟩ Tryz.f119 [(GState.sv x0),(.bool x1),(.bool x2)] emp (fun v _=>dR_csr_Pending v k)=p_z2o  x0 x1 x2 k:=by kernel_rfl
theorem mk_z2o {α:Type} {I:Imm}:OrcOk (α:=α) Tryz.prog I 119 (.pure (ad_z2o (p_z2o ))):=by
  refine orc_pureK PT_W19_ok (O:=PO_z2o ) (OOk.cons (cB_z4z ) (OOk.nil)) (L:=[]) ⟨2,[]⟩ Tryz.func119 (by kernel_rfl) (by kernel_rfl) (by kernel_rfl) FLOk.nil ?_
  intro args k r hk
  unfold ad_z2o at hk
  split at hk<;>try (cases hk; done)
  obtain ⟨x0,rfl,hk0⟩:=GState.dec_spec hk
  obtain ⟨x1,rfl,hk1⟩:=decB_spec hk0
  obtain ⟨x2,rfl,hk2⟩:=decB_spec hk1
  have hkz:=hk2
  refine ⟨by simp [Ids,Idss],fun v=>dR_csr_Pending v (fun r0=>k (.int .u64 r0)),?_,fun v hv=>?_⟩
  · rw [ok_z2o]; exact hkz
  · obtain ⟨r0,rfl,hv1⟩:=dR_csr_Pending_spec hv; exact ⟨hv1,by simp [Ids,Idss]⟩
noncomputable abbrev PO_z20 {α:Type} (F_z2o:Sg_z2o α):ORC α:=[(119,.pure (ad_z2o F_z2o))]
theorem ok_z20 {α:Type} (F_z2o:Sg_z2o α) (x0:GState) (x1:Bool) (x2:Bool) (k:Int→R α):bodyL PT_W19 (PO_z20 F_z2o) [] ⟨1,[]⟩ Tryz.f77 [(GState.sv x0),(.bool x1),(.bool x2)] emp (fun v _=>dR_route_Enabled v k)=p_z20 F_z2o x0 x1 x2 k:=by kernel_rfl
theorem mk_z20 {α:Type} {I:Imm} {F_z2o:Sg_z2o α} (h_z2o:OrcOk (α:=α) Tryz.prog I 119 (.pure (ad_z2o F_z2o))):OrcOk (α:=α) Tryz.prog I 77 (.pure (ad_z20 (p_z20 F_z2o))):=by
  refine orc_pureK PT_W19_ok (O:=PO_z20 F_z2o) (OOk.cons h_z2o (OOk.nil)) (L:=[]) ⟨1,[]⟩ Tryz.func77 (by kernel_rfl) (by kernel_rfl) (by kernel_rfl) FLOk.nil ?_
  intro args k r hk
  unfold ad_z20 at hk
  split at hk<;>try (cases hk; done)
  obtain ⟨x0,rfl,hk0⟩:=GState.dec_spec hk
  obtain ⟨x1,rfl,hk1⟩:=decB_spec hk0
  obtain ⟨x2,rfl,hk2⟩:=decB_spec hk1
  have hkz:=hk2
  refine ⟨by simp [Ids,Idss],fun v=>dR_route_Enabled v (fun r0=>k (.int .u64 r0)),?_,fun v hv=>?_⟩
  · rw [ok_z20]; exact hkz
  · obtain ⟨r0,rfl,hv1⟩:=dR_route_Enabled_spec hv; exact ⟨hv1,by simp [Ids,Idss]⟩
noncomputable abbrev PO_z1h {α:Type}:ORC α:=[]
theorem ok_z1h {α:Type}  (x0:Int) (x1:Int) (k:Int→Int→R α):bodyL PT_W19 (PO_z1h ) [] ⟨1,[]⟩ Tryz.f120 [(.int .i64 x0),(.int .i64 x1)] emp (fun v _=>dR_word_part v k)=p_z1h  x0 x1 k:=by kernel_rfl
theorem mk_z1h {α:Type} {I:Imm}:OrcOk (α:=α) Tryz.prog I 120 (.pure (ad_z1h (p_z1h ))):=by
  refine orc_pureK PT_W19_ok (O:=PO_z1h ) (OOk.nil) (L:=[]) ⟨1,[]⟩ Tryz.func120 (by kernel_rfl) (by kernel_rfl) (by kernel_rfl) FLOk.nil ?_
  intro args k r hk
  unfold ad_z1h at hk
  split at hk<;>try (cases hk; done)
  obtain ⟨x0,rfl,hk0⟩:=decI_spec hk
  obtain ⟨x1,rfl,hk1⟩:=decI_spec hk0
  have hkz:=hk1
  refine ⟨by simp [Ids,Idss],fun v=>dR_word_part v (fun r0 r1=>k (.tuple [(.int .i64 r0),(.int .i64 r1)])),?_,fun v hv=>?_⟩
  · rw [ok_z1h]; exact hkz
  · obtain ⟨r0,r1,rfl,hv1⟩:=dR_word_part_spec hv; exact ⟨hv1,by simp [Ids,Idss]⟩
noncomputable abbrev PO_zt {α:Type}:ORC α:=[]
theorem ok_zt {α:Type}  (x0:Int) (k:Int→R α):bodyL PT_W19 (PO_zt ) [] ⟨1,[]⟩ Tryz.f121 [(.int .i64 x0)] emp (fun v _=>dR_word_mask v k)=p_zt  x0 k:=by kernel_rfl
theorem mk_zt {α:Type} {I:Imm}:OrcOk (α:=α) Tryz.prog I 121 (.pure (ad_zt (p_zt ))):=by
  refine orc_pureK PT_W19_ok (O:=PO_zt ) (OOk.nil) (L:=[]) ⟨1,[]⟩ Tryz.func121 (by kernel_rfl) (by kernel_rfl) (by kernel_rfl) FLOk.nil ?_
  intro args k r hk
  unfold ad_zt at hk
  split at hk<;>try (cases hk; done)
  obtain ⟨x0,rfl,hk0⟩:=decI_spec hk
  have hkz:=hk0
  refine ⟨by simp [Ids,Idss],fun v=>dR_word_mask v (fun r0=>k (.int .u64 r0)),?_,fun v hv=>?_⟩
  · rw [ok_zt]; exact hkz
  · obtain ⟨r0,rfl,hv1⟩:=dR_word_mask_spec hv; exact ⟨hv1,by simp [Ids,Idss]⟩
noncomputable abbrev PO_z2 {α:Type} (F_z1h:Sg_z1h α) (F_zt:Sg_zt α):ORC α:=[(120,.pure (ad_z1h F_z1h)),(121,.pure (ad_zt F_zt))]
theorem ok_z2 {α:Type} (F_z1h:Sg_z1h α) (F_zt:Sg_zt α) (x0:Int) (x1:Int) (x2:Int) (k:Int→R α):bodyL PT_W19 (PO_z2 F_z1h F_zt) [] ⟨1,[]⟩ Tryz.f79 [(.int .u64 x0),(.int .i64 x1),(.int .i64 x2)] emp (fun v _=>dR_word_Bits v k)=p_z2 F_z1h F_zt x0 x1 x2 k:=by kernel_rfl
theorem mk_z2 {α:Type} {I:Imm} {F_z1h:Sg_z1h α} {F_zt:Sg_zt α} (h_z1h:OrcOk (α:=α) Tryz.prog I 120 (.pure (ad_z1h F_z1h))) (h_zt:OrcOk (α:=α) Tryz.prog I 121 (.pure (ad_zt F_zt))):OrcOk (α:=α) Tryz.prog I 79 (.pure (ad_z2 (p_z2 F_z1h F_zt))):=by
  refine orc_pureK PT_W19_ok (O:=PO_z2 F_z1h F_zt) (OOk.cons h_z1h (OOk.cons h_zt (OOk.nil))) (L:=[]) ⟨1,[]⟩ Tryz.func79 (by kernel_rfl) (by kernel_rfl) (by kernel_rfl) FLOk.nil ?_
  intro args k r hk
  unfold ad_z2 at hk
  split at hk<;>try (cases hk; done)
  obtain ⟨x0,rfl,hk0⟩:=decI_spec hk
  obtain ⟨x1,rfl,hk1⟩:=decI_spec hk0
  obtain ⟨x2,rfl,hk2⟩:=decI_spec hk1
  have hkz:=hk2
  refine ⟨by simp [Ids,Idss],fun v=>dR_word_Bits v (fun r0=>k (.int .u64 r0)),?_,fun v hv=>?_⟩
  · rw [ok_z2]; exact hkz
  · obtain ⟨r0,rfl,hv1⟩:=dR_word_Bits_spec hv; exact ⟨hv1,by simp [Ids,Idss]⟩
noncomputable abbrev PO_z4 {α:Type} (F_z2:Sg_z2 α):ORC α:=[(79,.pure (ad_z2 F_z2))]
theorem ok_z4 {α:Type} (F_z2:Sg_z2 α) (x0:GState) (x1:Int) (x2:Int) (k:Bool→R α):bodyL PT_W19 (PO_z4 F_z2) [] ⟨1,[]⟩ Tryz.f80 [(GState.sv x0),(.int .i64 x1),(.int .i64 x2)] emp (fun v _=>dR_csr_Bit v k)=p_z4 F_z2 x0 x1 x2 k:=by kernel_rfl
theorem mk_z4 {α:Type} {I:Imm} {F_z2:Sg_z2 α} (h_z2:OrcOk (α:=α) Tryz.prog I 79 (.pure (ad_z2 F_z2))):OrcOk (α:=α) Tryz.prog I 80 (.pure (ad_z4 (p_z4 F_z2))):=by
  refine orc_pureK PT_W19_ok (O:=PO_z4 F_z2) (OOk.cons h_z2 (OOk.nil)) (L:=[]) ⟨1,[]⟩ Tryz.func80 (by kernel_rfl) (by kernel_rfl) (by kernel_rfl) FLOk.nil ?_
  intro args k r hk
  unfold ad_z4 at hk
  split at hk<;>try (cases hk; done)
  obtain ⟨x0,rfl,hk0⟩:=GState.dec_spec hk
  obtain ⟨x1,rfl,hk1⟩:=decI_spec hk0
  obtain ⟨x2,rfl,hk2⟩:=decI_spec hk1
  have hkz:=hk2
  refine ⟨by simp [Ids,Idss],fun v=>dR_csr_Bit v (fun r0=>k (.bool r0)),?_,fun v hv=>?_⟩
  · rw [ok_z4]; exact hkz
  · obtain ⟨r0,rfl,hv1⟩:=dR_csr_Bit_spec hv; exact ⟨hv1,by simp [Ids,Idss]⟩
noncomputable abbrev PO_zv {α:Type} (F_z4:Sg_z4 α):ORC α:=[(80,.pure (ad_z4 F_z4))]
theorem ok_zv {α:Type} (F_z4:Sg_z4 α) (x0:GState) (x1:GRoute_turn) (k:Bool→R α):bodyL PT_W19 (PO_zv F_z4) [] ⟨1,[]⟩ Tryz.f81 [(GState.sv x0),(GRoute_turn.sv x1)] emp (fun v _=>dR_route_open v k)=p_zv F_z4 x0 x1 k:=by kernel_rfl
theorem mk_zv {α:Type} {I:Imm} {F_z4:Sg_z4 α} (h_z4:OrcOk (α:=α) Tryz.prog I 80 (.pure (ad_z4 F_z4))):OrcOk (α:=α) Tryz.prog I 81 (.pure (ad_zv (p_zv F_z4))):=by
  refine orc_pureK PT_W19_ok (O:=PO_zv F_z4) (OOk.cons h_z4 (OOk.nil)) (L:=[]) ⟨1,[]⟩ Tryz.func81 (by kernel_rfl) (by kernel_rfl) (by kernel_rfl) FLOk.nil ?_
  intro args k r hk
  unfold ad_zv at hk
  split at hk<;>try (cases hk; done)
  obtain ⟨x0,rfl,hk0⟩:=GState.dec_spec hk
  obtain ⟨x1,rfl,hk1⟩:=GRoute_turn.dec_spec hk0
  have hkz:=hk1
  refine ⟨by simp [Ids,Idss],fun v=>dR_route_open v (fun r0=>k (.bool r0)),?_,fun v hv=>?_⟩
  · rw [ok_zv]; exact hkz
  · obtain ⟨r0,rfl,hv1⟩:=dR_route_open_spec hv; exact ⟨hv1,by simp [Ids,Idss]⟩
noncomputable abbrev B_z50 {α:Type} (F_z20:Sg_z20 α) (F_z2:Sg_z2 α) (F_z4:Sg_z4 α) (F_zv:Sg_zv α):FF α:=byBody PT_W19 [] ⟨9,[]⟩ Tryz.f78
theorem cB_z50 {α:Type} {I:Imm} {F_z20:Sg_z20 α} {F_z2:Sg_z2 α} {F_z4:Sg_z4 α} {F_zv:Sg_zv α} (h_z20:OrcOk (α:=α) Tryz.prog I 77 (.pure (ad_z20 F_z20))) (h_z2:OrcOk (α:=α) Tryz.prog I 79 (.pure (ad_z2 F_z2))) (h_z4:OrcOk (α:=α) Tryz.prog I 80 (.pure (ad_z4 F_z4))) (h_zv:OrcOk (α:=α) Tryz.prog I 81 (.pure (ad_zv F_zv))):OrcOk (α:=α) Tryz.prog I 78 (.full (B_z50 F_z20 F_z2 F_z4 F_zv)):=orc_body PT_W19_ok (OOk.nil) ⟨9,[]⟩ Tryz.func78 (by kernel_rfl) (by kernel_rfl) (by kernel_rfl)
noncomputable abbrev PO_zw {α:Type} (F_z20:Sg_z20 α) (F_z2:Sg_z2 α) (F_z4:Sg_z4 α) (F_zv:Sg_zv α):ORC α:=[(77,.pure (ad_z20 F_z20)),(78,.full (B_z50 F_z20 F_z2 F_z4 F_zv)),(79,.pure (ad_z2 F_z2)),(80,.pure (ad_z4 F_z4)),(81,.pure (ad_zv F_zv))]
theorem ok_zw {α:Type} (F_z20:Sg_z20 α) (F_z2:Sg_z2 α) (F_z4:Sg_z4 α) (F_zv:Sg_zv α) (x0:GState) (x1:Bool) (x2:Bool) (k:Int→Int→Bool→Bool→R α):bodyL PT_W19 (PO_zw F_z20 F_z2 F_z4 F_zv) [] ⟨9,[(3,[3,10,18,19])]⟩ Tryz.f44 [(GState.sv x0),(.bool x1),(.bool x2)] emp (fun v _=>dR_route_Interrupt v k)=p_zw F_z20 F_z2 F_z4 F_zv x0 x1 x2 k:=by kernel_rfl
theorem mk_zw {α:Type} {I:Imm} {F_z20:Sg_z20 α} {F_z2:Sg_z2 α} {F_z4:Sg_z4 α} {F_zv:Sg_zv α} (h_z20:OrcOk (α:=α) Tryz.prog I 77 (.pure (ad_z20 F_z20))) (h_z2:OrcOk (α:=α) Tryz.prog I 79 (.pure (ad_z2 F_z2))) (h_z4:OrcOk (α:=α) Tryz.prog I 80 (.pure (ad_z4 F_z4))) (h_zv:OrcOk (α:=α) Tryz.prog I 81 (.pure (ad_zv F_zv))):OrcOk (α:=α) Tryz.prog I 44 (.pure (ad_zw (p_zw F_z20 F_z2 F_z4 F_zv))):=by
  refine orc_pureK PT_W19_ok (O:=PO_zw F_z20 F_z2 F_z4 F_zv) (OOk.cons h_z20 (OOk.cons (cB_z50 h_z20 h_z2 h_z4 h_zv) (OOk.cons h_z2 (OOk.cons h_z4 (OOk.cons h_zv (OOk.nil)))))) (L:=[]) ⟨9,[(3,[3,10,18,19])]⟩ Tryz.func44 (by kernel_rfl) (by kernel_rfl) (by kernel_rfl) FLOk.nil ?_
  intro args k r hk
  unfold ad_zw at hk
  split at hk<;>try (cases hk; done)
  obtain ⟨x0,rfl,hk0⟩:=GState.dec_spec hk
  obtain ⟨x1,rfl,hk1⟩:=decB_spec hk0
  obtain ⟨x2,rfl,hk2⟩:=decB_spec hk1
  have hkz:=hk2
  refine ⟨by simp [Ids,Idss],fun v=>dR_route_Interrupt v (fun r0 r1 r2 r3=>k (.tuple [(.int .u64 r0),(.int .i64 r1),(.bool r2),(.bool r3)])),?_,fun v hv=>?_⟩
  · rw [ok_zw]; exact hkz
  · obtain ⟨r0,r1,r2,r3,rfl,hv1⟩:=dR_route_Interrupt_spec hv; exact ⟨hv1,by simp [Ids,Idss]⟩
noncomputable abbrev PO_z2a {α:Type}:ORC α:=[]
theorem ok_z2a {α:Type}  (x0:GTrap_told) (x1:GState) (x2:GFault) (k:GState→R α):bodyL PT_W19 (PO_z2a ) [] ⟨1,[]⟩ Tryz.f123 [(GTrap_told.sv x0),(GState.sv x1),(GFault.sv x2)] emp (fun v _=>dR_trap_told_enter v k)=p_z2a  x0 x1 x2 k:=by kernel_rfl
theorem mk_z2a {α:Type} {I:Imm}:OrcOk (α:=α) Tryz.prog I 123 (.pure (ad_z2a (p_z2a ))):=by
  refine orc_pureK PT_W19_ok (O:=PO_z2a ) (OOk.nil) (L:=[]) ⟨1,[]⟩ Tryz.func123 (by kernel_rfl) (by kernel_rfl) (by kernel_rfl) FLOk.nil ?_
  intro args k r hk
  unfold ad_z2a at hk
  split at hk<;>try (cases hk; done)
  obtain ⟨x0,rfl,hk0⟩:=GTrap_told.dec_spec hk
  obtain ⟨x1,rfl,hk1⟩:=GState.dec_spec hk0
  obtain ⟨x2,rfl,hk2⟩:=GFault.dec_spec hk1
  have hkz:=hk2
  refine ⟨by simp [Ids,Idss],fun v=>dR_trap_told_enter v (fun r0=>k (GState.sv r0)),?_,fun v hv=>?_⟩
  · rw [ok_z2a]; exact hkz
  · obtain ⟨r0,rfl,hv1⟩:=dR_trap_told_enter_spec hv; exact ⟨hv1,by simp [Ids,Idss]⟩
noncomputable abbrev PO_zn {α:Type} (F_z1h:Sg_z1h α) (F_zt:Sg_zt α):ORC α:=[(120,.pure (ad_z1h F_z1h)),(121,.pure (ad_zt F_zt))]
theorem ok_zn {α:Type} (F_z1h:Sg_z1h α) (F_zt:Sg_zt α) (x0:Int) (x1:Int) (x2:Int) (x3:Int) (k:Int→R α):bodyL PT_W19 (PO_zn F_z1h F_zt) [] ⟨1,[]⟩ Tryz.f113 [(.int .u64 x0),(.int .i64 x1),(.int .i64 x2),(.int .u64 x3)] emp (fun v _=>dR_word_Set v k)=p_zn F_z1h F_zt x0 x1 x2 x3 k:=by kernel_rfl
theorem mk_zn {α:Type} {I:Imm} {F_z1h:Sg_z1h α} {F_zt:Sg_zt α} (h_z1h:OrcOk (α:=α) Tryz.prog I 120 (.pure (ad_z1h F_z1h))) (h_zt:OrcOk (α:=α) Tryz.prog I 121 (.pure (ad_zt F_zt))):OrcOk (α:=α) Tryz.prog I 113 (.pure (ad_zn (p_zn F_z1h F_zt))):=by
  refine orc_pureK PT_W19_ok (O:=PO_zn F_z1h F_zt) (OOk.cons h_z1h (OOk.cons h_zt (OOk.nil))) (L:=[]) ⟨1,[]⟩ Tryz.func113 (by kernel_rfl) (by kernel_rfl) (by kernel_rfl) FLOk.nil ?_
  intro args k r hk
  unfold ad_zn at hk
  split at hk<;>try (cases hk; done)
  obtain ⟨x0,rfl,hk0⟩:=decI_spec hk
  obtain ⟨x1,rfl,hk1⟩:=decI_spec hk0
  obtain ⟨x2,rfl,hk2⟩:=decI_spec hk1
  obtain ⟨x3,rfl,hk3⟩:=decI_spec hk2
  have hkz:=hk3
  refine ⟨by simp [Ids,Idss],fun v=>dR_word_Set v (fun r0=>k (.int .u64 r0)),?_,fun v hv=>?_⟩
  · rw [ok_zn]; exact hkz
  · obtain ⟨r0,rfl,hv1⟩:=dR_word_Set_spec hv; exact ⟨hv1,by simp [Ids,Idss]⟩
noncomputable abbrev PO_zb {α:Type} (F_zn:Sg_zn α):ORC α:=[(113,.pure (ad_zn F_zn))]
theorem ok_zb {α:Type} (F_zn:Sg_zn α) (x0:GState) (x1:Int) (x2:Int) (x3:Bool) (k:GState→R α):bodyL PT_W19 (PO_zb F_zn) [] ⟨1,[]⟩ Tryz.f124 [(GState.sv x0),(.int .i64 x1),(.int .i64 x2),(.bool x3)] emp (fun v _=>dR_csr_Put v k)=p_zb F_zn x0 x1 x2 x3 k:=by kernel_rfl
theorem mk_zb {α:Type} {I:Imm} {F_zn:Sg_zn α} (h_zn:OrcOk (α:=α) Tryz.prog I 113 (.pure (ad_zn F_zn))):OrcOk (α:=α) Tryz.prog I 124 (.pure (ad_zb (p_zb F_zn))):=by
  refine orc_pureK PT_W19_ok (O:=PO_zb F_zn) (OOk.cons h_zn (OOk.nil)) (L:=[]) ⟨1,[]⟩ Tryz.func124 (by kernel_rfl) (by kernel_rfl) (by kernel_rfl) FLOk.nil ?_
  intro args k r hk
  unfold ad_zb at hk
  split at hk<;>try (cases hk; done)
  obtain ⟨x0,rfl,hk0⟩:=GState.dec_spec hk
  obtain ⟨x1,rfl,hk1⟩:=decI_spec hk0
  obtain ⟨x2,rfl,hk2⟩:=decI_spec hk1
  obtain ⟨x3,rfl,hk3⟩:=decB_spec hk2
  have hkz:=hk3
  refine ⟨by simp [Ids,Idss],fun v=>dR_csr_Put v (fun r0=>k (GState.sv r0)),?_,fun v hv=>?_⟩
  · rw [ok_zb]; exact hkz
  · obtain ⟨r0,rfl,hv1⟩:=dR_csr_Put_spec hv; exact ⟨hv1,by simp [Ids,Idss]⟩
noncomputable abbrev PO_z1r {α:Type} (F_z4:Sg_z4 α) (F_zb:Sg_zb α):ORC α:=[(80,.pure (ad_z4 F_z4)),(124,.pure (ad_zb F_zb))]
theorem ok_z1r {α:Type} (F_z4:Sg_z4 α) (F_zb:Sg_zb α) (x0:GTrap_kept) (x1:GState) (k:GState→R α):bodyL PT_W19 (PO_z1r F_z4 F_zb) [] ⟨1,[]⟩ Tryz.f125 [(GTrap_kept.sv x0),(GState.sv x1)] emp (fun v _=>dR_trap_kept_enter v k)=p_z1r F_z4 F_zb x0 x1 k:=by kernel_rfl
theorem mk_z1r {α:Type} {I:Imm} {F_z4:Sg_z4 α} {F_zb:Sg_zb α} (h_z4:OrcOk (α:=α) Tryz.prog I 80 (.pure (ad_z4 F_z4))) (h_zb:OrcOk (α:=α) Tryz.prog I 124 (.pure (ad_zb F_zb))):OrcOk (α:=α) Tryz.prog I 125 (.pure (ad_z1r (p_z1r F_z4 F_zb))):=by
  refine orc_pureK PT_W19_ok (O:=PO_z1r F_z4 F_zb) (OOk.cons h_z4 (OOk.cons h_zb (OOk.nil))) (L:=[]) ⟨1,[]⟩ Tryz.func125 (by kernel_rfl) (by kernel_rfl) (by kernel_rfl) FLOk.nil ?_
  intro args k r hk
  unfold ad_z1r at hk
  split at hk<;>try (cases hk; done)
  obtain ⟨x0,rfl,hk0⟩:=GTrap_kept.dec_spec hk
  obtain ⟨x1,rfl,hk1⟩:=GState.dec_spec hk0
  have hkz:=hk1
  refine ⟨by simp [Ids,Idss],fun v=>dR_trap_kept_enter v (fun r0=>k (GState.sv r0)),?_,fun v hv=>?_⟩
  · rw [ok_z1r]; exact hkz
  · obtain ⟨r0,rfl,hv1⟩:=dR_trap_kept_enter_spec hv; exact ⟨hv1,by simp [Ids,Idss]⟩
noncomputable abbrev PO_z2e {α:Type} (F_zb:Sg_zb α) (F_z1r:Sg_z1r α):ORC α:=[(124,.pure (ad_zb F_zb)),(125,.pure (ad_z1r F_z1r))]
theorem ok_z2e {α:Type} (F_zb:Sg_zb α) (F_z1r:Sg_z1r α) (x0:GState) (x1:Int) (x2:Int) (k:GState→R α):bodyL PT_W19 (PO_z2e F_zb F_z1r) [] ⟨1,[]⟩ Tryz.f126 [(GState.sv x0),(.int .i64 x1),(.int .i64 x2)] emp (fun v _=>dR_trap_lower v k)=p_z2e F_zb F_z1r x0 x1 x2 k:=by kernel_rfl
theorem mk_z2e {α:Type} {I:Imm} {F_zb:Sg_zb α} {F_z1r:Sg_z1r α} (h_zb:OrcOk (α:=α) Tryz.prog I 124 (.pure (ad_zb F_zb))) (h_z1r:OrcOk (α:=α) Tryz.prog I 125 (.pure (ad_z1r F_z1r))):OrcOk (α:=α) Tryz.prog I 126 (.pure (ad_z2e (p_z2e F_zb F_z1r))):=by
  refine orc_pureK PT_W19_ok (O:=PO_z2e F_zb F_z1r) (OOk.cons h_zb (OOk.cons h_z1r (OOk.nil))) (L:=[]) ⟨1,[]⟩ Tryz.func126 (by kernel_rfl) (by kernel_rfl) (by kernel_rfl) FLOk.nil ?_
  intro args k r hk
  unfold ad_z2e at hk
  split at hk<;>try (cases hk; done)
  obtain ⟨x0,rfl,hk0⟩:=GState.dec_spec hk
  obtain ⟨x1,rfl,hk1⟩:=decI_spec hk0
  obtain ⟨x2,rfl,hk2⟩:=decI_spec hk1
  have hkz:=hk2
  refine ⟨by simp [Ids,Idss],fun v=>dR_trap_lower v (fun r0=>k (GState.sv r0)),?_,fun v hv=>?_⟩
  · rw [ok_z2e]; exact hkz
  · obtain ⟨r0,rfl,hv1⟩:=dR_trap_lower_spec hv; exact ⟨hv1,by simp [Ids,Idss]⟩
noncomputable abbrev PO_z1s {α:Type} (F_z2a:Sg_z2a α) (F_zn:Sg_zn α) (F_zb:Sg_zb α) (F_z1r:Sg_z1r α) (F_z2e:Sg_z2e α):ORC α:=[(123,.pure (ad_z2a F_z2a)),(113,.pure (ad_zn F_zn)),(124,.pure (ad_zb F_zb)),(125,.pure (ad_z1r F_z1r)),(126,.pure (ad_z2e F_z2e))]
theorem ok_z1s {α:Type} (F_z2a:Sg_z2a α) (F_zn:Sg_zn α) (F_zb:Sg_zb α) (F_z1r:Sg_z1r α) (F_z2e:Sg_z2e α) (x0:GState) (x1:GFault) (x2:Int) (x3:Bool) (k:GState→R α):bodyL PT_W19 (PO_z1s F_z2a F_zn F_zb F_z1r F_z2e) [] ⟨1,[]⟩ Tryz.f83 [(GState.sv x0),(GFault.sv x1),(.int .i64 x2),(.bool x3)] emp (fun v _=>dR_trap_Enter v k)=p_z1s F_z2a F_zn F_zb F_z1r F_z2e x0 x1 x2 x3 k:=by kernel_rfl
theorem mk_z1s {α:Type} {I:Imm} {F_z2a:Sg_z2a α} {F_zn:Sg_zn α} {F_zb:Sg_zb α} {F_z1r:Sg_z1r α} {F_z2e:Sg_z2e α} (h_z2a:OrcOk (α:=α) Tryz.prog I 123 (.pure (ad_z2a F_z2a))) (h_zn:OrcOk (α:=α) Tryz.prog I 113 (.pure (ad_zn F_zn))) (h_zb:OrcOk (α:=α) Tryz.prog I 124 (.pure (ad_zb F_zb))) (h_z1r:OrcOk (α:=α) Tryz.prog I 125 (.pure (ad_z1r F_z1r))) (h_z2e:OrcOk (α:=α) Tryz.prog I 126 (.pure (ad_z2e F_z2e))):OrcOk (α:=α) Tryz.prog I 83 (.pure (ad_z1s (p_z1s F_z2a F_zn F_zb F_z1r F_z2e))):=by
  refine orc_pureK PT_W19_ok (O:=PO_z1s F_z2a F_zn F_zb F_z1r F_z2e) (OOk.cons h_z2a (OOk.cons h_zn (OOk.cons h_zb (OOk.cons h_z1r (OOk.cons h_z2e (OOk.nil)))))) (L:=[]) ⟨1,[]⟩ Tryz.func83 (by kernel_rfl) (by kernel_rfl) (by kernel_rfl) FLOk.nil ?_
  intro args k r hk
  unfold ad_z1s at hk
  split at hk<;>try (cases hk; done)
  obtain ⟨x0,rfl,hk0⟩:=GState.dec_spec hk
  obtain ⟨x1,rfl,hk1⟩:=GFault.dec_spec hk0
  obtain ⟨x2,rfl,hk2⟩:=decI_spec hk1
  obtain ⟨x3,rfl,hk3⟩:=decB_spec hk2
  have hkz:=hk3
  refine ⟨by simp [Ids,Idss],fun v=>dR_trap_Enter v (fun r0=>k (GState.sv r0)),?_,fun v hv=>?_⟩
  · rw [ok_z1s]; exact hkz
  · obtain ⟨r0,rfl,hv1⟩:=dR_trap_Enter_spec hv; exact ⟨hv1,by simp [Ids,Idss]⟩
noncomputable abbrev PO_zx {α:Type} (F_z1s:Sg_z1s α):ORC α:=[(83,.pure (ad_z1s F_z1s))]
theorem ok_zx {α:Type} (F_z1s:Sg_z1s α) (x0:GState) (x1:Int) (x2:Int) (x3:Bool) (k:GState→GRetire→R α):bodyL PT_W19 (PO_zx F_z1s) [] ⟨1,[]⟩ Tryz.f46 [(GState.sv x0),(.int .u64 x1),(.int .i64 x2),(.bool x3)] emp (fun v _=>dR_exec_Interrupt v k)=p_zx F_z1s x0 x1 x2 x3 k:=by kernel_rfl
theorem mk_zx {α:Type} {I:Imm} {F_z1s:Sg_z1s α} (h_z1s:OrcOk (α:=α) Tryz.prog I 83 (.pure (ad_z1s F_z1s))):OrcOk (α:=α) Tryz.prog I 46 (.pure (ad_zx (p_zx F_z1s))):=by
  refine orc_pureK PT_W19_ok (O:=PO_zx F_z1s) (OOk.cons h_z1s (OOk.nil)) (L:=[]) ⟨1,[]⟩ Tryz.func46 (by kernel_rfl) (by kernel_rfl) (by kernel_rfl) FLOk.nil ?_
  intro args k r hk
  unfold ad_zx at hk
  split at hk<;>try (cases hk; done)
  obtain ⟨x0,rfl,hk0⟩:=GState.dec_spec hk
  obtain ⟨x1,rfl,hk1⟩:=decI_spec hk0
  obtain ⟨x2,rfl,hk2⟩:=decI_spec hk1
  obtain ⟨x3,rfl,hk3⟩:=decB_spec hk2
  have hkz:=hk3
  refine ⟨by simp [Ids,Idss],fun v=>dR_exec_Interrupt v (fun r0 r1=>k (.tuple [(GState.sv r0),(GRetire.sv r1)])),?_,fun v hv=>?_⟩
  · rw [ok_zx]; exact hkz
  · obtain ⟨r0,r1,rfl,hv1⟩:=dR_exec_Interrupt_spec hv; exact ⟨hv1,by simp [Ids,Idss]⟩
noncomputable abbrev PO_zp {α:Type} (F_zu:Sg_zu α):ORC α:=[(84,.full (ad_zu F_zu))]
theorem ok_zp {α:Type} (F_zu:Sg_zu α) (x0:GBus) (x1:GState) (k:GBus→Int→GFault→Bool→R α):bodyL PT_W19 (PO_zp F_zu) [] ⟨1,[]⟩ Tryz.f47 (E_zp.encs (x0,x1,()) (fun i=>i) 0) (hp (E_zp.objss (x0,x1,()) (fun i=>i) 0)) (dRo M_zp Q_zp false (selN (E_zp.encs (x0,x1,()) (fun i=>i) 0) [0]) (fun y z=>k y.1 z.1 z.2.1 z.2.2.1))=p_zp F_zu x0 x1 k:=by kernel_rfl
theorem mk_zp {α:Type} {I:Imm} {F_zu:Sg_zu α} (h_zu:OrcOk (α:=α) Tryz.prog I 84 (.full (ad_zu F_zu))) {F:Sg_zp α} (hF:∀x0 x1 k r,F x0 x1 k=some r→p_zp F_zu x0 x1 k=some r):OrcOk (α:=α) Tryz.prog I 47 (.full (ad_zp F)):=
  orc_obj PT_W19_ok (O:=PO_zp F_zu) (OOk.cons h_zu (OOk.nil)) (L:=[]) ⟨1,[]⟩ Tryz.func47 (by kernel_rfl) (by kernel_rfl) (by kernel_rfl) FLOk.nil E_z3w M_z3w Q_z3w rfl (oi:=[0]) fun ⟨x0,x1,()⟩ k r h=>(ok_zp F_zu x0 x1 (fun y0 z0 z1 z2=>k (y0,()) (z0,z1,z2,()))).trans (hF x0 x1 _ r h)
noncomputable abbrev PO_z2f {α:Type} (F_z2:Sg_z2 α):ORC α:=[(79,.pure (ad_z2 F_z2))]
theorem ok_z2f {α:Type} (F_z2:Sg_z2 α) (x0:GState) (x1:Int) (x2:Int) (k:Bool→R α):bodyL PT_W19 (PO_z2f F_z2) [] ⟨1,[]⟩ Tryz.f130 [(GState.sv x0),(.int .i64 x1),(.int .u64 x2)] emp (fun v _=>dR_route_has v k)=p_z2f F_z2 x0 x1 x2 k:=by kernel_rfl
theorem mk_z2f {α:Type} {I:Imm} {F_z2:Sg_z2 α} (h_z2:OrcOk (α:=α) Tryz.prog I 79 (.pure (ad_z2 F_z2))):OrcOk (α:=α) Tryz.prog I 130 (.pure (ad_z2f (p_z2f F_z2))):=by
  refine orc_pureK PT_W19_ok (O:=PO_z2f F_z2) (OOk.cons h_z2 (OOk.nil)) (L:=[]) ⟨1,[]⟩ Tryz.func130 (by kernel_rfl) (by kernel_rfl) (by kernel_rfl) FLOk.nil ?_
  intro args k r hk
  unfold ad_z2f at hk
  split at hk<;>try (cases hk; done)
  obtain ⟨x0,rfl,hk0⟩:=GState.dec_spec hk
  obtain ⟨x1,rfl,hk1⟩:=decI_spec hk0
  obtain ⟨x2,rfl,hk2⟩:=decI_spec hk1
  have hkz:=hk2
  refine ⟨by simp [Ids,Idss],fun v=>dR_route_has v (fun r0=>k (.bool r0)),?_,fun v hv=>?_⟩
  · rw [ok_z2f]; exact hkz
  · obtain ⟨r0,rfl,hv1⟩:=dR_route_has_spec hv; exact ⟨hv1,by simp [Ids,Idss]⟩
noncomputable abbrev PO_z2p {α:Type} (F_z2f:Sg_z2f α):ORC α:=[(130,.pure (ad_z2f F_z2f))]
theorem ok_z2p {α:Type} (F_z2f:Sg_z2f α) (x0:GState) (x1:Int) (k:Int→Bool→R α):bodyL PT_W19 (PO_z2p F_z2f) [] ⟨1,[]⟩ Tryz.f85 [(GState.sv x0),(.int .u64 x1)] emp (fun v _=>dR_route_Exception v k)=p_z2p F_z2f x0 x1 k:=by kernel_rfl
theorem mk_z2p {α:Type} {I:Imm} {F_z2f:Sg_z2f α} (h_z2f:OrcOk (α:=α) Tryz.prog I 130 (.pure (ad_z2f F_z2f))):OrcOk (α:=α) Tryz.prog I 85 (.pure (ad_z2p (p_z2p F_z2f))):=by
  refine orc_pureK PT_W19_ok (O:=PO_z2p F_z2f) (OOk.cons h_z2f (OOk.nil)) (L:=[]) ⟨1,[]⟩ Tryz.func85 (by kernel_rfl) (by kernel_rfl) (by kernel_rfl) FLOk.nil ?_
  intro args k r hk
  unfold ad_z2p at hk
  split at hk<;>try (cases hk; done)
  obtain ⟨x0,rfl,hk0⟩:=GState.dec_spec hk
  obtain ⟨x1,rfl,hk1⟩:=decI_spec hk0
  have hkz:=hk1
  refine ⟨by simp [Ids,Idss],fun v=>dR_route_Exception v (fun r0 r1=>k (.tuple [(.int .i64 r0),(.bool r1)])),?_,fun v hv=>?_⟩
  · rw [ok_z2p]; exact hkz
  · obtain ⟨r0,r1,rfl,hv1⟩:=dR_route_Exception_spec hv; exact ⟨hv1,by simp [Ids,Idss]⟩
noncomputable abbrev PO_zm {α:Type} (F_z2p:Sg_z2p α) (F_z1s:Sg_z1s α):ORC α:=[(85,.pure (ad_z2p F_z2p)),(83,.pure (ad_z1s F_z1s))]
theorem ok_zm {α:Type} (F_z2p:Sg_z2p α) (F_z1s:Sg_z1s α) (x0:GState) (x1:GFault) (x2:Int) (k:GState→GRetire→R α):bodyL PT_W19 (PO_zm F_z2p F_z1s) [] ⟨1,[]⟩ Tryz.f48 [(GState.sv x0),(GFault.sv x1),(.int .u32 x2)] emp (fun v _=>dR_exec_Fault v k)=p_zm F_z2p F_z1s x0 x1 x2 k:=by kernel_rfl
theorem mk_zm {α:Type} {I:Imm} {F_z2p:Sg_z2p α} {F_z1s:Sg_z1s α} (h_z2p:OrcOk (α:=α) Tryz.prog I 85 (.pure (ad_z2p F_z2p))) (h_z1s:OrcOk (α:=α) Tryz.prog I 83 (.pure (ad_z1s F_z1s))):OrcOk (α:=α) Tryz.prog I 48 (.pure (ad_zm (p_zm F_z2p F_z1s))):=by
  refine orc_pureK PT_W19_ok (O:=PO_zm F_z2p F_z1s) (OOk.cons h_z2p (OOk.cons h_z1s (OOk.nil))) (L:=[]) ⟨1,[]⟩ Tryz.func48 (by kernel_rfl) (by kernel_rfl) (by kernel_rfl) FLOk.nil ?_
  intro args k r hk
  unfold ad_zm at hk
  split at hk<;>try (cases hk; done)
  obtain ⟨x0,rfl,hk0⟩:=GState.dec_spec hk
  obtain ⟨x1,rfl,hk1⟩:=GFault.dec_spec hk0
  obtain ⟨x2,rfl,hk2⟩:=decI_spec hk1
  have hkz:=hk2
  refine ⟨by simp [Ids,Idss],fun v=>dR_exec_Fault v (fun r0 r1=>k (.tuple [(GState.sv r0),(GRetire.sv r1)])),?_,fun v hv=>?_⟩
  · rw [ok_zm]; exact hkz
  · obtain ⟨r0,r1,rfl,hv1⟩:=dR_exec_Fault_spec hv; exact ⟨hv1,by simp [Ids,Idss]⟩
noncomputable abbrev B_z51 {α:Type} (F_z2:Sg_z2 α):FF α:=byBody PT_W19 [(79,.pure (ad_z2 F_z2))] ⟨1,[]⟩ Tryz.f189
theorem cB_z51 {α:Type} {I:Imm} {F_z2:Sg_z2 α} (h_z2:OrcOk (α:=α) Tryz.prog I 79 (.pure (ad_z2 F_z2))):OrcOk (α:=α) Tryz.prog I 189 (.full (B_z51 F_z2)):=orc_body PT_W19_ok (OOk.cons h_z2 (OOk.nil)) ⟨1,[]⟩ Tryz.func189 (by kernel_rfl) (by kernel_rfl) (by kernel_rfl)
noncomputable abbrev PO_z2q {α:Type} (F_z2:Sg_z2 α):ORC α:=[(189,.full (B_z51 F_z2))]
theorem ok_z2q {α:Type} (F_z2:Sg_z2 α) (x0:Int) (k:GDecode_parts→R α):bodyL PT_W19 (PO_z2q F_z2) [] ⟨1,[]⟩ Tryz.f131 [(.int .u32 x0)] emp (fun v _=>dR_decode_of v k)=p_z2q F_z2 x0 k:=by kernel_rfl
theorem mk_z2q {α:Type} {I:Imm} {F_z2:Sg_z2 α} (h_z2:OrcOk (α:=α) Tryz.prog I 79 (.pure (ad_z2 F_z2))):OrcOk (α:=α) Tryz.prog I 131 (.pure (ad_z2q (p_z2q F_z2))):=by
  refine orc_pureK PT_W19_ok (O:=PO_z2q F_z2) (OOk.cons (cB_z51 h_z2) (OOk.nil)) (L:=[]) ⟨1,[]⟩ Tryz.func131 (by kernel_rfl) (by kernel_rfl) (by kernel_rfl) FLOk.nil ?_
  intro args k r hk
  unfold ad_z2q at hk
  split at hk<;>try (cases hk; done)
  obtain ⟨x0,rfl,hk0⟩:=decI_spec hk
  have hkz:=hk0
  refine ⟨by simp [Ids,Idss],fun v=>dR_decode_of v (fun r0=>k (GDecode_parts.sv r0)),?_,fun v hv=>?_⟩
  · rw [ok_z2q]; exact hkz
  · obtain ⟨r0,rfl,hv1⟩:=dR_decode_of_spec hv; exact ⟨hv1,by simp [Ids,Idss]⟩
noncomputable abbrev PO_zj {α:Type} (F_z2:Sg_z2 α):ORC α:=[(79,.pure (ad_z2 F_z2))]
theorem ok_zj {α:Type} (F_z2:Sg_z2 α) (x0:Int) (k:Int→R α):bodyL PT_W19 (PO_zj F_z2) [] ⟨1,[]⟩ Tryz.f190 [(.int .u32 x0)] emp (fun v _=>dR_decode_Opcode v k)=p_zj F_z2 x0 k:=by kernel_rfl
theorem mk_zj {α:Type} {I:Imm} {F_z2:Sg_z2 α} (h_z2:OrcOk (α:=α) Tryz.prog I 79 (.pure (ad_z2 F_z2))):OrcOk (α:=α) Tryz.prog I 190 (.pure (ad_zj (p_zj F_z2))):=by
  refine orc_pureK PT_W19_ok (O:=PO_zj F_z2) (OOk.cons h_z2 (OOk.nil)) (L:=[]) ⟨1,[]⟩ Tryz.func190 (by kernel_rfl) (by kernel_rfl) (by kernel_rfl) FLOk.nil ?_
  intro args k r hk
  unfold ad_zj at hk
  split at hk<;>try (cases hk; done)
  obtain ⟨x0,rfl,hk0⟩:=decI_spec hk
  have hkz:=hk0
  refine ⟨by simp [Ids,Idss],fun v=>dR_decode_Opcode v (fun r0=>k (.int .i64 r0)),?_,fun v hv=>?_⟩
  · rw [ok_zj]; exact hkz
  · obtain ⟨r0,rfl,hv1⟩:=dR_decode_Opcode_spec hv; exact ⟨hv1,by simp [Ids,Idss]⟩
noncomputable abbrev PO_z8 {α:Type}:ORC α:=[]
theorem ok_z8 {α:Type}  (x0:Int) (x1:Int) (k:Int→R α):bodyL PT_W19 (PO_z8 ) [] ⟨1,[]⟩ Tryz.f212 [(.int .u64 x0),(.int .i64 x1)] emp (fun v _=>dR_word_Sext v k)=p_z8  x0 x1 k:=by kernel_rfl
theorem mk_z8 {α:Type} {I:Imm}:OrcOk (α:=α) Tryz.prog I 212 (.pure (ad_z8 (p_z8 ))):=by
  refine orc_pureK PT_W19_ok (O:=PO_z8 ) (OOk.nil) (L:=[]) ⟨1,[]⟩ Tryz.func212 (by kernel_rfl) (by kernel_rfl) (by kernel_rfl) FLOk.nil ?_
  intro args k r hk
  unfold ad_z8 at hk
  split at hk<;>try (cases hk; done)
  obtain ⟨x0,rfl,hk0⟩:=decI_spec hk
  obtain ⟨x1,rfl,hk1⟩:=decI_spec hk0
  have hkz:=hk1
  refine ⟨by simp [Ids,Idss],fun v=>dR_word_Sext v (fun r0=>k (.int .u64 r0)),?_,fun v hv=>?_⟩
  · rw [ok_z8]; exact hkz
  · obtain ⟨r0,rfl,hv1⟩:=dR_word_Sext_spec hv; exact ⟨hv1,by simp [Ids,Idss]⟩
noncomputable abbrev B_z52 {α:Type} (F_z2:Sg_z2 α) (F_z8:Sg_z8 α):FF α:=byBody PT_W19 [(79,.pure (ad_z2 F_z2)),(212,.pure (ad_z8 F_z8))] ⟨2,[]⟩ Tryz.f191
theorem cB_z52 {α:Type} {I:Imm} {F_z2:Sg_z2 α} {F_z8:Sg_z8 α} (h_z2:OrcOk (α:=α) Tryz.prog I 79 (.pure (ad_z2 F_z2))) (h_z8:OrcOk (α:=α) Tryz.prog I 212 (.pure (ad_z8 F_z8))):OrcOk (α:=α) Tryz.prog I 191 (.full (B_z52 F_z2 F_z8)):=orc_body PT_W19_ok (OOk.cons h_z2 (OOk.cons h_z8 (OOk.nil))) ⟨2,[]⟩ Tryz.func191 (by kernel_rfl) (by kernel_rfl) (by kernel_rfl)
noncomputable abbrev PO_zo {α:Type} (F_z2:Sg_z2 α) (F_z8:Sg_z8 α):ORC α:=[(191,.full (B_z52 F_z2 F_z8))]
theorem ok_zo {α:Type} (F_z2:Sg_z2 α) (F_z8:Sg_z8 α) (x0:GDecode_parts) (x1:Int) (k:GInsn→R α):bodyL PT_W19 (PO_zo F_z2 F_z8) [] ⟨2,[]⟩ Tryz.f192 [(GDecode_parts.sv x0),(.int .i64 x1)] emp (fun v _=>dR_decode_parts_immediate v k)=p_zo F_z2 F_z8 x0 x1 k:=by kernel_rfl
theorem mk_zo {α:Type} {I:Imm} {F_z2:Sg_z2 α} {F_z8:Sg_z8 α} (h_z2:OrcOk (α:=α) Tryz.prog I 79 (.pure (ad_z2 F_z2))) (h_z8:OrcOk (α:=α) Tryz.prog I 212 (.pure (ad_z8 F_z8))):OrcOk (α:=α) Tryz.prog I 192 (.pure (ad_zo (p_zo F_z2 F_z8))):=by
  refine orc_pureK PT_W19_ok (O:=PO_zo F_z2 F_z8) (OOk.cons (cB_z52 h_z2 h_z8) (OOk.nil)) (L:=[]) ⟨2,[]⟩ Tryz.func192 (by kernel_rfl) (by kernel_rfl) (by kernel_rfl) FLOk.nil ?_
  intro args k r hk
  unfold ad_zo at hk
  split at hk<;>try (cases hk; done)
  obtain ⟨x0,rfl,hk0⟩:=GDecode_parts.dec_spec hk
  obtain ⟨x1,rfl,hk1⟩:=decI_spec hk0
  have hkz:=hk1
  refine ⟨by simp [Ids,Idss],fun v=>dR_decode_parts_immediate v (fun r0=>k (GInsn.sv r0)),?_,fun v hv=>?_⟩
  · rw [ok_zo]; exact hkz
  · obtain ⟨r0,rfl,hv1⟩:=dR_decode_parts_immediate_spec hv; exact ⟨hv1,by simp [Ids,Idss]⟩
noncomputable abbrev PO_z15 {α:Type} (F_zj:Sg_zj α) (F_zo:Sg_zo α) (F_z2:Sg_z2 α):ORC α:=[(190,.pure (ad_zj F_zj)),(192,.pure (ad_zo F_zo)),(79,.pure (ad_z2 F_z2))]
theorem ok_z15 {α:Type} (F_zj:Sg_zj α) (F_zo:Sg_zo α) (F_z2:Sg_z2 α) (x0:GDecode_parts) (k:GInsn→Bool→R α):bodyL PT_W19 (PO_z15 F_zj F_zo F_z2) [] ⟨1,[]⟩ Tryz.f193 [(GDecode_parts.sv x0)] emp (fun v _=>dR_decode_parts_reckons v k)=p_z15 F_zj F_zo F_z2 x0 k:=by kernel_rfl
theorem mk_z15 {α:Type} {I:Imm} {F_zj:Sg_zj α} {F_zo:Sg_zo α} {F_z2:Sg_z2 α} (h_zj:OrcOk (α:=α) Tryz.prog I 190 (.pure (ad_zj F_zj))) (h_zo:OrcOk (α:=α) Tryz.prog I 192 (.pure (ad_zo F_zo))) (h_z2:OrcOk (α:=α) Tryz.prog I 79 (.pure (ad_z2 F_z2))):OrcOk (α:=α) Tryz.prog I 193 (.pure (ad_z15 (p_z15 F_zj F_zo F_z2))):=by
  refine orc_pureK PT_W19_ok (O:=PO_z15 F_zj F_zo F_z2) (OOk.cons h_zj (OOk.cons h_zo (OOk.cons h_z2 (OOk.nil)))) (L:=[]) ⟨1,[]⟩ Tryz.func193 (by kernel_rfl) (by kernel_rfl) (by kernel_rfl) FLOk.nil ?_
  intro args k r hk
  unfold ad_z15 at hk
  split at hk<;>try (cases hk; done)
  obtain ⟨x0,rfl,hk0⟩:=GDecode_parts.dec_spec hk
  have hkz:=hk0
  refine ⟨by simp [Ids,Idss],fun v=>dR_decode_parts_reckons v (fun r0 r1=>k (.tuple [(GInsn.sv r0),(.bool r1)])),?_,fun v hv=>?_⟩
  · rw [ok_z15]; exact hkz
  · obtain ⟨r0,r1,rfl,hv1⟩:=dR_decode_parts_reckons_spec hv; exact ⟨hv1,by simp [Ids,Idss]⟩
noncomputable abbrev PO_z16 {α:Type} (F_zj:Sg_zj α):ORC α:=[(190,.pure (ad_zj F_zj))]
theorem ok_z16 {α:Type} (F_zj:Sg_zj α) (x0:GDecode_parts) (k:GInsn→Bool→R α):bodyL PT_W19 (PO_z16 F_zj) [] ⟨1,[]⟩ Tryz.f194 [(GDecode_parts.sv x0)] emp (fun v _=>dR_decode_parts_registers v k)=p_z16 F_zj x0 k:=by kernel_rfl
theorem mk_z16 {α:Type} {I:Imm} {F_zj:Sg_zj α} (h_zj:OrcOk (α:=α) Tryz.prog I 190 (.pure (ad_zj F_zj))):OrcOk (α:=α) Tryz.prog I 194 (.pure (ad_z16 (p_z16 F_zj))):=by
  refine orc_pureK PT_W19_ok (O:=PO_z16 F_zj) (OOk.cons h_zj (OOk.nil)) (L:=[]) ⟨1,[]⟩ Tryz.func194 (by kernel_rfl) (by kernel_rfl) (by kernel_rfl) FLOk.nil ?_
  intro args k r hk
  unfold ad_z16 at hk
  split at hk<;>try (cases hk; done)
  obtain ⟨x0,rfl,hk0⟩:=GDecode_parts.dec_spec hk
  have hkz:=hk0
  refine ⟨by simp [Ids,Idss],fun v=>dR_decode_parts_registers v (fun r0 r1=>k (.tuple [(GInsn.sv r0),(.bool r1)])),?_,fun v hv=>?_⟩
  · rw [ok_z16]; exact hkz
  · obtain ⟨r0,r1,rfl,hv1⟩:=dR_decode_parts_registers_spec hv; exact ⟨hv1,by simp [Ids,Idss]⟩
noncomputable abbrev PO_z1f {α:Type}:ORC α:=[]
theorem ok_z1f {α:Type}  (x0:Int) (k:Int→R α):bodyL PT_W19 (PO_z1f ) [] ⟨1,[]⟩ Tryz.f237 [(.int .i64 x0)] emp (fun v _=>dR_decode_fence v k)=p_z1f  x0 k:=by kernel_rfl
theorem mk_z1f {α:Type} {I:Imm}:OrcOk (α:=α) Tryz.prog I 237 (.pure (ad_z1f (p_z1f ))):=by
  refine orc_pureK PT_W19_ok (O:=PO_z1f ) (OOk.nil) (L:=[]) ⟨1,[]⟩ Tryz.func237 (by kernel_rfl) (by kernel_rfl) (by kernel_rfl) FLOk.nil ?_
  intro args k r hk
  unfold ad_z1f at hk
  split at hk<;>try (cases hk; done)
  obtain ⟨x0,rfl,hk0⟩:=decI_spec hk
  have hkz:=hk0
  refine ⟨by simp [Ids,Idss],fun v=>dR_decode_fence v (fun r0=>k (.int .i64 r0)),?_,fun v hv=>?_⟩
  · rw [ok_z1f]; exact hkz
  · obtain ⟨r0,rfl,hv1⟩:=dR_decode_fence_spec hv; exact ⟨hv1,by simp [Ids,Idss]⟩
noncomputable abbrev PO_z1g {α:Type}:ORC α:=[]
theorem ok_z1g {α:Type}  (x0:GDecode_parts) (k:GInsn→Bool→R α):bodyL PT_W19 (PO_z1g ) [] ⟨1,[]⟩ Tryz.f238 [(GDecode_parts.sv x0)] emp (fun v _=>dR_decode_parts_guests v k)=p_z1g  x0 k:=by kernel_rfl
theorem mk_z1g {α:Type} {I:Imm}:OrcOk (α:=α) Tryz.prog I 238 (.pure (ad_z1g (p_z1g ))):=by
  refine orc_pureK PT_W19_ok (O:=PO_z1g ) (OOk.nil) (L:=[]) ⟨1,[]⟩ Tryz.func238 (by kernel_rfl) (by kernel_rfl) (by kernel_rfl) FLOk.nil ?_
  intro args k r hk
  unfold ad_z1g at hk
  split at hk<;>try (cases hk; done)
  obtain ⟨x0,rfl,hk0⟩:=GDecode_parts.dec_spec hk
  have hkz:=hk0
  refine ⟨by simp [Ids,Idss],fun v=>dR_decode_parts_guests v (fun r0 r1=>k (.tuple [(GInsn.sv r0),(.bool r1)])),?_,fun v hv=>?_⟩
  · rw [ok_z1g]; exact hkz
  · obtain ⟨r0,r1,rfl,hv1⟩:=dR_decode_parts_guests_spec hv; exact ⟨hv1,by simp [Ids,Idss]⟩
noncomputable abbrev B_z53 {α:Type} (F_z1f:Sg_z1f α) (F_z1g:Sg_z1g α) (F_z2:Sg_z2 α):FF α:=byBody PT_W19 [] ⟨1,[]⟩ Tryz.f255
theorem cB_z53 {α:Type} {I:Imm} {F_z1f:Sg_z1f α} {F_z1g:Sg_z1g α} {F_z2:Sg_z2 α} (h_z1f:OrcOk (α:=α) Tryz.prog I 237 (.pure (ad_z1f F_z1f))) (h_z1g:OrcOk (α:=α) Tryz.prog I 238 (.pure (ad_z1g F_z1g))) (h_z2:OrcOk (α:=α) Tryz.prog I 79 (.pure (ad_z2 F_z2))):OrcOk (α:=α) Tryz.prog I 255 (.full (B_z53 F_z1f F_z1g F_z2)):=orc_body PT_W19_ok (OOk.nil) ⟨1,[]⟩ Tryz.func255 (by kernel_rfl) (by kernel_rfl) (by kernel_rfl)
noncomputable abbrev B_z54 {α:Type} (F_z1f:Sg_z1f α) (F_z1g:Sg_z1g α) (F_z2:Sg_z2 α):FF α:=byBody PT_W19 [(254,.full (xDo 255 (B_z53 F_z1f F_z1g F_z2)))] ⟨1,[]⟩ Tryz.f236
theorem cB_z54 {α:Type} {I:Imm} {F_z1f:Sg_z1f α} {F_z1g:Sg_z1g α} {F_z2:Sg_z2 α} (h_z1f:OrcOk (α:=α) Tryz.prog I 237 (.pure (ad_z1f F_z1f))) (h_z1g:OrcOk (α:=α) Tryz.prog I 238 (.pure (ad_z1g F_z1g))) (h_z2:OrcOk (α:=α) Tryz.prog I 79 (.pure (ad_z2 F_z2))):OrcOk (α:=α) Tryz.prog I 236 (.full (B_z54 F_z1f F_z1g F_z2)):=orc_body PT_W19_ok (OOk.cons (once_orc on_do_raw (enters_of Tryz.func254 (by kernel_rfl) (by kernel_rfl)) (cB_z53 h_z1f h_z1g h_z2)) (OOk.nil)) ⟨1,[]⟩ Tryz.func236 (by kernel_rfl) (by kernel_rfl) (by kernel_rfl)
noncomputable abbrev B_z55 {α:Type} (F_z1f:Sg_z1f α) (F_z1g:Sg_z1g α) (F_z2:Sg_z2 α):FF α:=byBody PT_W19 [(236,.full (B_z54 F_z1f F_z1g F_z2))] ⟨1,[]⟩ Tryz.f195
theorem cB_z55 {α:Type} {I:Imm} {F_z1f:Sg_z1f α} {F_z1g:Sg_z1g α} {F_z2:Sg_z2 α} (h_z1f:OrcOk (α:=α) Tryz.prog I 237 (.pure (ad_z1f F_z1f))) (h_z1g:OrcOk (α:=α) Tryz.prog I 238 (.pure (ad_z1g F_z1g))) (h_z2:OrcOk (α:=α) Tryz.prog I 79 (.pure (ad_z2 F_z2))):OrcOk (α:=α) Tryz.prog I 195 (.full (B_z55 F_z1f F_z1g F_z2)):=orc_body PT_W19_ok (OOk.cons (cB_z54 h_z1f h_z1g h_z2) (OOk.nil)) ⟨1,[]⟩ Tryz.func195 (by kernel_rfl) (by kernel_rfl) (by kernel_rfl)
noncomputable abbrev PO_z17 {α:Type} (F_z1f:Sg_z1f α) (F_z1g:Sg_z1g α) (F_z2:Sg_z2 α):ORC α:=[(237,.pure (ad_z1f F_z1f)),(195,.full (B_z55 F_z1f F_z1g F_z2)),(238,.pure (ad_z1g F_z1g)),(79,.pure (ad_z2 F_z2))]
theorem ok_z17 {α:Type} (F_z1f:Sg_z1f α) (F_z1g:Sg_z1g α) (F_z2:Sg_z2 α) (x0:GDecode_parts) (k:GInsn→Bool→R α):bodyL PT_W19 (PO_z17 F_z1f F_z1g F_z2) [] ⟨1,[]⟩ Tryz.f196 [(GDecode_parts.sv x0)] emp (fun v _=>dR_decode_parts_system v k)=p_z17 F_z1f F_z1g F_z2 x0 k:=by kernel_rfl
theorem mk_z17 {α:Type} {I:Imm} {F_z1f:Sg_z1f α} {F_z1g:Sg_z1g α} {F_z2:Sg_z2 α} (h_z1f:OrcOk (α:=α) Tryz.prog I 237 (.pure (ad_z1f F_z1f))) (h_z1g:OrcOk (α:=α) Tryz.prog I 238 (.pure (ad_z1g F_z1g))) (h_z2:OrcOk (α:=α) Tryz.prog I 79 (.pure (ad_z2 F_z2))):OrcOk (α:=α) Tryz.prog I 196 (.pure (ad_z17 (p_z17 F_z1f F_z1g F_z2))):=by
  refine orc_pureK PT_W19_ok (O:=PO_z17 F_z1f F_z1g F_z2) (OOk.cons h_z1f (OOk.cons (cB_z55 h_z1f h_z1g h_z2) (OOk.cons h_z1g (OOk.cons h_z2 (OOk.nil))))) (L:=[]) ⟨1,[]⟩ Tryz.func196 (by kernel_rfl) (by kernel_rfl) (by kernel_rfl) FLOk.nil ?_
  intro args k r hk
  unfold ad_z17 at hk
  split at hk<;>try (cases hk; done)
  obtain ⟨x0,rfl,hk0⟩:=GDecode_parts.dec_spec hk
  have hkz:=hk0
  refine ⟨by simp [Ids,Idss],fun v=>dR_decode_parts_system v (fun r0 r1=>k (.tuple [(GInsn.sv r0),(.bool r1)])),?_,fun v hv=>?_⟩
  · rw [ok_z17]; exact hkz
  · obtain ⟨r0,r1,rfl,hv1⟩:=dR_decode_parts_system_spec hv; exact ⟨hv1,by simp [Ids,Idss]⟩
noncomputable abbrev B_z56 {α:Type} (F_zj:Sg_zj α) (F_z2:Sg_z2 α) (F_z8:Sg_z8 α) (F_zo:Sg_zo α) (F_z15:Sg_z15 α) (F_z16:Sg_z16 α) (F_z17:Sg_z17 α):FF α:=byBody PT_W19 [(79,.pure (ad_z2 F_z2)),(212,.pure (ad_z8 F_z8))] ⟨5,[]⟩ Tryz.f191
theorem cB_z56 {α:Type} {I:Imm} {F_zj:Sg_zj α} {F_z2:Sg_z2 α} {F_z8:Sg_z8 α} {F_zo:Sg_zo α} {F_z15:Sg_z15 α} {F_z16:Sg_z16 α} {F_z17:Sg_z17 α} (h_zj:OrcOk (α:=α) Tryz.prog I 190 (.pure (ad_zj F_zj))) (h_z2:OrcOk (α:=α) Tryz.prog I 79 (.pure (ad_z2 F_z2))) (h_z8:OrcOk (α:=α) Tryz.prog I 212 (.pure (ad_z8 F_z8))) (h_zo:OrcOk (α:=α) Tryz.prog I 192 (.pure (ad_zo F_zo))) (h_z15:OrcOk (α:=α) Tryz.prog I 193 (.pure (ad_z15 F_z15))) (h_z16:OrcOk (α:=α) Tryz.prog I 194 (.pure (ad_z16 F_z16))) (h_z17:OrcOk (α:=α) Tryz.prog I 196 (.pure (ad_z17 F_z17))):OrcOk (α:=α) Tryz.prog I 191 (.full (B_z56 F_zj F_z2 F_z8 F_zo F_z15 F_z16 F_z17)):=orc_body PT_W19_ok (OOk.cons h_z2 (OOk.cons h_z8 (OOk.nil))) ⟨5,[]⟩ Tryz.func191 (by kernel_rfl) (by kernel_rfl) (by kernel_rfl)
noncomputable abbrev B_z57 {α:Type} (F_zj:Sg_zj α) (F_z2:Sg_z2 α) (F_z8:Sg_z8 α) (F_zo:Sg_zo α) (F_z15:Sg_z15 α) (F_z16:Sg_z16 α) (F_z17:Sg_z17 α):FF α:=byBody PT_W19 [] ⟨5,[]⟩ Tryz.f255
theorem cB_z57 {α:Type} {I:Imm} {F_zj:Sg_zj α} {F_z2:Sg_z2 α} {F_z8:Sg_z8 α} {F_zo:Sg_zo α} {F_z15:Sg_z15 α} {F_z16:Sg_z16 α} {F_z17:Sg_z17 α} (h_zj:OrcOk (α:=α) Tryz.prog I 190 (.pure (ad_zj F_zj))) (h_z2:OrcOk (α:=α) Tryz.prog I 79 (.pure (ad_z2 F_z2))) (h_z8:OrcOk (α:=α) Tryz.prog I 212 (.pure (ad_z8 F_z8))) (h_zo:OrcOk (α:=α) Tryz.prog I 192 (.pure (ad_zo F_zo))) (h_z15:OrcOk (α:=α) Tryz.prog I 193 (.pure (ad_z15 F_z15))) (h_z16:OrcOk (α:=α) Tryz.prog I 194 (.pure (ad_z16 F_z16))) (h_z17:OrcOk (α:=α) Tryz.prog I 196 (.pure (ad_z17 F_z17))):OrcOk (α:=α) Tryz.prog I 255 (.full (B_z57 F_zj F_z2 F_z8 F_zo F_z15 F_z16 F_z17)):=orc_body PT_W19_ok (OOk.nil) ⟨5,[]⟩ Tryz.func255 (by kernel_rfl) (by kernel_rfl) (by kernel_rfl)
noncomputable abbrev B_z58 {α:Type} (F_zj:Sg_zj α) (F_z2:Sg_z2 α) (F_z8:Sg_z8 α) (F_zo:Sg_zo α) (F_z15:Sg_z15 α) (F_z16:Sg_z16 α) (F_z17:Sg_z17 α):FF α:=byBody PT_W19 [(254,.full (xDo 255 (B_z57 F_zj F_z2 F_z8 F_zo F_z15 F_z16 F_z17)))] ⟨5,[]⟩ Tryz.f236
theorem cB_z58 {α:Type} {I:Imm} {F_zj:Sg_zj α} {F_z2:Sg_z2 α} {F_z8:Sg_z8 α} {F_zo:Sg_zo α} {F_z15:Sg_z15 α} {F_z16:Sg_z16 α} {F_z17:Sg_z17 α} (h_zj:OrcOk (α:=α) Tryz.prog I 190 (.pure (ad_zj F_zj))) (h_z2:OrcOk (α:=α) Tryz.prog I 79 (.pure (ad_z2 F_z2))) (h_z8:OrcOk (α:=α) Tryz.prog I 212 (.pure (ad_z8 F_z8))) (h_zo:OrcOk (α:=α) Tryz.prog I 192 (.pure (ad_zo F_zo))) (h_z15:OrcOk (α:=α) Tryz.prog I 193 (.pure (ad_z15 F_z15))) (h_z16:OrcOk (α:=α) Tryz.prog I 194 (.pure (ad_z16 F_z16))) (h_z17:OrcOk (α:=α) Tryz.prog I 196 (.pure (ad_z17 F_z17))):OrcOk (α:=α) Tryz.prog I 236 (.full (B_z58 F_zj F_z2 F_z8 F_zo F_z15 F_z16 F_z17)):=orc_body PT_W19_ok (OOk.cons (once_orc on_do_raw (enters_of Tryz.func254 (by kernel_rfl) (by kernel_rfl)) (cB_z57 h_zj h_z2 h_z8 h_zo h_z15 h_z16 h_z17)) (OOk.nil)) ⟨5,[]⟩ Tryz.func236 (by kernel_rfl) (by kernel_rfl) (by kernel_rfl)
noncomputable abbrev B_z59 {α:Type} (F_zj:Sg_zj α) (F_z2:Sg_z2 α) (F_z8:Sg_z8 α) (F_zo:Sg_zo α) (F_z15:Sg_z15 α) (F_z16:Sg_z16 α) (F_z17:Sg_z17 α):FF α:=byBody PT_W19 [(236,.full (B_z58 F_zj F_z2 F_z8 F_zo F_z15 F_z16 F_z17))] ⟨5,[]⟩ Tryz.f195
theorem cB_z59 {α:Type} {I:Imm} {F_zj:Sg_zj α} {F_z2:Sg_z2 α} {F_z8:Sg_z8 α} {F_zo:Sg_zo α} {F_z15:Sg_z15 α} {F_z16:Sg_z16 α} {F_z17:Sg_z17 α} (h_zj:OrcOk (α:=α) Tryz.prog I 190 (.pure (ad_zj F_zj))) (h_z2:OrcOk (α:=α) Tryz.prog I 79 (.pure (ad_z2 F_z2))) (h_z8:OrcOk (α:=α) Tryz.prog I 212 (.pure (ad_z8 F_z8))) (h_zo:OrcOk (α:=α) Tryz.prog I 192 (.pure (ad_zo F_zo))) (h_z15:OrcOk (α:=α) Tryz.prog I 193 (.pure (ad_z15 F_z15))) (h_z16:OrcOk (α:=α) Tryz.prog I 194 (.pure (ad_z16 F_z16))) (h_z17:OrcOk (α:=α) Tryz.prog I 196 (.pure (ad_z17 F_z17))):OrcOk (α:=α) Tryz.prog I 195 (.full (B_z59 F_zj F_z2 F_z8 F_zo F_z15 F_z16 F_z17)):=orc_body PT_W19_ok (OOk.cons (cB_z58 h_zj h_z2 h_z8 h_zo h_z15 h_z16 h_z17) (OOk.nil)) ⟨5,[]⟩ Tryz.func195 (by kernel_rfl) (by kernel_rfl) (by kernel_rfl)
noncomputable abbrev PO_z2r {α:Type} (F_zj:Sg_zj α) (F_z2:Sg_z2 α) (F_z8:Sg_z8 α) (F_zo:Sg_zo α) (F_z15:Sg_z15 α) (F_z16:Sg_z16 α) (F_z17:Sg_z17 α):ORC α:=[(190,.pure (ad_zj F_zj)),(191,.full (B_z56 F_zj F_z2 F_z8 F_zo F_z15 F_z16 F_z17)),(192,.pure (ad_zo F_zo)),(193,.pure (ad_z15 F_z15)),(194,.pure (ad_z16 F_z16)),(195,.full (B_z59 F_zj F_z2 F_z8 F_zo F_z15 F_z16 F_z17)),(196,.pure (ad_z17 F_z17))]
theorem ok_z2r {α:Type} (F_zj:Sg_zj α) (F_z2:Sg_z2 α) (F_z8:Sg_z8 α) (F_zo:Sg_zo α) (F_z15:Sg_z15 α) (F_z16:Sg_z16 α) (F_z17:Sg_z17 α) (x0:GDecode_parts) (k:GInsn→Bool→R α):bodyL PT_W19 (PO_z2r F_zj F_z2 F_z8 F_zo F_z15 F_z16 F_z17) [] ⟨5,[]⟩ Tryz.f132 [(GDecode_parts.sv x0)] emp (fun v _=>dR_decode_parts_insn v k)=p_z2r F_zj F_z2 F_z8 F_zo F_z15 F_z16 F_z17 x0 k:=by kernel_rfl
theorem mk_z2r {α:Type} {I:Imm} {F_zj:Sg_zj α} {F_z2:Sg_z2 α} {F_z8:Sg_z8 α} {F_zo:Sg_zo α} {F_z15:Sg_z15 α} {F_z16:Sg_z16 α} {F_z17:Sg_z17 α} (h_zj:OrcOk (α:=α) Tryz.prog I 190 (.pure (ad_zj F_zj))) (h_z2:OrcOk (α:=α) Tryz.prog I 79 (.pure (ad_z2 F_z2))) (h_z8:OrcOk (α:=α) Tryz.prog I 212 (.pure (ad_z8 F_z8))) (h_zo:OrcOk (α:=α) Tryz.prog I 192 (.pure (ad_zo F_zo))) (h_z15:OrcOk (α:=α) Tryz.prog I 193 (.pure (ad_z15 F_z15))) (h_z16:OrcOk (α:=α) Tryz.prog I 194 (.pure (ad_z16 F_z16))) (h_z17:OrcOk (α:=α) Tryz.prog I 196 (.pure (ad_z17 F_z17))):OrcOk (α:=α) Tryz.prog I 132 (.pure (ad_z2r (p_z2r F_zj F_z2 F_z8 F_zo F_z15 F_z16 F_z17))):=by
  refine orc_pureK PT_W19_ok (O:=PO_z2r F_zj F_z2 F_z8 F_zo F_z15 F_z16 F_z17) (OOk.cons h_zj (OOk.cons (cB_z56 h_zj h_z2 h_z8 h_zo h_z15 h_z16 h_z17) (OOk.cons h_zo (OOk.cons h_z15 (OOk.cons h_z16 (OOk.cons (cB_z59 h_zj h_z2 h_z8 h_zo h_z15 h_z16 h_z17) (OOk.cons h_z17 (OOk.nil)))))))) (L:=[]) ⟨5,[]⟩ Tryz.func132 (by kernel_rfl) (by kernel_rfl) (by kernel_rfl) FLOk.nil ?_
  intro args k r hk
  unfold ad_z2r at hk
  split at hk<;>try (cases hk; done)
  obtain ⟨x0,rfl,hk0⟩:=GDecode_parts.dec_spec hk
  have hkz:=hk0
  refine ⟨by simp [Ids,Idss],fun v=>dR_decode_parts_insn v (fun r0 r1=>k (.tuple [(GInsn.sv r0),(.bool r1)])),?_,fun v hv=>?_⟩
  · rw [ok_z2r]; exact hkz
  · obtain ⟨r0,r1,rfl,hv1⟩:=dR_decode_parts_insn_spec hv; exact ⟨hv1,by simp [Ids,Idss]⟩
noncomputable abbrev PO_z5 {α:Type}:ORC α:=[]
theorem ok_z5 {α:Type}  (x0:Int) (k:Int→R α):bodyL PT_W19 (PO_z5 ) [] ⟨13,[]⟩ Tryz.f135 [(.int .i64 x0)] emp (fun v _=>dR_insn_Class v k)=p_z5  x0 k:=by kernel_rfl
theorem mk_z5 {α:Type} {I:Imm}:OrcOk (α:=α) Tryz.prog I 135 (.pure (ad_z5 (p_z5 ))):=by
  refine orc_pureK PT_W19_ok (O:=PO_z5 ) (OOk.nil) (L:=[]) ⟨13,[]⟩ Tryz.func135 (by kernel_rfl) (by kernel_rfl) (by kernel_rfl) FLOk.nil ?_
  intro args k r hk
  unfold ad_z5 at hk
  split at hk<;>try (cases hk; done)
  obtain ⟨x0,rfl,hk0⟩:=decI_spec hk
  have hkz:=hk0
  refine ⟨by simp [Ids,Idss],fun v=>dR_insn_Class v (fun r0=>k (.int .i64 r0)),?_,fun v hv=>?_⟩
  · rw [ok_z5]; exact hkz
  · obtain ⟨r0,rfl,hv1⟩:=dR_insn_Class_spec hv; exact ⟨hv1,by simp [Ids,Idss]⟩
noncomputable abbrev PO_z2s {α:Type}:ORC α:=[]
theorem ok_z2s {α:Type}  (x0:Int) (k:GInsn_Fields→R α):bodyL PT_W19 (PO_z2s ) [] ⟨1,[]⟩ Tryz.f239 [(.int .i64 x0)] emp (fun v _=>dR_insn_jumps v k)=p_z2s  x0 k:=by kernel_rfl
theorem mk_z2s {α:Type} {I:Imm}:OrcOk (α:=α) Tryz.prog I 239 (.pure (ad_z2s (p_z2s ))):=by
  refine orc_pureK PT_W19_ok (O:=PO_z2s ) (OOk.nil) (L:=[]) ⟨1,[]⟩ Tryz.func239 (by kernel_rfl) (by kernel_rfl) (by kernel_rfl) FLOk.nil ?_
  intro args k r hk
  unfold ad_z2s at hk
  split at hk<;>try (cases hk; done)
  obtain ⟨x0,rfl,hk0⟩:=decI_spec hk
  have hkz:=hk0
  refine ⟨by simp [Ids,Idss],fun v=>dR_insn_jumps v (fun r0=>k (GInsn_Fields.sv r0)),?_,fun v hv=>?_⟩
  · rw [ok_z2s]; exact hkz
  · obtain ⟨r0,rfl,hv1⟩:=dR_insn_jumps_spec hv; exact ⟨hv1,by simp [Ids,Idss]⟩
noncomputable abbrev PO_z2t {α:Type}:ORC α:=[]
theorem ok_z2t {α:Type}  (x0:Int) (k:GInsn_Fields→R α):bodyL PT_W19 (PO_z2t ) [] ⟨1,[]⟩ Tryz.f240 [(.int .i64 x0)] emp (fun v _=>dR_insn_withNumber v k)=p_z2t  x0 k:=by kernel_rfl
theorem mk_z2t {α:Type} {I:Imm}:OrcOk (α:=α) Tryz.prog I 240 (.pure (ad_z2t (p_z2t ))):=by
  refine orc_pureK PT_W19_ok (O:=PO_z2t ) (OOk.nil) (L:=[]) ⟨1,[]⟩ Tryz.func240 (by kernel_rfl) (by kernel_rfl) (by kernel_rfl) FLOk.nil ?_
  intro args k r hk
  unfold ad_z2t at hk
  split at hk<;>try (cases hk; done)
  obtain ⟨x0,rfl,hk0⟩:=decI_spec hk
  have hkz:=hk0
  refine ⟨by simp [Ids,Idss],fun v=>dR_insn_withNumber v (fun r0=>k (GInsn_Fields.sv r0)),?_,fun v hv=>?_⟩
  · rw [ok_z2t]; exact hkz
  · obtain ⟨r0,rfl,hv1⟩:=dR_insn_withNumber_spec hv; exact ⟨hv1,by simp [Ids,Idss]⟩
noncomputable abbrev PO_z2u {α:Type} (F_z5:Sg_z5 α) (F_z2s:Sg_z2s α) (F_z2t:Sg_z2t α):ORC α:=[(135,.pure (ad_z5 F_z5)),(239,.pure (ad_z2s F_z2s)),(240,.pure (ad_z2t F_z2t))]
theorem ok_z2u {α:Type} (F_z5:Sg_z5 α) (F_z2s:Sg_z2s α) (F_z2t:Sg_z2t α) (x0:Int) (k:GInsn_Fields→R α):bodyL PT_W19 (PO_z2u F_z5 F_z2s F_z2t) [] ⟨1,[]⟩ Tryz.f197 [(.int .i64 x0)] emp (fun v _=>dR_insn_Of v k)=p_z2u F_z5 F_z2s F_z2t x0 k:=by kernel_rfl
theorem mk_z2u {α:Type} {I:Imm} {F_z5:Sg_z5 α} {F_z2s:Sg_z2s α} {F_z2t:Sg_z2t α} (h_z5:OrcOk (α:=α) Tryz.prog I 135 (.pure (ad_z5 F_z5))) (h_z2s:OrcOk (α:=α) Tryz.prog I 239 (.pure (ad_z2s F_z2s))) (h_z2t:OrcOk (α:=α) Tryz.prog I 240 (.pure (ad_z2t F_z2t))):OrcOk (α:=α) Tryz.prog I 197 (.pure (ad_z2u (p_z2u F_z5 F_z2s F_z2t))):=by
  refine orc_pureK PT_W19_ok (O:=PO_z2u F_z5 F_z2s F_z2t) (OOk.cons h_z5 (OOk.cons h_z2s (OOk.cons h_z2t (OOk.nil)))) (L:=[]) ⟨1,[]⟩ Tryz.func197 (by kernel_rfl) (by kernel_rfl) (by kernel_rfl) FLOk.nil ?_
  intro args k r hk
  unfold ad_z2u at hk
  split at hk<;>try (cases hk; done)
  obtain ⟨x0,rfl,hk0⟩:=decI_spec hk
  have hkz:=hk0
  refine ⟨by simp [Ids,Idss],fun v=>dR_insn_Of v (fun r0=>k (GInsn_Fields.sv r0)),?_,fun v hv=>?_⟩
  · rw [ok_z2u]; exact hkz
  · obtain ⟨r0,rfl,hv1⟩:=dR_insn_Of_spec hv; exact ⟨hv1,by simp [Ids,Idss]⟩
noncomputable abbrev PO_z1w {α:Type}:ORC α:=[]
theorem ok_z1w {α:Type}  (x0:Bool) (x1:Int) (x2:Int) (k:Bool→R α):bodyL PT_W19 (PO_z1w ) [] ⟨1,[]⟩ Tryz.f198 [(.bool x0),(.int .i64 x1),(.int .i64 x2)] emp (fun v _=>dR_insn_field v k)=p_z1w  x0 x1 x2 k:=by kernel_rfl
theorem mk_z1w {α:Type} {I:Imm}:OrcOk (α:=α) Tryz.prog I 198 (.pure (ad_z1w (p_z1w ))):=by
  refine orc_pureK PT_W19_ok (O:=PO_z1w ) (OOk.nil) (L:=[]) ⟨1,[]⟩ Tryz.func198 (by kernel_rfl) (by kernel_rfl) (by kernel_rfl) FLOk.nil ?_
  intro args k r hk
  unfold ad_z1w at hk
  split at hk<;>try (cases hk; done)
  obtain ⟨x0,rfl,hk0⟩:=decB_spec hk
  obtain ⟨x1,rfl,hk1⟩:=decI_spec hk0
  obtain ⟨x2,rfl,hk2⟩:=decI_spec hk1
  have hkz:=hk2
  refine ⟨by simp [Ids,Idss],fun v=>dR_insn_field v (fun r0=>k (.bool r0)),?_,fun v hv=>?_⟩
  · rw [ok_z1w]; exact hkz
  · obtain ⟨r0,rfl,hv1⟩:=dR_insn_field_spec hv; exact ⟨hv1,by simp [Ids,Idss]⟩
noncomputable abbrev PO_zi {α:Type} (F_z5:Sg_z5 α) (F_z2u:Sg_z2u α) (F_z1w:Sg_z1w α):ORC α:=[(135,.pure (ad_z5 F_z5)),(197,.pure (ad_z2u F_z2u)),(198,.pure (ad_z1w F_z1w))]
theorem ok_zi {α:Type} (F_z5:Sg_z5 α) (F_z2u:Sg_z2u α) (F_z1w:Sg_z1w α) (x0:GInsn) (k:Bool→R α):bodyL PT_W19 (PO_zi F_z5 F_z2u F_z1w) [] ⟨1,[]⟩ Tryz.f133 [(GInsn.sv x0)] emp (fun v _=>dR_insn_Is v k)=p_zi F_z5 F_z2u F_z1w x0 k:=by kernel_rfl
theorem mk_zi {α:Type} {I:Imm} {F_z5:Sg_z5 α} {F_z2u:Sg_z2u α} {F_z1w:Sg_z1w α} (h_z5:OrcOk (α:=α) Tryz.prog I 135 (.pure (ad_z5 F_z5))) (h_z2u:OrcOk (α:=α) Tryz.prog I 197 (.pure (ad_z2u F_z2u))) (h_z1w:OrcOk (α:=α) Tryz.prog I 198 (.pure (ad_z1w F_z1w))):OrcOk (α:=α) Tryz.prog I 133 (.pure (ad_zi (p_zi F_z5 F_z2u F_z1w))):=by
  refine orc_pureK PT_W19_ok (O:=PO_zi F_z5 F_z2u F_z1w) (OOk.cons h_z5 (OOk.cons h_z2u (OOk.cons h_z1w (OOk.nil)))) (L:=[]) ⟨1,[]⟩ Tryz.func133 (by kernel_rfl) (by kernel_rfl) (by kernel_rfl) FLOk.nil ?_
  intro args k r hk
  unfold ad_zi at hk
  split at hk<;>try (cases hk; done)
  obtain ⟨x0,rfl,hk0⟩:=GInsn.dec_spec hk
  have hkz:=hk0
  refine ⟨by simp [Ids,Idss],fun v=>dR_insn_Is v (fun r0=>k (.bool r0)),?_,fun v hv=>?_⟩
  · rw [ok_zi]; exact hkz
  · obtain ⟨r0,rfl,hv1⟩:=dR_insn_Is_spec hv; exact ⟨hv1,by simp [Ids,Idss]⟩
noncomputable abbrev PO_z2g {α:Type} (F_z2q:Sg_z2q α) (F_z2r:Sg_z2r α) (F_zi:Sg_zi α):ORC α:=[(131,.pure (ad_z2q F_z2q)),(132,.pure (ad_z2r F_z2r)),(133,.pure (ad_zi F_zi))]
theorem ok_z2g {α:Type} (F_z2q:Sg_z2q α) (F_z2r:Sg_z2r α) (F_zi:Sg_zi α) (x0:Int) (k:GInsn→Int→R α):bodyL PT_W19 (PO_z2g F_z2q F_z2r F_zi) [] ⟨1,[]⟩ Tryz.f86 [(.int .u32 x0)] emp (fun v _=>dR_decode_Decode v k)=p_z2g F_z2q F_z2r F_zi x0 k:=by kernel_rfl
theorem mk_z2g {α:Type} {I:Imm} {F_z2q:Sg_z2q α} {F_z2r:Sg_z2r α} {F_zi:Sg_zi α} (h_z2q:OrcOk (α:=α) Tryz.prog I 131 (.pure (ad_z2q F_z2q))) (h_z2r:OrcOk (α:=α) Tryz.prog I 132 (.pure (ad_z2r F_z2r))) (h_zi:OrcOk (α:=α) Tryz.prog I 133 (.pure (ad_zi F_zi))):OrcOk (α:=α) Tryz.prog I 86 (.pure (ad_z2g (p_z2g F_z2q F_z2r F_zi))):=by
  refine orc_pureK PT_W19_ok (O:=PO_z2g F_z2q F_z2r F_zi) (OOk.cons h_z2q (OOk.cons h_z2r (OOk.cons h_zi (OOk.nil)))) (L:=[]) ⟨1,[]⟩ Tryz.func86 (by kernel_rfl) (by kernel_rfl) (by kernel_rfl) FLOk.nil ?_
  intro args k r hk
  unfold ad_z2g at hk
  split at hk<;>try (cases hk; done)
  obtain ⟨x0,rfl,hk0⟩:=decI_spec hk
  have hkz:=hk0
  refine ⟨by simp [Ids,Idss],fun v=>dR_decode_Decode v (fun r0 r1=>k (.tuple [(GInsn.sv r0),(.int .i64 r1)])),?_,fun v hv=>?_⟩
  · rw [ok_z2g]; exact hkz
  · obtain ⟨r0,r1,rfl,hv1⟩:=dR_decode_Decode_spec hv; exact ⟨hv1,by simp [Ids,Idss]⟩
noncomputable abbrev PO_z14 {α:Type}:ORC α:=[]
theorem ok_z14 {α:Type}  (x0:GState) (k:Int→R α):bodyL PT_W19 (PO_z14 ) [] ⟨1,[]⟩ Tryz.f134 [(GState.sv x0)] emp (fun v _=>dR_legal_Level v k)=p_z14  x0 k:=by kernel_rfl
theorem mk_z14 {α:Type} {I:Imm}:OrcOk (α:=α) Tryz.prog I 134 (.pure (ad_z14 (p_z14 ))):=by
  refine orc_pureK PT_W19_ok (O:=PO_z14 ) (OOk.nil) (L:=[]) ⟨1,[]⟩ Tryz.func134 (by kernel_rfl) (by kernel_rfl) (by kernel_rfl) FLOk.nil ?_
  intro args k r hk
  unfold ad_z14 at hk
  split at hk<;>try (cases hk; done)
  obtain ⟨x0,rfl,hk0⟩:=GState.dec_spec hk
  have hkz:=hk0
  refine ⟨by simp [Ids,Idss],fun v=>dR_legal_Level v (fun r0=>k (.int .i64 r0)),?_,fun v hv=>?_⟩
  · rw [ok_z14]; exact hkz
  · obtain ⟨r0,rfl,hv1⟩:=dR_legal_Level_spec hv; exact ⟨hv1,by simp [Ids,Idss]⟩
noncomputable abbrev PO_z1n {α:Type}:ORC α:=[]
theorem ok_z1n {α:Type}  (x0:GInsn) (k:Bool→R α):bodyL PT_W19 (PO_z1n ) [] ⟨1,[]⟩ Tryz.f137 [(GInsn.sv x0)] emp (fun v _=>dR_legal_Writes v k)=p_z1n  x0 k:=by kernel_rfl
theorem mk_z1n {α:Type} {I:Imm}:OrcOk (α:=α) Tryz.prog I 137 (.pure (ad_z1n (p_z1n ))):=by
  refine orc_pureK PT_W19_ok (O:=PO_z1n ) (OOk.nil) (L:=[]) ⟨1,[]⟩ Tryz.func137 (by kernel_rfl) (by kernel_rfl) (by kernel_rfl) FLOk.nil ?_
  intro args k r hk
  unfold ad_z1n at hk
  split at hk<;>try (cases hk; done)
  obtain ⟨x0,rfl,hk0⟩:=GInsn.dec_spec hk
  have hkz:=hk0
  refine ⟨by simp [Ids,Idss],fun v=>dR_legal_Writes v (fun r0=>k (.bool r0)),?_,fun v hv=>?_⟩
  · rw [ok_z1n]; exact hkz
  · obtain ⟨r0,rfl,hv1⟩:=dR_legal_Writes_spec hv; exact ⟨hv1,by simp [Ids,Idss]⟩
noncomputable abbrev B_z5a {α:Type}:FF α:=byBody PT_W19 [] ⟨6,[]⟩ Tryz.f176
theorem cB_z5a {α:Type} {I:Imm}:OrcOk (α:=α) Tryz.prog I 176 (.full (B_z5a )):=orc_body PT_W19_ok (OOk.nil) ⟨6,[]⟩ Tryz.func176 (by kernel_rfl) (by kernel_rfl) (by kernel_rfl)
noncomputable abbrev PO_z3 {α:Type}:ORC α:=[(176,.full (B_z5a ))]
theorem ok_z3 {α:Type}   (k:Int→R α):bodyL PT_W19 (PO_z3 ) [] ⟨6,[]⟩ Tryz.f177 [] emp (fun v _=>dR_csr_guests v k)=p_z3   k:=by kernel_rfl
theorem mk_z3 {α:Type} {I:Imm}:OrcOk (α:=α) Tryz.prog I 177 (.pure (ad_z3 (p_z3 ))):=by
  refine orc_pureK PT_W19_ok (O:=PO_z3 ) (OOk.cons (cB_z5a ) (OOk.nil)) (L:=[]) ⟨6,[]⟩ Tryz.func177 (by kernel_rfl) (by kernel_rfl) (by kernel_rfl) FLOk.nil ?_
  intro args k r hk
  unfold ad_z3 at hk
  split at hk<;>try (cases hk; done)
  have hkz:=hk
  refine ⟨by simp [Ids,Idss],fun v=>dR_csr_guests v (fun r0=>k (.int .u64 r0)),?_,fun v hv=>?_⟩
  · rw [ok_z3]; exact hkz
  · obtain ⟨r0,rfl,hv1⟩:=dR_csr_guests_spec hv; exact ⟨hv1,by simp [Ids,Idss]⟩
noncomputable abbrev B_z5b {α:Type} (F_z3:Sg_z3 α):FF α:=byBody PT_W19 [] ⟨30,[]⟩ Tryz.f176
theorem cB_z5b {α:Type} {I:Imm} {F_z3:Sg_z3 α} (h_z3:OrcOk (α:=α) Tryz.prog I 177 (.pure (ad_z3 F_z3))):OrcOk (α:=α) Tryz.prog I 176 (.full (B_z5b F_z3)):=orc_body PT_W19_ok (OOk.nil) ⟨30,[]⟩ Tryz.func176 (by kernel_rfl) (by kernel_rfl) (by kernel_rfl)
noncomputable abbrev B_z5c {α:Type} (F_z3:Sg_z3 α):FF α:=byBody PT_W19 [(176,.full (B_z5b F_z3)),(177,.pure (ad_z3 F_z3))] ⟨30,[]⟩ Tryz.f114
theorem cB_z5c {α:Type} {I:Imm} {F_z3:Sg_z3 α} (h_z3:OrcOk (α:=α) Tryz.prog I 177 (.pure (ad_z3 F_z3))):OrcOk (α:=α) Tryz.prog I 114 (.full (B_z5c F_z3)):=orc_body PT_W19_ok (OOk.cons (cB_z5b h_z3) (OOk.cons h_z3 (OOk.nil))) ⟨30,[]⟩ Tryz.func114 (by kernel_rfl) (by kernel_rfl) (by kernel_rfl)
noncomputable abbrev PO_zr {α:Type} (F_z3:Sg_z3 α):ORC α:=[(114,.full (B_z5c F_z3))]
theorem ok_zr {α:Type} (F_z3:Sg_z3 α) (x0:Int) (k:Int→R α):bodyL PT_W19 (PO_zr F_z3) [] ⟨30,[]⟩ Tryz.f241 [(.int .i64 x0)] emp (fun v _=>dR_csr_Index v k)=p_zr F_z3 x0 k:=by kernel_rfl
theorem mk_zr {α:Type} {I:Imm} {F_z3:Sg_z3 α} (h_z3:OrcOk (α:=α) Tryz.prog I 177 (.pure (ad_z3 F_z3))):OrcOk (α:=α) Tryz.prog I 241 (.pure (ad_zr (p_zr F_z3))):=by
  refine orc_pureK PT_W19_ok (O:=PO_zr F_z3) (OOk.cons (cB_z5c h_z3) (OOk.nil)) (L:=[]) ⟨30,[]⟩ Tryz.func241 (by kernel_rfl) (by kernel_rfl) (by kernel_rfl) FLOk.nil ?_
  intro args k r hk
  unfold ad_zr at hk
  split at hk<;>try (cases hk; done)
  obtain ⟨x0,rfl,hk0⟩:=decI_spec hk
  have hkz:=hk0
  refine ⟨by simp [Ids,Idss],fun v=>dR_csr_Index v (fun r0=>k (.int .i64 r0)),?_,fun v hv=>?_⟩
  · rw [ok_zr]; exact hkz
  · obtain ⟨r0,rfl,hv1⟩:=dR_csr_Index_spec hv; exact ⟨hv1,by simp [Ids,Idss]⟩
noncomputable abbrev PO_z2v {α:Type} (F_zr:Sg_zr α):ORC α:=[(241,.pure (ad_zr F_zr))]
theorem ok_z2v {α:Type} (F_zr:Sg_zr α) (x0:Int) (k:Bool→R α):bodyL PT_W19 (PO_z2v F_zr) [] ⟨1,[]⟩ Tryz.f199 [(.int .i64 x0)] emp (fun v _=>dR_csr_Is v k)=p_z2v F_zr x0 k:=by kernel_rfl
theorem mk_z2v {α:Type} {I:Imm} {F_zr:Sg_zr α} (h_zr:OrcOk (α:=α) Tryz.prog I 241 (.pure (ad_zr F_zr))):OrcOk (α:=α) Tryz.prog I 199 (.pure (ad_z2v (p_z2v F_zr))):=by
  refine orc_pureK PT_W19_ok (O:=PO_z2v F_zr) (OOk.cons h_zr (OOk.nil)) (L:=[]) ⟨1,[]⟩ Tryz.func199 (by kernel_rfl) (by kernel_rfl) (by kernel_rfl) FLOk.nil ?_
  intro args k r hk
  unfold ad_z2v at hk
  split at hk<;>try (cases hk; done)
  obtain ⟨x0,rfl,hk0⟩:=decI_spec hk
  have hkz:=hk0
  refine ⟨by simp [Ids,Idss],fun v=>dR_csr_Is v (fun r0=>k (.bool r0)),?_,fun v hv=>?_⟩
  · rw [ok_z2v]; exact hkz
  · obtain ⟨r0,rfl,hv1⟩:=dR_csr_Is_spec hv; exact ⟨hv1,by simp [Ids,Idss]⟩
noncomputable abbrev PO_z1e {α:Type}:ORC α:=[]
theorem ok_z1e {α:Type}  (x0:Int) (k:Int→R α):bodyL PT_W19 (PO_z1e ) [] ⟨1,[]⟩ Tryz.f201 [(.int .i64 x0)] emp (fun v _=>dR_legal_ask v k)=p_z1e  x0 k:=by kernel_rfl
theorem mk_z1e {α:Type} {I:Imm}:OrcOk (α:=α) Tryz.prog I 201 (.pure (ad_z1e (p_z1e ))):=by
  refine orc_pureK PT_W19_ok (O:=PO_z1e ) (OOk.nil) (L:=[]) ⟨1,[]⟩ Tryz.func201 (by kernel_rfl) (by kernel_rfl) (by kernel_rfl) FLOk.nil ?_
  intro args k r hk
  unfold ad_z1e at hk
  split at hk<;>try (cases hk; done)
  obtain ⟨x0,rfl,hk0⟩:=decI_spec hk
  have hkz:=hk0
  refine ⟨by simp [Ids,Idss],fun v=>dR_legal_ask v (fun r0=>k (.int .i64 r0)),?_,fun v hv=>?_⟩
  · rw [ok_z1e]; exact hkz
  · obtain ⟨r0,rfl,hv1⟩:=dR_legal_ask_spec hv; exact ⟨hv1,by simp [Ids,Idss]⟩
noncomputable abbrev PO_zf {α:Type}:ORC α:=[]
theorem ok_zf {α:Type}  (x0:Bool) (x1:Int) (k:Int→Bool→R α):bodyL PT_W19 (PO_zf ) [] ⟨1,[]⟩ Tryz.f138 [(.bool x0),(.int .u64 x1)] emp (fun v _=>dR_legal_because v k)=p_zf  x0 x1 k:=by kernel_rfl
theorem mk_zf {α:Type} {I:Imm}:OrcOk (α:=α) Tryz.prog I 138 (.pure (ad_zf (p_zf ))):=by
  refine orc_pureK PT_W19_ok (O:=PO_zf ) (OOk.nil) (L:=[]) ⟨1,[]⟩ Tryz.func138 (by kernel_rfl) (by kernel_rfl) (by kernel_rfl) FLOk.nil ?_
  intro args k r hk
  unfold ad_zf at hk
  split at hk<;>try (cases hk; done)
  obtain ⟨x0,rfl,hk0⟩:=decB_spec hk
  obtain ⟨x1,rfl,hk1⟩:=decI_spec hk0
  have hkz:=hk1
  refine ⟨by simp [Ids,Idss],fun v=>dR_legal_because v (fun r0 r1=>k (.tuple [(.int .u64 r0),(.bool r1)])),?_,fun v hv=>?_⟩
  · rw [ok_zf]; exact hkz
  · obtain ⟨r0,r1,rfl,hv1⟩:=dR_legal_because_spec hv; exact ⟨hv1,by simp [Ids,Idss]⟩
noncomputable abbrev PO_z26 {α:Type} (F_z1e:Sg_z1e α) (F_zf:Sg_zf α) (F_z4:Sg_z4 α):ORC α:=[(201,.pure (ad_z1e F_z1e)),(138,.pure (ad_zf F_zf)),(80,.pure (ad_z4 F_z4))]
theorem ok_z26 {α:Type} (F_z1e:Sg_z1e α) (F_zf:Sg_zf α) (F_z4:Sg_z4 α) (x0:GState) (x1:Int) (x2:Int) (k:Int→Bool→R α):bodyL PT_W19 (PO_z26 F_z1e F_zf F_z4) [] ⟨1,[]⟩ Tryz.f200 [(GState.sv x0),(.int .i64 x1),(.int .i64 x2)] emp (fun v _=>dR_legal_guestCsr v k)=p_z26 F_z1e F_zf F_z4 x0 x1 x2 k:=by kernel_rfl
theorem mk_z26 {α:Type} {I:Imm} {F_z1e:Sg_z1e α} {F_zf:Sg_zf α} {F_z4:Sg_z4 α} (h_z1e:OrcOk (α:=α) Tryz.prog I 201 (.pure (ad_z1e F_z1e))) (h_zf:OrcOk (α:=α) Tryz.prog I 138 (.pure (ad_zf F_zf))) (h_z4:OrcOk (α:=α) Tryz.prog I 80 (.pure (ad_z4 F_z4))):OrcOk (α:=α) Tryz.prog I 200 (.pure (ad_z26 (p_z26 F_z1e F_zf F_z4))):=by
  refine orc_pureK PT_W19_ok (O:=PO_z26 F_z1e F_zf F_z4) (OOk.cons h_z1e (OOk.cons h_zf (OOk.cons h_z4 (OOk.nil)))) (L:=[]) ⟨1,[]⟩ Tryz.func200 (by kernel_rfl) (by kernel_rfl) (by kernel_rfl) FLOk.nil ?_
  intro args k r hk
  unfold ad_z26 at hk
  split at hk<;>try (cases hk; done)
  obtain ⟨x0,rfl,hk0⟩:=GState.dec_spec hk
  obtain ⟨x1,rfl,hk1⟩:=decI_spec hk0
  obtain ⟨x2,rfl,hk2⟩:=decI_spec hk1
  have hkz:=hk2
  refine ⟨by simp [Ids,Idss],fun v=>dR_legal_guestCsr v (fun r0 r1=>k (.tuple [(.int .u64 r0),(.bool r1)])),?_,fun v hv=>?_⟩
  · rw [ok_z26]; exact hkz
  · obtain ⟨r0,r1,rfl,hv1⟩:=dR_legal_guestCsr_spec hv; exact ⟨hv1,by simp [Ids,Idss]⟩
noncomputable abbrev PO_z2w {α:Type} (F_z14:Sg_z14 α) (F_z2v:Sg_z2v α) (F_z26:Sg_z26 α) (F_zf:Sg_zf α) (F_z4:Sg_z4 α) (F_z1e:Sg_z1e α):ORC α:=[(134,.pure (ad_z14 F_z14)),(199,.pure (ad_z2v F_z2v)),(200,.pure (ad_z26 F_z26)),(138,.pure (ad_zf F_zf)),(80,.pure (ad_z4 F_z4)),(201,.pure (ad_z1e F_z1e))]
theorem ok_z2w {α:Type} (F_z14:Sg_z14 α) (F_z2v:Sg_z2v α) (F_z26:Sg_z26 α) (F_zf:Sg_zf α) (F_z4:Sg_z4 α) (F_z1e:Sg_z1e α) (x0:GState) (x1:Int) (x2:Bool) (k:Int→Bool→R α):bodyL PT_W19 (PO_z2w F_z14 F_z2v F_z26 F_zf F_z4 F_z1e) [] ⟨1,[]⟩ Tryz.f136 [(GState.sv x0),(.int .i64 x1),(.bool x2)] emp (fun v _=>dR_legal_Csr v k)=p_z2w F_z14 F_z2v F_z26 F_zf F_z4 F_z1e x0 x1 x2 k:=by kernel_rfl
theorem mk_z2w {α:Type} {I:Imm} {F_z14:Sg_z14 α} {F_z2v:Sg_z2v α} {F_z26:Sg_z26 α} {F_zf:Sg_zf α} {F_z4:Sg_z4 α} {F_z1e:Sg_z1e α} (h_z14:OrcOk (α:=α) Tryz.prog I 134 (.pure (ad_z14 F_z14))) (h_z2v:OrcOk (α:=α) Tryz.prog I 199 (.pure (ad_z2v F_z2v))) (h_z26:OrcOk (α:=α) Tryz.prog I 200 (.pure (ad_z26 F_z26))) (h_zf:OrcOk (α:=α) Tryz.prog I 138 (.pure (ad_zf F_zf))) (h_z4:OrcOk (α:=α) Tryz.prog I 80 (.pure (ad_z4 F_z4))) (h_z1e:OrcOk (α:=α) Tryz.prog I 201 (.pure (ad_z1e F_z1e))):OrcOk (α:=α) Tryz.prog I 136 (.pure (ad_z2w (p_z2w F_z14 F_z2v F_z26 F_zf F_z4 F_z1e))):=by
  refine orc_pureK PT_W19_ok (O:=PO_z2w F_z14 F_z2v F_z26 F_zf F_z4 F_z1e) (OOk.cons h_z14 (OOk.cons h_z2v (OOk.cons h_z26 (OOk.cons h_zf (OOk.cons h_z4 (OOk.cons h_z1e (OOk.nil))))))) (L:=[]) ⟨1,[]⟩ Tryz.func136 (by kernel_rfl) (by kernel_rfl) (by kernel_rfl) FLOk.nil ?_
  intro args k r hk
  unfold ad_z2w at hk
  split at hk<;>try (cases hk; done)
  obtain ⟨x0,rfl,hk0⟩:=GState.dec_spec hk
  obtain ⟨x1,rfl,hk1⟩:=decI_spec hk0
  obtain ⟨x2,rfl,hk2⟩:=decB_spec hk1
  have hkz:=hk2
  refine ⟨by simp [Ids,Idss],fun v=>dR_legal_Csr v (fun r0 r1=>k (.tuple [(.int .u64 r0),(.bool r1)])),?_,fun v hv=>?_⟩
  · rw [ok_z2w]; exact hkz
  · obtain ⟨r0,r1,rfl,hv1⟩:=dR_legal_Csr_spec hv; exact ⟨hv1,by simp [Ids,Idss]⟩
noncomputable abbrev PO_z2h {α:Type} (F_z4:Sg_z4 α) (F_zf:Sg_zf α):ORC α:=[(80,.pure (ad_z4 F_z4)),(138,.pure (ad_zf F_zf))]
theorem ok_z2h {α:Type} (F_z4:Sg_z4 α) (F_zf:Sg_zf α) (x0:GState) (x1:Int) (x2:Int) (x3:Int) (k:Int→Bool→R α):bodyL PT_W19 (PO_z2h F_z4 F_zf) [] ⟨1,[]⟩ Tryz.f139 [(GState.sv x0),(.int .i64 x1),(.int .i64 x2),(.int .i64 x3)] emp (fun v _=>dR_legal_plain v k)=p_z2h F_z4 F_zf x0 x1 x2 x3 k:=by kernel_rfl
theorem mk_z2h {α:Type} {I:Imm} {F_z4:Sg_z4 α} {F_zf:Sg_zf α} (h_z4:OrcOk (α:=α) Tryz.prog I 80 (.pure (ad_z4 F_z4))) (h_zf:OrcOk (α:=α) Tryz.prog I 138 (.pure (ad_zf F_zf))):OrcOk (α:=α) Tryz.prog I 139 (.pure (ad_z2h (p_z2h F_z4 F_zf))):=by
  refine orc_pureK PT_W19_ok (O:=PO_z2h F_z4 F_zf) (OOk.cons h_z4 (OOk.cons h_zf (OOk.nil))) (L:=[]) ⟨1,[]⟩ Tryz.func139 (by kernel_rfl) (by kernel_rfl) (by kernel_rfl) FLOk.nil ?_
  intro args k r hk
  unfold ad_z2h at hk
  split at hk<;>try (cases hk; done)
  obtain ⟨x0,rfl,hk0⟩:=GState.dec_spec hk
  obtain ⟨x1,rfl,hk1⟩:=decI_spec hk0
  obtain ⟨x2,rfl,hk2⟩:=decI_spec hk1
  obtain ⟨x3,rfl,hk3⟩:=decI_spec hk2
  have hkz:=hk3
  refine ⟨by simp [Ids,Idss],fun v=>dR_legal_plain v (fun r0 r1=>k (.tuple [(.int .u64 r0),(.bool r1)])),?_,fun v hv=>?_⟩
  · rw [ok_z2h]; exact hkz
  · obtain ⟨r0,r1,rfl,hv1⟩:=dR_legal_plain_spec hv; exact ⟨hv1,by simp [Ids,Idss]⟩
noncomputable abbrev PO_z2x {α:Type} (F_z4:Sg_z4 α):ORC α:=[(80,.pure (ad_z4 F_z4))]
theorem ok_z2x {α:Type} (F_z4:Sg_z4 α) (x0:GState) (x1:Int) (k:Int→Bool→R α):bodyL PT_W19 (PO_z2x F_z4) [] ⟨1,[]⟩ Tryz.f140 [(GState.sv x0),(.int .i64 x1)] emp (fun v _=>dR_legal_wfi v k)=p_z2x F_z4 x0 x1 k:=by kernel_rfl
theorem mk_z2x {α:Type} {I:Imm} {F_z4:Sg_z4 α} (h_z4:OrcOk (α:=α) Tryz.prog I 80 (.pure (ad_z4 F_z4))):OrcOk (α:=α) Tryz.prog I 140 (.pure (ad_z2x (p_z2x F_z4))):=by
  refine orc_pureK PT_W19_ok (O:=PO_z2x F_z4) (OOk.cons h_z4 (OOk.nil)) (L:=[]) ⟨1,[]⟩ Tryz.func140 (by kernel_rfl) (by kernel_rfl) (by kernel_rfl) FLOk.nil ?_
  intro args k r hk
  unfold ad_z2x at hk
  split at hk<;>try (cases hk; done)
  obtain ⟨x0,rfl,hk0⟩:=GState.dec_spec hk
  obtain ⟨x1,rfl,hk1⟩:=decI_spec hk0
  have hkz:=hk1
  refine ⟨by simp [Ids,Idss],fun v=>dR_legal_wfi v (fun r0 r1=>k (.tuple [(.int .u64 r0),(.bool r1)])),?_,fun v hv=>?_⟩
  · rw [ok_z2x]; exact hkz
  · obtain ⟨r0,r1,rfl,hv1⟩:=dR_legal_wfi_spec hv; exact ⟨hv1,by simp [Ids,Idss]⟩
noncomputable abbrev PO_z2b {α:Type} (F_z5:Sg_z5 α) (F_z4:Sg_z4 α) (F_zf:Sg_zf α):ORC α:=[(135,.pure (ad_z5 F_z5)),(80,.pure (ad_z4 F_z4)),(138,.pure (ad_zf F_zf))]
theorem ok_z2b {α:Type} (F_z5:Sg_z5 α) (F_z4:Sg_z4 α) (F_zf:Sg_zf α) (x0:GState) (x1:Int) (x2:Int) (k:Int→Bool→R α):bodyL PT_W19 (PO_z2b F_z5 F_z4 F_zf) [] ⟨1,[]⟩ Tryz.f141 [(GState.sv x0),(.int .i64 x1),(.int .i64 x2)] emp (fun v _=>dR_legal_guests v k)=p_z2b F_z5 F_z4 F_zf x0 x1 x2 k:=by kernel_rfl
theorem mk_z2b {α:Type} {I:Imm} {F_z5:Sg_z5 α} {F_z4:Sg_z4 α} {F_zf:Sg_zf α} (h_z5:OrcOk (α:=α) Tryz.prog I 135 (.pure (ad_z5 F_z5))) (h_z4:OrcOk (α:=α) Tryz.prog I 80 (.pure (ad_z4 F_z4))) (h_zf:OrcOk (α:=α) Tryz.prog I 138 (.pure (ad_zf F_zf))):OrcOk (α:=α) Tryz.prog I 141 (.pure (ad_z2b (p_z2b F_z5 F_z4 F_zf))):=by
  refine orc_pureK PT_W19_ok (O:=PO_z2b F_z5 F_z4 F_zf) (OOk.cons h_z5 (OOk.cons h_z4 (OOk.cons h_zf (OOk.nil)))) (L:=[]) ⟨1,[]⟩ Tryz.func141 (by kernel_rfl) (by kernel_rfl) (by kernel_rfl) FLOk.nil ?_
  intro args k r hk
  unfold ad_z2b at hk
  split at hk<;>try (cases hk; done)
  obtain ⟨x0,rfl,hk0⟩:=GState.dec_spec hk
  obtain ⟨x1,rfl,hk1⟩:=decI_spec hk0
  obtain ⟨x2,rfl,hk2⟩:=decI_spec hk1
  have hkz:=hk2
  refine ⟨by simp [Ids,Idss],fun v=>dR_legal_guests v (fun r0 r1=>k (.tuple [(.int .u64 r0),(.bool r1)])),?_,fun v hv=>?_⟩
  · rw [ok_z2b]; exact hkz
  · obtain ⟨r0,r1,rfl,hv1⟩:=dR_legal_guests_spec hv; exact ⟨hv1,by simp [Ids,Idss]⟩
noncomputable abbrev PO_z13 {α:Type} (F_zi:Sg_zi α) (F_z14:Sg_z14 α) (F_z5:Sg_z5 α) (F_z1n:Sg_z1n α) (F_z2w:Sg_z2w α) (F_zf:Sg_zf α) (F_z2h:Sg_z2h α) (F_z2x:Sg_z2x α) (F_z2b:Sg_z2b α):ORC α:=[(133,.pure (ad_zi F_zi)),(134,.pure (ad_z14 F_z14)),(135,.pure (ad_z5 F_z5)),(137,.pure (ad_z1n F_z1n)),(136,.pure (ad_z2w F_z2w)),(138,.pure (ad_zf F_zf)),(139,.pure (ad_z2h F_z2h)),(140,.pure (ad_z2x F_z2x)),(141,.pure (ad_z2b F_z2b))]
theorem ok_z13 {α:Type} (F_zi:Sg_zi α) (F_z14:Sg_z14 α) (F_z5:Sg_z5 α) (F_z1n:Sg_z1n α) (F_z2w:Sg_z2w α) (F_zf:Sg_zf α) (F_z2h:Sg_z2h α) (F_z2x:Sg_z2x α) (F_z2b:Sg_z2b α) (x0:GState) (x1:GInsn) (k:Int→Bool→R α):bodyL PT_W19 (PO_z13 F_zi F_z14 F_z5 F_z1n F_z2w F_zf F_z2h F_z2x F_z2b) [] ⟨1,[]⟩ Tryz.f87 [(GState.sv x0),(GInsn.sv x1)] emp (fun v _=>dR_legal_Insn v k)=p_z13 F_zi F_z14 F_z5 F_z1n F_z2w F_zf F_z2h F_z2x F_z2b x0 x1 k:=by kernel_rfl
theorem mk_z13 {α:Type} {I:Imm} {F_zi:Sg_zi α} {F_z14:Sg_z14 α} {F_z5:Sg_z5 α} {F_z1n:Sg_z1n α} {F_z2w:Sg_z2w α} {F_zf:Sg_zf α} {F_z2h:Sg_z2h α} {F_z2x:Sg_z2x α} {F_z2b:Sg_z2b α} (h_zi:OrcOk (α:=α) Tryz.prog I 133 (.pure (ad_zi F_zi))) (h_z14:OrcOk (α:=α) Tryz.prog I 134 (.pure (ad_z14 F_z14))) (h_z5:OrcOk (α:=α) Tryz.prog I 135 (.pure (ad_z5 F_z5))) (h_z1n:OrcOk (α:=α) Tryz.prog I 137 (.pure (ad_z1n F_z1n))) (h_z2w:OrcOk (α:=α) Tryz.prog I 136 (.pure (ad_z2w F_z2w))) (h_zf:OrcOk (α:=α) Tryz.prog I 138 (.pure (ad_zf F_zf))) (h_z2h:OrcOk (α:=α) Tryz.prog I 139 (.pure (ad_z2h F_z2h))) (h_z2x:OrcOk (α:=α) Tryz.prog I 140 (.pure (ad_z2x F_z2x))) (h_z2b:OrcOk (α:=α) Tryz.prog I 141 (.pure (ad_z2b F_z2b))):OrcOk (α:=α) Tryz.prog I 87 (.pure (ad_z13 (p_z13 F_zi F_z14 F_z5 F_z1n F_z2w F_zf F_z2h F_z2x F_z2b))):=by
  refine orc_pureK PT_W19_ok (O:=PO_z13 F_zi F_z14 F_z5 F_z1n F_z2w F_zf F_z2h F_z2x F_z2b) (OOk.cons h_zi (OOk.cons h_z14 (OOk.cons h_z5 (OOk.cons h_z1n (OOk.cons h_z2w (OOk.cons h_zf (OOk.cons h_z2h (OOk.cons h_z2x (OOk.cons h_z2b (OOk.nil)))))))))) (L:=[]) ⟨1,[]⟩ Tryz.func87 (by kernel_rfl) (by kernel_rfl) (by kernel_rfl) FLOk.nil ?_
  intro args k r hk
  unfold ad_z13 at hk
  split at hk<;>try (cases hk; done)
  obtain ⟨x0,rfl,hk0⟩:=GState.dec_spec hk
  obtain ⟨x1,rfl,hk1⟩:=GInsn.dec_spec hk0
  have hkz:=hk1
  refine ⟨by simp [Ids,Idss],fun v=>dR_legal_Insn v (fun r0 r1=>k (.tuple [(.int .u64 r0),(.bool r1)])),?_,fun v hv=>?_⟩
  · rw [ok_z13]; exact hkz
  · obtain ⟨r0,r1,rfl,hv1⟩:=dR_legal_Insn_spec hv; exact ⟨hv1,by simp [Ids,Idss]⟩
noncomputable abbrev PO_z10 {α:Type}:ORC α:=[]
theorem ok_z10 {α:Type}  (x0:GState) (x1:Int) (k:GExec_result→R α):bodyL PT_W19 (PO_z10 ) [] ⟨1,[]⟩ Tryz.f204 [(GState.sv x0),(.int .u64 x1)] emp (fun v _=>dR_exec_done v k)=p_z10  x0 x1 k:=by kernel_rfl
theorem mk_z10 {α:Type} {I:Imm}:OrcOk (α:=α) Tryz.prog I 204 (.pure (ad_z10 (p_z10 ))):=by
  refine orc_pureK PT_W19_ok (O:=PO_z10 ) (OOk.nil) (L:=[]) ⟨1,[]⟩ Tryz.func204 (by kernel_rfl) (by kernel_rfl) (by kernel_rfl) FLOk.nil ?_
  intro args k r hk
  unfold ad_z10 at hk
  split at hk<;>try (cases hk; done)
  obtain ⟨x0,rfl,hk0⟩:=GState.dec_spec hk
  obtain ⟨x1,rfl,hk1⟩:=decI_spec hk0
  have hkz:=hk1
  refine ⟨by simp [Ids,Idss],fun v=>dR_exec_done v (fun r0=>k (GExec_result.sv r0)),?_,fun v hv=>?_⟩
  · rw [ok_z10]; exact hkz
  · obtain ⟨r0,rfl,hv1⟩:=dR_exec_done_spec hv; exact ⟨hv1,by simp [Ids,Idss]⟩
noncomputable abbrev PO_zk {α:Type} (F_z10:Sg_z10 α):ORC α:=[(204,.pure (ad_z10 F_z10))]
theorem ok_zk {α:Type} (F_z10:Sg_z10 α) (x0:GState) (x1:Int) (k:GExec_result→R α):bodyL PT_W19 (PO_zk F_z10) [] ⟨1,[]⟩ Tryz.f145 [(GState.sv x0),(.int .u64 x1)] emp (fun v _=>dR_exec_next v k)=p_zk F_z10 x0 x1 k:=by kernel_rfl
theorem mk_zk {α:Type} {I:Imm} {F_z10:Sg_z10 α} (h_z10:OrcOk (α:=α) Tryz.prog I 204 (.pure (ad_z10 F_z10))):OrcOk (α:=α) Tryz.prog I 145 (.pure (ad_zk (p_zk F_z10))):=by
  refine orc_pureK PT_W19_ok (O:=PO_zk F_z10) (OOk.cons h_z10 (OOk.nil)) (L:=[]) ⟨1,[]⟩ Tryz.func145 (by kernel_rfl) (by kernel_rfl) (by kernel_rfl) FLOk.nil ?_
  intro args k r hk
  unfold ad_zk at hk
  split at hk<;>try (cases hk; done)
  obtain ⟨x0,rfl,hk0⟩:=GState.dec_spec hk
  obtain ⟨x1,rfl,hk1⟩:=decI_spec hk0
  have hkz:=hk1
  refine ⟨by simp [Ids,Idss],fun v=>dR_exec_next v (fun r0=>k (GExec_result.sv r0)),?_,fun v hv=>?_⟩
  · rw [ok_zk]; exact hkz
  · obtain ⟨r0,rfl,hv1⟩:=dR_exec_next_spec hv; exact ⟨hv1,by simp [Ids,Idss]⟩
noncomputable abbrev PO_z1q {α:Type}:ORC α:=[]
theorem ok_z1q {α:Type}  (x0:Int) (x1:Int) (k:Bool→R α):bodyL PT_W19 (PO_z1q ) [] ⟨1,[]⟩ Tryz.f242 [(.int .u64 x0),(.int .u64 x1)] emp (fun v _=>dR_word_High v k)=p_z1q  x0 x1 k:=by kernel_rfl
theorem mk_z1q {α:Type} {I:Imm}:OrcOk (α:=α) Tryz.prog I 242 (.pure (ad_z1q (p_z1q ))):=by
  refine orc_pureK PT_W19_ok (O:=PO_z1q ) (OOk.nil) (L:=[]) ⟨1,[]⟩ Tryz.func242 (by kernel_rfl) (by kernel_rfl) (by kernel_rfl) FLOk.nil ?_
  intro args k r hk
  unfold ad_z1q at hk
  split at hk<;>try (cases hk; done)
  obtain ⟨x0,rfl,hk0⟩:=decI_spec hk
  obtain ⟨x1,rfl,hk1⟩:=decI_spec hk0
  have hkz:=hk1
  refine ⟨by simp [Ids,Idss],fun v=>dR_word_High v (fun r0=>k (.bool r0)),?_,fun v hv=>?_⟩
  · rw [ok_z1q]; exact hkz
  · obtain ⟨r0,rfl,hv1⟩:=dR_word_High_spec hv; exact ⟨hv1,by simp [Ids,Idss]⟩
noncomputable abbrev PO_z1t {α:Type} (F_z1q:Sg_z1q α):ORC α:=[(242,.pure (ad_z1q F_z1q))]
theorem ok_z1t {α:Type} (F_z1q:Sg_z1q α) (x0:Int) (x1:Int) (x2:Int) (k:Bool→R α):bodyL PT_W19 (PO_z1t F_z1q) [] ⟨1,[]⟩ Tryz.f203 [(.int .i64 x0),(.int .u64 x1),(.int .u64 x2)] emp (fun v _=>dR_alu_Taken v k)=p_z1t F_z1q x0 x1 x2 k:=by kernel_rfl
theorem mk_z1t {α:Type} {I:Imm} {F_z1q:Sg_z1q α} (h_z1q:OrcOk (α:=α) Tryz.prog I 242 (.pure (ad_z1q F_z1q))):OrcOk (α:=α) Tryz.prog I 203 (.pure (ad_z1t (p_z1t F_z1q))):=by
  refine orc_pureK PT_W19_ok (O:=PO_z1t F_z1q) (OOk.cons h_z1q (OOk.nil)) (L:=[]) ⟨1,[]⟩ Tryz.func203 (by kernel_rfl) (by kernel_rfl) (by kernel_rfl) FLOk.nil ?_
  intro args k r hk
  unfold ad_z1t at hk
  split at hk<;>try (cases hk; done)
  obtain ⟨x0,rfl,hk0⟩:=decI_spec hk
  obtain ⟨x1,rfl,hk1⟩:=decI_spec hk0
  obtain ⟨x2,rfl,hk2⟩:=decI_spec hk1
  have hkz:=hk2
  refine ⟨by simp [Ids,Idss],fun v=>dR_alu_Taken v (fun r0=>k (.bool r0)),?_,fun v hv=>?_⟩
  · rw [ok_z1t]; exact hkz
  · obtain ⟨r0,rfl,hv1⟩:=dR_alu_Taken_spec hv; exact ⟨hv1,by simp [Ids,Idss]⟩
noncomputable abbrev PO_z2y {α:Type} (F_zi:Sg_zi α) (F_z5:Sg_z5 α) (F_z1t:Sg_z1t α):ORC α:=[(133,.pure (ad_zi F_zi)),(135,.pure (ad_z5 F_z5)),(203,.pure (ad_z1t F_z1t))]
theorem ok_z2y {α:Type} (F_zi:Sg_zi α) (F_z5:Sg_z5 α) (F_z1t:Sg_z1t α) (x0:GState) (x1:GInsn) (k:Int→R α):bodyL PT_W19 (PO_z2y F_zi F_z5 F_z1t) [] ⟨1,[]⟩ Tryz.f202 [(GState.sv x0),(GInsn.sv x1)] emp (fun v _=>dR_exec_Goes v k)=p_z2y F_zi F_z5 F_z1t x0 x1 k:=by kernel_rfl
theorem mk_z2y {α:Type} {I:Imm} {F_zi:Sg_zi α} {F_z5:Sg_z5 α} {F_z1t:Sg_z1t α} (h_zi:OrcOk (α:=α) Tryz.prog I 133 (.pure (ad_zi F_zi))) (h_z5:OrcOk (α:=α) Tryz.prog I 135 (.pure (ad_z5 F_z5))) (h_z1t:OrcOk (α:=α) Tryz.prog I 203 (.pure (ad_z1t F_z1t))):OrcOk (α:=α) Tryz.prog I 202 (.pure (ad_z2y (p_z2y F_zi F_z5 F_z1t))):=by
  refine orc_pureK PT_W19_ok (O:=PO_z2y F_zi F_z5 F_z1t) (OOk.cons h_zi (OOk.cons h_z5 (OOk.cons h_z1t (OOk.nil)))) (L:=[]) ⟨1,[]⟩ Tryz.func202 (by kernel_rfl) (by kernel_rfl) (by kernel_rfl) FLOk.nil ?_
  intro args k r hk
  unfold ad_z2y at hk
  split at hk<;>try (cases hk; done)
  obtain ⟨x0,rfl,hk0⟩:=GState.dec_spec hk
  obtain ⟨x1,rfl,hk1⟩:=GInsn.dec_spec hk0
  have hkz:=hk1
  refine ⟨by simp [Ids,Idss],fun v=>dR_exec_Goes v (fun r0=>k (.int .u64 r0)),?_,fun v hv=>?_⟩
  · rw [ok_z2y]; exact hkz
  · obtain ⟨r0,rfl,hv1⟩:=dR_exec_Goes_spec hv; exact ⟨hv1,by simp [Ids,Idss]⟩
noncomputable abbrev PO_z1c {α:Type}:ORC α:=[]
theorem ok_z1c {α:Type}  (x0:GFault) (k:GExec_result→R α):bodyL PT_W19 (PO_z1c ) [] ⟨1,[]⟩ Tryz.f144 [(GFault.sv x0)] emp (fun v _=>dR_exec_failed v k)=p_z1c  x0 k:=by kernel_rfl
theorem mk_z1c {α:Type} {I:Imm}:OrcOk (α:=α) Tryz.prog I 144 (.pure (ad_z1c (p_z1c ))):=by
  refine orc_pureK PT_W19_ok (O:=PO_z1c ) (OOk.nil) (L:=[]) ⟨1,[]⟩ Tryz.func144 (by kernel_rfl) (by kernel_rfl) (by kernel_rfl) FLOk.nil ?_
  intro args k r hk
  unfold ad_z1c at hk
  split at hk<;>try (cases hk; done)
  obtain ⟨x0,rfl,hk0⟩:=GFault.dec_spec hk
  have hkz:=hk0
  refine ⟨by simp [Ids,Idss],fun v=>dR_exec_failed v (fun r0=>k (GExec_result.sv r0)),?_,fun v hv=>?_⟩
  · rw [ok_z1c]; exact hkz
  · obtain ⟨r0,rfl,hv1⟩:=dR_exec_failed_spec hv; exact ⟨hv1,by simp [Ids,Idss]⟩
noncomputable abbrev PO_z2c {α:Type} (F_zk:Sg_zk α) (F_z2y:Sg_z2y α) (F_z5:Sg_z5 α) (F_z1t:Sg_z1t α) (F_z1c:Sg_z1c α) (F_z10:Sg_z10 α):ORC α:=[(145,.pure (ad_zk F_zk)),(202,.pure (ad_z2y F_z2y)),(135,.pure (ad_z5 F_z5)),(203,.pure (ad_z1t F_z1t)),(144,.pure (ad_z1c F_z1c)),(204,.pure (ad_z10 F_z10))]
theorem ok_z2c {α:Type} (F_zk:Sg_zk α) (F_z2y:Sg_z2y α) (F_z5:Sg_z5 α) (F_z1t:Sg_z1t α) (F_z1c:Sg_z1c α) (F_z10:Sg_z10 α) (x0:GState) (x1:GInsn) (k:GExec_result→R α):bodyL PT_W19 (PO_z2c F_zk F_z2y F_z5 F_z1t F_z1c F_z10) [] ⟨1,[]⟩ Tryz.f142 [(GState.sv x0),(GInsn.sv x1)] emp (fun v _=>dR_exec_jumps v k)=p_z2c F_zk F_z2y F_z5 F_z1t F_z1c F_z10 x0 x1 k:=by kernel_rfl
theorem mk_z2c {α:Type} {I:Imm} {F_zk:Sg_zk α} {F_z2y:Sg_z2y α} {F_z5:Sg_z5 α} {F_z1t:Sg_z1t α} {F_z1c:Sg_z1c α} {F_z10:Sg_z10 α} (h_zk:OrcOk (α:=α) Tryz.prog I 145 (.pure (ad_zk F_zk))) (h_z2y:OrcOk (α:=α) Tryz.prog I 202 (.pure (ad_z2y F_z2y))) (h_z5:OrcOk (α:=α) Tryz.prog I 135 (.pure (ad_z5 F_z5))) (h_z1t:OrcOk (α:=α) Tryz.prog I 203 (.pure (ad_z1t F_z1t))) (h_z1c:OrcOk (α:=α) Tryz.prog I 144 (.pure (ad_z1c F_z1c))) (h_z10:OrcOk (α:=α) Tryz.prog I 204 (.pure (ad_z10 F_z10))):OrcOk (α:=α) Tryz.prog I 142 (.pure (ad_z2c (p_z2c F_zk F_z2y F_z5 F_z1t F_z1c F_z10))):=by
  refine orc_pureK PT_W19_ok (O:=PO_z2c F_zk F_z2y F_z5 F_z1t F_z1c F_z10) (OOk.cons h_zk (OOk.cons h_z2y (OOk.cons h_z5 (OOk.cons h_z1t (OOk.cons h_z1c (OOk.cons h_z10 (OOk.nil))))))) (L:=[]) ⟨1,[]⟩ Tryz.func142 (by kernel_rfl) (by kernel_rfl) (by kernel_rfl) FLOk.nil ?_
  intro args k r hk
  unfold ad_z2c at hk
  split at hk<;>try (cases hk; done)
  obtain ⟨x0,rfl,hk0⟩:=GState.dec_spec hk
  obtain ⟨x1,rfl,hk1⟩:=GInsn.dec_spec hk0
  have hkz:=hk1
  refine ⟨by simp [Ids,Idss],fun v=>dR_exec_jumps v (fun r0=>k (GExec_result.sv r0)),?_,fun v hv=>?_⟩
  · rw [ok_z2c]; exact hkz
  · obtain ⟨r0,rfl,hv1⟩:=dR_exec_jumps_spec hv; exact ⟨hv1,by simp [Ids,Idss]⟩
noncomputable abbrev PO_z1x {α:Type}:ORC α:=[]
theorem ok_z1x {α:Type}  (x0:Int) (k:Int→R α):bodyL PT_W19 (PO_z1x ) [] ⟨1,[]⟩ Tryz.f243 [(.int .u64 x0)] emp (fun v _=>dR_access_sort v k)=p_z1x  x0 k:=by kernel_rfl
theorem mk_z1x {α:Type} {I:Imm}:OrcOk (α:=α) Tryz.prog I 243 (.pure (ad_z1x (p_z1x ))):=by
  refine orc_pureK PT_W19_ok (O:=PO_z1x ) (OOk.nil) (L:=[]) ⟨1,[]⟩ Tryz.func243 (by kernel_rfl) (by kernel_rfl) (by kernel_rfl) FLOk.nil ?_
  intro args k r hk
  unfold ad_z1x at hk
  split at hk<;>try (cases hk; done)
  obtain ⟨x0,rfl,hk0⟩:=decI_spec hk
  have hkz:=hk0
  refine ⟨by simp [Ids,Idss],fun v=>dR_access_sort v (fun r0=>k (.int .i64 r0)),?_,fun v hv=>?_⟩
  · rw [ok_z1x]; exact hkz
  · obtain ⟨r0,rfl,hv1⟩:=dR_access_sort_spec hv; exact ⟨hv1,by simp [Ids,Idss]⟩
noncomputable abbrev PO_z1a {α:Type}:ORC α:=[]
theorem ok_z1a {α:Type}  (x0:Int) (k:Int→R α):bodyL PT_W19 (PO_z1a ) [] ⟨1,[]⟩ Tryz.f206 [(.int .i64 x0)] emp (fun v _=>dR_insn_Size v k)=p_z1a  x0 k:=by kernel_rfl
theorem mk_z1a {α:Type} {I:Imm}:OrcOk (α:=α) Tryz.prog I 206 (.pure (ad_z1a (p_z1a ))):=by
  refine orc_pureK PT_W19_ok (O:=PO_z1a ) (OOk.nil) (L:=[]) ⟨1,[]⟩ Tryz.func206 (by kernel_rfl) (by kernel_rfl) (by kernel_rfl) FLOk.nil ?_
  intro args k r hk
  unfold ad_z1a at hk
  split at hk<;>try (cases hk; done)
  obtain ⟨x0,rfl,hk0⟩:=decI_spec hk
  have hkz:=hk0
  refine ⟨by simp [Ids,Idss],fun v=>dR_insn_Size v (fun r0=>k (.int .i64 r0)),?_,fun v hv=>?_⟩
  · rw [ok_z1a]; exact hkz
  · obtain ⟨r0,rfl,hv1⟩:=dR_insn_Size_spec hv; exact ⟨hv1,by simp [Ids,Idss]⟩
noncomputable abbrev PO_z18 {α:Type} (F_zt:Sg_zt α):ORC α:=[(121,.pure (ad_zt F_zt))]
theorem ok_z18 {α:Type} (F_zt:Sg_zt α) (x0:Int) (x1:Int) (k:Int→R α):bodyL PT_W19 (PO_z18 F_zt) [] ⟨1,[]⟩ Tryz.f211 [(.int .u64 x0),(.int .i64 x1)] emp (fun v _=>dR_word_Zext v k)=p_z18 F_zt x0 x1 k:=by kernel_rfl
theorem mk_z18 {α:Type} {I:Imm} {F_zt:Sg_zt α} (h_zt:OrcOk (α:=α) Tryz.prog I 121 (.pure (ad_zt F_zt))):OrcOk (α:=α) Tryz.prog I 211 (.pure (ad_z18 (p_z18 F_zt))):=by
  refine orc_pureK PT_W19_ok (O:=PO_z18 F_zt) (OOk.cons h_zt (OOk.nil)) (L:=[]) ⟨1,[]⟩ Tryz.func211 (by kernel_rfl) (by kernel_rfl) (by kernel_rfl) FLOk.nil ?_
  intro args k r hk
  unfold ad_z18 at hk
  split at hk<;>try (cases hk; done)
  obtain ⟨x0,rfl,hk0⟩:=decI_spec hk
  obtain ⟨x1,rfl,hk1⟩:=decI_spec hk0
  have hkz:=hk1
  refine ⟨by simp [Ids,Idss],fun v=>dR_word_Zext v (fun r0=>k (.int .u64 r0)),?_,fun v hv=>?_⟩
  · rw [ok_z18]; exact hkz
  · obtain ⟨r0,rfl,hv1⟩:=dR_word_Zext_spec hv; exact ⟨hv1,by simp [Ids,Idss]⟩
noncomputable abbrev PO_z11 {α:Type} (F_z1a:Sg_z1a α) (F_z18:Sg_z18 α) (F_z8:Sg_z8 α):ORC α:=[(206,.pure (ad_z1a F_z1a)),(211,.pure (ad_z18 F_z18)),(212,.pure (ad_z8 F_z8))]
theorem ok_z11 {α:Type} (F_z1a:Sg_z1a α) (F_z18:Sg_z18 α) (F_z8:Sg_z8 α) (x0:Int) (x1:Int) (k:Int→R α):bodyL PT_W19 (PO_z11 F_z1a F_z18 F_z8) [] ⟨1,[]⟩ Tryz.f207 [(.int .i64 x0),(.int .u64 x1)] emp (fun v _=>dR_alu_Extend v k)=p_z11 F_z1a F_z18 F_z8 x0 x1 k:=by kernel_rfl
theorem mk_z11 {α:Type} {I:Imm} {F_z1a:Sg_z1a α} {F_z18:Sg_z18 α} {F_z8:Sg_z8 α} (h_z1a:OrcOk (α:=α) Tryz.prog I 206 (.pure (ad_z1a F_z1a))) (h_z18:OrcOk (α:=α) Tryz.prog I 211 (.pure (ad_z18 F_z18))) (h_z8:OrcOk (α:=α) Tryz.prog I 212 (.pure (ad_z8 F_z8))):OrcOk (α:=α) Tryz.prog I 207 (.pure (ad_z11 (p_z11 F_z1a F_z18 F_z8))):=by
  refine orc_pureK PT_W19_ok (O:=PO_z11 F_z1a F_z18 F_z8) (OOk.cons h_z1a (OOk.cons h_z18 (OOk.cons h_z8 (OOk.nil)))) (L:=[]) ⟨1,[]⟩ Tryz.func207 (by kernel_rfl) (by kernel_rfl) (by kernel_rfl) FLOk.nil ?_
  intro args k r hk
  unfold ad_z11 at hk
  split at hk<;>try (cases hk; done)
  obtain ⟨x0,rfl,hk0⟩:=decI_spec hk
  obtain ⟨x1,rfl,hk1⟩:=decI_spec hk0
  have hkz:=hk1
  refine ⟨by simp [Ids,Idss],fun v=>dR_alu_Extend v (fun r0=>k (.int .u64 r0)),?_,fun v hv=>?_⟩
  · rw [ok_z11]; exact hkz
  · obtain ⟨r0,rfl,hv1⟩:=dR_alu_Extend_spec hv; exact ⟨hv1,by simp [Ids,Idss]⟩
noncomputable abbrev B_z5d {α:Type} (F_zz:Sg_zz α) (F_z19:Sg_z19 α) (F_z1x:Sg_z1x α) (F_zs:Sg_zs α) (F_z11:Sg_z11 α):FF α:=byBody PT_W19 [] ⟨1,[]⟩ Tryz.f21
theorem cB_z5d {α:Type} {I:Imm} {F_zz:Sg_zz α} {F_z19:Sg_z19 α} {F_z1x:Sg_z1x α} {F_zs:Sg_zs α} {F_z11:Sg_z11 α} (h_zz:OrcOk (α:=α) Tryz.prog I 127 (.pure (ad_zz F_zz))) (h_z19:OrcOk (α:=α) Tryz.prog I 128 (.full (ad_z19 F_z19))) (h_z1x:OrcOk (α:=α) Tryz.prog I 243 (.pure (ad_z1x F_z1x))) (h_zs:OrcOk (α:=α) Tryz.prog I 129 (.full (ad_zs F_zs))) (h_z11:OrcOk (α:=α) Tryz.prog I 207 (.pure (ad_z11 F_z11))):OrcOk (α:=α) Tryz.prog I 21 (.full (B_z5d F_zz F_z19 F_z1x F_zs F_z11)):=orc_body PT_W19_ok (OOk.nil) ⟨1,[]⟩ Tryz.func21 (by kernel_rfl) (by kernel_rfl) (by kernel_rfl)
noncomputable abbrev PO_z1i {α:Type} (F_zz:Sg_zz α) (F_z19:Sg_z19 α) (F_z1x:Sg_z1x α) (F_zs:Sg_zs α) (F_z11:Sg_z11 α):ORC α:=[(127,.pure (ad_zz F_zz)),(21,.full (B_z5d F_zz F_z19 F_z1x F_zs F_z11)),(128,.full (ad_z19 F_z19)),(243,.pure (ad_z1x F_z1x)),(129,.full (ad_zs F_zs)),(207,.pure (ad_z11 F_z11))]
theorem ok_z1i {α:Type} (F_zz:Sg_zz α) (F_z19:Sg_z19 α) (F_z1x:Sg_z1x α) (F_zs:Sg_zs α) (F_z11:Sg_z11 α) (x0:GBus) (x1:GState) (x2:Int) (x3:Int) (k:GBus→Int→GFault→Bool→R α):bodyL PT_W19 (PO_z1i F_zz F_z19 F_z1x F_zs F_z11) [] ⟨1,[]⟩ Tryz.f205 (E_z1i.encs (x0,x1,x2,x3,()) (fun i=>i) 0) (hp (E_z1i.objss (x0,x1,x2,x3,()) (fun i=>i) 0)) (dRo M_z1i Q_z1i false (selN (E_z1i.encs (x0,x1,x2,x3,()) (fun i=>i) 0) [0]) (fun y z=>k y.1 z.1 z.2.1 z.2.2.1))=p_z1i F_zz F_z19 F_z1x F_zs F_z11 x0 x1 x2 x3 k:=by kernel_rfl
theorem mk_z1i {α:Type} {I:Imm} {F_zz:Sg_zz α} {F_z19:Sg_z19 α} {F_z1x:Sg_z1x α} {F_zs:Sg_zs α} {F_z11:Sg_z11 α} (h_zz:OrcOk (α:=α) Tryz.prog I 127 (.pure (ad_zz F_zz))) (h_z19:OrcOk (α:=α) Tryz.prog I 128 (.full (ad_z19 F_z19))) (h_z1x:OrcOk (α:=α) Tryz.prog I 243 (.pure (ad_z1x F_z1x))) (h_zs:OrcOk (α:=α) Tryz.prog I 129 (.full (ad_zs F_zs))) (h_z11:OrcOk (α:=α) Tryz.prog I 207 (.pure (ad_z11 F_z11))) {F:Sg_z1i α} (hF:∀x0 x1 x2 x3 k r,F x0 x1 x2 x3 k=some r→p_z1i F_zz F_z19 F_z1x F_zs F_z11 x0 x1 x2 x3 k=some r):OrcOk (α:=α) Tryz.prog I 205 (.full (ad_z1i F)):=
  orc_obj PT_W19_ok (O:=PO_z1i F_zz F_z19 F_z1x F_zs F_z11) (OOk.cons h_zz (OOk.cons (cB_z5d h_zz h_z19 h_z1x h_zs h_z11) (OOk.cons h_z19 (OOk.cons h_z1x (OOk.cons h_zs (OOk.cons h_z11 (OOk.nil))))))) (L:=[]) ⟨1,[]⟩ Tryz.func205 (by kernel_rfl) (by kernel_rfl) (by kernel_rfl) FLOk.nil E_z3x M_z3x Q_z3x rfl (oi:=[0]) fun ⟨x0,x1,x2,x3,()⟩ k r h=>(ok_z1i F_zz F_z19 F_z1x F_zs F_z11 x0 x1 x2 x3 (fun y0 z0 z1 z2=>k (y0,()) (z0,z1,z2,()))).trans (hF x0 x1 x2 x3 _ r h)
noncomputable abbrev PO_z1u {α:Type} (F_z5:Sg_z5 α) (F_zi:Sg_zi α) (F_z4:Sg_z4 α) (F_z1i:Sg_z1i α) (F_z1a:Sg_z1a α) (F_zu:Sg_zu α) (F_z11:Sg_z11 α):ORC α:=[(135,.pure (ad_z5 F_z5)),(133,.pure (ad_zi F_zi)),(80,.pure (ad_z4 F_z4)),(205,.full (ad_z1i F_z1i)),(206,.pure (ad_z1a F_z1a)),(84,.full (ad_zu F_zu)),(207,.pure (ad_z11 F_z11))]
theorem ok_z1u {α:Type} (F_z5:Sg_z5 α) (F_zi:Sg_zi α) (F_z4:Sg_z4 α) (F_z1i:Sg_z1i α) (F_z1a:Sg_z1a α) (F_zu:Sg_zu α) (F_z11:Sg_z11 α) (x0:GBus) (x1:GState) (x2:GInsn) (k:GBus→Int→GFault→Bool→R α):bodyL PT_W19 (PO_z1u F_z5 F_zi F_z4 F_z1i F_z1a F_zu F_z11) [] ⟨1,[]⟩ Tryz.f143 (E_z1u.encs (x0,x1,x2,()) (fun i=>i) 0) (hp (E_z1u.objss (x0,x1,x2,()) (fun i=>i) 0)) (dRo M_z1u Q_z1u false (selN (E_z1u.encs (x0,x1,x2,()) (fun i=>i) 0) [0]) (fun y z=>k y.1 z.1 z.2.1 z.2.2.1))=p_z1u F_z5 F_zi F_z4 F_z1i F_z1a F_zu F_z11 x0 x1 x2 k:=by kernel_rfl
theorem mk_z1u {α:Type} {I:Imm} {F_z5:Sg_z5 α} {F_zi:Sg_zi α} {F_z4:Sg_z4 α} {F_z1i:Sg_z1i α} {F_z1a:Sg_z1a α} {F_zu:Sg_zu α} {F_z11:Sg_z11 α} (h_z5:OrcOk (α:=α) Tryz.prog I 135 (.pure (ad_z5 F_z5))) (h_zi:OrcOk (α:=α) Tryz.prog I 133 (.pure (ad_zi F_zi))) (h_z4:OrcOk (α:=α) Tryz.prog I 80 (.pure (ad_z4 F_z4))) (h_z1i:OrcOk (α:=α) Tryz.prog I 205 (.full (ad_z1i F_z1i))) (h_z1a:OrcOk (α:=α) Tryz.prog I 206 (.pure (ad_z1a F_z1a))) (h_zu:OrcOk (α:=α) Tryz.prog I 84 (.full (ad_zu F_zu))) (h_z11:OrcOk (α:=α) Tryz.prog I 207 (.pure (ad_z11 F_z11))) {F:Sg_z1u α} (hF:∀x0 x1 x2 k r,F x0 x1 x2 k=some r→p_z1u F_z5 F_zi F_z4 F_z1i F_z1a F_zu F_z11 x0 x1 x2 k=some r):OrcOk (α:=α) Tryz.prog I 143 (.full (ad_z1u F)):=
  orc_obj PT_W19_ok (O:=PO_z1u F_z5 F_zi F_z4 F_z1i F_z1a F_zu F_z11) (OOk.cons h_z5 (OOk.cons h_zi (OOk.cons h_z4 (OOk.cons h_z1i (OOk.cons h_z1a (OOk.cons h_zu (OOk.cons h_z11 (OOk.nil)))))))) (L:=[]) ⟨1,[]⟩ Tryz.func143 (by kernel_rfl) (by kernel_rfl) (by kernel_rfl) FLOk.nil E_z3y M_z3y Q_z3y rfl (oi:=[0]) fun ⟨x0,x1,x2,()⟩ k r h=>(ok_z1u F_z5 F_zi F_z4 F_z1i F_z1a F_zu F_z11 x0 x1 x2 (fun y0 z0 z1 z2=>k (y0,()) (z0,z1,z2,()))).trans (hF x0 x1 x2 _ r h)
noncomputable abbrev PO_z27 {α:Type}:ORC α:=[]
theorem ok_z27 {α:Type}  (x0:Int) (k:Bool→R α):bodyL PT_W19 (PO_z27 ) [] ⟨1,[]⟩ Tryz.f208 [(.int .i64 x0)] emp (fun v _=>dR_alu_narrow v k)=p_z27  x0 k:=by kernel_rfl
theorem mk_z27 {α:Type} {I:Imm}:OrcOk (α:=α) Tryz.prog I 208 (.pure (ad_z27 (p_z27 ))):=by
  refine orc_pureK PT_W19_ok (O:=PO_z27 ) (OOk.nil) (L:=[]) ⟨1,[]⟩ Tryz.func208 (by kernel_rfl) (by kernel_rfl) (by kernel_rfl) FLOk.nil ?_
  intro args k r hk
  unfold ad_z27 at hk
  split at hk<;>try (cases hk; done)
  obtain ⟨x0,rfl,hk0⟩:=decI_spec hk
  have hkz:=hk0
  refine ⟨by simp [Ids,Idss],fun v=>dR_alu_narrow v (fun r0=>k (.bool r0)),?_,fun v hv=>?_⟩
  · rw [ok_z27]; exact hkz
  · obtain ⟨r0,rfl,hv1⟩:=dR_alu_narrow_spec hv; exact ⟨hv1,by simp [Ids,Idss]⟩
noncomputable abbrev PO_z22 {α:Type} (F_z5:Sg_z5 α):ORC α:=[(135,.pure (ad_z5 F_z5))]
theorem ok_z22 {α:Type} (F_z5:Sg_z5 α) (x0:Int) (k:Int→R α):bodyL PT_W19 (PO_z22 F_z5) [] ⟨1,[]⟩ Tryz.f210 [(.int .i64 x0)] emp (fun v _=>dR_alu_plain v k)=p_z22 F_z5 x0 k:=by kernel_rfl
theorem mk_z22 {α:Type} {I:Imm} {F_z5:Sg_z5 α} (h_z5:OrcOk (α:=α) Tryz.prog I 135 (.pure (ad_z5 F_z5))):OrcOk (α:=α) Tryz.prog I 210 (.pure (ad_z22 (p_z22 F_z5))):=by
  refine orc_pureK PT_W19_ok (O:=PO_z22 F_z5) (OOk.cons h_z5 (OOk.nil)) (L:=[]) ⟨1,[]⟩ Tryz.func210 (by kernel_rfl) (by kernel_rfl) (by kernel_rfl) FLOk.nil ?_
  intro args k r hk
  unfold ad_z22 at hk
  split at hk<;>try (cases hk; done)
  obtain ⟨x0,rfl,hk0⟩:=decI_spec hk
  have hkz:=hk0
  refine ⟨by simp [Ids,Idss],fun v=>dR_alu_plain v (fun r0=>k (.int .i64 r0)),?_,fun v hv=>?_⟩
  · rw [ok_z22]; exact hkz
  · obtain ⟨r0,rfl,hv1⟩:=dR_alu_plain_spec hv; exact ⟨hv1,by simp [Ids,Idss]⟩
noncomputable abbrev PO_z2i {α:Type}:ORC α:=[]
theorem ok_z2i {α:Type}  (x0:Bool) (k:Int→R α):bodyL PT_W19 (PO_z2i ) [] ⟨1,[]⟩ Tryz.f244 [(.bool x0)] emp (fun v _=>dR_alu_one v k)=p_z2i  x0 k:=by kernel_rfl
theorem mk_z2i {α:Type} {I:Imm}:OrcOk (α:=α) Tryz.prog I 244 (.pure (ad_z2i (p_z2i ))):=by
  refine orc_pureK PT_W19_ok (O:=PO_z2i ) (OOk.nil) (L:=[]) ⟨1,[]⟩ Tryz.func244 (by kernel_rfl) (by kernel_rfl) (by kernel_rfl) FLOk.nil ?_
  intro args k r hk
  unfold ad_z2i at hk
  split at hk<;>try (cases hk; done)
  obtain ⟨x0,rfl,hk0⟩:=decB_spec hk
  have hkz:=hk0
  refine ⟨by simp [Ids,Idss],fun v=>dR_alu_one v (fun r0=>k (.int .u64 r0)),?_,fun v hv=>?_⟩
  · rw [ok_z2i]; exact hkz
  · obtain ⟨r0,rfl,hv1⟩:=dR_alu_one_spec hv; exact ⟨hv1,by simp [Ids,Idss]⟩
noncomputable abbrev PO_z23 {α:Type} (F_z1q:Sg_z1q α) (F_z2i:Sg_z2i α):ORC α:=[(242,.pure (ad_z1q F_z1q)),(244,.pure (ad_z2i F_z2i))]
theorem ok_z23 {α:Type} (F_z1q:Sg_z1q α) (F_z2i:Sg_z2i α) (x0:Int) (x1:Int) (x2:Int) (x3:Int) (k:Int→R α):bodyL PT_W19 (PO_z23 F_z1q F_z2i) [] ⟨1,[]⟩ Tryz.f209 [(.int .i64 x0),(.int .u64 x1),(.int .u64 x2),(.int .i64 x3)] emp (fun v _=>dR_alu_does v k)=p_z23 F_z1q F_z2i x0 x1 x2 x3 k:=by kernel_rfl
theorem mk_z23 {α:Type} {I:Imm} {F_z1q:Sg_z1q α} {F_z2i:Sg_z2i α} (h_z1q:OrcOk (α:=α) Tryz.prog I 242 (.pure (ad_z1q F_z1q))) (h_z2i:OrcOk (α:=α) Tryz.prog I 244 (.pure (ad_z2i F_z2i))):OrcOk (α:=α) Tryz.prog I 209 (.pure (ad_z23 (p_z23 F_z1q F_z2i))):=by
  refine orc_pureK PT_W19_ok (O:=PO_z23 F_z1q F_z2i) (OOk.cons h_z1q (OOk.cons h_z2i (OOk.nil))) (L:=[]) ⟨1,[]⟩ Tryz.func209 (by kernel_rfl) (by kernel_rfl) (by kernel_rfl) FLOk.nil ?_
  intro args k r hk
  unfold ad_z23 at hk
  split at hk<;>try (cases hk; done)
  obtain ⟨x0,rfl,hk0⟩:=decI_spec hk
  obtain ⟨x1,rfl,hk1⟩:=decI_spec hk0
  obtain ⟨x2,rfl,hk2⟩:=decI_spec hk1
  obtain ⟨x3,rfl,hk3⟩:=decI_spec hk2
  have hkz:=hk3
  refine ⟨by simp [Ids,Idss],fun v=>dR_alu_does v (fun r0=>k (.int .u64 r0)),?_,fun v hv=>?_⟩
  · rw [ok_z23]; exact hkz
  · obtain ⟨r0,rfl,hv1⟩:=dR_alu_does_spec hv; exact ⟨hv1,by simp [Ids,Idss]⟩
noncomputable abbrev PO_z2d {α:Type} (F_z5:Sg_z5 α) (F_z27:Sg_z27 α) (F_z22:Sg_z22 α) (F_z23:Sg_z23 α) (F_z18:Sg_z18 α) (F_z8:Sg_z8 α):ORC α:=[(135,.pure (ad_z5 F_z5)),(208,.pure (ad_z27 F_z27)),(210,.pure (ad_z22 F_z22)),(209,.pure (ad_z23 F_z23)),(211,.pure (ad_z18 F_z18)),(212,.pure (ad_z8 F_z8))]
theorem ok_z2d {α:Type} (F_z5:Sg_z5 α) (F_z27:Sg_z27 α) (F_z22:Sg_z22 α) (F_z23:Sg_z23 α) (F_z18:Sg_z18 α) (F_z8:Sg_z8 α) (x0:Int) (x1:Int) (x2:Int) (k:Int→R α):bodyL PT_W19 (PO_z2d F_z5 F_z27 F_z22 F_z23 F_z18 F_z8) [] ⟨1,[]⟩ Tryz.f146 [(.int .i64 x0),(.int .u64 x1),(.int .u64 x2)] emp (fun v _=>dR_alu_Do v k)=p_z2d F_z5 F_z27 F_z22 F_z23 F_z18 F_z8 x0 x1 x2 k:=by kernel_rfl
theorem mk_z2d {α:Type} {I:Imm} {F_z5:Sg_z5 α} {F_z27:Sg_z27 α} {F_z22:Sg_z22 α} {F_z23:Sg_z23 α} {F_z18:Sg_z18 α} {F_z8:Sg_z8 α} (h_z5:OrcOk (α:=α) Tryz.prog I 135 (.pure (ad_z5 F_z5))) (h_z27:OrcOk (α:=α) Tryz.prog I 208 (.pure (ad_z27 F_z27))) (h_z22:OrcOk (α:=α) Tryz.prog I 210 (.pure (ad_z22 F_z22))) (h_z23:OrcOk (α:=α) Tryz.prog I 209 (.pure (ad_z23 F_z23))) (h_z18:OrcOk (α:=α) Tryz.prog I 211 (.pure (ad_z18 F_z18))) (h_z8:OrcOk (α:=α) Tryz.prog I 212 (.pure (ad_z8 F_z8))):OrcOk (α:=α) Tryz.prog I 146 (.pure (ad_z2d (p_z2d F_z5 F_z27 F_z22 F_z23 F_z18 F_z8))):=by
  refine orc_pureK PT_W19_ok (O:=PO_z2d F_z5 F_z27 F_z22 F_z23 F_z18 F_z8) (OOk.cons h_z5 (OOk.cons h_z27 (OOk.cons h_z22 (OOk.cons h_z23 (OOk.cons h_z18 (OOk.cons h_z8 (OOk.nil))))))) (L:=[]) ⟨1,[]⟩ Tryz.func146 (by kernel_rfl) (by kernel_rfl) (by kernel_rfl) FLOk.nil ?_
  intro args k r hk
  unfold ad_z2d at hk
  split at hk<;>try (cases hk; done)
  obtain ⟨x0,rfl,hk0⟩:=decI_spec hk
  obtain ⟨x1,rfl,hk1⟩:=decI_spec hk0
  obtain ⟨x2,rfl,hk2⟩:=decI_spec hk1
  have hkz:=hk2
  refine ⟨by simp [Ids,Idss],fun v=>dR_alu_Do v (fun r0=>k (.int .u64 r0)),?_,fun v hv=>?_⟩
  · rw [ok_z2d]; exact hkz
  · obtain ⟨r0,rfl,hv1⟩:=dR_alu_Do_spec hv; exact ⟨hv1,by simp [Ids,Idss]⟩
noncomputable abbrev PO_z2j {α:Type} (F_z14:Sg_z14 α):ORC α:=[(134,.pure (ad_z14 F_z14))]
theorem ok_z2j {α:Type} (F_z14:Sg_z14 α) (x0:GState) (x1:GInsn) (k:GFault→R α):bodyL PT_W19 (PO_z2j F_z14) [] ⟨1,[]⟩ Tryz.f147 [(GState.sv x0),(GInsn.sv x1)] emp (fun v _=>dR_exec_calls v k)=p_z2j F_z14 x0 x1 k:=by kernel_rfl
theorem mk_z2j {α:Type} {I:Imm} {F_z14:Sg_z14 α} (h_z14:OrcOk (α:=α) Tryz.prog I 134 (.pure (ad_z14 F_z14))):OrcOk (α:=α) Tryz.prog I 147 (.pure (ad_z2j (p_z2j F_z14))):=by
  refine orc_pureK PT_W19_ok (O:=PO_z2j F_z14) (OOk.cons h_z14 (OOk.nil)) (L:=[]) ⟨1,[]⟩ Tryz.func147 (by kernel_rfl) (by kernel_rfl) (by kernel_rfl) FLOk.nil ?_
  intro args k r hk
  unfold ad_z2j at hk
  split at hk<;>try (cases hk; done)
  obtain ⟨x0,rfl,hk0⟩:=GState.dec_spec hk
  obtain ⟨x1,rfl,hk1⟩:=GInsn.dec_spec hk0
  have hkz:=hk1
  refine ⟨by simp [Ids,Idss],fun v=>dR_exec_calls v (fun r0=>k (GFault.sv r0)),?_,fun v hv=>?_⟩
  · rw [ok_z2j]; exact hkz
  · obtain ⟨r0,rfl,hv1⟩:=dR_exec_calls_spec hv; exact ⟨hv1,by simp [Ids,Idss]⟩
noncomputable abbrev PO_z2z {α:Type}:ORC α:=[]
theorem ok_z2z {α:Type}  (x0:Int) (k:Int→R α):bodyL PT_W19 (PO_z2z ) [] ⟨1,[]⟩ Tryz.f213 [(.int .i64 x0)] emp (fun v _=>dR_csr_Redirect v k)=p_z2z  x0 k:=by kernel_rfl
theorem mk_z2z {α:Type} {I:Imm}:OrcOk (α:=α) Tryz.prog I 213 (.pure (ad_z2z (p_z2z ))):=by
  refine orc_pureK PT_W19_ok (O:=PO_z2z ) (OOk.nil) (L:=[]) ⟨1,[]⟩ Tryz.func213 (by kernel_rfl) (by kernel_rfl) (by kernel_rfl) FLOk.nil ?_
  intro args k r hk
  unfold ad_z2z at hk
  split at hk<;>try (cases hk; done)
  obtain ⟨x0,rfl,hk0⟩:=decI_spec hk
  have hkz:=hk0
  refine ⟨by simp [Ids,Idss],fun v=>dR_csr_Redirect v (fun r0=>k (.int .i64 r0)),?_,fun v hv=>?_⟩
  · rw [ok_z2z]; exact hkz
  · obtain ⟨r0,rfl,hv1⟩:=dR_csr_Redirect_spec hv; exact ⟨hv1,by simp [Ids,Idss]⟩
noncomputable abbrev B_z5e {α:Type} (F_z3:Sg_z3 α) (F_zr:Sg_zr α):FF α:=byBody PT_W19 [] ⟨3,[]⟩ Tryz.f176
theorem cB_z5e {α:Type} {I:Imm} {F_z3:Sg_z3 α} {F_zr:Sg_zr α} (h_z3:OrcOk (α:=α) Tryz.prog I 177 (.pure (ad_z3 F_z3))) (h_zr:OrcOk (α:=α) Tryz.prog I 241 (.pure (ad_zr F_zr))):OrcOk (α:=α) Tryz.prog I 176 (.full (B_z5e F_z3 F_zr)):=orc_body PT_W19_ok (OOk.nil) ⟨3,[]⟩ Tryz.func176 (by kernel_rfl) (by kernel_rfl) (by kernel_rfl)
noncomputable abbrev PO_z2k {α:Type} (F_z3:Sg_z3 α) (F_zr:Sg_zr α):ORC α:=[(177,.pure (ad_z3 F_z3)),(176,.full (B_z5e F_z3 F_zr)),(241,.pure (ad_zr F_zr))]
theorem ok_z2k {α:Type} (F_z3:Sg_z3 α) (F_zr:Sg_zr α) (x0:GState) (x1:Int) (k:Int→Bool→R α):bodyL PT_W19 (PO_z2k F_z3 F_zr) [] ⟨3,[]⟩ Tryz.f214 [(GState.sv x0),(.int .i64 x1)] emp (fun v _=>dR_csr_Read v k)=p_z2k F_z3 F_zr x0 x1 k:=by kernel_rfl
theorem mk_z2k {α:Type} {I:Imm} {F_z3:Sg_z3 α} {F_zr:Sg_zr α} (h_z3:OrcOk (α:=α) Tryz.prog I 177 (.pure (ad_z3 F_z3))) (h_zr:OrcOk (α:=α) Tryz.prog I 241 (.pure (ad_zr F_zr))):OrcOk (α:=α) Tryz.prog I 214 (.pure (ad_z2k (p_z2k F_z3 F_zr))):=by
  refine orc_pureK PT_W19_ok (O:=PO_z2k F_z3 F_zr) (OOk.cons h_z3 (OOk.cons (cB_z5e h_z3 h_zr) (OOk.cons h_zr (OOk.nil)))) (L:=[]) ⟨3,[]⟩ Tryz.func214 (by kernel_rfl) (by kernel_rfl) (by kernel_rfl) FLOk.nil ?_
  intro args k r hk
  unfold ad_z2k at hk
  split at hk<;>try (cases hk; done)
  obtain ⟨x0,rfl,hk0⟩:=GState.dec_spec hk
  obtain ⟨x1,rfl,hk1⟩:=decI_spec hk0
  have hkz:=hk1
  refine ⟨by simp [Ids,Idss],fun v=>dR_csr_Read v (fun r0 r1=>k (.tuple [(.int .u64 r0),(.bool r1)])),?_,fun v hv=>?_⟩
  · rw [ok_z2k]; exact hkz
  · obtain ⟨r0,r1,rfl,hv1⟩:=dR_csr_Read_spec hv; exact ⟨hv1,by simp [Ids,Idss]⟩
noncomputable abbrev PO_z28 {α:Type}:ORC α:=[]
theorem ok_z28 {α:Type}  (x0:Int) (x1:Int) (x2:Int) (k:Int→R α):bodyL PT_W19 (PO_z28 ) [] ⟨1,[]⟩ Tryz.f216 [(.int .i64 x0),(.int .u64 x1),(.int .u64 x2)] emp (fun v _=>dR_alu_Csr v k)=p_z28  x0 x1 x2 k:=by kernel_rfl
theorem mk_z28 {α:Type} {I:Imm}:OrcOk (α:=α) Tryz.prog I 216 (.pure (ad_z28 (p_z28 ))):=by
  refine orc_pureK PT_W19_ok (O:=PO_z28 ) (OOk.nil) (L:=[]) ⟨1,[]⟩ Tryz.func216 (by kernel_rfl) (by kernel_rfl) (by kernel_rfl) FLOk.nil ?_
  intro args k r hk
  unfold ad_z28 at hk
  split at hk<;>try (cases hk; done)
  obtain ⟨x0,rfl,hk0⟩:=decI_spec hk
  obtain ⟨x1,rfl,hk1⟩:=decI_spec hk0
  obtain ⟨x2,rfl,hk2⟩:=decI_spec hk1
  have hkz:=hk2
  refine ⟨by simp [Ids,Idss],fun v=>dR_alu_Csr v (fun r0=>k (.int .u64 r0)),?_,fun v hv=>?_⟩
  · rw [ok_z28]; exact hkz
  · obtain ⟨r0,rfl,hv1⟩:=dR_alu_Csr_spec hv; exact ⟨hv1,by simp [Ids,Idss]⟩
noncomputable abbrev PO_zg {α:Type} (F_z2:Sg_z2 α) (F_zn:Sg_zn α):ORC α:=[(79,.pure (ad_z2 F_z2)),(113,.pure (ad_zn F_zn))]
theorem ok_zg {α:Type} (F_z2:Sg_z2 α) (F_zn:Sg_zn α) (x0:GState) (x1:Int) (x2:Int) (x3:Int) (k:GState→R α):bodyL PT_W19 (PO_zg F_z2 F_zn) [] ⟨1,[]⟩ Tryz.f66 [(GState.sv x0),(.int .i64 x1),(.int .u64 x2),(.int .u64 x3)] emp (fun v _=>dR_csr_With v k)=p_zg F_z2 F_zn x0 x1 x2 x3 k:=by kernel_rfl
theorem mk_zg {α:Type} {I:Imm} {F_z2:Sg_z2 α} {F_zn:Sg_zn α} (h_z2:OrcOk (α:=α) Tryz.prog I 79 (.pure (ad_z2 F_z2))) (h_zn:OrcOk (α:=α) Tryz.prog I 113 (.pure (ad_zn F_zn))):OrcOk (α:=α) Tryz.prog I 66 (.pure (ad_zg (p_zg F_z2 F_zn))):=by
  refine orc_pureK PT_W19_ok (O:=PO_zg F_z2 F_zn) (OOk.cons h_z2 (OOk.cons h_zn (OOk.nil))) (L:=[]) ⟨1,[]⟩ Tryz.func66 (by kernel_rfl) (by kernel_rfl) (by kernel_rfl) FLOk.nil ?_
  intro args k r hk
  unfold ad_zg at hk
  split at hk<;>try (cases hk; done)
  obtain ⟨x0,rfl,hk0⟩:=GState.dec_spec hk
  obtain ⟨x1,rfl,hk1⟩:=decI_spec hk0
  obtain ⟨x2,rfl,hk2⟩:=decI_spec hk1
  obtain ⟨x3,rfl,hk3⟩:=decI_spec hk2
  have hkz:=hk3
  refine ⟨by simp [Ids,Idss],fun v=>dR_csr_With v (fun r0=>k (GState.sv r0)),?_,fun v hv=>?_⟩
  · rw [ok_zg]; exact hkz
  · obtain ⟨r0,rfl,hv1⟩:=dR_csr_With_spec hv; exact ⟨hv1,by simp [Ids,Idss]⟩
noncomputable abbrev B_z5f {α:Type} (F_z3:Sg_z3 α):FF α:=byBody PT_W19 [] ⟨15,[]⟩ Tryz.f176
theorem cB_z5f {α:Type} {I:Imm} {F_z3:Sg_z3 α} (h_z3:OrcOk (α:=α) Tryz.prog I 177 (.pure (ad_z3 F_z3))):OrcOk (α:=α) Tryz.prog I 176 (.full (B_z5f F_z3)):=orc_body PT_W19_ok (OOk.nil) ⟨15,[]⟩ Tryz.func176 (by kernel_rfl) (by kernel_rfl) (by kernel_rfl)
noncomputable abbrev B_z5g {α:Type} (F_z3:Sg_z3 α):FF α:=byBody PT_W19 [(176,.full (B_z5f F_z3)),(177,.pure (ad_z3 F_z3))] ⟨15,[]⟩ Tryz.f114
theorem cB_z5g {α:Type} {I:Imm} {F_z3:Sg_z3 α} (h_z3:OrcOk (α:=α) Tryz.prog I 177 (.pure (ad_z3 F_z3))):OrcOk (α:=α) Tryz.prog I 114 (.full (B_z5g F_z3)):=orc_body PT_W19_ok (OOk.cons (cB_z5f h_z3) (OOk.cons h_z3 (OOk.nil))) ⟨15,[]⟩ Tryz.func114 (by kernel_rfl) (by kernel_rfl) (by kernel_rfl)
noncomputable abbrev PO_z9 {α:Type} (F_z3:Sg_z3 α):ORC α:=[(114,.full (B_z5g F_z3))]
theorem ok_z46 {α:Type} (F_z3:Sg_z3 α)   (k:Int→R α):bodyL PT_W19 (PO_z9 F_z3) [] ⟨15,[]⟩ Tryz.f67 [(.int .i64 0)] emp (fun v _=>dR_csr_Mask v k)=p_z46 F_z3  k:=by kernel_rfl
theorem ok_z47 {α:Type} (F_z3:Sg_z3 α)   (k:Int→R α):bodyL PT_W19 (PO_z9 F_z3) [] ⟨15,[]⟩ Tryz.f67 [(.int .i64 1)] emp (fun v _=>dR_csr_Mask v k)=p_z47 F_z3  k:=by kernel_rfl
theorem ok_z48 {α:Type} (F_z3:Sg_z3 α)   (k:Int→R α):bodyL PT_W19 (PO_z9 F_z3) [] ⟨15,[]⟩ Tryz.f67 [(.int .i64 2)] emp (fun v _=>dR_csr_Mask v k)=p_z48 F_z3  k:=by kernel_rfl
theorem ok_z49 {α:Type} (F_z3:Sg_z3 α)   (k:Int→R α):bodyL PT_W19 (PO_z9 F_z3) [] ⟨15,[]⟩ Tryz.f67 [(.int .i64 3)] emp (fun v _=>dR_csr_Mask v k)=p_z49 F_z3  k:=by kernel_rfl
theorem ok_z4a {α:Type} (F_z3:Sg_z3 α)   (k:Int→R α):bodyL PT_W19 (PO_z9 F_z3) [] ⟨15,[]⟩ Tryz.f67 [(.int .i64 4)] emp (fun v _=>dR_csr_Mask v k)=p_z4a F_z3  k:=by kernel_rfl
theorem ok_z4b {α:Type} (F_z3:Sg_z3 α)   (k:Int→R α):bodyL PT_W19 (PO_z9 F_z3) [] ⟨15,[]⟩ Tryz.f67 [(.int .i64 5)] emp (fun v _=>dR_csr_Mask v k)=p_z4b F_z3  k:=by kernel_rfl
theorem ok_z4c {α:Type} (F_z3:Sg_z3 α)   (k:Int→R α):bodyL PT_W19 (PO_z9 F_z3) [] ⟨15,[]⟩ Tryz.f67 [(.int .i64 6)] emp (fun v _=>dR_csr_Mask v k)=p_z4c F_z3  k:=by kernel_rfl
theorem ok_z4d {α:Type} (F_z3:Sg_z3 α)   (k:Int→R α):bodyL PT_W19 (PO_z9 F_z3) [] ⟨15,[]⟩ Tryz.f67 [(.int .i64 7)] emp (fun v _=>dR_csr_Mask v k)=p_z4d F_z3  k:=by kernel_rfl
theorem ok_z4e {α:Type} (F_z3:Sg_z3 α)   (k:Int→R α):bodyL PT_W19 (PO_z9 F_z3) [] ⟨15,[]⟩ Tryz.f67 [(.int .i64 8)] emp (fun v _=>dR_csr_Mask v k)=p_z4e F_z3  k:=by kernel_rfl
theorem ok_z4f {α:Type} (F_z3:Sg_z3 α)   (k:Int→R α):bodyL PT_W19 (PO_z9 F_z3) [] ⟨15,[]⟩ Tryz.f67 [(.int .i64 9)] emp (fun v _=>dR_csr_Mask v k)=p_z4f F_z3  k:=by kernel_rfl
theorem ok_z4g {α:Type} (F_z3:Sg_z3 α)   (k:Int→R α):bodyL PT_W19 (PO_z9 F_z3) [] ⟨15,[]⟩ Tryz.f67 [(.int .i64 10)] emp (fun v _=>dR_csr_Mask v k)=p_z4g F_z3  k:=by kernel_rfl
theorem ok_z4h {α:Type} (F_z3:Sg_z3 α)   (k:Int→R α):bodyL PT_W19 (PO_z9 F_z3) [] ⟨15,[]⟩ Tryz.f67 [(.int .i64 11)] emp (fun v _=>dR_csr_Mask v k)=p_z4h F_z3  k:=by kernel_rfl
theorem ok_z4i {α:Type} (F_z3:Sg_z3 α)   (k:Int→R α):bodyL PT_W19 (PO_z9 F_z3) [] ⟨15,[]⟩ Tryz.f67 [(.int .i64 12)] emp (fun v _=>dR_csr_Mask v k)=p_z4i F_z3  k:=by kernel_rfl
theorem ok_z4j {α:Type} (F_z3:Sg_z3 α)   (k:Int→R α):bodyL PT_W19 (PO_z9 F_z3) [] ⟨15,[]⟩ Tryz.f67 [(.int .i64 13)] emp (fun v _=>dR_csr_Mask v k)=p_z4j F_z3  k:=by kernel_rfl
theorem ok_z4k {α:Type} (F_z3:Sg_z3 α)   (k:Int→R α):bodyL PT_W19 (PO_z9 F_z3) [] ⟨15,[]⟩ Tryz.f67 [(.int .i64 14)] emp (fun v _=>dR_csr_Mask v k)=p_z4k F_z3  k:=by kernel_rfl
theorem ok_z4l {α:Type} (F_z3:Sg_z3 α)   (k:Int→R α):bodyL PT_W19 (PO_z9 F_z3) [] ⟨15,[]⟩ Tryz.f67 [(.int .i64 15)] emp (fun v _=>dR_csr_Mask v k)=p_z4l F_z3  k:=by kernel_rfl
theorem ok_z4m {α:Type} (F_z3:Sg_z3 α)   (k:Int→R α):bodyL PT_W19 (PO_z9 F_z3) [] ⟨15,[]⟩ Tryz.f67 [(.int .i64 16)] emp (fun v _=>dR_csr_Mask v k)=p_z4m F_z3  k:=by kernel_rfl
theorem ok_z4n {α:Type} (F_z3:Sg_z3 α)   (k:Int→R α):bodyL PT_W19 (PO_z9 F_z3) [] ⟨15,[]⟩ Tryz.f67 [(.int .i64 17)] emp (fun v _=>dR_csr_Mask v k)=p_z4n F_z3  k:=by kernel_rfl
theorem ok_z4o {α:Type} (F_z3:Sg_z3 α)   (k:Int→R α):bodyL PT_W19 (PO_z9 F_z3) [] ⟨15,[]⟩ Tryz.f67 [(.int .i64 18)] emp (fun v _=>dR_csr_Mask v k)=p_z4o F_z3  k:=by kernel_rfl
theorem ok_z4p {α:Type} (F_z3:Sg_z3 α)   (k:Int→R α):bodyL PT_W19 (PO_z9 F_z3) [] ⟨15,[]⟩ Tryz.f67 [(.int .i64 19)] emp (fun v _=>dR_csr_Mask v k)=p_z4p F_z3  k:=by kernel_rfl
theorem ok_z4q {α:Type} (F_z3:Sg_z3 α)   (k:Int→R α):bodyL PT_W19 (PO_z9 F_z3) [] ⟨15,[]⟩ Tryz.f67 [(.int .i64 20)] emp (fun v _=>dR_csr_Mask v k)=p_z4q F_z3  k:=by kernel_rfl
theorem ok_z4r {α:Type} (F_z3:Sg_z3 α)   (k:Int→R α):bodyL PT_W19 (PO_z9 F_z3) [] ⟨15,[]⟩ Tryz.f67 [(.int .i64 21)] emp (fun v _=>dR_csr_Mask v k)=p_z4r F_z3  k:=by kernel_rfl
theorem ok_z4s {α:Type} (F_z3:Sg_z3 α)   (k:Int→R α):bodyL PT_W19 (PO_z9 F_z3) [] ⟨15,[]⟩ Tryz.f67 [(.int .i64 22)] emp (fun v _=>dR_csr_Mask v k)=p_z4s F_z3  k:=by kernel_rfl
theorem ok_z4t {α:Type} (F_z3:Sg_z3 α)   (k:Int→R α):bodyL PT_W19 (PO_z9 F_z3) [] ⟨15,[]⟩ Tryz.f67 [(.int .i64 23)] emp (fun v _=>dR_csr_Mask v k)=p_z4t F_z3  k:=by kernel_rfl
theorem ok_z4u {α:Type} (F_z3:Sg_z3 α)   (k:Int→R α):bodyL PT_W19 (PO_z9 F_z3) [] ⟨15,[]⟩ Tryz.f67 [(.int .i64 24)] emp (fun v _=>dR_csr_Mask v k)=p_z4u F_z3  k:=by kernel_rfl
theorem ok_z4v {α:Type} (F_z3:Sg_z3 α)   (k:Int→R α):bodyL PT_W19 (PO_z9 F_z3) [] ⟨15,[]⟩ Tryz.f67 [(.int .i64 25)] emp (fun v _=>dR_csr_Mask v k)=p_z4v F_z3  k:=by kernel_rfl
theorem ok_z4w {α:Type} (F_z3:Sg_z3 α)   (k:Int→R α):bodyL PT_W19 (PO_z9 F_z3) [] ⟨15,[]⟩ Tryz.f67 [(.int .i64 26)] emp (fun v _=>dR_csr_Mask v k)=p_z4w F_z3  k:=by kernel_rfl
theorem ok_z4x {α:Type} (F_z3:Sg_z3 α)   (k:Int→R α):bodyL PT_W19 (PO_z9 F_z3) [] ⟨15,[]⟩ Tryz.f67 [(.int .i64 27)] emp (fun v _=>dR_csr_Mask v k)=p_z4x F_z3  k:=by kernel_rfl
theorem ok_z4y {α:Type} (F_z3:Sg_z3 α)   (k:Int→R α):bodyL PT_W19 (PO_z9 F_z3) [] ⟨15,[]⟩ Tryz.f67 [(.int .i64 28)] emp (fun v _=>dR_csr_Mask v k)=p_z4y F_z3  k:=by kernel_rfl
theorem ok_z9 {α:Type} {F_z3:Sg_z3 α}  {x0:Int} {k:Int→R α} {r:α} (h:p_z9 F_z3 x0 k=some r):bodyL PT_W19 (PO_z9 F_z3) [] ⟨15,[]⟩ Tryz.f67 [(.int .i64 x0)] emp (fun v _=>dR_csr_Mask v k)=some r:=by
  unfold p_z9 at h
  cases e0:(x0==0)
  case true=>rw [e0] at h; simp only [cond_true] at h; rw [beq_iff_eq] at e0; subst e0; exact (ok_z46 F_z3   k).trans h
  rw [e0] at h; simp only [cond_false] at h
  cases e1:(x0==1)
  case true=>rw [e1] at h; simp only [cond_true] at h; rw [beq_iff_eq] at e1; subst e1; exact (ok_z47 F_z3   k).trans h
  rw [e1] at h; simp only [cond_false] at h
  cases e2:(x0==2)
  case true=>rw [e2] at h; simp only [cond_true] at h; rw [beq_iff_eq] at e2; subst e2; exact (ok_z48 F_z3   k).trans h
  rw [e2] at h; simp only [cond_false] at h
  cases e3:(x0==3)
  case true=>rw [e3] at h; simp only [cond_true] at h; rw [beq_iff_eq] at e3; subst e3; exact (ok_z49 F_z3   k).trans h
  rw [e3] at h; simp only [cond_false] at h
  cases e4:(x0==4)
  case true=>rw [e4] at h; simp only [cond_true] at h; rw [beq_iff_eq] at e4; subst e4; exact (ok_z4a F_z3   k).trans h
  rw [e4] at h; simp only [cond_false] at h
  cases e5:(x0==5)
  case true=>rw [e5] at h; simp only [cond_true] at h; rw [beq_iff_eq] at e5; subst e5; exact (ok_z4b F_z3   k).trans h
  rw [e5] at h; simp only [cond_false] at h
  cases e6:(x0==6)
  case true=>rw [e6] at h; simp only [cond_true] at h; rw [beq_iff_eq] at e6; subst e6; exact (ok_z4c F_z3   k).trans h
  rw [e6] at h; simp only [cond_false] at h
  cases e7:(x0==7)
  case true=>rw [e7] at h; simp only [cond_true] at h; rw [beq_iff_eq] at e7; subst e7; exact (ok_z4d F_z3   k).trans h
  rw [e7] at h; simp only [cond_false] at h
  cases e8:(x0==8)
  case true=>rw [e8] at h; simp only [cond_true] at h; rw [beq_iff_eq] at e8; subst e8; exact (ok_z4e F_z3   k).trans h
  rw [e8] at h; simp only [cond_false] at h
  cases e9:(x0==9)
  case true=>rw [e9] at h; simp only [cond_true] at h; rw [beq_iff_eq] at e9; subst e9; exact (ok_z4f F_z3   k).trans h
  rw [e9] at h; simp only [cond_false] at h
  cases e10:(x0==10)
  case true=>rw [e10] at h; simp only [cond_true] at h; rw [beq_iff_eq] at e10; subst e10; exact (ok_z4g F_z3   k).trans h
  rw [e10] at h; simp only [cond_false] at h
  cases e11:(x0==11)
  case true=>rw [e11] at h; simp only [cond_true] at h; rw [beq_iff_eq] at e11; subst e11; exact (ok_z4h F_z3   k).trans h
  rw [e11] at h; simp only [cond_false] at h
  cases e12:(x0==12)
  case true=>rw [e12] at h; simp only [cond_true] at h; rw [beq_iff_eq] at e12; subst e12; exact (ok_z4i F_z3   k).trans h
  rw [e12] at h; simp only [cond_false] at h
  cases e13:(x0==13)
  case true=>rw [e13] at h; simp only [cond_true] at h; rw [beq_iff_eq] at e13; subst e13; exact (ok_z4j F_z3   k).trans h
  rw [e13] at h; simp only [cond_false] at h
  cases e14:(x0==14)
  case true=>rw [e14] at h; simp only [cond_true] at h; rw [beq_iff_eq] at e14; subst e14; exact (ok_z4k F_z3   k).trans h
  rw [e14] at h; simp only [cond_false] at h
  cases e15:(x0==15)
  case true=>rw [e15] at h; simp only [cond_true] at h; rw [beq_iff_eq] at e15; subst e15; exact (ok_z4l F_z3   k).trans h
  rw [e15] at h; simp only [cond_false] at h
  cases e16:(x0==16)
  case true=>rw [e16] at h; simp only [cond_true] at h; rw [beq_iff_eq] at e16; subst e16; exact (ok_z4m F_z3   k).trans h
  rw [e16] at h; simp only [cond_false] at h
  cases e17:(x0==17)
  case true=>rw [e17] at h; simp only [cond_true] at h; rw [beq_iff_eq] at e17; subst e17; exact (ok_z4n F_z3   k).trans h
  rw [e17] at h; simp only [cond_false] at h
  cases e18:(x0==18)
  case true=>rw [e18] at h; simp only [cond_true] at h; rw [beq_iff_eq] at e18; subst e18; exact (ok_z4o F_z3   k).trans h
  rw [e18] at h; simp only [cond_false] at h
  cases e19:(x0==19)
  case true=>rw [e19] at h; simp only [cond_true] at h; rw [beq_iff_eq] at e19; subst e19; exact (ok_z4p F_z3   k).trans h
  rw [e19] at h; simp only [cond_false] at h
  cases e20:(x0==20)
  case true=>rw [e20] at h; simp only [cond_true] at h; rw [beq_iff_eq] at e20; subst e20; exact (ok_z4q F_z3   k).trans h
  rw [e20] at h; simp only [cond_false] at h
  cases e21:(x0==21)
  case true=>rw [e21] at h; simp only [cond_true] at h; rw [beq_iff_eq] at e21; subst e21; exact (ok_z4r F_z3   k).trans h
  rw [e21] at h; simp only [cond_false] at h
  cases e22:(x0==22)
  case true=>rw [e22] at h; simp only [cond_true] at h; rw [beq_iff_eq] at e22; subst e22; exact (ok_z4s F_z3   k).trans h
  rw [e22] at h; simp only [cond_false] at h
  cases e23:(x0==23)
  case true=>rw [e23] at h; simp only [cond_true] at h; rw [beq_iff_eq] at e23; subst e23; exact (ok_z4t F_z3   k).trans h
  rw [e23] at h; simp only [cond_false] at h
  cases e24:(x0==24)
  case true=>rw [e24] at h; simp only [cond_true] at h; rw [beq_iff_eq] at e24; subst e24; exact (ok_z4u F_z3   k).trans h
  rw [e24] at h; simp only [cond_false] at h
  cases e25:(x0==25)
  case true=>rw [e25] at h; simp only [cond_true] at h; rw [beq_iff_eq] at e25; subst e25; exact (ok_z4v F_z3   k).trans h
  rw [e25] at h; simp only [cond_false] at h
  cases e26:(x0==26)
  case true=>rw [e26] at h; simp only [cond_true] at h; rw [beq_iff_eq] at e26; subst e26; exact (ok_z4w F_z3   k).trans h
  rw [e26] at h; simp only [cond_false] at h
  cases e27:(x0==27)
  case true=>rw [e27] at h; simp only [cond_true] at h; rw [beq_iff_eq] at e27; subst e27; exact (ok_z4x F_z3   k).trans h
  rw [e27] at h; simp only [cond_false] at h
  cases e28:(x0==28)
  case true=>rw [e28] at h; simp only [cond_true] at h; rw [beq_iff_eq] at e28; subst e28; exact (ok_z4y F_z3   k).trans h
  rw [e28] at h; simp only [cond_false] at h
  cases h
theorem mk_z9 {α:Type} {I:Imm} {F_z3:Sg_z3 α} (h_z3:OrcOk (α:=α) Tryz.prog I 177 (.pure (ad_z3 F_z3))):OrcOk (α:=α) Tryz.prog I 67 (.pure (ad_z9 (p_z9 F_z3))):=by
  refine orc_pureK PT_W19_ok (O:=PO_z9 F_z3) (OOk.cons (cB_z5g h_z3) (OOk.nil)) (L:=[]) ⟨15,[]⟩ Tryz.func67 (by kernel_rfl) (by kernel_rfl) (by kernel_rfl) FLOk.nil ?_
  intro args k r hk
  unfold ad_z9 at hk
  split at hk<;>try (cases hk; done)
  obtain ⟨x0,rfl,hk0⟩:=decI_spec hk
  have hkz:=hk0
  refine ⟨by simp [Ids,Idss],fun v=>dR_csr_Mask v (fun r0=>k (.int .u64 r0)),?_,fun v hv=>?_⟩
  · exact ok_z9 hkz
  · obtain ⟨r0,rfl,hv1⟩:=dR_csr_Mask_spec hv; exact ⟨hv1,by simp [Ids,Idss]⟩
noncomputable abbrev B_z5h {α:Type} (F_z3:Sg_z3 α) (F_zg:Sg_zg α) (F_zr:Sg_zr α) (F_z9:Sg_z9 α):FF α:=byBody PT_W19 [] ⟨3,[]⟩ Tryz.f176
theorem cB_z5h {α:Type} {I:Imm} {F_z3:Sg_z3 α} {F_zg:Sg_zg α} {F_zr:Sg_zr α} {F_z9:Sg_z9 α} (h_z3:OrcOk (α:=α) Tryz.prog I 177 (.pure (ad_z3 F_z3))) (h_zg:OrcOk (α:=α) Tryz.prog I 66 (.pure (ad_zg F_zg))) (h_zr:OrcOk (α:=α) Tryz.prog I 241 (.pure (ad_zr F_zr))) (h_z9:OrcOk (α:=α) Tryz.prog I 67 (.pure (ad_z9 F_z9))):OrcOk (α:=α) Tryz.prog I 176 (.full (B_z5h F_z3 F_zg F_zr F_z9)):=orc_body PT_W19_ok (OOk.nil) ⟨3,[]⟩ Tryz.func176 (by kernel_rfl) (by kernel_rfl) (by kernel_rfl)
noncomputable abbrev PO_z29 {α:Type} (F_z3:Sg_z3 α) (F_zg:Sg_zg α) (F_zr:Sg_zr α) (F_z9:Sg_z9 α):ORC α:=[(177,.pure (ad_z3 F_z3)),(66,.pure (ad_zg F_zg)),(176,.full (B_z5h F_z3 F_zg F_zr F_z9)),(241,.pure (ad_zr F_zr)),(67,.pure (ad_z9 F_z9))]
theorem ok_z29 {α:Type} (F_z3:Sg_z3 α) (F_zg:Sg_zg α) (F_zr:Sg_zr α) (F_z9:Sg_z9 α) (x0:GState) (x1:Int) (x2:Int) (k:GState→Bool→R α):bodyL PT_W19 (PO_z29 F_z3 F_zg F_zr F_z9) [] ⟨3,[]⟩ Tryz.f215 [(GState.sv x0),(.int .i64 x1),(.int .u64 x2)] emp (fun v _=>dR_csr_Write v k)=p_z29 F_z3 F_zg F_zr F_z9 x0 x1 x2 k:=by kernel_rfl
theorem mk_z29 {α:Type} {I:Imm} {F_z3:Sg_z3 α} {F_zg:Sg_zg α} {F_zr:Sg_zr α} {F_z9:Sg_z9 α} (h_z3:OrcOk (α:=α) Tryz.prog I 177 (.pure (ad_z3 F_z3))) (h_zg:OrcOk (α:=α) Tryz.prog I 66 (.pure (ad_zg F_zg))) (h_zr:OrcOk (α:=α) Tryz.prog I 241 (.pure (ad_zr F_zr))) (h_z9:OrcOk (α:=α) Tryz.prog I 67 (.pure (ad_z9 F_z9))):OrcOk (α:=α) Tryz.prog I 215 (.pure (ad_z29 (p_z29 F_z3 F_zg F_zr F_z9))):=by
  refine orc_pureK PT_W19_ok (O:=PO_z29 F_z3 F_zg F_zr F_z9) (OOk.cons h_z3 (OOk.cons h_zg (OOk.cons (cB_z5h h_z3 h_zg h_zr h_z9) (OOk.cons h_zr (OOk.cons h_z9 (OOk.nil)))))) (L:=[]) ⟨3,[]⟩ Tryz.func215 (by kernel_rfl) (by kernel_rfl) (by kernel_rfl) FLOk.nil ?_
  intro args k r hk
  unfold ad_z29 at hk
  split at hk<;>try (cases hk; done)
  obtain ⟨x0,rfl,hk0⟩:=GState.dec_spec hk
  obtain ⟨x1,rfl,hk1⟩:=decI_spec hk0
  obtain ⟨x2,rfl,hk2⟩:=decI_spec hk1
  have hkz:=hk2
  refine ⟨by simp [Ids,Idss],fun v=>dR_csr_Write v (fun r0 r1=>k (.tuple [(GState.sv r0),(.bool r1)])),?_,fun v hv=>?_⟩
  · rw [ok_z29]; exact hkz
  · obtain ⟨r0,r1,rfl,hv1⟩:=dR_csr_Write_spec hv; exact ⟨hv1,by simp [Ids,Idss]⟩
noncomputable abbrev PO_z2l {α:Type} (F_z2z:Sg_z2z α) (F_z2k:Sg_z2k α) (F_z1n:Sg_z1n α) (F_z28:Sg_z28 α) (F_z29:Sg_z29 α) (F_zk:Sg_zk α):ORC α:=[(213,.pure (ad_z2z F_z2z)),(214,.pure (ad_z2k F_z2k)),(137,.pure (ad_z1n F_z1n)),(216,.pure (ad_z28 F_z28)),(215,.pure (ad_z29 F_z29)),(145,.pure (ad_zk F_zk))]
theorem ok_z2l {α:Type} (F_z2z:Sg_z2z α) (F_z2k:Sg_z2k α) (F_z1n:Sg_z1n α) (F_z28:Sg_z28 α) (F_z29:Sg_z29 α) (F_zk:Sg_zk α) (x0:GState) (x1:GInsn) (k:GExec_result→R α):bodyL PT_W19 (PO_z2l F_z2z F_z2k F_z1n F_z28 F_z29 F_zk) [] ⟨1,[]⟩ Tryz.f148 [(GState.sv x0),(GInsn.sv x1)] emp (fun v _=>dR_exec_control v k)=p_z2l F_z2z F_z2k F_z1n F_z28 F_z29 F_zk x0 x1 k:=by kernel_rfl
theorem mk_z2l {α:Type} {I:Imm} {F_z2z:Sg_z2z α} {F_z2k:Sg_z2k α} {F_z1n:Sg_z1n α} {F_z28:Sg_z28 α} {F_z29:Sg_z29 α} {F_zk:Sg_zk α} (h_z2z:OrcOk (α:=α) Tryz.prog I 213 (.pure (ad_z2z F_z2z))) (h_z2k:OrcOk (α:=α) Tryz.prog I 214 (.pure (ad_z2k F_z2k))) (h_z1n:OrcOk (α:=α) Tryz.prog I 137 (.pure (ad_z1n F_z1n))) (h_z28:OrcOk (α:=α) Tryz.prog I 216 (.pure (ad_z28 F_z28))) (h_z29:OrcOk (α:=α) Tryz.prog I 215 (.pure (ad_z29 F_z29))) (h_zk:OrcOk (α:=α) Tryz.prog I 145 (.pure (ad_zk F_zk))):OrcOk (α:=α) Tryz.prog I 148 (.pure (ad_z2l (p_z2l F_z2z F_z2k F_z1n F_z28 F_z29 F_zk))):=by
  refine orc_pureK PT_W19_ok (O:=PO_z2l F_z2z F_z2k F_z1n F_z28 F_z29 F_zk) (OOk.cons h_z2z (OOk.cons h_z2k (OOk.cons h_z1n (OOk.cons h_z28 (OOk.cons h_z29 (OOk.cons h_zk (OOk.nil))))))) (L:=[]) ⟨1,[]⟩ Tryz.func148 (by kernel_rfl) (by kernel_rfl) (by kernel_rfl) FLOk.nil ?_
  intro args k r hk
  unfold ad_z2l at hk
  split at hk<;>try (cases hk; done)
  obtain ⟨x0,rfl,hk0⟩:=GState.dec_spec hk
  obtain ⟨x1,rfl,hk1⟩:=GInsn.dec_spec hk0
  have hkz:=hk1
  refine ⟨by simp [Ids,Idss],fun v=>dR_exec_control v (fun r0=>k (GExec_result.sv r0)),?_,fun v hv=>?_⟩
  · rw [ok_z2l]; exact hkz
  · obtain ⟨r0,rfl,hv1⟩:=dR_exec_control_spec hv; exact ⟨hv1,by simp [Ids,Idss]⟩
noncomputable abbrev PO_z1p {α:Type} (F_z4:Sg_z4 α) (F_zb:Sg_zb α):ORC α:=[(80,.pure (ad_z4 F_z4)),(124,.pure (ad_zb F_zb))]
theorem ok_z1p {α:Type} (F_z4:Sg_z4 α) (F_zb:Sg_zb α) (x0:GTrap_kept) (x1:GState) (k:GState→R α):bodyL PT_W19 (PO_z1p F_z4 F_zb) [] ⟨1,[]⟩ Tryz.f245 [(GTrap_kept.sv x0),(GState.sv x1)] emp (fun v _=>dR_trap_kept_back v k)=p_z1p F_z4 F_zb x0 x1 k:=by kernel_rfl
theorem mk_z1p {α:Type} {I:Imm} {F_z4:Sg_z4 α} {F_zb:Sg_zb α} (h_z4:OrcOk (α:=α) Tryz.prog I 80 (.pure (ad_z4 F_z4))) (h_zb:OrcOk (α:=α) Tryz.prog I 124 (.pure (ad_zb F_zb))):OrcOk (α:=α) Tryz.prog I 245 (.pure (ad_z1p (p_z1p F_z4 F_zb))):=by
  refine orc_pureK PT_W19_ok (O:=PO_z1p F_z4 F_zb) (OOk.cons h_z4 (OOk.cons h_zb (OOk.nil))) (L:=[]) ⟨1,[]⟩ Tryz.func245 (by kernel_rfl) (by kernel_rfl) (by kernel_rfl) FLOk.nil ?_
  intro args k r hk
  unfold ad_z1p at hk
  split at hk<;>try (cases hk; done)
  obtain ⟨x0,rfl,hk0⟩:=GTrap_kept.dec_spec hk
  obtain ⟨x1,rfl,hk1⟩:=GState.dec_spec hk0
  have hkz:=hk1
  refine ⟨by simp [Ids,Idss],fun v=>dR_trap_kept_back v (fun r0=>k (GState.sv r0)),?_,fun v hv=>?_⟩
  · rw [ok_z1p]; exact hkz
  · obtain ⟨r0,rfl,hv1⟩:=dR_trap_kept_back_spec hv; exact ⟨hv1,by simp [Ids,Idss]⟩
noncomputable abbrev PO_z30 {α:Type} (F_z13:Sg_z13 α) (F_z2:Sg_z2 α) (F_z4:Sg_z4 α) (F_z1p:Sg_z1p α) (F_zn:Sg_zn α) (F_zb:Sg_zb α):ORC α:=[(87,.pure (ad_z13 F_z13)),(79,.pure (ad_z2 F_z2)),(80,.pure (ad_z4 F_z4)),(245,.pure (ad_z1p F_z1p)),(113,.pure (ad_zn F_zn)),(124,.pure (ad_zb F_zb))]
theorem ok_z30 {α:Type} (F_z13:Sg_z13 α) (F_z2:Sg_z2 α) (F_z4:Sg_z4 α) (F_z1p:Sg_z1p α) (F_zn:Sg_zn α) (F_zb:Sg_zb α) (x0:GState) (k:GState→Int→Bool→R α):bodyL PT_W19 (PO_z30 F_z13 F_z2 F_z4 F_z1p F_zn F_zb) [] ⟨1,[]⟩ Tryz.f217 [(GState.sv x0)] emp (fun v _=>dR_trap_Mret v k)=p_z30 F_z13 F_z2 F_z4 F_z1p F_zn F_zb x0 k:=by kernel_rfl
theorem mk_z30 {α:Type} {I:Imm} {F_z13:Sg_z13 α} {F_z2:Sg_z2 α} {F_z4:Sg_z4 α} {F_z1p:Sg_z1p α} {F_zn:Sg_zn α} {F_zb:Sg_zb α} (h_z13:OrcOk (α:=α) Tryz.prog I 87 (.pure (ad_z13 F_z13))) (h_z2:OrcOk (α:=α) Tryz.prog I 79 (.pure (ad_z2 F_z2))) (h_z4:OrcOk (α:=α) Tryz.prog I 80 (.pure (ad_z4 F_z4))) (h_z1p:OrcOk (α:=α) Tryz.prog I 245 (.pure (ad_z1p F_z1p))) (h_zn:OrcOk (α:=α) Tryz.prog I 113 (.pure (ad_zn F_zn))) (h_zb:OrcOk (α:=α) Tryz.prog I 124 (.pure (ad_zb F_zb))):OrcOk (α:=α) Tryz.prog I 217 (.pure (ad_z30 (p_z30 F_z13 F_z2 F_z4 F_z1p F_zn F_zb))):=by
  refine orc_pureK PT_W19_ok (O:=PO_z30 F_z13 F_z2 F_z4 F_z1p F_zn F_zb) (OOk.cons h_z13 (OOk.cons h_z2 (OOk.cons h_z4 (OOk.cons h_z1p (OOk.cons h_zn (OOk.cons h_zb (OOk.nil))))))) (L:=[]) ⟨1,[]⟩ Tryz.func217 (by kernel_rfl) (by kernel_rfl) (by kernel_rfl) FLOk.nil ?_
  intro args k r hk
  unfold ad_z30 at hk
  split at hk<;>try (cases hk; done)
  obtain ⟨x0,rfl,hk0⟩:=GState.dec_spec hk
  have hkz:=hk0
  refine ⟨by simp [Ids,Idss],fun v=>dR_trap_Mret v (fun r0 r1 r2=>k (.tuple [(GState.sv r0),(.int .u64 r1),(.bool r2)])),?_,fun v hv=>?_⟩
  · rw [ok_z30]; exact hkz
  · obtain ⟨r0,r1,r2,rfl,hv1⟩:=dR_trap_Mret_spec hv; exact ⟨hv1,by simp [Ids,Idss]⟩
noncomputable abbrev PO_z31 {α:Type} (F_z13:Sg_z13 α) (F_z2:Sg_z2 α) (F_z1p:Sg_z1p α) (F_zb:Sg_zb α) (F_z4:Sg_z4 α):ORC α:=[(87,.pure (ad_z13 F_z13)),(79,.pure (ad_z2 F_z2)),(245,.pure (ad_z1p F_z1p)),(124,.pure (ad_zb F_zb)),(80,.pure (ad_z4 F_z4))]
theorem ok_z31 {α:Type} (F_z13:Sg_z13 α) (F_z2:Sg_z2 α) (F_z1p:Sg_z1p α) (F_zb:Sg_zb α) (F_z4:Sg_z4 α) (x0:GState) (k:GState→Int→Bool→R α):bodyL PT_W19 (PO_z31 F_z13 F_z2 F_z1p F_zb F_z4) [] ⟨1,[]⟩ Tryz.f218 [(GState.sv x0)] emp (fun v _=>dR_trap_Sret v k)=p_z31 F_z13 F_z2 F_z1p F_zb F_z4 x0 k:=by kernel_rfl
theorem mk_z31 {α:Type} {I:Imm} {F_z13:Sg_z13 α} {F_z2:Sg_z2 α} {F_z1p:Sg_z1p α} {F_zb:Sg_zb α} {F_z4:Sg_z4 α} (h_z13:OrcOk (α:=α) Tryz.prog I 87 (.pure (ad_z13 F_z13))) (h_z2:OrcOk (α:=α) Tryz.prog I 79 (.pure (ad_z2 F_z2))) (h_z1p:OrcOk (α:=α) Tryz.prog I 245 (.pure (ad_z1p F_z1p))) (h_zb:OrcOk (α:=α) Tryz.prog I 124 (.pure (ad_zb F_zb))) (h_z4:OrcOk (α:=α) Tryz.prog I 80 (.pure (ad_z4 F_z4))):OrcOk (α:=α) Tryz.prog I 218 (.pure (ad_z31 (p_z31 F_z13 F_z2 F_z1p F_zb F_z4))):=by
  refine orc_pureK PT_W19_ok (O:=PO_z31 F_z13 F_z2 F_z1p F_zb F_z4) (OOk.cons h_z13 (OOk.cons h_z2 (OOk.cons h_z1p (OOk.cons h_zb (OOk.cons h_z4 (OOk.nil)))))) (L:=[]) ⟨1,[]⟩ Tryz.func218 (by kernel_rfl) (by kernel_rfl) (by kernel_rfl) FLOk.nil ?_
  intro args k r hk
  unfold ad_z31 at hk
  split at hk<;>try (cases hk; done)
  obtain ⟨x0,rfl,hk0⟩:=GState.dec_spec hk
  have hkz:=hk0
  refine ⟨by simp [Ids,Idss],fun v=>dR_trap_Sret v (fun r0 r1 r2=>k (.tuple [(GState.sv r0),(.int .u64 r1),(.bool r2)])),?_,fun v hv=>?_⟩
  · rw [ok_z31]; exact hkz
  · obtain ⟨r0,r1,r2,rfl,hv1⟩:=dR_trap_Sret_spec hv; exact ⟨hv1,by simp [Ids,Idss]⟩
noncomputable abbrev PO_z2m {α:Type} (F_z30:Sg_z30 α) (F_z10:Sg_z10 α) (F_z31:Sg_z31 α) (F_zk:Sg_zk α):ORC α:=[(217,.pure (ad_z30 F_z30)),(204,.pure (ad_z10 F_z10)),(218,.pure (ad_z31 F_z31)),(145,.pure (ad_zk F_zk))]
theorem ok_z2m {α:Type} (F_z30:Sg_z30 α) (F_z10:Sg_z10 α) (F_z31:Sg_z31 α) (F_zk:Sg_zk α) (x0:GState) (x1:GInsn) (k:GExec_result→R α):bodyL PT_W19 (PO_z2m F_z30 F_z10 F_z31 F_zk) [] ⟨1,[]⟩ Tryz.f149 [(GState.sv x0),(GInsn.sv x1)] emp (fun v _=>dR_exec_returns v k)=p_z2m F_z30 F_z10 F_z31 F_zk x0 x1 k:=by kernel_rfl
theorem mk_z2m {α:Type} {I:Imm} {F_z30:Sg_z30 α} {F_z10:Sg_z10 α} {F_z31:Sg_z31 α} {F_zk:Sg_zk α} (h_z30:OrcOk (α:=α) Tryz.prog I 217 (.pure (ad_z30 F_z30))) (h_z10:OrcOk (α:=α) Tryz.prog I 204 (.pure (ad_z10 F_z10))) (h_z31:OrcOk (α:=α) Tryz.prog I 218 (.pure (ad_z31 F_z31))) (h_zk:OrcOk (α:=α) Tryz.prog I 145 (.pure (ad_zk F_zk))):OrcOk (α:=α) Tryz.prog I 149 (.pure (ad_z2m (p_z2m F_z30 F_z10 F_z31 F_zk))):=by
  refine orc_pureK PT_W19_ok (O:=PO_z2m F_z30 F_z10 F_z31 F_zk) (OOk.cons h_z30 (OOk.cons h_z10 (OOk.cons h_z31 (OOk.cons h_zk (OOk.nil))))) (L:=[]) ⟨1,[]⟩ Tryz.func149 (by kernel_rfl) (by kernel_rfl) (by kernel_rfl) FLOk.nil ?_
  intro args k r hk
  unfold ad_z2m at hk
  split at hk<;>try (cases hk; done)
  obtain ⟨x0,rfl,hk0⟩:=GState.dec_spec hk
  obtain ⟨x1,rfl,hk1⟩:=GInsn.dec_spec hk0
  have hkz:=hk1
  refine ⟨by simp [Ids,Idss],fun v=>dR_exec_returns v (fun r0=>k (GExec_result.sv r0)),?_,fun v hv=>?_⟩
  · rw [ok_z2m]; exact hkz
  · obtain ⟨r0,rfl,hv1⟩:=dR_exec_returns_spec hv; exact ⟨hv1,by simp [Ids,Idss]⟩
noncomputable abbrev PO_z1v {α:Type} (F_z5:Sg_z5 α) (F_z2c:Sg_z2c α) (F_z1u:Sg_z1u α) (F_z1c:Sg_z1c α) (F_zk:Sg_zk α) (F_z2d:Sg_z2d α) (F_z2j:Sg_z2j α) (F_z2l:Sg_z2l α) (F_z2m:Sg_z2m α):ORC α:=[(135,.pure (ad_z5 F_z5)),(142,.pure (ad_z2c F_z2c)),(143,.full (ad_z1u F_z1u)),(144,.pure (ad_z1c F_z1c)),(145,.pure (ad_zk F_zk)),(146,.pure (ad_z2d F_z2d)),(147,.pure (ad_z2j F_z2j)),(148,.pure (ad_z2l F_z2l)),(149,.pure (ad_z2m F_z2m))]
theorem ok_z1v {α:Type} (F_z5:Sg_z5 α) (F_z2c:Sg_z2c α) (F_z1u:Sg_z1u α) (F_z1c:Sg_z1c α) (F_zk:Sg_zk α) (F_z2d:Sg_z2d α) (F_z2j:Sg_z2j α) (F_z2l:Sg_z2l α) (F_z2m:Sg_z2m α) (x0:GBus) (x1:GState) (x2:GInsn) (k:GBus→GExec_result→R α):bodyL PT_W19 (PO_z1v F_z5 F_z2c F_z1u F_z1c F_zk F_z2d F_z2j F_z2l F_z2m) [] ⟨1,[]⟩ Tryz.f88 (E_z1v.encs (x0,x1,x2,()) (fun i=>i) 0) (hp (E_z1v.objss (x0,x1,x2,()) (fun i=>i) 0)) (dRo M_z1v Q_z1v true (selN (E_z1v.encs (x0,x1,x2,()) (fun i=>i) 0) [0]) (fun y z=>k y.1 z.1))=p_z1v F_z5 F_z2c F_z1u F_z1c F_zk F_z2d F_z2j F_z2l F_z2m x0 x1 x2 k:=by kernel_rfl
theorem mk_z1v {α:Type} {I:Imm} {F_z5:Sg_z5 α} {F_z2c:Sg_z2c α} {F_z1u:Sg_z1u α} {F_z1c:Sg_z1c α} {F_zk:Sg_zk α} {F_z2d:Sg_z2d α} {F_z2j:Sg_z2j α} {F_z2l:Sg_z2l α} {F_z2m:Sg_z2m α} (h_z5:OrcOk (α:=α) Tryz.prog I 135 (.pure (ad_z5 F_z5))) (h_z2c:OrcOk (α:=α) Tryz.prog I 142 (.pure (ad_z2c F_z2c))) (h_z1u:OrcOk (α:=α) Tryz.prog I 143 (.full (ad_z1u F_z1u))) (h_z1c:OrcOk (α:=α) Tryz.prog I 144 (.pure (ad_z1c F_z1c))) (h_zk:OrcOk (α:=α) Tryz.prog I 145 (.pure (ad_zk F_zk))) (h_z2d:OrcOk (α:=α) Tryz.prog I 146 (.pure (ad_z2d F_z2d))) (h_z2j:OrcOk (α:=α) Tryz.prog I 147 (.pure (ad_z2j F_z2j))) (h_z2l:OrcOk (α:=α) Tryz.prog I 148 (.pure (ad_z2l F_z2l))) (h_z2m:OrcOk (α:=α) Tryz.prog I 149 (.pure (ad_z2m F_z2m))) {F:Sg_z1v α} (hF:∀x0 x1 x2 k r,F x0 x1 x2 k=some r→p_z1v F_z5 F_z2c F_z1u F_z1c F_zk F_z2d F_z2j F_z2l F_z2m x0 x1 x2 k=some r):OrcOk (α:=α) Tryz.prog I 88 (.full (ad_z1v F)):=
  orc_obj PT_W19_ok (O:=PO_z1v F_z5 F_z2c F_z1u F_z1c F_zk F_z2d F_z2j F_z2l F_z2m) (OOk.cons h_z5 (OOk.cons h_z2c (OOk.cons h_z1u (OOk.cons h_z1c (OOk.cons h_zk (OOk.cons h_z2d (OOk.cons h_z2j (OOk.cons h_z2l (OOk.cons h_z2m (OOk.nil)))))))))) (L:=[]) ⟨1,[]⟩ Tryz.func88 (by kernel_rfl) (by kernel_rfl) (by kernel_rfl) FLOk.nil E_z3z M_z3z Q_z3z rfl (oi:=[0]) fun ⟨x0,x1,x2,()⟩ k r h=>(ok_z1v F_z5 F_z2c F_z1u F_z1c F_zk F_z2d F_z2j F_z2l F_z2m x0 x1 x2 (fun y0 z0=>k (y0,()) (z0,()))).trans (hF x0 x1 x2 _ r h)
noncomputable abbrev PO_z2n {α:Type} (F_zi:Sg_zi α):ORC α:=[(133,.pure (ad_zi F_zi))]
theorem ok_z2n {α:Type} (F_zi:Sg_zi α) (x0:GInsn) (k:Int→R α):bodyL PT_W19 (PO_z2n F_zi) [] ⟨1,[]⟩ Tryz.f89 [(GInsn.sv x0)] emp (fun v _=>dR_insn_Writes v k)=p_z2n F_zi x0 k:=by kernel_rfl
theorem mk_z2n {α:Type} {I:Imm} {F_zi:Sg_zi α} (h_zi:OrcOk (α:=α) Tryz.prog I 133 (.pure (ad_zi F_zi))):OrcOk (α:=α) Tryz.prog I 89 (.pure (ad_z2n (p_z2n F_zi))):=by
  refine orc_pureK PT_W19_ok (O:=PO_z2n F_zi) (OOk.cons h_zi (OOk.nil)) (L:=[]) ⟨1,[]⟩ Tryz.func89 (by kernel_rfl) (by kernel_rfl) (by kernel_rfl) FLOk.nil ?_
  intro args k r hk
  unfold ad_z2n at hk
  split at hk<;>try (cases hk; done)
  obtain ⟨x0,rfl,hk0⟩:=GInsn.dec_spec hk
  have hkz:=hk0
  refine ⟨by simp [Ids,Idss],fun v=>dR_insn_Writes v (fun r0=>k (.int .i64 r0)),?_,fun v hv=>?_⟩
  · rw [ok_z2n]; exact hkz
  · obtain ⟨r0,rfl,hv1⟩:=dR_insn_Writes_spec hv; exact ⟨hv1,by simp [Ids,Idss]⟩
noncomputable abbrev PO_zq {α:Type} (F_z2g:Sg_z2g α) (F_zm:Sg_zm α) (F_z13:Sg_z13 α) (F_z1v:Sg_z1v α) (F_z2n:Sg_z2n α):ORC α:=[(86,.pure (ad_z2g F_z2g)),(48,.pure (ad_zm F_zm)),(87,.pure (ad_z13 F_z13)),(88,.full (ad_z1v F_z1v)),(89,.pure (ad_z2n F_z2n))]
theorem ok_zq {α:Type} (F_z2g:Sg_z2g α) (F_zm:Sg_zm α) (F_z13:Sg_z13 α) (F_z1v:Sg_z1v α) (F_z2n:Sg_z2n α) (x0:GBus) (x1:GState) (x2:Int) (k:GBus→GState→GRetire→R α):bodyL PT_W19 (PO_zq F_z2g F_zm F_z13 F_z1v F_z2n) [] ⟨1,[]⟩ Tryz.f49 (E_zq.encs (x0,x1,x2,()) (fun i=>i) 0) (hp (E_zq.objss (x0,x1,x2,()) (fun i=>i) 0)) (dRo M_zq Q_zq false (selN (E_zq.encs (x0,x1,x2,()) (fun i=>i) 0) [0]) (fun y z=>k y.1 z.1 z.2.1))=p_zq F_z2g F_zm F_z13 F_z1v F_z2n x0 x1 x2 k:=by kernel_rfl
theorem mk_zq {α:Type} {I:Imm} {F_z2g:Sg_z2g α} {F_zm:Sg_zm α} {F_z13:Sg_z13 α} {F_z1v:Sg_z1v α} {F_z2n:Sg_z2n α} (h_z2g:OrcOk (α:=α) Tryz.prog I 86 (.pure (ad_z2g F_z2g))) (h_zm:OrcOk (α:=α) Tryz.prog I 48 (.pure (ad_zm F_zm))) (h_z13:OrcOk (α:=α) Tryz.prog I 87 (.pure (ad_z13 F_z13))) (h_z1v:OrcOk (α:=α) Tryz.prog I 88 (.full (ad_z1v F_z1v))) (h_z2n:OrcOk (α:=α) Tryz.prog I 89 (.pure (ad_z2n F_z2n))) {F:Sg_zq α} (hF:∀x0 x1 x2 k r,F x0 x1 x2 k=some r→p_zq F_z2g F_zm F_z13 F_z1v F_z2n x0 x1 x2 k=some r):OrcOk (α:=α) Tryz.prog I 49 (.full (ad_zq F)):=
  orc_obj PT_W19_ok (O:=PO_zq F_z2g F_zm F_z13 F_z1v F_z2n) (OOk.cons h_z2g (OOk.cons h_zm (OOk.cons h_z13 (OOk.cons h_z1v (OOk.cons h_z2n (OOk.nil)))))) (L:=[]) ⟨1,[]⟩ Tryz.func49 (by kernel_rfl) (by kernel_rfl) (by kernel_rfl) FLOk.nil E_z40 M_z40 Q_z40 rfl (oi:=[0]) fun ⟨x0,x1,x2,()⟩ k r h=>(ok_zq F_z2g F_zm F_z13 F_z1v F_z2n x0 x1 x2 (fun y0 z0 z1=>k (y0,()) (z0,z1,()))).trans (hF x0 x1 x2 _ r h)
noncomputable abbrev B_z5i {α:Type} (F_zw:Sg_zw α) (F_zx:Sg_zx α) (F_zp:Sg_zp α) (F_zm:Sg_zm α) (F_zq:Sg_zq α):FF α:=byBody PT_W19 [(75,.ext (xAdd .i64))] ⟨1,[]⟩ Tryz.f42
theorem cB_z5i {α:Type} {I:Imm} {F_zw:Sg_zw α} {F_zx:Sg_zx α} {F_zp:Sg_zp α} {F_zm:Sg_zm α} {F_zq:Sg_zq α} (h_sync_atomic_AddInt64:OrcOk (α:=α) Tryz.prog I 75 (.ext (xAdd .i64))) (h_sync_atomic_StoreUint64:OrcOk (α:=α) Tryz.prog I 118 (.ext (xStore .u64))) (h_sync_atomic_LoadUint64:OrcOk (α:=α) Tryz.prog I 122 (.ext (xLoad .u64))) (h_zw:OrcOk (α:=α) Tryz.prog I 44 (.pure (ad_zw F_zw))) (h_zx:OrcOk (α:=α) Tryz.prog I 46 (.pure (ad_zx F_zx))) (h_zp:OrcOk (α:=α) Tryz.prog I 47 (.full (ad_zp F_zp))) (h_zm:OrcOk (α:=α) Tryz.prog I 48 (.pure (ad_zm F_zm))) (h_zq:OrcOk (α:=α) Tryz.prog I 49 (.full (ad_zq F_zq))):OrcOk (α:=α) Tryz.prog I 42 (.full (B_z5i F_zw F_zx F_zp F_zm F_zq)):=orc_body PT_W19_ok (OOk.cons h_sync_atomic_AddInt64 (OOk.nil)) ⟨1,[]⟩ Tryz.func42 (by kernel_rfl) (by kernel_rfl) (by kernel_rfl)
noncomputable abbrev B_z5j {α:Type} (F_zw:Sg_zw α) (F_zx:Sg_zx α) (F_zp:Sg_zp α) (F_zm:Sg_zm α) (F_zq:Sg_zq α):FF α:=byBody PT_W19 [(118,.ext (xStore .u64))] ⟨1,[]⟩ Tryz.f76
theorem cB_z5j {α:Type} {I:Imm} {F_zw:Sg_zw α} {F_zx:Sg_zx α} {F_zp:Sg_zp α} {F_zm:Sg_zm α} {F_zq:Sg_zq α} (h_sync_atomic_AddInt64:OrcOk (α:=α) Tryz.prog I 75 (.ext (xAdd .i64))) (h_sync_atomic_StoreUint64:OrcOk (α:=α) Tryz.prog I 118 (.ext (xStore .u64))) (h_sync_atomic_LoadUint64:OrcOk (α:=α) Tryz.prog I 122 (.ext (xLoad .u64))) (h_zw:OrcOk (α:=α) Tryz.prog I 44 (.pure (ad_zw F_zw))) (h_zx:OrcOk (α:=α) Tryz.prog I 46 (.pure (ad_zx F_zx))) (h_zp:OrcOk (α:=α) Tryz.prog I 47 (.full (ad_zp F_zp))) (h_zm:OrcOk (α:=α) Tryz.prog I 48 (.pure (ad_zm F_zm))) (h_zq:OrcOk (α:=α) Tryz.prog I 49 (.full (ad_zq F_zq))):OrcOk (α:=α) Tryz.prog I 76 (.full (B_z5j F_zw F_zx F_zp F_zm F_zq)):=orc_body PT_W19_ok (OOk.cons h_sync_atomic_StoreUint64 (OOk.nil)) ⟨1,[]⟩ Tryz.func76 (by kernel_rfl) (by kernel_rfl) (by kernel_rfl)
noncomputable abbrev B_z5k {α:Type} (F_zw:Sg_zw α) (F_zx:Sg_zx α) (F_zp:Sg_zp α) (F_zm:Sg_zm α) (F_zq:Sg_zq α):FF α:=byBody PT_W19 [(76,.full (B_z5j F_zw F_zx F_zp F_zm F_zq))] ⟨1,[]⟩ Tryz.f43
theorem cB_z5k {α:Type} {I:Imm} {F_zw:Sg_zw α} {F_zx:Sg_zx α} {F_zp:Sg_zp α} {F_zm:Sg_zm α} {F_zq:Sg_zq α} (h_sync_atomic_AddInt64:OrcOk (α:=α) Tryz.prog I 75 (.ext (xAdd .i64))) (h_sync_atomic_StoreUint64:OrcOk (α:=α) Tryz.prog I 118 (.ext (xStore .u64))) (h_sync_atomic_LoadUint64:OrcOk (α:=α) Tryz.prog I 122 (.ext (xLoad .u64))) (h_zw:OrcOk (α:=α) Tryz.prog I 44 (.pure (ad_zw F_zw))) (h_zx:OrcOk (α:=α) Tryz.prog I 46 (.pure (ad_zx F_zx))) (h_zp:OrcOk (α:=α) Tryz.prog I 47 (.full (ad_zp F_zp))) (h_zm:OrcOk (α:=α) Tryz.prog I 48 (.pure (ad_zm F_zm))) (h_zq:OrcOk (α:=α) Tryz.prog I 49 (.full (ad_zq F_zq))):OrcOk (α:=α) Tryz.prog I 43 (.full (B_z5k F_zw F_zx F_zp F_zm F_zq)):=orc_body PT_W19_ok (OOk.cons (cB_z5j h_sync_atomic_AddInt64 h_sync_atomic_StoreUint64 h_sync_atomic_LoadUint64 h_zw h_zx h_zp h_zm h_zq) (OOk.nil)) ⟨1,[]⟩ Tryz.func43 (by kernel_rfl) (by kernel_rfl) (by kernel_rfl)
noncomputable abbrev B_z5l {α:Type} (F_zw:Sg_zw α) (F_zx:Sg_zx α) (F_zp:Sg_zp α) (F_zm:Sg_zm α) (F_zq:Sg_zq α):FF α:=byBody PT_W19 [(122,.ext (xLoad .u64))] ⟨1,[]⟩ Tryz.f82
theorem cB_z5l {α:Type} {I:Imm} {F_zw:Sg_zw α} {F_zx:Sg_zx α} {F_zp:Sg_zp α} {F_zm:Sg_zm α} {F_zq:Sg_zq α} (h_sync_atomic_AddInt64:OrcOk (α:=α) Tryz.prog I 75 (.ext (xAdd .i64))) (h_sync_atomic_StoreUint64:OrcOk (α:=α) Tryz.prog I 118 (.ext (xStore .u64))) (h_sync_atomic_LoadUint64:OrcOk (α:=α) Tryz.prog I 122 (.ext (xLoad .u64))) (h_zw:OrcOk (α:=α) Tryz.prog I 44 (.pure (ad_zw F_zw))) (h_zx:OrcOk (α:=α) Tryz.prog I 46 (.pure (ad_zx F_zx))) (h_zp:OrcOk (α:=α) Tryz.prog I 47 (.full (ad_zp F_zp))) (h_zm:OrcOk (α:=α) Tryz.prog I 48 (.pure (ad_zm F_zm))) (h_zq:OrcOk (α:=α) Tryz.prog I 49 (.full (ad_zq F_zq))):OrcOk (α:=α) Tryz.prog I 82 (.full (B_z5l F_zw F_zx F_zp F_zm F_zq)):=orc_body PT_W19_ok (OOk.cons h_sync_atomic_LoadUint64 (OOk.nil)) ⟨1,[]⟩ Tryz.func82 (by kernel_rfl) (by kernel_rfl) (by kernel_rfl)
noncomputable abbrev B_z5m {α:Type} (F_zw:Sg_zw α) (F_zx:Sg_zx α) (F_zp:Sg_zp α) (F_zm:Sg_zm α) (F_zq:Sg_zq α):FF α:=byBody PT_W19 [(82,.full (B_z5l F_zw F_zx F_zp F_zm F_zq))] ⟨1,[]⟩ Tryz.f45
theorem cB_z5m {α:Type} {I:Imm} {F_zw:Sg_zw α} {F_zx:Sg_zx α} {F_zp:Sg_zp α} {F_zm:Sg_zm α} {F_zq:Sg_zq α} (h_sync_atomic_AddInt64:OrcOk (α:=α) Tryz.prog I 75 (.ext (xAdd .i64))) (h_sync_atomic_StoreUint64:OrcOk (α:=α) Tryz.prog I 118 (.ext (xStore .u64))) (h_sync_atomic_LoadUint64:OrcOk (α:=α) Tryz.prog I 122 (.ext (xLoad .u64))) (h_zw:OrcOk (α:=α) Tryz.prog I 44 (.pure (ad_zw F_zw))) (h_zx:OrcOk (α:=α) Tryz.prog I 46 (.pure (ad_zx F_zx))) (h_zp:OrcOk (α:=α) Tryz.prog I 47 (.full (ad_zp F_zp))) (h_zm:OrcOk (α:=α) Tryz.prog I 48 (.pure (ad_zm F_zm))) (h_zq:OrcOk (α:=α) Tryz.prog I 49 (.full (ad_zq F_zq))):OrcOk (α:=α) Tryz.prog I 45 (.full (B_z5m F_zw F_zx F_zp F_zm F_zq)):=orc_body PT_W19_ok (OOk.cons (cB_z5l h_sync_atomic_AddInt64 h_sync_atomic_StoreUint64 h_sync_atomic_LoadUint64 h_zw h_zx h_zp h_zm h_zq) (OOk.nil)) ⟨1,[]⟩ Tryz.func45 (by kernel_rfl) (by kernel_rfl) (by kernel_rfl)
noncomputable abbrev PO_z1 {α:Type} (F_zw:Sg_zw α) (F_zx:Sg_zx α) (F_zp:Sg_zp α) (F_zm:Sg_zm α) (F_zq:Sg_zq α):ORC α:=[(42,.full (B_z5i F_zw F_zx F_zp F_zm F_zq)),(43,.full (B_z5k F_zw F_zx F_zp F_zm F_zq)),(45,.full (B_z5m F_zw F_zx F_zp F_zm F_zq)),(44,.pure (ad_zw F_zw)),(46,.pure (ad_zx F_zx)),(47,.full (ad_zp F_zp)),(48,.pure (ad_zm F_zm)),(49,.full (ad_zq F_zq))]
theorem ok_z1 {α:Type} (F_zw:Sg_zw α) (F_zx:Sg_zx α) (F_zp:Sg_zp α) (F_zm:Sg_zm α) (F_zq:Sg_zq α) (x0:GMachine) (x1:Bool) (k:GMachine→GRetire→R α):bodyL PT_W19 (PO_z1 F_zw F_zx F_zp F_zm F_zq) [] ⟨1,[]⟩ Tryz.f16 (E_z1.encs (x0,x1,()) (fun i=>i) 0) (hp (E_z1.objss (x0,x1,()) (fun i=>i) 0)) (dRo M_z1 Q_z1 true (selN (E_z1.encs (x0,x1,()) (fun i=>i) 0) [0]) (fun y z=>k y.1 z.1))=p_z1 F_zw F_zx F_zp F_zm F_zq x0 x1 k:=by kernel_rfl
theorem mk_z1 {α:Type} {I:Imm} {F_zw:Sg_zw α} {F_zx:Sg_zx α} {F_zp:Sg_zp α} {F_zm:Sg_zm α} {F_zq:Sg_zq α} (h_sync_atomic_AddInt64:OrcOk (α:=α) Tryz.prog I 75 (.ext (xAdd .i64))) (h_sync_atomic_StoreUint64:OrcOk (α:=α) Tryz.prog I 118 (.ext (xStore .u64))) (h_sync_atomic_LoadUint64:OrcOk (α:=α) Tryz.prog I 122 (.ext (xLoad .u64))) (h_zw:OrcOk (α:=α) Tryz.prog I 44 (.pure (ad_zw F_zw))) (h_zx:OrcOk (α:=α) Tryz.prog I 46 (.pure (ad_zx F_zx))) (h_zp:OrcOk (α:=α) Tryz.prog I 47 (.full (ad_zp F_zp))) (h_zm:OrcOk (α:=α) Tryz.prog I 48 (.pure (ad_zm F_zm))) (h_zq:OrcOk (α:=α) Tryz.prog I 49 (.full (ad_zq F_zq))) {F:Sg_z1 α} (hF:∀x0 x1 k r,F x0 x1 k=some r→p_z1 F_zw F_zx F_zp F_zm F_zq x0 x1 k=some r):OrcOk (α:=α) Tryz.prog I 16 (.full (ad_z1 F)):=
  orc_obj PT_W19_ok (O:=PO_z1 F_zw F_zx F_zp F_zm F_zq) (OOk.cons (cB_z5i h_sync_atomic_AddInt64 h_sync_atomic_StoreUint64 h_sync_atomic_LoadUint64 h_zw h_zx h_zp h_zm h_zq) (OOk.cons (cB_z5k h_sync_atomic_AddInt64 h_sync_atomic_StoreUint64 h_sync_atomic_LoadUint64 h_zw h_zx h_zp h_zm h_zq) (OOk.cons (cB_z5m h_sync_atomic_AddInt64 h_sync_atomic_StoreUint64 h_sync_atomic_LoadUint64 h_zw h_zx h_zp h_zm h_zq) (OOk.cons h_zw (OOk.cons h_zx (OOk.cons h_zp (OOk.cons h_zm (OOk.cons h_zq (OOk.nil))))))))) (L:=[]) ⟨1,[]⟩ Tryz.func16 (by kernel_rfl) (by kernel_rfl) (by kernel_rfl) FLOk.nil E_z41 M_z41 Q_z41 rfl (oi:=[0]) fun ⟨x0,x1,()⟩ k r h=>(ok_z1 F_zw F_zx F_zp F_zm F_zq x0 x1 (fun y0 z0=>k (y0,()) (z0,()))).trans (hF x0 x1 _ r h)
noncomputable abbrev PO_z6 {α:Type} (F_z9:Sg_z9 α) (F_zg:Sg_zg α):ORC α:=[(67,.pure (ad_z9 F_z9)),(66,.pure (ad_zg F_zg))]
theorem ok_z6 {α:Type} (F_z9:Sg_z9 α) (F_zg:Sg_zg α) (x0:GState) (k:GState→R α):bodyL PT_W19 (PO_z6 F_z9 F_zg) [] ⟨30,[]⟩ Tryz.f29 [(GState.sv x0)] emp (fun v _=>dR_isa_Clean v k)=p_z6 F_z9 F_zg x0 k:=by kernel_rfl
theorem mk_z6 {α:Type} {I:Imm} {F_z9:Sg_z9 α} {F_zg:Sg_zg α} (h_z9:OrcOk (α:=α) Tryz.prog I 67 (.pure (ad_z9 F_z9))) (h_zg:OrcOk (α:=α) Tryz.prog I 66 (.pure (ad_zg F_zg))):OrcOk (α:=α) Tryz.prog I 29 (.pure (ad_z6 (p_z6 F_z9 F_zg))):=by
  refine orc_pureK PT_W19_ok (O:=PO_z6 F_z9 F_zg) (OOk.cons h_z9 (OOk.cons h_zg (OOk.nil))) (L:=[]) ⟨30,[]⟩ Tryz.func29 (by kernel_rfl) (by kernel_rfl) (by kernel_rfl) FLOk.nil ?_
  intro args k r hk
  unfold ad_z6 at hk
  split at hk<;>try (cases hk; done)
  obtain ⟨x0,rfl,hk0⟩:=GState.dec_spec hk
  have hkz:=hk0
  refine ⟨by simp [Ids,Idss],fun v=>dR_isa_Clean v (fun r0=>k (GState.sv r0)),?_,fun v hv=>?_⟩
  · rw [ok_z6]; exact hkz
  · obtain ⟨r0,rfl,hv1⟩:=dR_isa_Clean_spec hv; exact ⟨hv1,by simp [Ids,Idss]⟩
noncomputable abbrev B_z5n {α:Type}:FF α:=byBody PT_W19 [] ⟨18,[]⟩ Tryz.f68
theorem cB_z5n {α:Type} {I:Imm}:OrcOk (α:=α) Tryz.prog I 68 (.full (B_z5n )):=orc_body PT_W19_ok (OOk.nil) ⟨18,[]⟩ Tryz.func68 (by kernel_rfl) (by kernel_rfl) (by kernel_rfl)
noncomputable abbrev PO_zh {α:Type}:ORC α:=[(68,.full (B_z5n ))]
theorem ok_zh {α:Type}  (x0:Int) (k:Int→R α):bodyL PT_W19 (PO_zh ) [] ⟨18,[]⟩ Tryz.f31 [(.int .i64 x0)] emp (fun v _=>dR_ref8_Mask v k)=p_zh  x0 k:=by kernel_rfl
theorem mk_zh {α:Type} {I:Imm}:OrcOk (α:=α) Tryz.prog I 31 (.pure (ad_zh (p_zh ))):=by
  refine orc_pureK PT_W19_ok (O:=PO_zh ) (OOk.cons (cB_z5n ) (OOk.nil)) (L:=[]) ⟨18,[]⟩ Tryz.func31 (by kernel_rfl) (by kernel_rfl) (by kernel_rfl) FLOk.nil ?_
  intro args k r hk
  unfold ad_zh at hk
  split at hk<;>try (cases hk; done)
  obtain ⟨x0,rfl,hk0⟩:=decI_spec hk
  have hkz:=hk0
  refine ⟨by simp [Ids,Idss],fun v=>dR_ref8_Mask v (fun r0=>k (.int .u64 r0)),?_,fun v hv=>?_⟩
  · rw [ok_zh]; exact hkz
  · obtain ⟨r0,rfl,hv1⟩:=dR_ref8_Mask_spec hv; exact ⟨hv1,by simp [Ids,Idss]⟩
noncomputable abbrev PO_z24 {α:Type}:ORC α:=[]
theorem ok_z24 {α:Type}  (x0:Int) (k:Int→R α):bodyL PT_W19 (PO_z24 ) [] ⟨1,[]⟩ Tryz.f32 [(.int .u64 x0)] emp (fun v _=>dR_ref8_Mpp v k)=p_z24  x0 k:=by kernel_rfl
theorem mk_z24 {α:Type} {I:Imm}:OrcOk (α:=α) Tryz.prog I 32 (.pure (ad_z24 (p_z24 ))):=by
  refine orc_pureK PT_W19_ok (O:=PO_z24 ) (OOk.nil) (L:=[]) ⟨1,[]⟩ Tryz.func32 (by kernel_rfl) (by kernel_rfl) (by kernel_rfl) FLOk.nil ?_
  intro args k r hk
  unfold ad_z24 at hk
  split at hk<;>try (cases hk; done)
  obtain ⟨x0,rfl,hk0⟩:=decI_spec hk
  have hkz:=hk0
  refine ⟨by simp [Ids,Idss],fun v=>dR_ref8_Mpp v (fun r0=>k (.int .u64 r0)),?_,fun v hv=>?_⟩
  · rw [ok_z24]; exact hkz
  · obtain ⟨r0,rfl,hv1⟩:=dR_ref8_Mpp_spec hv; exact ⟨hv1,by simp [Ids,Idss]⟩
noncomputable abbrev PO_zd {α:Type} (F_zh:Sg_zh α) (F_z24:Sg_z24 α):ORC α:=[(31,.pure (ad_zh F_zh)),(32,.pure (ad_z24 F_z24))]
theorem ok_zd {α:Type} (F_zh:Sg_zh α) (F_z24:Sg_z24 α) (x0:GState) (k:GState→R α):bodyL PT_W19 (PO_zd F_zh F_z24) [] ⟨30,[]⟩ Tryz.f13 [(GState.sv x0)] emp (fun v _=>dR_ref18_Clean v k)=p_zd F_zh F_z24 x0 k:=by kernel_rfl
theorem mk_zd {α:Type} {I:Imm} {F_zh:Sg_zh α} {F_z24:Sg_z24 α} (h_zh:OrcOk (α:=α) Tryz.prog I 31 (.pure (ad_zh F_zh))) (h_z24:OrcOk (α:=α) Tryz.prog I 32 (.pure (ad_z24 F_z24))):OrcOk (α:=α) Tryz.prog I 13 (.pure (ad_zd (p_zd F_zh F_z24))):=by
  refine orc_pureK PT_W19_ok (O:=PO_zd F_zh F_z24) (OOk.cons h_zh (OOk.cons h_z24 (OOk.nil))) (L:=[]) ⟨30,[]⟩ Tryz.func13 (by kernel_rfl) (by kernel_rfl) (by kernel_rfl) FLOk.nil ?_
  intro args k r hk
  unfold ad_zd at hk
  split at hk<;>try (cases hk; done)
  obtain ⟨x0,rfl,hk0⟩:=GState.dec_spec hk
  have hkz:=hk0
  refine ⟨by simp [Ids,Idss],fun v=>dR_ref18_Clean v (fun r0=>k (GState.sv r0)),?_,fun v hv=>?_⟩
  · rw [ok_zd]; exact hkz
  · obtain ⟨r0,rfl,hv1⟩:=dR_ref18_Clean_spec hv; exact ⟨hv1,by simp [Ids,Idss]⟩
end Go.Proofs.YtepdlgehceipjaaGreat
