/-
  The shadow interpreter of Go code, with its proofs (three texts).
-/
import Derived.Below
import Derived.Deep.Quiet
import Derived.KernelRfl
import Derived.WalkKit
import Derived.Laws.CopyRow
import Derived.Laws.Small
import Derived.Laws.BytesArg
import Derived.ChangeKeysEq
import Derived.MapKept
import Derived.Deep.AppendSrc
set_option linter.unusedSimpArgs false
set_option linter.unusedVariables false
namespace Go.Sh
open Go
inductive TD where
  | int (k:IntKind)
  | bool
  | str
  | st (l:List TD)
  | ints (n:Nat) (k:IntKind)
  | sl (e:TD)
mutual
def TD.size : TD→Nat
  | .int _=>1
  | .bool=>1
  | .str=>1
  | .st l=>tdSizes l
  | .ints n _=>n
  | .sl _=>1
def tdSizes : List TD→Nat
  | []=>0
  | d::l=>d.size+ tdSizes l
end
mutual
def TD.Val : TD→Type
  | .int _=>Int
  | .bool=>Bool
  | .str=>ByteArray
  | .st l=>tdVals l
  | .ints _ _=>Nat→Int
  | .sl e=>Bool × Addr × Nat × Nat × (Nat→e.Val)
def tdVals : List TD→Type
  | []=>Unit
  | d::l=>d.Val × tdVals l
end
mutual
def TD.dflt : (d:TD)→d.Val
  | .int _=>(0:Int)
  | .bool=>false
  | .str=>ByteArray.empty
  | .st l=>tdDflt l
  | .ints _ _=>fun _=>(0:Int)
  | .sl e=>(true,⟨0,0,none⟩,0,0,fun _=>e.dflt)
def tdDflt : (l:List TD)→tdVals l
  | []=>()
  | d::l=>(d.dflt,tdDflt l)
end
end Go.Sh
namespace Go.Sh
open Go
inductive Step where
  | fld (i off:Nat)
  | idx (i size:Nat)
abbrev Path :=List Step
def Step.off : Step→Nat
  | .fld _ o=>o
  | .idx i s=>i * s
def offOf : Path→Nat
  | []=>0
  | s::p=>s.off+ offOf p
inductive SV where
  | bool (b:Bool)
  | int (k:IntKind) (n:Int)
  | str (s:ByteArray)
  | ptr (b:Nat) (p:Path)
  | nilp
  | slc (b:Nat) (p:Path) (size off len:Nat) (cap:Option Nat)
  /-- a row that may be nil (where its place is; it has no elements then) -/
  | oslc (b size len:Nat)
  | nils
  | vptr (a:Addr) (v:SV)
  | vslc (d:TD) (nl:Bool) (a:Addr) (len cap:Nat) (f:Nat→d.Val)
  | fn (f:Fn) (first captured:List SV)
  | nilfn
  | map (b:Nat)
  | nilmap
  | nilifc
  | ints (k:IntKind) (n:Nat) (f:Nat→Int)
  | bools (n:Nat) (f:Nat→Bool)
  | arr (size n:Nat) (f:Nat→SV)
  | agg (l:List SV)
  | tuple (l:List SV)
def SV.isAgg : SV→Bool
  | .ints .. | .bools .. | .arr .. | .agg ..=>true
  | _=>false
def SV.isTuple : SV→Bool
  | .tuple _=>true
  | _=>false
mutual
def SV.size : SV→Nat
  | .ints _ n _=>n
  | .bools n _=>n
  | .arr s n _=>n * s
  | .agg l=>sizes l
  | .tuple _=>0
  | _=>1
def sizes : List SV→Nat
  | []=>0
  | v::l=>v.size+ sizes l
end
structure Pl where
  blk:Nat
  base:Nat
  cap:Nat
  /-- it lies nowhere: a row of no elements that is nil -/
  nil:Bool:=false
theorem beq_ne {i j:Nat} (h:j ≠ i):Nat.beq j i=false:=by
  cases e:Nat.beq j i
  · rfl
  · exact absurd (Nat.eq_of_beq_eq_true e) h
def fit (s:Nat) (l:List Value):List Value:=(l++ List.replicate s (Value.bool false)).take s
def pack (g:Bool) (cs:List Value):Value:=bif g then .agg cs.toArray else cs.headD undef
mutual
def cells (ρ:Nat→Pl):SV→List Value
  | .bool b=>[.bool b]
  | .int k n=>[.int k n]
  | .str s=>[.string s]
  | .ptr b p=>[.pointer (some ⟨(ρ b).blk,(ρ b).base+ offOf p,none⟩)]
  | .nilp=>[.pointer none]
  | .slc b p s o n c=>[.slice (some ⟨(ρ b).blk,(ρ b).base+ (offOf p+ o * s),none⟩) n (match c with | some c=>c | none=>(ρ b).cap - o)]
  | .oslc b _ n=>[bif (ρ b).nil && Nat.beq n 0 then .slice none 0 0 else .slice (some ⟨(ρ b).blk,(ρ b).base,none⟩) n (ρ b).cap]
  | .nils=>[.slice none 0 0]
  | .vptr a _=>[.pointer (some a)]
  | .vslc _ nl a n c _=>[bif nl then .slice none 0 0 else .slice (some a) n c]
  | .fn f a c=>[.func f (vals ρ a).toArray (vals ρ c).toArray]
  | .nilfn=>[.nilFunc]
  | .map b=>[.map (some (ρ b).blk)]
  | .nilmap=>[.map none]
  | .nilifc=>[.nilIface]
  | .ints k n f=>(List.range n).map fun i=>.int k (f i)
  | .bools n f=>(List.range n).map fun i=>.bool (f i)
  | .arr s n f=>(List.range n).flatMap fun i=>fit s (cells ρ (f i))
  | .agg l=>cellss ρ l
  | .tuple _=>[]
def cellss (ρ:Nat→Pl):List SV→List Value
  | []=>[]
  | v::l=>cells ρ v++ cellss ρ l
def vals (ρ:Nat→Pl):List SV→List Value
  | []=>[]
  | .tuple l::r=>.tuple (vals ρ l).toArray::vals ρ r
  | v::l=>pack v.isAgg (cells ρ v)::vals ρ l
end
def val (ρ:Nat→Pl):SV→Value
  | .tuple l=>.tuple (vals ρ l).toArray
  | v=>pack v.isAgg (cells ρ v)
theorem vals_eq (ρ:Nat→Pl):∀l,vals ρ l=l.map (val ρ)
  | []=>by simp [vals]
  | v::l=>by cases v<;>simp [vals,val,vals_eq ρ l]
theorem fit_length (s:Nat) (l:List Value):(fit s l).length=s:=by simp [fit]
theorem fit_same (s:Nat) (l:List Value) (h:l.length=s):fit s l=l:=by
  subst h; simp [fit]
mutual
theorem cells_length (ρ:Nat→Pl):∀v:SV,(cells ρ v).length=v.size
  | .bool _ | .int .. | .str _ | .ptr .. | .nilp | .slc .. | .oslc .. | .nils | .vptr .. | .vslc .. | .nilfn | .map _ | .nilmap | .nilifc=>by simp [cells,SV.size]
  | .fn ..=>by simp [cells,SV.size]
  | .ints ..=>by simp [cells,SV.size]
  | .bools ..=>by simp [cells,SV.size]
  | .arr s n f=>by
    simp only [cells,SV.size]
    induction n with
    | zero=>simp
    | succ n ih=>simp only [List.range_succ,List.flatMap_append,List.length_append,ih,List.flatMap_cons,List.flatMap_nil,List.append_nil,fit_length]; rw [Nat.succ_mul]
  | .agg l=>by simp only [cells,SV.size]; exact cellss_length ρ l
  | .tuple _=>by simp [cells,SV.size]
theorem cellss_length (ρ:Nat→Pl):∀l:List SV,(cellss ρ l).length=sizes l
  | []=>by simp [cellss,sizes]
  | v::l=>by simp [cellss,sizes,cells_length ρ v,cellss_length ρ l]
end
theorem val_cells (ρ:Nat→Pl) {v:SV} (h:v.isTuple=false):(val ρ v).cells=(cells ρ v).toArray:=by
  cases v
  case vslc _ nl _ _ _ _=>cases nl<;>rfl
  case oslc b _ n=>simp only [val,pack,SV.isAgg,cells]; cases ((ρ b).nil && Nat.beq n 0)<;>rfl
  all_goals simp [val,pack,SV.isAgg,SV.isTuple,cells,Value.cells] at *
theorem val_scalar (ρ:Nat→Pl) {v:SV} (h:v.isTuple=false) (g:v.isAgg=false):cells ρ v=[val ρ v]:=by
  cases v<;>simp [val,pack,SV.isAgg,SV.isTuple,cells] at *
theorem val_agg (ρ:Nat→Pl) {v:SV} (g:v.isAgg=true):val ρ v=.agg (cells ρ v).toArray:=by
  cases v<;>simp [val,pack,SV.isAgg] at *
def flatV : Value→Bool
  | .agg _ | .tuple _=>false
  | _=>true
mutual
theorem cells_flat (ρ:Nat→Pl):∀(v:SV) (x:Value),x ∈ cells ρ v→flatV x=true
  | .bool _,x,h | .int ..,x,h | .str _,x,h | .ptr ..,x,h | .nilp,x,h | .slc ..,x,h | .nils,x,h | .vptr ..,x,h | .nilfn,x,h | .map _,x,h | .nilmap,x,h | .nilifc,x,h=>by
    simp [cells] at h; subst h; simp [flatV]
  | .oslc b _ n,x,h=>by simp only [cells,List.mem_singleton] at h; subst h; cases ((ρ b).nil && Nat.beq n 0)<;>rfl
  | .vslc _ nl ..,x,h=>by simp only [cells,List.mem_singleton] at h; subst h; cases nl<;>rfl
  | .fn ..,x,h=>by simp [cells] at h; subst h; simp [flatV]
  | .ints ..,x,h=>by simp [cells] at h; obtain ⟨_,_,rfl⟩:=h; simp [flatV]
  | .bools ..,x,h=>by simp [cells] at h; obtain ⟨_,_,rfl⟩:=h; simp [flatV]
  | .arr s n f,x,h=>by
    simp only [cells,List.mem_flatMap] at h
    obtain ⟨i,_,h⟩:=h
    have:=List.mem_of_mem_take h
    rcases List.mem_append.1 this with h | h
    · exact cells_flat ρ (f i) x h
    · rw [List.eq_of_mem_replicate h]; rfl
  | .agg l,x,h=>by simp only [cells] at h; exact cellss_flat ρ l x h
  | .tuple _,x,h=>by simp [cells] at h
theorem cellss_flat (ρ:Nat→Pl):∀(l:List SV) (x:Value),x ∈ cellss ρ l→flatV x=true
  | [],x,h=>by simp [cellss] at h
  | v::l,x,h=>by
    simp only [cellss,List.mem_append] at h
    rcases h with h | h
    · exact cells_flat ρ v x h
    · exact cellss_flat ρ l x h
end
theorem flat_get (s n:Nat) (g:Nat→List Value) (hg:∀i,(g i).length=s) (i j:Nat) (hi:i < n) (hj:j < s):
    ((List.range n).flatMap g)[i * s+ j]?=(g i)[j]?:=by
  induction n with
  | zero=>omega
  | succ n ih=>
    have hlen:((List.range n).flatMap g).length=n * s:=by
      clear ih hi
      induction n with
      | zero=>simp
      | succ n ih=>simp only [List.range_succ,List.flatMap_append,List.length_append,ih,List.flatMap_cons,List.flatMap_nil,List.append_nil,hg]; rw [Nat.succ_mul]
    simp only [List.range_succ,List.flatMap_append,List.flatMap_cons,List.flatMap_nil,List.append_nil]
    by_cases hin:i < n
    · rw [List.getElem?_append_left (by rw [hlen]; have:=Nat.mul_le_mul_right s (Nat.succ_le_of_lt hin); rw [Nat.succ_mul] at this; omega)]
      exact ih hin
    · have:i=n:=by omega
      subst this
      rw [List.getElem?_append_right (by rw [hlen]; omega),hlen]
      congr 1; omega
abbrev Imm :=Nat→Option Obj
def VOk (I:Imm) (a:Addr) (v:SV):Prop:=
  a.spot=none∧∃c T fz,I a.block=some (.cells c T fz)∧∀ρ j,j < v.size→c[a.off+ j]?=(cells ρ v)[j]?
mutual
def TD.sv : (d:TD)→d.Val→SV
  | .int k,n=>.int k n
  | .bool,b=>.bool b
  | .str,s=>.str s
  | .st l,vs=>.agg (tdSvs l vs)
  | .ints n k,f=>.ints k n f
  | .sl e,(nl,a,len,cap,f)=>.vslc e nl a len cap f
def tdSvs : (l:List TD)→tdVals l→List SV
  | [],_=>[]
  | d::l,(v,vs)=>d.sv v::tdSvs l vs
end
mutual
theorem sv_size : ∀(d:TD) (x:d.Val),(d.sv x).size=d.size
  | .int _,_=>rfl
  | .bool,_=>rfl
  | .str,_=>rfl
  | .st l,vs=>by simp only [TD.sv,SV.size,TD.size]; exact svs_size l vs
  | .ints _ _,_=>rfl
  | .sl _,(_,_,_,_,_)=>rfl
theorem svs_size : ∀(l:List TD) (vs:tdVals l),sizes (tdSvs l vs)=tdSizes l
  | [],_=>rfl
  | d::l,(v,vs)=>by simp only [tdSvs,sizes,tdSizes,sv_size d v,svs_size l vs]
end
mutual
def VW (I:Imm):(d:TD)→d.Val→Prop
  | .int _,_=>True
  | .bool,_=>True
  | .str,_=>True
  | .st l,vs=>VWs I l vs
  | .ints _ _,_=>True
  | .sl e,(nl,a,len,cap,f)=>(nl=true→len=0∧cap=0)∧len≤cap∧(0 < cap→a.spot=none)∧∀i,i < len→VOk I ⟨a.block,a.off+ i * e.size,none⟩ (e.sv (f i))∧VW I e (f i)
def VWs (I:Imm):(l:List TD)→tdVals l→Prop
  | [],_=>True
  | d::l,(v,vs)=>VW I d v∧VWs I l vs
end
mutual
def Wf (I:Imm):(Nat→Prop)→SV→Prop
  | n,.ptr b _=>n b
  | n,.slc b _ _ _ _ _=>n b
  | n,.oslc b _ _=>n b
  | n,.map b=>n b
  | _,.vptr a v=>VOk I a v∧Wf I (fun _=>False) v
  | _,.vslc d nl a len cap f=>VW I (.sl d) (nl,a,len,cap,f)
  | n,.fn _ a c=>Wfs I n a∧Wfs I n c
  | n,.arr _ m f=>∀i,i < m→Wf I n (f i)
  | n,.agg l=>Wfs I n l
  | n,.tuple l=>Wfs I n l
  | _,_=>True
def Wfs (I:Imm):(Nat→Prop)→List SV→Prop
  | _,[]=>True
  | n,v::l=>Wf I n v∧Wfs I n l
end
mutual
theorem wf_sv {I:Imm} {n:Nat→Prop}:∀(d:TD) (x:d.Val),Wf I n (d.sv x) ↔ VW I d x
  | .int _,_=>by simp [TD.sv,Wf,VW]
  | .bool,_=>by simp [TD.sv,Wf,VW]
  | .str,_=>by simp [TD.sv,Wf,VW]
  | .st l,vs=>by simp only [TD.sv,Wf,VW]; exact wfs_svs l vs
  | .ints _ _,_=>by simp [TD.sv,Wf,VW]
  | .sl _,(_,_,_,_,_)=>by simp only [TD.sv,Wf]
theorem wfs_svs {I:Imm} {n:Nat→Prop}:∀(l:List TD) (vs:tdVals l),Wfs I n (tdSvs l vs) ↔ VWs I l vs
  | [],_=>by simp [tdSvs,Wfs,VWs]
  | d::l,(v,vs)=>by simp only [tdSvs,Wfs,VWs,wf_sv d v,wfs_svs l vs]
end
theorem wfs_iff {I:Imm} {n:Nat→Prop}:∀{l:List SV},Wfs I n l ↔ ∀v ∈ l,Wf I n v
  | []=>by simp [Wfs]
  | v::l=>by simp [Wfs,wfs_iff (l:=l)]
mutual
theorem Wf.mono {I:Imm} {n m:Nat→Prop} (h:∀b,n b→m b):∀{v:SV},Wf I n v→Wf I m v
  | .bool _,_ | .int ..,_ | .str _,_ | .nilp,_ | .nils,_ | .nilfn,_ | .nilmap,_ | .nilifc,_ | .ints ..,_ | .bools ..,_=>by simp [Wf]
  | .ptr ..,g=>by simp only [Wf] at *; exact h _ g
  | .slc ..,g=>by simp only [Wf] at *; exact h _ g
  | .oslc ..,g=>by simp only [Wf] at *; exact h _ g
  | .map _,g=>by simp only [Wf] at *; exact h _ g
  | .vptr a v,g=>by simp only [Wf] at *; exact g
  | .vslc d nl a len cap f,g=>by simp only [Wf] at *; exact g
  | .fn _ a c,g=>by simp only [Wf] at *; exact ⟨Wfs.mono h g.1,Wfs.mono h g.2⟩
  | .arr _ _ f,g=>by simp only [Wf] at *; exact fun i hi=>Wf.mono h (g i hi)
  | .agg l,g=>by simp only [Wf] at *; exact Wfs.mono h g
  | .tuple l,g=>by simp only [Wf] at *; exact Wfs.mono h g
theorem Wfs.mono {I:Imm} {n m:Nat→Prop} (h:∀b,n b→m b):∀{l:List SV},Wfs I n l→Wfs I m l
  | [],_=>by simp [Wfs]
  | v::l,g=>by simp only [Wfs] at *; exact ⟨Wf.mono h g.1,Wfs.mono h g.2⟩
end
mutual
theorem cells_congr {I:Imm} {n:Nat→Prop} {ρ ρ':Nat→Pl} (h:∀b,n b→ρ' b=ρ b):∀{v:SV},Wf I n v→cells ρ' v=cells ρ v
  | .bool _,_ | .int ..,_ | .str _,_ | .nilp,_ | .nils,_ | .nilfn,_ | .nilmap,_ | .nilifc,_ | .ints ..,_ | .bools ..,_ | .vptr ..,_ | .vslc ..,_ | .tuple _,_=>by simp [cells]
  | .ptr ..,g=>by simp only [Wf] at g; simp [cells,h _ g]
  | .slc ..,g=>by simp only [Wf] at g; simp [cells,h _ g]
  | .oslc ..,g=>by simp only [Wf] at g; simp [cells,h _ g]
  | .map _,g=>by simp only [Wf] at g; simp [cells,h _ g]
  | .fn _ a c,g=>by simp only [Wf] at g; simp only [cells,vals_congr h g.1,vals_congr h g.2]
  | .arr s n' f,g=>by
    simp only [Wf] at g
    simp only [cells,List.flatMap_def]
    congr 1
    apply List.map_congr_left
    intro i hi
    rw [cells_congr h (g i (List.mem_range.1 hi))]
  | .agg l,g=>by simp only [Wf] at g; simp only [cells]; exact cellss_congr h g
theorem cellss_congr {I:Imm} {n:Nat→Prop} {ρ ρ':Nat→Pl} (h:∀b,n b→ρ' b=ρ b):∀{l:List SV},Wfs I n l→cellss ρ' l=cellss ρ l
  | [],_=>by simp [cellss]
  | v::l,g=>by simp only [Wfs] at g; simp only [cellss,cells_congr h g.1,cellss_congr h g.2]
theorem vals_congr {I:Imm} {n:Nat→Prop} {ρ ρ':Nat→Pl} (h:∀b,n b→ρ' b=ρ b):∀{l:List SV},Wfs I n l→vals ρ' l=vals ρ l
  | [],_=>by simp [vals]
  | .tuple l::r,g=>by simp only [Wfs,Wf] at g; simp only [vals,vals_congr h g.1,vals_congr h g.2]
  | .bool _::r,g | .int ..::r,g | .str _::r,g | .ptr ..::r,g | .nilp::r,g | .slc ..::r,g | .oslc ..::r,g | .nils::r,g | .vptr ..::r,g | .vslc ..::r,g | .nilfn::r,g | .map _::r,g | .nilmap::r,g | .nilifc::r,g | .ints ..::r,g | .bools ..::r,g | .arr ..::r,g | .agg _::r,g | .fn ..::r,g=>by
    simp only [Wfs] at g
    simp only [vals,vals_congr h g.2,cells_congr h g.1]
end
theorem val_congr {I:Imm} {n:Nat→Prop} {ρ ρ':Nat→Pl} (h:∀b,n b→ρ' b=ρ b) {v:SV} (g:Wf I n v):val ρ' v=val ρ v:=by
  have:=vals_congr (I:=I) h (l:=[v]) (by simp [Wfs,g])
  simpa [vals_eq] using this
abbrev R (α:Type):=Option α
def nth {α β:Type}:List α→Nat→(α→R β)→R β
  | [],_,_=>none
  | v::_,0,k=>k v
  | _::l,i+ 1,k=>nth l i k
def preLen : List SV→Nat→Nat
  | _,0=>0
  | [],_=>0
  | v::l,i+ 1=>v.size+ preLen l i
def sub {α:Type}:SV→Path→(SV→R α)→R α
  | v,[],k=>k v
  | .agg l,.fld i o::p,k=>bif Nat.beq (preLen l i) o then nth l i fun v=>sub v p k else none
  | .ints kd n f,[.idx i s],k=>bif Nat.beq s 1 then bif decide (i < n) then k (.int kd (f i)) else none else none
  | .bools n f,[.idx i s],k=>bif Nat.beq s 1 then bif decide (i < n) then k (.bool (f i)) else none else none
  | .arr s' n f,.idx i s::p,k=>bif Nat.beq s s' then bif Nat.beq (f i).size s then bif decide (i < n) then sub (f i) p k else none else none else none
  | _,_,_=>none
theorem bif_some {α:Type} {b:Bool} {x:R α} {r:α} (h:(bif b then x else none)=some r):b=true∧x=some r:=by
  cases b
  · simp at h
  · exact ⟨rfl,h⟩
theorem nth_spec {α β:Type} {k:α→R β} {r:β}:∀{l:List α} {i:Nat},nth l i k=some r→∃v,l[i]?=some v∧k v=some r
  | [],i,h=>by simp [nth] at h
  | v::l,0,h=>⟨v,by simp,by simpa [nth] using h⟩
  | v::l,i+ 1,h=>by
    obtain ⟨u,h1,h2⟩:=nth_spec (l:=l) (i:=i) (by simpa [nth] using h)
    exact ⟨u,by simpa using h1,h2⟩
theorem cellss_at (ρ:Nat→Pl):∀{l:List SV} {i:Nat} {v:SV},l[i]?=some v→preLen l i+ v.size≤sizes l∧∀j,j < v.size→(cellss ρ l)[preLen l i+ j]?=(cells ρ v)[j]?
  | [],i,v,h=>by simp at h
  | u::l,0,v,h=>by
    simp at h; subst h
    refine ⟨by simp [preLen,sizes],fun j hj=>?_⟩
    simp only [preLen,cellss,Nat.zero_add]
    rw [List.getElem?_append_left (by rw [cells_length]; exact hj)]
  | u::l,i+ 1,v,h=>by
    obtain ⟨h1,h2⟩:=cellss_at ρ (l:=l) (i:=i) (v:=v) (by simpa using h)
    refine ⟨by simp only [preLen,sizes]; omega,fun j hj=>?_⟩
    simp only [preLen,cellss]
    rw [List.getElem?_append_right (by rw [cells_length]; omega),cells_length,← h2 j hj]
    congr 1; omega
def Lies (v:SV) (o:Nat) (u:SV):Prop:=o+ u.size≤v.size∧∀ρ j,j < u.size→(cells ρ v)[o+ j]?=(cells ρ u)[j]?
theorem Lies.refl (v:SV):Lies v 0 v:=⟨by simp,fun ρ j _=>by simp⟩
theorem Lies.trans {v u x:SV} {o q:Nat} (h:Lies v o u) (g:Lies u q x):Lies v (o+ q) x:=
  ⟨by have:=h.1; have:=g.1; omega,fun ρ j hj=>by
    have:=g.1
    rw [← g.2 ρ j hj,← h.2 ρ (q+ j) (by omega)]; congr 1; omega⟩
theorem lies_fld {l:List SV} {i:Nat} {v:SV} (h:l[i]?=some v):Lies (.agg l) (preLen l i) v:=
  ⟨by simp only [SV.size]; exact (cellss_at (fun _=>⟨0,0,0,false⟩) h).1,fun ρ j hj=>by simp only [cells]; exact (cellss_at ρ h).2 j hj⟩
theorem lies_ints {kd:IntKind} {n i:Nat} {f:Nat→Int} (h:i < n):Lies (.ints kd n f) i (.int kd (f i)):=
  ⟨by simp [SV.size]; omega,fun ρ j hj=>by
    simp only [SV.size] at hj
    have:j=0:=by omega
    subst this
    simp [cells,h]⟩
theorem lies_bools {n i:Nat} {f:Nat→Bool} (h:i < n):Lies (.bools n f) i (.bool (f i)):=
  ⟨by simp [SV.size]; omega,fun ρ j hj=>by
    simp only [SV.size] at hj
    have:j=0:=by omega
    subst this
    simp [cells,h]⟩
theorem lies_arr {s n i:Nat} {f:Nat→SV} (h:i < n) (hs:(f i).size=s):Lies (.arr s n f) (i * s) (f i):=by
  refine ⟨?_,fun ρ j hj=>?_⟩
  · simp only [SV.size,hs]
    have:=Nat.mul_le_mul_right s (Nat.succ_le_of_lt h); rw [Nat.succ_mul] at this; omega
  · simp only [cells]
    rw [flat_get s n _ (fun i=>fit_length _ _) i j h (by omega),fit_same s _ (by rw [cells_length,hs])]
theorem sub_spec {α:Type} {k:SV→R α} {r:α}:∀{p:Path} {v:SV},sub v p k=some r→∃u,k u=some r∧Lies v (offOf p) u∧∀I n,Wf I n v→Wf I n u
  | [],v,h=>⟨v,by cases v<;>simpa [sub] using h,.refl v,fun _ _ h=>h⟩
  | .fld i o::p,v,h=>by
    cases v<;>simp only [sub] at h<;>try (simp at h; done)
    rename_i l
    obtain ⟨h1,h2⟩:=bif_some h
    obtain ⟨u,hu,h3⟩:=nth_spec h2
    obtain ⟨x,hx,h4,h5⟩:=sub_spec (p:=p) h3
    have:preLen l i=o:=by simpa using h1
    subst this
    exact ⟨x,hx,(lies_fld hu).trans h4,fun I n hw=>h5 I n (wfs_iff.1 (by simpa only [Wf] using hw) _ (List.mem_of_getElem? hu))⟩
  | .idx i s::p,v,h=>by
    cases v
    case ints kd n f=>
      cases p
      · simp only [sub] at h
        obtain ⟨h1,h2⟩:=bif_some h
        obtain ⟨h3,h4⟩:=bif_some h2
        have:s=1:=by simpa using h1
        subst this
        refine ⟨_,h4,?_,fun _ _ _=>by simp [Wf]⟩
        have:=lies_ints (kd:=kd) (f:=f) (of_decide_eq_true h3)
        simpa [offOf,Step.off] using this
      · simp [sub] at h
    case bools n f=>
      cases p
      · simp only [sub] at h
        obtain ⟨h1,h2⟩:=bif_some h
        obtain ⟨h3,h4⟩:=bif_some h2
        have:s=1:=by simpa using h1
        subst this
        refine ⟨_,h4,?_,fun _ _ _=>by simp [Wf]⟩
        have:=lies_bools (f:=f) (of_decide_eq_true h3)
        simpa [offOf,Step.off] using this
      · simp [sub] at h
    case arr s' n f=>
      have h':(bif Nat.beq s s' then bif Nat.beq (f i).size s then bif decide (i < n) then sub (f i) p k else none else none else none)=some r:=by
        cases p<;>simpa only [sub] using h
      obtain ⟨h1,h2⟩:=bif_some h'
      obtain ⟨h3,h4⟩:=bif_some h2
      obtain ⟨h5,h6⟩:=bif_some h4
      obtain ⟨x,hx,h7,h8⟩:=sub_spec h6
      have e2:s=s':=by simpa using h1
      have e3:(f i).size=s:=by simpa using h3
      subst e2
      exact ⟨x,hx,(lies_arr (of_decide_eq_true h5) e3).trans h7,fun I n hw=>h8 I n ((by simpa only [Wf] using hw:∀i,i < _→Wf I n (f i)) i (of_decide_eq_true h5))⟩
    all_goals (cases p<;>simp [sub] at h)
def upd {β:Type} (f:Nat→β) (i:Nat) (x:β):Nat→β:=fun j=>bif Nat.beq j i then x else f j
def setNth {α:Type}:List SV→Nat→(SV→(SV→R α)→R α)→(List SV→R α)→R α
  | [],_,_,_=>none
  | v::l,0,g,k=>g v fun v=>k (v::l)
  | v::l,i+ 1,g,k=>setNth l i g fun l=>k (v::l)
def setSub {α:Type}:SV→Path→SV→(SV→R α)→R α
  | v,[],x,k=>bif Nat.beq v.size x.size && !x.isTuple then k x else none
  | .agg l,.fld i o::p,x,k=>bif Nat.beq (preLen l i) o then setNth l i (fun v k=>setSub v p x k) fun l=>k (.agg l) else none
  | .ints kd n f,[.idx i s],.int kd' x,k=>bif Nat.beq s 1 && decide (kd=kd') then bif decide (i < n) then k (.ints kd n (upd f i x)) else none else none
  | .bools n f,[.idx i s],.bool x,k=>bif Nat.beq s 1 then bif decide (i < n) then k (.bools n (upd f i x)) else none else none
  | .arr s' n f,.idx i s::p,x,k=>bif Nat.beq s s' then bif Nat.beq (f i).size s then bif decide (i < n) then setSub (f i) p x fun y=>k (.arr s n (upd f i y)) else none else none else none
  | _,_,_,_=>none
structure Written (v:SV) (o:Nat) (x u:SV):Prop where
  size:u.size=v.size
  room:o+ x.size≤v.size
  new:∀ρ j,j < x.size→(cells ρ u)[o+ j]?=(cells ρ x)[j]?
  old:∀ρ j,j < o∨o+ x.size≤j→(cells ρ u)[j]?=(cells ρ v)[j]?
theorem Written.whole {v x:SV} (h:v.size=x.size):Written v 0 x x:=
  ⟨h.symm,by omega,fun ρ j _=>by simp,fun ρ j hj=>by
    rw [List.getElem?_eq_none (by rw [cells_length]; omega),List.getElem?_eq_none (by rw [cells_length]; omega)]⟩
theorem cellss_set (ρ:Nat→Pl):∀{l:List SV} {i:Nat} {v u:SV},l[i]?=some v→u.size=v.size→
    sizes (l.set i u)=sizes l∧preLen (l.set i u) i=preLen l i∧(∀j,j < preLen l i∨preLen l i+ v.size≤j→(cellss ρ (l.set i u))[j]?=(cellss ρ l)[j]?)
  | [],i,v,u,h,_=>by simp at h
  | y::l,0,v,u,h,hs=>by
    simp at h; subst h
    refine ⟨by simp [sizes,hs],rfl,fun j hj=>?_⟩
    simp only [preLen] at hj
    simp only [List.set_cons_zero,cellss]
    rw [List.getElem?_append_right (by rw [cells_length]; omega),List.getElem?_append_right (by rw [cells_length]; omega),cells_length,cells_length,hs]
  | y::l,i+ 1,v,u,h,hs=>by
    obtain ⟨h1,h2,h3⟩:=cellss_set ρ (l:=l) (i:=i) (v:=v) (u:=u) (by simpa using h) hs
    refine ⟨by simp [sizes,h1],by simp [preLen,h2],fun j hj=>?_⟩
    simp only [preLen] at hj
    simp only [List.set_cons_succ,cellss]
    by_cases hj':j < y.size
    · rw [List.getElem?_append_left (by rw [cells_length]; omega),List.getElem?_append_left (by rw [cells_length]; omega)]
    · rw [List.getElem?_append_right (by rw [cells_length]; omega),List.getElem?_append_right (by rw [cells_length]; omega),cells_length,h3 _ (by omega)]
theorem setNth_spec {α:Type} {g:SV→(SV→R α)→R α} {k:List SV→R α} {r:α}:∀{l:List SV} {i:Nat},setNth l i g k=some r→
    ∃(v:SV) (k':SV→R α),l[i]?=some v∧g v k'=some r∧∀u,k' u=k (l.set i u)
  | [],i,h=>by simp [setNth] at h
  | v::l,0,h=>⟨v,_,by simp,by simpa [setNth] using h,fun u=>by simp⟩
  | v::l,i+ 1,h=>by
    obtain ⟨u,k',h1,h2,h3⟩:=setNth_spec (l:=l) (i:=i) (by simpa [setNth] using h)
    exact ⟨u,k',by simpa using h1,h2,fun y=>by simpa using h3 y⟩
theorem written_fld {l:List SV} {i o:Nat} {v x u:SV} (h:l[i]?=some v) (hw:Written v o x u):Written (.agg l) (preLen l i+ o) x (.agg (l.set i u)):=by
  have hl:=lies_fld h
  have hi:i < l.length:=(List.getElem?_eq_some_iff.1 h).1
  have hu:(l.set i u)[i]?=some u:=by simp [hi]
  have hl':=lies_fld hu
  have e0:=fun ρ=>cellss_set ρ h hw.size
  have e2:=(e0 (fun _=>⟨0,0,0,false⟩)).2.1
  rw [e2] at hl'
  refine ⟨by simp only [SV.size]; exact (e0 (fun _=>⟨0,0,0,false⟩)).1,by have:=hl.1; have:=hw.room; omega,fun ρ j hj=>?_,fun ρ j hj=>?_⟩
  · rw [← hw.new ρ j hj,← hl'.2 ρ (o+ j) (by have:=hw.room; have:=hw.size; omega)]
    congr 1; omega
  · by_cases hc:j < preLen l i∨preLen l i+ v.size≤j
    · simp only [cells]; exact (e0 ρ).2.2 j hc
    · have hj2:preLen l i+ (j - preLen l i)=j:=by omega
      have h1:=hl'.2 ρ (j - preLen l i) (by have:=hw.size; omega)
      have h2:=hl.2 ρ (j - preLen l i) (by omega)
      rw [hj2] at h1 h2
      rw [h1,h2]
      exact hw.old ρ _ (by omega)
theorem written_ints {kd:IntKind} {n i:Nat} {f:Nat→Int} {x:Int} (h:i < n):Written (.ints kd n f) i (.int kd x) (.ints kd n (upd f i x)):=by
  refine ⟨by simp [SV.size],by simp [SV.size]; omega,fun ρ j hj=>?_,fun ρ j hj=>?_⟩
  · simp only [SV.size] at hj
    have:j=0:=by omega
    subst this
    simp [cells,h,upd]
  · simp only [SV.size] at hj
    have hne:j ≠ i:=by omega
    rcases Nat.lt_or_ge j n with h' | h'<;>simp [cells,upd,beq_ne hne,h']
theorem written_bools {n i:Nat} {f:Nat→Bool} {x:Bool} (h:i < n):Written (.bools n f) i (.bool x) (.bools n (upd f i x)):=by
  refine ⟨by simp [SV.size],by simp [SV.size]; omega,fun ρ j hj=>?_,fun ρ j hj=>?_⟩
  · simp only [SV.size] at hj
    have:j=0:=by omega
    subst this
    simp [cells,h,upd]
  · simp only [SV.size] at hj
    have hne:j ≠ i:=by omega
    rcases Nat.lt_or_ge j n with h' | h'<;>simp [cells,upd,beq_ne hne,h']
theorem written_arr {s n i o:Nat} {f:Nat→SV} {x u:SV} (h:i < n) (hs:(f i).size=s) (hw:Written (f i) o x u):Written (.arr s n f) (i * s+ o) x (.arr s n (upd f i u)):=by
  have hus:upd f i u i=u:=by simp [upd]
  have hl:=lies_arr (f:=f) h hs
  have hl':=lies_arr (f:=upd f i u) (s:=s) h (by rw [hus,hw.size,hs])
  rw [hus] at hl'
  have hm:=Nat.mul_le_mul_right s (Nat.succ_le_of_lt h)
  rw [Nat.succ_mul] at hm
  refine ⟨by simp [SV.size],by have:=hw.room; simp only [SV.size]; omega,fun ρ j hj=>?_,fun ρ j hj=>?_⟩
  · rw [← hw.new ρ j hj,← hl'.2 ρ (o+ j) (by have:=hw.room; have:=hw.size; omega)]
    congr 1; omega
  · by_cases hc:i * s≤j∧j < i * s+ s
    · have hj2:i * s+ (j - i * s)=j:=by omega
      have h1:=hl'.2 ρ (j - i * s) (by have:=hw.size; omega)
      have h2:=hl.2 ρ (j - i * s) (by omega)
      rw [hj2] at h1 h2
      rw [h1,h2]
      exact hw.old ρ _ (by omega)
    · rcases Nat.eq_zero_or_pos s with hz | hz
      · subst hz
        have e:∀g:Nat→SV,cells ρ (.arr 0 n g)=[]:=fun g=>by simp [cells,fit]
        rw [e,e]
      · by_cases hj':j < n * s
        · have hq:j / s < n:=by rw [Nat.div_lt_iff_lt_mul hz]; exact hj'
          have hr:j % s < s:=Nat.mod_lt _ hz
          have hd:j=j / s * s+ j % s:=by rw [Nat.mul_comm]; exact (Nat.div_add_mod j s).symm
          have a1:=flat_get s n (fun i'=>fit s (cells ρ (upd f i u i'))) (fun i=>fit_length _ _) (j / s) (j % s) hq hr
          have a2:=flat_get s n (fun i'=>fit s (cells ρ (f i'))) (fun i=>fit_length _ _) (j / s) (j % s) hq hr
          rw [← hd] at a1 a2
          simp only [cells]
          rw [a1,a2]
          have hji:j / s ≠ i:=fun e=>by rw [e] at hd; omega
          have hu:upd f i u (j / s)=f (j / s):=by simp [upd,beq_ne hji]
          rw [hu]
        · rw [List.getElem?_eq_none (by rw [cells_length]; simp only [SV.size]; omega),List.getElem?_eq_none (by rw [cells_length]; simp only [SV.size]; omega)]
theorem setSub_spec {α:Type} {x:SV}:∀{p:Path} {v:SV} {k:SV→R α} {r:α},setSub v p x k=some r→∃u,k u=some r∧x.isTuple=false∧Written v (offOf p) x u∧∀I n,Wf I n v→Wf I n x→Wf I n u
  | [],v,k,r,h=>by
    have h':(bif Nat.beq v.size x.size && !x.isTuple then k x else none)=some r:=by cases v<;>simpa only [setSub] using h
    obtain ⟨h1,h2⟩:=bif_some h'
    simp at h1
    exact ⟨x,h2,h1.2,Written.whole h1.1,fun _ _ _ h=>h⟩
  | .fld i o::p,v,k,r,h=>by
    cases v<;>simp only [setSub] at h<;>try (simp at h; done)
    rename_i l
    obtain ⟨h1,h2⟩:=bif_some h
    obtain ⟨y,k',hy,h3,h4⟩:=setNth_spec h2
    obtain ⟨u,hu,h5,h6,h7⟩:=setSub_spec h3
    have:preLen l i=o:=by simpa using h1
    subst this
    refine ⟨_,by rw [← h4]; exact hu,h5,written_fld hy h6,fun I n hw hx=>?_⟩
    simp only [Wf] at hw ⊢
    rw [wfs_iff] at hw ⊢
    intro z hz
    rcases List.mem_or_eq_of_mem_set hz with hz | rfl
    · exact hw z hz
    · exact h7 I n (hw _ (List.mem_of_getElem? hy)) hx
  | .idx i s::p,v,k,r,h=>by
    cases v
    case ints kd n f=>
      cases p
      · cases x<;>simp only [setSub] at h<;>try (simp at h; done)
        obtain ⟨h1,h2⟩:=bif_some h
        obtain ⟨h3,h4⟩:=bif_some h2
        simp at h1
        obtain ⟨e1,e2⟩:=h1
        subst e1; subst e2
        refine ⟨_,h4,rfl,?_,fun _ _ _ _=>by simp [Wf]⟩
        have:=written_ints (kd:=kd) (f:=f) (x:=by assumption) (of_decide_eq_true h3)
        simpa [offOf,Step.off] using this
      · simp [setSub] at h
    case bools n f=>
      cases p
      · cases x<;>simp only [setSub] at h<;>try (simp at h; done)
        obtain ⟨h1,h2⟩:=bif_some h
        obtain ⟨h3,h4⟩:=bif_some h2
        simp at h1
        subst h1
        refine ⟨_,h4,rfl,?_,fun _ _ _ _=>by simp [Wf]⟩
        have:=written_bools (f:=f) (x:=by assumption) (of_decide_eq_true h3)
        simpa [offOf,Step.off] using this
      · simp [setSub] at h
    case arr s' n f=>
      have h':(bif Nat.beq s s' then bif Nat.beq (f i).size s then bif decide (i < n) then setSub (f i) p x fun y=>k (.arr s n (upd f i y)) else none else none else none)=some r:=by
        cases p<;>simpa only [setSub] using h
      obtain ⟨h1,h2⟩:=bif_some h'
      obtain ⟨h3,h4⟩:=bif_some h2
      obtain ⟨h5,h6⟩:=bif_some h4
      obtain ⟨u,hu,h7,h8,h9⟩:=setSub_spec h6
      have e2:s=s':=by simpa using h1
      have e3:(f i).size=s:=by simpa using h3
      subst e2
      refine ⟨_,hu,h7,written_arr (of_decide_eq_true h5) e3 h8,fun I n hw hx=>?_⟩
      simp only [Wf] at hw ⊢
      intro j hj
      by_cases hji:j=i
      · subst hji; simp [upd]; exact h9 I n (hw j hj) hx
      · simp only [upd,beq_ne hji,cond_false]; exact hw j hj
    all_goals (cases p<;>simp [setSub] at h)
end Go.Sh
namespace Go.Sh
open Go
inductive SObj where
  | cells (g:Option Nat) (v:SV)
  | map (es:List (SV × SV))
  | dead
def SObj.live : SObj→Option SObj
  | .dead=>none
  | .cells g v=>some (.cells g v)
  | .map es=>some (.map es)
theorem live_some {o o':SObj} (h:o.live=some o'):o'=o:=by cases o<;>simp [SObj.live] at h<;>exact h.symm
structure Heap where
  next:Nat
  blocks:List (Nat × SObj)
def getL : List (Nat × SObj)→Nat→Option SObj
  | [],_=>none
  | (s,o)::l,b=>bif Nat.beq s b then o.live else getL l b
def Heap.get (σ:Heap) (b:Nat):Option SObj:=getL σ.blocks b
def OWf (I:Imm) (n:Nat→Prop):SObj→Prop
  | .cells _ v=>Wf I n v
  | .map es=>∀e ∈ es,Wf I n e.1∧Wf I n e.2
  | .dead=>True
def reachOf (p:Pl) (g:Option Nat) (v:SV):Nat:=match g with | none=>v.size | some s=>p.cap * s
def ObjAt (ρ:Nat→Pl) (b:Nat) (w:World):SObj→Prop
  | .cells g v=>∃c T fz,w.heap[(ρ b).blk]?=some (.cells c T fz)∧(∀j,j < v.size→c[(ρ b).base+ j]?=(cells ρ v)[j]?)∧
      v.size≤reachOf (ρ b) g v∧(ρ b).base+ reachOf (ρ b) g v≤c.size∧∀j,j < reachOf (ρ b) g v→¬ (fz.1≤(ρ b).base+ j∧(ρ b).base+ j < fz.2)
  | .map es=>∃ms clock,w.heap[(ρ b).blk]?=some (.map ms clock)∧ms.toList.map (fun m=>(m.key,m.val))=es.map (fun e=>(val ρ e.1,val ρ e.2))
  | .dead=>False
abbrev HF :=Nat→Option SObj
structure HWf (I:Imm) (n:Nat→Prop) (h:HF):Prop where
  dom:∀b o,h b=some o→n b∧OWf I n o
structure HRel (I:Imm) (ρ:Nat→Pl) (n:Nat→Prop) (h:HF) (w:World):Prop where
  wf:HWf I n h
  obj:∀b o,h b=some o→(ρ b).nil=false→ObjAt ρ b w o
  inj:∀b o b' o',h b=some o→h b'=some o'→(ρ b).nil=false→(ρ b').nil=false→(ρ b).blk=(ρ b').blk→b=b'
  imm:∀i o,I i=some o→w.heap[i]?=some o
  off:∀b o,h b=some o→(ρ b).nil=false→I (ρ b).blk=none
  none_:∀b o,h b=some o→(ρ b).nil=true→(ρ b).cap=0∧∃g v,o=.cells g v∧v.size=0
theorem HRel.real {I:Imm} {ρ:Nat→Pl} {n:Nat→Prop} {h:HF} {w:World} (hh:HRel I ρ n h w) {b:Nat} {g:Option Nat} {v:SV} (hb:h b=some (.cells g v)) (hv:0 < v.size):(ρ b).nil=false:=by
  cases e:(ρ b).nil
  · rfl
  · obtain ⟨_,g',v',h1,h2⟩:=hh.none_ b _ hb e
    cases h1; omega
theorem ObjAt.lt {ρ:Nat→Pl} {b:Nat} {w:World} {o:SObj} (h:ObjAt ρ b w o):(ρ b).blk < w.heap.size:=by
  cases o with
  | cells g v=>obtain ⟨c,T,fz,h,_⟩:=h; exact (Array.getElem?_eq_some_iff.1 h).1
  | map es=>obtain ⟨ms,cl,h,_⟩:=h; exact (Array.getElem?_eq_some_iff.1 h).1
  | dead=>exact h.elim
structure Ext (ρ:Nat→Pl) (n:Nat→Prop) (h:HF) (w:World) (ρ':Nat→Pl) (n':Nat→Prop) (h':HF) (w':World):Prop where
  le:∀b,n b→n' b
  agree:∀b,n b→ρ' b=ρ b
  os:w'.os=w.os
  tape:w'.tape=w.tape
  output:w'.output=w.output
  size:w.heap.size≤w'.heap.size
  frame:∀i,i < w.heap.size→(∀b o,h b=some o→(ρ b).nil=false→(ρ b).blk ≠ i)→w'.heap[i]?=w.heap[i]?
  img:∀b o,h' b=some o→(ρ' b).nil=false→w.heap.size≤(ρ' b).blk∨∃b0 o0,h b0=some o0∧(ρ b0).nil=false∧(ρ b0).blk=(ρ' b).blk
theorem Ext.refl (ρ:Nat→Pl) (n:Nat→Prop) (h:HF) (w:World):Ext ρ n h w ρ n h w:=
  ⟨fun _ h=>h,fun _ _=>rfl,rfl,rfl,rfl,Nat.le_refl _,fun _ _ _=>rfl,fun b o hb hn=>.inr ⟨b,o,hb,hn,rfl⟩⟩
theorem Ext.trans {ρ ρ' ρ'':Nat→Pl} {n n' n'':Nat→Prop} {e e' e'':HF} {w w' w'':World} (h:Ext ρ n e w ρ' n' e' w') (g:Ext ρ' n' e' w' ρ'' n'' e'' w''):Ext ρ n e w ρ'' n'' e'' w'' where
  le b hb:=g.le b (h.le b hb)
  agree b hb:=(g.agree b (h.le b hb)).trans (h.agree b hb)
  os:=g.os.trans h.os
  tape:=g.tape.trans h.tape
  output:=g.output.trans h.output
  size:=Nat.le_trans h.size g.size
  frame i hi hn:=by
    rw [g.frame i (Nat.lt_of_lt_of_le hi h.size) (fun b o hb hz e=>?_),h.frame i hi hn]
    rcases h.img b o hb hz with h1 | ⟨b0,o0,h1,h0,h2⟩
    · omega
    · exact hn b0 o0 h1 h0 (h2.trans e)
  img b o hb hz:=by
    rcases g.img b o hb hz with h1 | ⟨b0,o0,h1,h0,h2⟩
    · exact .inl (Nat.le_trans h.size h1)
    · rcases h.img b0 o0 h1 h0 with h3 | ⟨b1,o1,h3,h0',h4⟩
      · exact .inl (by omega)
      · exact .inr ⟨b1,o1,h3,h0',h4.trans h2⟩
theorem Ext.drew (ρ:Nat→Pl) (n:Nat→Prop) (h:HF) (w:World) (m:Nat):Ext ρ n h w ρ n h { w with drawn:=m }:=
  ⟨fun _ h=>h,fun _ _=>rfl,rfl,rfl,rfl,Nat.le_refl _,fun _ _ _=>rfl,fun b o hb hn=>.inr ⟨b,o,hb,hn,rfl⟩⟩
theorem HRel.drew {I:Imm} {ρ:Nat→Pl} {n:Nat→Prop} {h:HF} {w:World} (g:HRel I ρ n h w) (m:Nat):HRel I ρ n h { w with drawn:=m }:=
  ⟨g.wf,fun b o hb hz=>by have:=g.obj b o hb hz; cases o<;>exact this,g.inj,g.imm,g.off,g.none_⟩
theorem val_oslc (ρ:Nat→Pl) (b s n:Nat):((ρ b).nil=true∧n=0∧val ρ (.oslc b s n)=.slice none 0 0)∨val ρ (.oslc b s n)=.slice (some ⟨(ρ b).blk,(ρ b).base,none⟩) n (ρ b).cap:=by
  simp only [val,pack,SV.isAgg,cells,List.headD_cons,cond_false]
  cases h:((ρ b).nil && Nat.beq n 0)
  · exact .inr rfl
  · simp only [Bool.and_eq_true] at h
    exact .inl ⟨h.1,Nat.eq_of_beq_eq_true h.2,rfl⟩
theorem val_oslc_pos (ρ:Nat→Pl) (b s:Nat) {n:Nat} (h:0 < n):val ρ (.oslc b s n)=.slice (some ⟨(ρ b).blk,(ρ b).base,none⟩) n (ρ b).cap:=by
  rcases val_oslc ρ b s n with ⟨_,h1,_⟩ | h1
  · omega
  · exact h1
theorem val_oslc_real (ρ:Nat→Pl) (b s n:Nat) (h:(ρ b).nil=false):val ρ (.oslc b s n)=.slice (some ⟨(ρ b).blk,(ρ b).base,none⟩) n (ρ b).cap:=by
  rcases val_oslc ρ b s n with ⟨h0,_⟩ | h1
  · rw [h] at h0; cases h0
  · exact h1
abbrev Env :=List (Nat × SV)
def getE : Env→Nat→Option SV
  | [],_=>none
  | (s,v)::l,t=>bif Nat.beq s t then some v else getE l t
abbrev EF :=Nat→Option SV
structure EnvOk (I:Imm) (N:Nat) (ρ:Nat→Pl) (n:Nat→Prop) (g:EF) (a:Act):Prop where
  size:N≤a.tmps.size
  defers:a.defers=[]
  env:∀t v,g t=some v→a.tmps[t]?=some (val ρ v)∧Wf I n v
theorem EnvOk.ext {I:Imm} {N:Nat} {ρ ρ':Nat→Pl} {n m:Nat→Prop} {g:EF} {a:Act} (h:EnvOk I N ρ n g a) (hn:∀b,n b→m b) (hρ:∀b,n b→ρ' b=ρ b):EnvOk I N ρ' m g a:=
  ⟨h.size,h.defers,fun t v ht=>by
    obtain ⟨h1,h2⟩:=h.env t v ht
    exact ⟨by rw [h1,val_congr hρ h2],h2.mono hn⟩⟩
def putE (g:EF) (d:Nat) (v:SV):EF:=fun t=>bif Nat.beq d t then some v else g t
theorem getE_cons (env:Env) (d:Nat) (v:SV):getE ((d,v)::env)=putE (getE env) d v:=by
  funext t; simp [getE,putE]
theorem EnvOk.put {I:Imm} {N:Nat} {ρ:Nat→Pl} {n:Nat→Prop} {g:EF} {a:Act} (h:EnvOk I N ρ n g a) {d:Nat} (hd:d < N) {v:SV} (hv:Wf I n v):EnvOk I N ρ n (putE g d v) (a.put (some d) (val ρ v)):=by
  have hs:=h.size
  refine ⟨by simp [Act.put]; exact hs,h.defers,fun t u ht=>?_⟩
  simp only [putE] at ht
  simp only [Act.put]
  cases e:Nat.beq d t
  · rw [e] at ht
    have hne:d ≠ t:=fun h'=>by subst h'; rw [Nat.beq_refl] at e; cases e
    rw [Array.getElem?_setIfInBounds_ne hne]
    exact h.env t u (by simpa using ht)
  · rw [e] at ht
    have:d=t:=Nat.eq_of_beq_eq_true e
    subst this
    simp at ht; subst ht
    exact ⟨Array.getElem?_setIfInBounds_self_of_lt (by omega),hv⟩
theorem EnvOk.again {I:Imm} {N:Nat} {ρ:Nat→Pl} {n:Nat→Prop} {g:EF} {a:Act} (h:EnvOk I N ρ n g a) {d:Nat} {v u:SV} (hd:g d=some v) (hu:val ρ u=val ρ v) (hw:Wf I n u):EnvOk I N ρ n (putE g d u) a:=
  ⟨h.size,h.defers,fun t x ht=>by
    simp only [putE] at ht
    cases e:Nat.beq d t
    · rw [e] at ht; exact h.env t x (by simpa using ht)
    · rw [e] at ht
      have:d=t:=Nat.eq_of_beq_eq_true e
      subst this
      simp at ht; subst ht
      exact ⟨by rw [hu]; exact (h.env d v hd).1,hw⟩⟩
def ofValue : Value→Option SV
  | .bool b=>some (.bool b)
  | .int j n=>some (.int j n)
  | .string s=>some (.str s)
  | .pointer none=>some .nilp
  | .slice none 0 0=>some .nils
  | .nilFunc=>some .nilfn
  | .nilIface=>some .nilifc
  | .map none=>some .nilmap
  | _=>none
theorem ofValue_spec {v:Value} {u:SV} (h:ofValue v=some u) (ρ:Nat→Pl) (I:Imm) (n:Nat→Prop):v=val ρ u∧Wf I n u:=by
  unfold ofValue at h
  split at h<;>simp at h<;>subst h<;>simp [val,pack,SV.isAgg,cells,Wf]
def ev {α:Type} (g:EF) (x:Operand) (k:SV→R α):R α:=
  match x with
  | .tmp t=>match g t with | some v=>k v | none=>none
  | .const v=>match ofValue v with | some u=>k u | none=>none
  | .func f=>k (.fn (.func f) [] [])
  | .global _=>none
theorem ev_spec {α:Type} {g:EF} {x:Operand} {k:SV→R α} {r:α} (h:ev g x k=some r):
    ∃v,k v=some r∧∀I N ρ n a,EnvOk I N ρ n g a→a.eval x=val ρ v∧Wf I n v:=by
  unfold ev at h
  split at h
  · split at h<;>try (simp at h; done)
    rename_i v h1
    refine ⟨v,h,fun I N ρ n a he=>?_⟩
    obtain ⟨h3,h4⟩:=he.env _ _ h1
    exact ⟨by simp [Act.eval,h3],h4⟩
  · split at h
    · rename_i v u hu
      exact ⟨u,h,fun I N ρ n a _=>by have:=ofValue_spec hu ρ I n; exact ⟨by simp [Act.eval,this.1],this.2⟩⟩
    · simp at h
  · exact ⟨_,h,fun I N ρ n a _=>by simp [Act.eval,val,pack,SV.isAgg,cells,vals,Wf,Wfs]⟩
  · simp at h
def evs {α:Type} (g:EF):List Operand→(List SV→R α)→R α
  | [],k=>k []
  | x::l,k=>ev g x fun v=>evs g l fun vs=>k (v::vs)
theorem evs_spec {α:Type} {g:EF}:∀{l:List Operand} {k:List SV→R α} {r:α},evs g l k=some r→
    ∃vs,k vs=some r∧∀I N ρ n a,EnvOk I N ρ n g a→l.map a.eval=vs.map (val ρ)∧∀v ∈ vs,Wf I n v
  | [],k,r,h=>⟨[],by simpa [evs] using h,by simp⟩
  | x::l,k,r,h=>by
    simp only [evs] at h
    obtain ⟨v,h1,h2⟩:=ev_spec h
    obtain ⟨vs,h3,h4⟩:=evs_spec h1
    refine ⟨v::vs,h3,fun I N ρ n a he=>?_⟩
    obtain ⟨e1,e2⟩:=h2 I N ρ n a he
    obtain ⟨e3,e4⟩:=h4 I N ρ n a he
    exact ⟨by simp [e1,e3],by simpa using ⟨e2,e4⟩⟩
inductive SD where
  | sc (d:TypeDesc)
  | st (fs:List (Nat × Nat × Bool))
  | ar (n e es:Nat) (ea:Bool)
inductive Shape where
  | bl
  | it (k:IntKind)
  | sr
  | st (fs:List (Nat × Nat × Bool × Shape))
  | ar (n es:Nat) (s:Shape)
structure STy where
  zero:SV
  size:Nat
  bytes:Nat
  sd:SD
  eqs:Option Shape:=none
abbrev TE :=List (Nat × STy)
def aggDesc : TypeDesc→Bool
  | .struct _ | .array ..=>true
  | _=>false
def isAggT (P:Program) (t:TypeId):Option Bool:=(P.underlying t).map aggDesc
def sizeB (P:Program) (e:TypeId) (n:Nat):Bool:=match P.info? e with
  | some i=>Nat.beq i.size n
  | none=>false
def aggB (P:Program) (e:TypeId) (g:Bool):Bool:=match P.underlying e with
  | some d=>aggDesc d==g
  | none=>false
def fieldsB (P:Program) (q:TypeId→Shape→Bool):List Field→List (Nat × Nat × Bool × Shape)→Bool
  | [],[]=>true
  | f :: F, (o, sz, g, s) :: fs => (f.name != "_") && Nat.beq f.offset o && sizeB P f.type sz && aggB P f.type g && q f.type s && fieldsB P q F fs
  | _,_=>false
def shB (P:Program):Nat→TypeId→Shape→Bool
  | 0,_,_=>false
  | d+ 1,t,s=>match P.underlying t,s with
    | some .bool,.bl=>true
    | some (.int k),.it k'=>decide (k=k')
    | some .string,.sr=>true
    | some (.struct F),.st fs=>!P.stoodInHeld t && fieldsB P (shB P d) F.toList fs
    | some (.array n e),.ar n' es s=>Nat.beq n n' && sizeB P e es && shB P d e s
    | _,_=>false
structure TyOk (P:Program) (t:TypeId) (s:STy):Prop where
  info:∀ρ,(P.info? t).map (fun i=>(i.zero,i.size,i.bytes))=some (some (val ρ s.zero),s.size,s.bytes)
  zero:s.zero.size=s.size∧s.zero.isTuple=false∧∀I n,Wf I n s.zero
  desc:match s.sd with
    | .sc d=>P.underlying t=some d∧aggDesc d=false
    | .st fs=>∃F:Array Field,P.underlying t=some (.struct F)∧F.toList.map (fun f=>(f.offset,(P.info? f.type).map (·.size),isAggT P f.type))=fs.map fun x=>(x.1,some x.2.1,some x.2.2)
    | .ar n e es ea=>P.underlying t=some (.array n e)∧(P.info? e).map (·.size)=some es∧isAggT P e=some ea
  eqs:∀sh,s.eqs=some sh→shB P 8 t sh=true∧P.eqGuardType P.depth t=false
def TEok (P:Program) (te:TE):Prop:=∀x ∈ te,TyOk P x.1 x.2
theorem TEok.nil (P:Program):TEok P []:=by simp [TEok]
theorem TEok.cons {P:Program} {t:Nat} {s:STy} {te:TE} (h:TyOk P t s) (g:TEok P te):TEok P ((t,s)::te):=by
  intro x hx; rcases List.mem_cons.1 hx with rfl | hx
  · exact h
  · exact g x hx
def tlook {α:Type}:TE→Nat→(STy→R α)→R α
  | [],_,_=>none
  | (s,v)::l,t,k=>bif Nat.beq s t then k v else tlook l t k
theorem tlook_spec {α:Type} {P:Program} {k:STy→R α} {r:α}:∀{te:TE} {t:Nat},tlook te t k=some r→TEok P te→∃s,k s=some r∧TyOk P t s
  | [],t,h,_=>by simp [tlook] at h
  | (s,v)::l,t,h,hok=>by
    simp only [tlook] at h
    cases hs:Nat.beq s t
    · rw [hs] at h; exact tlook_spec (te:=l) (by simpa using h) (fun x hx=>hok x (List.mem_cons_of_mem _ hx))
    · rw [hs] at h
      have:s=t:=Nat.eq_of_beq_eq_true hs
      subst this
      exact ⟨v,by simpa using h,hok (s,v) (by simp)⟩
end Go.Sh
namespace Go.Sh
open Go
section
variable {α:Type}
def bitop (op:BinOp) (kd:IntKind) (x y:Int):Int:=
  kd.wrap (match op with
    | .and=>BitVec.ofInt kd.bits x &&& BitVec.ofInt kd.bits y
    | .or=>BitVec.ofInt kd.bits x ||| BitVec.ofInt kd.bits y
    | .xor=>BitVec.ofInt kd.bits x ^^^ BitVec.ofInt kd.bits y
    | _=>BitVec.ofInt kd.bits x &&& ~~~ BitVec.ofInt kd.bits y).toNat
def gshl (kd:IntKind) (x y:Int):Int:=kd.wrap (x * 2 ^ (min y.toNat kd.bits))
def gshr (kd:IntKind) (x y:Int):Int:=x.fdiv (2 ^ (min y.toNat kd.bits))
def ltB (x y:Int):Bool:=decide (x < y)
def leB (x y:Int):Bool:=decide (x≤y)
theorem ltB_true {x y:Int}:(ltB x y=true)=(x < y):=by simp [ltB]
theorem ltB_false {x y:Int}:(ltB x y=false)=¬ x < y:=by simp [ltB]
theorem leB_true {x y:Int}:(leB x y=true)=(x≤y):=by simp [leB]
theorem leB_false {x y:Int}:(leB x y=false)=¬ x≤y:=by simp [leB]
def intop (op:BinOp) (kd:IntKind) (x y:Int) (k:SV→R α):R α:=
  match op with
  | .add=>k (.int kd (kd.wrap (x+ y)))
  | .sub=>k (.int kd (kd.wrap (x - y)))
  | .mul=>k (.int kd (kd.wrap (x * y)))
  | .quo=>bif decide (y=0) then none else k (.int kd (kd.wrap (x.tdiv y)))
  | .rem=>bif decide (y=0) then none else k (.int kd (x.tmod y))
  | .and=>k (.int kd (bitop .and kd x y))
  | .or=>k (.int kd (bitop .or kd x y))
  | .xor=>k (.int kd (bitop .xor kd x y))
  | .andNot=>k (.int kd (bitop .andNot kd x y))
  | .eql=>k (.bool (x==y))
  | .neq=>k (.bool (x !=y))
  | .lss=>k (.bool (ltB x y))
  | .leq=>k (.bool (leB x y))
  | .gtr=>k (.bool (ltB y x))
  | .geq=>k (.bool (leB y x))
  | _=>none
def strop (op:BinOp) (x y:ByteArray) (k:SV→R α):R α:=
  match op with
  | .add=>bif Nat.ble (x.size+ y.size) 9223372036854775807 then k (.str (x++ y)) else none
  | .eql=>k (.bool (x.toList==y.toList))
  | .neq=>k (.bool (!(x.toList==y.toList)))
  | _=>none
def isBoolSD : SD→Bool
  | .sc .bool=>true
  | _=>false
def isPtrSD : SD→Bool
  | .sc (.pointer _)=>true
  | _=>false
def isSliceSD : SD→Bool
  | .sc (.slice _)=>true
  | _=>false
def isFuncSD : SD→Bool
  | .sc (.func ..)=>true
  | _=>false
def nilness (sd:SD):SV→Option Bool
  | .nilp=>if isPtrSD sd then some true else none
  | .ptr .. | .vptr ..=>if isPtrSD sd then some false else none
  | .nils=>if isSliceSD sd then some true else none
  | .slc ..=>if isSliceSD sd then some false else none
  | .vslc _ nl ..=>if isSliceSD sd then some nl else none
  | .nilfn=>if isFuncSD sd then some true else none
  | .fn ..=>if isFuncSD sd then some false else none
  | _=>none
def okPart (g:Bool) (n:Nat) (u:SV):Bool:=(bif g then u.isAgg else !u.isAgg && !u.isTuple) && Nat.beq u.size n
def seqF (q:Shape→SV→SV→(Bool→R α)→R α) (a b:SV):Nat→List (Nat × Nat × Bool × Shape)→(Bool→R α)→R α
  | _,[],k=>k true
  | i,(o,sz,g,s)::fs,k=>sub a [.fld i o] fun x=>bif okPart g sz x then sub b [.fld i o] fun y=>bif okPart g sz y then
      q s x y fun c=>seqF q a b (i+ 1) fs fun c'=>k (c && c') else none else none
def seqB : Nat→Shape→SV→SV→(Bool→R α)→R α
  | 0,_,_,_,_=>none
  | d + 1,s,a,b,k=>match s with
    | .bl=>match a,b with
      | .bool x,.bool y=>k (x==y)
      | _,_=>none
    | .it kd=>match a,b with
      | .int j x,.int j' y=>bif decide (j=kd) && decide (j'=kd) then k (x==y) else none
      | _,_=>none
    | .sr=>match a,b with
      | .str x,.str y=>k (x.toList==y.toList)
      | _,_=>none
    | .st fs=>bif a.isAgg && b.isAgg then seqF (seqB d) a b 0 fs k else none
    | .ar n es s=>match a,b,s with
      | .ints j m f,.ints j' m' g,.it kd=>bif decide (j=kd) && decide (j'=kd) && (Nat.beq es 1 && (Nat.beq n m && Nat.beq n m')) then k ((List.range n).all fun i=>f i==g i) else none
      | _,_,_=>none
def eqop (te:TE) (t:TypeId) (a b:SV) (k:Bool→R α):R α:=
  match a,b with
  | .bool x,.bool y=>tlook te t fun s=>bif isBoolSD s.sd then k (x==y) else none
  | a,b=>tlook te t fun s=>match s.eqs with
    | some sh=>bif a.isAgg && b.isAgg then seqB 8 sh a b k else none
    | none=>match nilness s.sd a,nilness s.sd b with
      | some c,some true=>k c
      | some true,some c=>k c
      | _,_=>none
def intop2 (op:BinOp) (kd:IntKind) (x:Int) (kd':IntKind) (y:Int) (k:SV→R α):R α:=
  match op with
  | .shl=>bif decide (y < 0) then none else k (.int kd (gshl kd x y))
  | .shr=>bif decide (y < 0) then none else k (.int kd (gshr kd x y))
  | op=>bif decide (kd=kd') then intop op kd x y k else none
def cmpop (te:TE) (op:BinOp) (t:TypeId) (a b:SV) (k:SV→R α):R α:=
  match op with
  | .eql=>eqop te t a b fun c=>k (.bool c)
  | .neq=>eqop te t a b fun c=>k (.bool (!c))
  | _=>none
def binop (te:TE) (op:BinOp) (t:TypeId) (a b:SV) (k:SV→R α):R α:=
  match a,b with
  | .int kd x,.int kd' y=>intop2 op kd x kd' y k
  | .str x,.str y=>strop op x y k
  | a,b=>cmpop te op t a b k
def unop (op:UnOp) (a:SV) (k:SV→R α):R α:=
  match op,a with
  | .neg,.int kd x=>k (.int kd (kd.wrap (0 - x)))
  | .xor,.int kd x=>k (.int kd (bitop .xor kd (if kd.signed then -1 else kd.max) x))
  | .not,.bool b=>k (.bool (!b))
  | _,_=>none
def conv (d:SD) (a:SV) (k:SV→R α):R α:=
  match d,a with
  | .sc (.int kd),.int _ x=>k (.int kd (kd.wrap x))
  | .sc .string,.str s=>k (.str s)
  | _,_=>none
def okLoad (s:STy) (u:SV):Bool:=
  (match s.sd with | .sc _=>!u.isAgg && !u.isTuple | _=>u.isAgg) && Nat.beq u.size s.size
def bytesAt (s:ByteArray) (i:Nat):Int:=((s[i]?.getD 0).toNat:Int)
def slcop (te:TE) (t:TypeId) (x:SV) (lo:Int) (hi:Option Int) (k:SV→R α):R α:=
  match x with
  | .str s=>tlook te t fun d=>match d.sd with
    | .sc .string=>
      let h:Int:=hi.getD s.size
      bif decide (0≤h) && decide (h≤s.size) then bif decide (0≤lo) && decide (lo≤h) then k (.str (s.extract lo.toNat h.toNat)) else none else none
    | _=>none
  | .slc b p sz off len (some cap)=>tlook te t fun d=>match d.sd with
    | .sc (.slice e)=>tlook te e fun es=>
      let h:Int:=hi.getD len
      bif Nat.beq sz es.size then bif decide (0≤h) && decide (h≤cap) then bif decide (0≤lo) && decide (lo≤h) then
        k (.slc b p sz (if cap=lo.toNat then off else off+ lo.toNat) (h.toNat - lo.toNat) (some (cap - lo.toNat))) else none else none else none
    | _=>none
  | .vslc td nl a len cap f=>tlook te t fun d=>match d.sd with
    | .sc (.slice e)=>tlook te e fun es=>
      let h:Int:=hi.getD len
      bif Nat.beq td.size es.size then bif decide (0≤h) && decide (h≤len) then bif decide (0≤lo) && decide (lo≤h) then
        k (.vslc td nl (if cap=lo.toNat then a else a.add (lo.toNat * td.size)) (h.toNat - lo.toNat) (cap - lo.toNat) (fun i=>f (lo.toNat+ i))) else none else none else none
    | _=>none
  | .ptr b p=>tlook te t fun d=>match d.sd with
    | .ar n _ es _=>
      let h:Int:=hi.getD n
      bif decide (0≤h) && decide (h≤n) then bif decide (0≤lo) && decide (lo≤h) then
        k (.slc b p es (if n=lo.toNat then 0 else lo.toNat) (h.toNat - lo.toNat) (some (n - lo.toNat))) else none else none
    | _=>none
  | .nils=>tlook te t fun d=>match d.sd with
    | .sc (.slice e)=>tlook te e fun _=>bif decide (lo=0) && decide (hi.getD 0=0) then k .nils else none
    | _=>none
  | _=>none
def gdK (o:Option Int) (d:Int) (k:Int→R α):R α:=
  match o with
  | some x=>k x
  | none=>k d
def slcop2 (te:TE) (t:TypeId) (x:SV) (lo hi:Option Int) (k:SV→R α):R α:=
  match x with
  | .str s=>tlook te t fun d=>match d.sd with
    | .sc .string=>
      gdK hi s.size fun h=>gdK lo 0 fun lo=>
      bif decide (0≤h) && decide (h≤s.size) then bif decide (0≤lo) && decide (lo≤h) then k (.str (s.extract lo.toNat h.toNat)) else none else none
    | _=>none
  | .slc b p sz off len (some cap)=>tlook te t fun d=>match d.sd with
    | .sc (.slice e)=>tlook te e fun es=>
      gdK hi len fun h=>gdK lo 0 fun lo=>
      bif Nat.beq sz es.size then bif decide (0≤h) && decide (h≤cap) then bif decide (0≤lo) && decide (lo≤h) then
        cond (Nat.beq cap lo.toNat) (k (.slc b p sz off (h.toNat - lo.toNat) (some (cap - lo.toNat)))) (k (.slc b p sz (off+ lo.toNat) (h.toNat - lo.toNat) (some (cap - lo.toNat)))) else none else none else none
    | _=>none
  | .vslc td nl a len cap f=>tlook te t fun d=>match d.sd with
    | .sc (.slice e)=>tlook te e fun es=>
      gdK hi len fun h=>gdK lo 0 fun lo=>
      bif Nat.beq td.size es.size then bif decide (0≤h) && decide (h≤len) then bif decide (0≤lo) && decide (lo≤h) then
        cond (Nat.beq cap lo.toNat) (k (.vslc td nl a (h.toNat - lo.toNat) (cap - lo.toNat) (fun i=>f (lo.toNat+ i)))) (k (.vslc td nl (a.add (lo.toNat * td.size)) (h.toNat - lo.toNat) (cap - lo.toNat) (fun i=>f (lo.toNat+ i)))) else none else none else none
    | _=>none
  | .ptr b p=>tlook te t fun d=>match d.sd with
    | .ar n _ es _=>
      gdK hi n fun h=>gdK lo 0 fun lo=>
      bif decide (0≤h) && decide (h≤n) then bif decide (0≤lo) && decide (lo≤h) then
        cond (Nat.beq n lo.toNat) (k (.slc b p es 0 (h.toNat - lo.toNat) (some (n - lo.toNat)))) (k (.slc b p es lo.toNat (h.toNat - lo.toNat) (some (n - lo.toNat)))) else none else none
    | _=>none
  | .nils=>tlook te t fun d=>match d.sd with
    | .sc (.slice e)=>tlook te e fun _=>gdK lo 0 fun lo=>gdK hi 0 fun hi=>bif decide (lo=0) && decide (hi=0) then k .nils else none
    | _=>none
  | _=>none
theorem gdK_eq (o:Option Int) (d:Int) (k:Int→R α):gdK o d k=k (o.getD d):=by cases o<;>rfl
theorem cond_nb {β:Type} (a b:Nat) (k:β→R α) (x y:β):cond (Nat.beq a b) (k x) (k y)=k (if a=b then x else y):=by
  cases h:Nat.beq a b
  · have:a ≠ b:=fun e=>by subst e; rw [Nat.beq_refl] at h; cases h
    rw [if_neg this]; rfl
  · rw [if_pos (Nat.eq_of_beq_eq_true h)]; rfl
theorem slcop2_eq (te:TE) (t:TypeId) (x:SV) (lo hi:Option Int) (k:SV→R α):slcop2 te t x lo hi k=slcop te t x (lo.getD 0) hi k:=by
  have e1:∀b p sz off (h lo cap:Nat),cond (Nat.beq cap lo) (k (.slc b p sz off (h - lo) (some (cap - lo)))) (k (.slc b p sz (off+ lo) (h - lo) (some (cap - lo))))=k (.slc b p sz (if cap=lo then off else off+ lo) (h - lo) (some (cap - lo))):=fun b p sz off h lo cap=>by
    rw [cond_nb]; split<;>rfl
  have e2:∀b p es (h lo n:Nat),cond (Nat.beq n lo) (k (.slc b p es 0 (h - lo) (some (n - lo)))) (k (.slc b p es lo (h - lo) (some (n - lo))))=k (.slc b p es (if n=lo then 0 else lo) (h - lo) (some (n - lo))):=fun b p es h lo n=>by
    rw [cond_nb]; split<;>rfl
  have e3:∀(td:TD) (nl:Bool) (a:Addr) (h lo cap:Nat) (f:Nat→td.Val),cond (Nat.beq cap lo) (k (.vslc td nl a (h - lo) (cap - lo) f)) (k (.vslc td nl (a.add (lo * td.size)) (h - lo) (cap - lo) f))=k (.vslc td nl (if cap=lo then a else a.add (lo * td.size)) (h - lo) (cap - lo) f):=fun td nl a h lo cap f=>by
    rw [cond_nb]; split<;>rfl
  unfold slcop2 slcop
  simp only [gdK_eq,e1,e2,e3]
def optInt (g:EF):Option Operand→(Option Int→R α)→R α
  | none,k=>k none
  | some x,k=>ev g x fun
    | .int _ n=>k (some n)
    | _=>none
def buildGo (g:EF) (place:Nat→(Nat→Nat→Path→R α)→R α):List (Nat × Operand)→SV→(SV→R α)→R α
  | [],acc,k=>k acc
  | (i,x)::l,acc,k=>ev g x fun v=>place i fun _ size p=>bif Nat.beq v.size size then setSub acc p v fun acc=>buildGo g place l acc k else none
def stPlace (fs:List (Nat × Nat × Bool)) (i:Nat) (k:Nat→Nat→Path→R α):R α:=nth fs i fun f=>k f.1 f.2.1 [.fld i f.1]
def arPlace (es:Nat) (i:Nat) (k:Nat→Nat→Path→R α):R α:=k (i * es) es [.idx i es]
def pickmx (mx:Bool) (x y:Int):Int:=match mx with
  | true=>if x < y then y else x
  | false=>if y < x then y else x
def mnmx (mx:Bool) (g:EF):SV→List Operand→(SV→R α)→R α
  | acc,[],k=>k acc
  | .int kd x,y::l,k=>ev g y fun
    | .int _ y=>mnmx mx g (.int kd (pickmx mx x y)) l k
    | _=>none
  | _,_::_,_=>none
def strOf (f:Nat→Int) (n:Nat):ByteArray:=strOfNums ((List.range n).map f)
def convH (te:TE) (s d:SD) (h:HF) (a:SV) (k:SV→R α):R α:=
  match a with
  | .slc b p sz off len _=>match s,d with
    | .sc (.slice e),.sc .string=>tlook te e fun es=>match es.sd with
      | .sc (.int .u8)=>match h b with
        | some (.cells _ v)=>sub v p fun
          | .ints .u8 m f=>bif Nat.beq sz 1 && decide (off+ len≤m) then k (.str (strOf (fun i=>f (off+ i)) len)) else none
          | _=>none
        | _=>none
      | _=>none
    | _,_=>none
  | .oslc b sz len=>match s,d with
    | .sc (.slice e),.sc .string=>tlook te e fun es=>match es.sd with
      | .sc (.int .u8)=>match h b with
        | some (.cells _ v)=>match v with
          | .ints .u8 m f=>bif Nat.beq sz 1 && decide (len≤m) then k (.str (strOf f len)) else none
          | _=>none
        | _=>none
      | _=>none
    | _,_=>none
  | .nils=>match s,d with
    | .sc (.slice e),.sc .string=>tlook te e fun es=>match es.sd with
      | .sc (.int .u8)=>k (.str .empty)
      | _=>none
    | _,_=>none
  | a=>conv d a k
def lookM (kd:IntKind) (n:Int):List (SV × SV)→SV→(SV→R α)→R α
  | [],z,k=>k z
  | (.int kd' n',v)::l,z,k=>bif decide (kd'=kd) then bif decide (n=n') then k v else lookM kd n l z k else none
  | _,_,_=>none
def pval (te:TE) (op:Op) (g:EF) (h:HF) (k:SV→R α):R α:=
  match op with
  | .move x=>ev g x k
  | .assign x=>ev g x k
  | .pick c a b=>ev g c fun
    | .bool true=>ev g a k
    | .bool false=>ev g b k
    | _=>none
  | .load t a=>tlook te t fun s=>ev g a fun
    | .ptr b p=>match h b with
      | some (.cells _ v)=>sub v p fun u=>bif okLoad s u then k u else none
      | _=>none
    | .vptr _ v=>bif okLoad s v then k v else none
    | _=>none
  | .nilCheck x=>ev g x fun
    | .ptr b p=>k (.ptr b p)
    | .vptr a v=>k (.vptr a v)
    | .fn (.func f) a c=>k (.fn (.func f) a c)
    | _=>none
  | .binOp op t x y _=>ev g x fun a=>ev g y fun b=>binop te op t a b k
  | .unOp op _ x=>ev g x fun a=>unop op a k
  | .convert src dst x=>tlook te src fun s=>tlook te dst fun d=>ev g x fun a=>convH te s.sd d.sd h a k
  | .fieldAddr t x i=>tlook te t fun s=>match s.sd with
    | .st fs=>nth fs i fun f=>bif Nat.beq f.2.1 0 then none else ev g x fun
      | .ptr b p=>k (.ptr b (p++ [.fld i f.1]))
      | .vptr a v=>sub v [.fld i f.1] fun u=>k (.vptr (a.add f.1) u)
      | _=>none
    | _=>none
  | .field t x i=>tlook te t fun s=>match s.sd with
    | .st fs=>nth fs i fun f=>ev g x fun
      | .agg l=>sub (.agg l) [.fld i f.1] fun u=>bif okPart f.2.2 f.2.1 u then k u else none
      | _=>none
    | _=>none
  | .indexAddr t x ix=>tlook te t fun s=>ev g x fun x=>ev g ix fun
    | .int _ i=>match s.sd,x with
      | .ar n _ es _,.ptr b p=>bif decide (0≤i) && decide (i < (n:Int)) then k (.ptr b (p++ [.idx i.toNat es])) else none
      | .ar n _ es _,.vptr a v=>bif decide (0≤i) && decide (i < (n:Int)) then sub v [.idx i.toNat es] fun u=>k (.vptr (a.add (i.toNat * es)) u) else none
      | .sc (.slice e),.slc b p sz off len _=>tlook te e fun es=>bif Nat.beq sz es.size then bif decide (0≤i) && decide (i < (len:Int)) then k (.ptr b (p++ [.idx (off+ i.toNat) sz])) else none else none
      | .sc (.slice e),.oslc b sz len=>tlook te e fun es=>bif Nat.beq sz es.size then bif decide (0≤i) && decide (i < (len:Int)) then k (.ptr b [.idx i.toNat sz]) else none else none
      | .sc (.slice e),.vslc td _ a len _ f=>tlook te e fun es=>bif Nat.beq td.size es.size then bif decide (0≤i) && decide (i < (len:Int)) then k (.vptr (a.add (i.toNat * td.size)) (td.sv (f i.toNat))) else none else none
      | _,_=>none
    | _=>none
  | .index t x ix=>tlook te t fun s=>ev g x fun x=>ev g ix fun
    | .int _ i=>match s.sd,x with
      | .ar n _ es ea,x=>bif x.isAgg then bif decide (0≤i) && decide (i < (n:Int)) then sub x [.idx i.toNat es] fun u=>bif okPart ea es u then k u else none else none else none
      | .sc .string,.str z=>bif decide (0≤i) && decide (i < (z.size:Int)) then k (.int .u8 (bytesAt z i.toNat)) else none
      | _,_=>none
    | _=>none
  | .build t ps=>tlook te t fun s=>match s.sd with
    | .st fs=>buildGo g (stPlace fs) ps.toList s.zero fun u=>bif u.isAgg then k u else none
    | .ar _ _ es _=>buildGo g (arPlace es) ps.toList s.zero fun u=>bif u.isAgg then k u else none
    | _=>none
  | .slice t x lo hi mx=>match mx with
    | some _=>none
    | none=>ev g x fun x=>optInt g lo fun lo=>optInt g hi fun hi=>slcop2 te t x lo hi k
  | .extract x i=>ev g x fun
    | .tuple l=>nth l i k
    | _=>none
  | .lookup t m ix false=>tlook te t fun s=>match s.sd with
    | .sc (.map kt et)=>tlook te kt fun ks=>match ks.sd with
      | .sc (.int kd)=>tlook te et fun es=>ev g m fun
        | .map b=>match h b with
          | some (.map l)=>ev g ix fun
            | .int kd' n=>bif decide (kd'=kd) then lookM kd n l es.zero k else none
            | _=>none
          | _=>none
        | _=>none
      | _=>none
    | _=>none
  | .makeFunc f fs cs=>evs g fs.toList fun fs=>evs g cs.toList fun cs=>k (.fn f fs cs)
  | .call c=>match c.callee with
    | .builtin .len=>match c.args.toList,c.argTypes.toList with
      | [x],[t]=>tlook te t fun s=>ev g x fun x=>match s.sd,x with
        | .sc .string,.str z=>k (.int .i64 z.size)
        | .sc (.slice _),.slc _ _ _ _ n _=>k (.int .i64 n)
        | .sc (.slice _),.vslc _ _ _ n _ _=>k (.int .i64 n)
        | .sc (.slice _),.oslc _ _ n=>k (.int .i64 n)
        | .sc (.slice _),.nils=>k (.int .i64 0)
        | .ar n _ _ _,_=>k (.int .i64 n)
        | _,_=>none
      | _,_=>none
    | .builtin .max=>match c.args.toList with
      | x::l=>ev g x fun x=>match x with | .int _ _=>mnmx true g x l k | _=>none
      | _=>none
    | .builtin .min=>match c.args.toList with
      | x::l=>ev g x fun x=>match x with | .int _ _=>mnmx false g x l k | _=>none
      | _=>none
    | _=>none
  | _=>none
end
end Go.Sh
namespace Go.Sh
open Go
section
variable {α:Type} {P:Program} {I:Imm}
theorem ty_under {t:TypeId} {s:STy} (h:TyOk P t s):∃d,P.underlying t=some d:=by
  have:=h.desc
  split at this
  · exact ⟨_,this.1⟩
  · obtain ⟨F,h1,_⟩:=this; exact ⟨_,h1⟩
  · exact ⟨_,this.1⟩
theorem ty_info {t:TypeId} {s:STy} (h:TyOk P t s):∃i,P.info? t=some i∧i.size=s.size∧i.bytes=s.bytes∧∀ρ,i.zero=some (val ρ s.zero):=by
  have h0:=h.info
  cases hi:P.info? t with
  | none=>have:=h0 (fun _=>⟨0,0,0,false⟩); simp [hi] at this
  | some i=>
    simp only [hi,Option.map_some,Option.some.injEq,Prod.mk.injEq] at h0
    exact ⟨i,rfl,(h0 (fun _=>⟨0,0,0,false⟩)).2.1,(h0 (fun _=>⟨0,0,0,false⟩)).2.2,fun ρ=>(h0 ρ).1⟩
theorem run_underlying {t:TypeId} {d:TypeDesc} (h:P.underlying t=some d) (w:World):(underlying t).run P w=.ok d w:=by
  simp [underlying,h]
theorem run_sizeOf {t:TypeId} {s:STy} (h:TyOk P t s) (w:World):(sizeOf t).run P w=.ok s.size w:=by
  obtain ⟨i,h1,h2,_⟩:=ty_info h
  simp [sizeOf,typeInfo,h1,h2]
theorem run_isAgg {t:TypeId} {d:TypeDesc} (h:P.underlying t=some d) (w:World):(isAgg t).run P w=.ok (aggDesc d) w:=by
  cases d<;>simp [isAgg,run_underlying h,aggDesc]
theorem run_zeroValue {t:TypeId} {s:STy} (h:TyOk P t s) (ρ:Nat→Pl) (w:World):(zeroValue t).run P w=.ok (val ρ s.zero) w:=by
  obtain ⟨i,h1,h2,h3,h4⟩:=ty_info h
  simp [zeroValue,typeInfo,h1,h4 ρ]
theorem ty_agg {t:TypeId} {s:STy} (h:TyOk P t s):∃d,P.underlying t=some d∧aggDesc d=(match s.sd with | .sc _=>false | _=>true):=by
  have:=h.desc
  split at this
  · rename_i hs; exact ⟨_,this.1,by rw [hs]; exact this.2⟩
  · rename_i hs; obtain ⟨F,h1,_⟩:=this; exact ⟨_,h1,by rw [hs]; rfl⟩
  · rename_i hs; exact ⟨_,this.1,by rw [hs]; rfl⟩
theorem HRel.cell {ρ:Nat→Pl} {n:Nat→Prop} {e:HF} {w:World} (h:HRel I ρ n e w) {b:Nat} {g:Option Nat} {v u:SV} {o j:Nat} (hb:e b=some (.cells g v)) (hl:Lies v o u) (hj:j < u.size):
    w.cell? ⟨(ρ b).blk,(ρ b).base+ o+ j,none⟩=(cells ρ u)[j]?:=by
  have:=hl.1
  obtain ⟨c,T,fz,h1,h2,_⟩:=h.obj b _ hb (h.real hb (by omega))
  simp only [World.cell?,h1,Option.isSome_none,Bool.false_eq_true,if_false]
  rw [← hl.2 ρ j hj,← h2 (o+ j) (by omega)]
  congr 1; omega
theorem VOk.cell {ρ:Nat→Pl} {n:Nat→Prop} {e:HF} {w:World} (h:HRel I ρ n e w) {a:Addr} {v:SV} (hv:VOk I a v) {j:Nat} (hj:j < v.size):w.cell? ⟨a.block,a.off+ j,none⟩=(cells ρ v)[j]?:=by
  obtain ⟨_,c,T,fz,h1,h2⟩:=hv
  simp only [World.cell?,h.imm _ _ h1,Option.isSome_none,Bool.false_eq_true,if_false]
  exact h2 ρ j hj
theorem addr_add {a:Addr} (h:a.spot=none) (j:Nat):a.add j=⟨a.block,a.off+ j,none⟩:=by
  cases a; simp only at h; subst h; unfold Addr.add; split<;>simp_all
theorem VOk.sub {a:Addr} {v u:SV} (h:VOk I a v) {o:Nat} (hl:Lies v o u):VOk I (a.add o) u:=by
  obtain ⟨h0,c,T,fz,h1,h2⟩:=h
  rw [addr_add h0]
  refine ⟨rfl,c,T,fz,h1,fun ρ j hj=>?_⟩
  have:=hl.1
  rw [← hl.2 ρ j hj,← h2 ρ (o+ j) (by omega)]
  simp only [Nat.add_assoc]
theorem run_loadVar_of {t:TypeId} {s:STy} (ht:TyOk P t s) {a:Addr} (ha:a.spot=none) {ρ:Nat→Pl} {u:SV} {w:World} (hc:∀j,j < u.size→w.cell? ⟨a.block,a.off+ j,none⟩=(cells ρ u)[j]?)
    (hu:okLoad s u=true):(loadVar t a).run P w=.ok (val ρ u) w:=by
  obtain ⟨d,h1,h2⟩:=ty_agg ht
  simp only [okLoad,Bool.and_eq_true] at hu
  have hs:u.size=s.size:=by simpa using hu.2
  have hlen:=cells_length ρ u
  unfold loadVar
  simp only [Sem.run_bind,run_isAgg h1,Result.andThen_ok,h2]
  cases hsd:s.sd with
  | sc d'=>
    rw [hsd] at hu
    simp at hu
    have hv:=val_scalar ρ hu.1.2 hu.1.1
    rw [hv] at hlen
    have:=hc 0 (by rw [← hlen]; simp)
    rw [hv] at this
    simp at this
    cases a; simp only at ha; subst ha
    simp at this
    simp [this]
  | st fs=>
    rw [hsd] at hu
    have e:=run_loadCells_list (P:=P) w a (cells ρ u) (fun j v hj=>by
      have hjl:=(List.getElem?_eq_some_iff.1 hj).1
      rw [addr_add ha,hc j (by omega),hj])
    rw [hlen,hs] at e
    simp [run_sizeOf ht,e,val_agg ρ hu.1]
  | ar n e' es ea=>
    rw [hsd] at hu
    have e:=run_loadCells_list (P:=P) w a (cells ρ u) (fun j v hj=>by
      have hjl:=(List.getElem?_eq_some_iff.1 hj).1
      rw [addr_add ha,hc j (by omega),hj])
    rw [hlen,hs] at e
    simp [run_sizeOf ht,e,val_agg ρ hu.1]
theorem run_part_of {e:TypeId} {d:TypeDesc} {n:Nat} {g:Bool} (h1:P.underlying e=some d) (hn:(P.info? e).map (·.size)=some n) (hg:aggDesc d=g) {ρ:Nat→Pl} {v u:SV} {o:Nat} (hl:Lies v o u)
    (hu:okPart g n u=true) (w:World):(part e (cells ρ v).toArray o).run P w=.ok (val ρ u) w:=by
  simp only [okPart,Bool.and_eq_true] at hu
  have hs:u.size=n:=by simpa using hu.2
  have hlen:=cells_length ρ u
  have hvl:=cells_length ρ v
  have hle:=hl.1
  cases hi:P.info? e with
  | none=>simp [hi] at hn
  | some i=>
    simp [hi] at hn
    unfold part
    simp only [Sem.run_bind,run_isAgg h1,Result.andThen_ok,hg]
    cases g with
    | true=>
      simp at hu
      simp only [if_true,Sem.run_bind,sizeOf,typeInfo,run_program,hi,Sem.run_pure,Result.andThen_ok,hn,val_agg ρ hu.1]
      congr 2
      apply Array.toList_inj.1
      apply List.ext_getElem?
      intro j
      simp only [Array.toList_extract,List.getElem?_take,List.getElem?_drop,List.extract]
      by_cases hj:j < u.size
      · rw [if_pos (by omega)]; exact hl.2 ρ j hj
      · rw [if_neg (by omega),List.getElem?_eq_none (by omega)]
    | false=>
      simp at hu
      have hv:=val_scalar ρ hu.1.2 hu.1.1
      have h0:=hl.2 ρ 0 (by rw [← hlen,hv]; simp)
      rw [hv] at h0
      simp only [Nat.add_zero,List.getElem?_cons_zero] at h0
      simp [h0]
theorem val_int (ρ:Nat→Pl) (kd:IntKind) (n:Int):val ρ (.int kd n)=.int kd n:=rfl
theorem val_bool (ρ:Nat→Pl) (b:Bool):val ρ (.bool b)=.bool b:=rfl
theorem val_str (ρ:Nat→Pl) (s:ByteArray):val ρ (.str s)=.string s:=rfl
theorem val_ptr (ρ:Nat→Pl) (b:Nat) (p:Path):val ρ (.ptr b p)=.pointer (some ⟨(ρ b).blk,(ρ b).base+ offOf p,none⟩):=rfl
theorem val_vptr (ρ:Nat→Pl) (a:Addr) (v:SV):val ρ (.vptr a v)=.pointer (some a):=rfl
theorem offOf_append (p q:Path):offOf (p++ q)=offOf p+ offOf q:=by
  induction p with
  | nil=>simp [offOf]
  | cons s p ih=>simp [offOf,ih]; omega
theorem intop_spec {op:BinOp} {kd:IntKind} {x y:Int} {k:SV→R α} {r:α} (h:intop op kd x y k=some r) (hs1:op ≠ .shl) (hs2:op ≠ .shr):
    ∃v,k v=some r∧(∀I n,Wf I n v)∧∀ρ t (w:World),(binOp op t (.int kd x) (.int kd y)).run P w=.ok (val ρ v) w:=by
  cases op<;>simp only [intop] at h
  case shl=>exact absurd rfl hs1
  case shr=>exact absurd rfl hs2
  case quo=>
    cases hy:decide (y=0)<;>rw [hy] at h<;>simp at h
    have:¬ y=0:=of_decide_eq_false hy
    exact ⟨_,h,by simp [Wf],fun ρ t w=>by simp [binOp,Op.intDiv,this,val_int]⟩
  case rem=>
    cases hy:decide (y=0)<;>rw [hy] at h<;>simp at h
    have:¬ y=0:=of_decide_eq_false hy
    exact ⟨_,h,by simp [Wf],fun ρ t w=>by simp [binOp,Op.intDiv,this,val_int]⟩
  all_goals first
    | exact ⟨_,h,by simp [Wf],fun ρ t w=>by simp [binOp,Op.intArith,Op.intBits,Op.intCmp,val_int,val_bool,bitop,ltB,leB]⟩
    | simp at h
theorem strop_spec {op:BinOp} {x y:ByteArray} {k:SV→R α} {r:α} (h:strop op x y k=some r):
    ∃v,k v=some r∧(∀I n,Wf I n v)∧∀ρ t (w:World),(binOp op t (.string x) (.string y)).run P w=.ok (val ρ v) w:=by
  cases op<;>simp only [strop] at h
  case add=>
    obtain ⟨h1,h2⟩:=bif_some h
    have h1:=Nat.le_of_ble_eq_true h1
    have h3:¬ ((x.size+ y.size:Nat):Int) > IntKind.i64.max:=by
      show ¬ ((x.size+ y.size:Nat):Int) > 9223372036854775807
      omega
    exact ⟨_,h2,by simp [Wf],fun ρ t w=>by simp only [binOp,Op.stringOp,if_neg h3]; rfl⟩
  case eql=>exact ⟨_,h,by simp [Wf],fun ρ t w=>by simp [binOp,Op.stringOp,val_bool]⟩
  case neq=>exact ⟨_,h,by simp [Wf],fun ρ t w=>by simp [binOp,Op.stringOp,val_bool]⟩
  all_goals simp at h
theorem run_equalIn_nil {t:TypeId} {s:STy} (ht:TyOk P t s) {a b:SV} {c:Bool} (hb:nilness s.sd b=some true) (hc:nilness s.sd a=some c) (ρ:Nat→Pl) (w:World) (d:Nat):
    (Op.equalIn (d+ 1) t (val ρ a) (val ρ b)).run P w=.ok c w∧(Op.equalIn (d+ 1) t (val ρ b) (val ρ a)).run P w=.ok c w:=by
  have hd:=ht.desc
  cases hsd:s.sd with
  | sc d=>
    rw [hsd] at hd hc hb
    simp only at hd
    cases d<;>simp only [aggDesc] at hd
    case pointer e=>
      cases a<;>simp [nilness,isPtrSD,isSliceSD,isFuncSD] at hc<;>cases b<;>simp [nilness,isPtrSD,isSliceSD,isFuncSD] at hb<;>subst hc<;>
        (constructor<;>simp [Op.equalIn,run_underlying hd.1,val,pack,SV.isAgg,cells])
    case slice e=>
      have hn:∀x,nilness (.sc (.slice e)) x=some true→val ρ x=.slice none 0 0:=fun x hx=>by
        cases x<;>simp [nilness,isPtrSD,isSliceSD,isFuncSD] at hx
        · rfl
        · subst hx; rfl
      have hf:∀x,nilness (.sc (.slice e)) x=some false→∃ad n c,val ρ x=.slice (some ad) n c:=fun x hx=>by
        cases x<;>simp [nilness,isPtrSD,isSliceSD,isFuncSD] at hx
        · exact ⟨_,_,_,rfl⟩
        · subst hx; exact ⟨_,_,_,rfl⟩
      have e1:=hn b hb
      cases c
      · obtain ⟨ad,n,cc,e2⟩:=hf a hc
        rw [e1,e2]
        constructor<;>simp [Op.equalIn,run_underlying hd.1]
      · have e2:=hn a hc
        rw [e1,e2]
        constructor<;>simp [Op.equalIn,run_underlying hd.1]
    case func x y z=>
      cases a<;>simp [nilness,isPtrSD,isSliceSD,isFuncSD] at hc<;>cases b<;>simp [nilness,isPtrSD,isSliceSD,isFuncSD] at hb<;>subst hc<;>
        (constructor<;>simp [Op.equalIn,run_underlying hd.1,val,pack,SV.isAgg,cells])
    all_goals (cases a<;>simp [nilness,isPtrSD,isSliceSD,isFuncSD] at hc)
  | st fs=>
    rw [hsd] at hc
    cases a<;>simp [nilness,isPtrSD,isSliceSD,isFuncSD] at hc
  | ar n e es ea=>
    rw [hsd] at hc
    cases a<;>simp [nilness,isPtrSD,isSliceSD,isFuncSD] at hc
end
end Go.Sh
namespace Go.Sh
open Go
section
variable {α:Type} {P:Program} {I:Imm}
theorem run_mapM_list {β γ:Type} {f:β→Sem γ} {g:β→γ} {w:World}:∀{l:List β},(∀x ∈ l,(f x).run P w=.ok (g x) w)→(l.mapM f).run P w=.ok (l.map g) w
  | [],_=>by simp
  | x::l,h=>by
    simp only [List.mapM_cons,Sem.run_bind,h x (by simp),Result.andThen_ok,run_mapM_list (l:=l) (fun y hy=>h y (List.mem_cons_of_mem _ hy)),List.map_cons]
    rfl
theorem run_mapM_array {β γ:Type} {f:β→Sem γ} {g:β→γ} {w:World} {l:Array β} (h:∀x ∈ l.toList,(f x).run P w=.ok (g x) w):(l.mapM f).run P w=.ok (l.map g) w:=by
  rw [Array.mapM_eq_mapM_toList]
  simp only [Sem.run_map,run_mapM_list h,Result.andThen_ok]
  congr 1
  apply Array.toList_inj.1
  simp
def overlay (cs vs:List Value) (o:Nat):List Value:=cs.take o++ vs++ cs.drop (o+ vs.length)
theorem foldl_set (o:Nat):∀(vs:List Value) (i:Nat) (cs:Array Value),o+ i+ vs.length≤cs.size→
    (vs.zipIdx i).foldl (fun cs (x:Value × Nat)=>cs.setIfInBounds (o+ x.2) x.1) cs=(overlay cs.toList vs (o+ i)).toArray
  | [],i,cs,_=>by simp [overlay]
  | v::vs,i,cs,h=>by
    simp only [List.zipIdx_cons,List.foldl_cons]
    rw [foldl_set o vs (i+ 1) _ (by simp at h ⊢; omega)]
    congr 1
    have e:=list_seg_step cs.toList (o+ i) v vs (by simp at h ⊢; omega)
    simpa [overlay,Array.toList_setIfInBounds,Nat.add_assoc] using e
theorem overlay_written {ρ:Nat→Pl} {v x u:SV} {o:Nat} (h:Written v o x u):overlay (cells ρ v) (cells ρ x) o=cells ρ u:=by
  have h1:=cells_length ρ v
  have h2:=cells_length ρ x
  have h3:=cells_length ρ u
  have:=h.room
  have:=h.size
  apply List.ext_getElem?
  intro j
  unfold overlay
  by_cases hj:j < o
  · rw [h.old ρ j (.inl hj),List.append_assoc,List.getElem?_append_left (by simp; omega),List.getElem?_take,if_pos hj]
  · by_cases hj2:j < o+ x.size
    · have hn:=h.new ρ (j - o) (by omega)
      rw [show o+ (j - o)=j by omega] at hn
      rw [hn,List.append_assoc,List.getElem?_append_right (by simp; omega)]
      have e:(List.take o (cells ρ v)).length=o:=by simp; omega
      rw [e,List.getElem?_append_left (by omega)]
    · rw [h.old ρ j (.inr (by omega)),List.getElem?_append_right (by simp; omega)]
      have e:(List.take o (cells ρ v)++ cells ρ x).length=o+ x.size:=by simp; omega
      rw [e,List.getElem?_drop]
      congr 1; omega
theorem fill_spec {g:EF} {place:Nat→(Nat→Nat→Path→R α)→R α} {pl:Nat→Option (Nat × Nat)}
    (hp:∀i k r,place i k=some r→∃o s p,k o s p=some r∧offOf p=o∧pl i=some (o,s)) {k:SV→R α} {r:α}:
    ∀ {ps:List (Nat × Operand)} {acc:SV},buildGo g place ps acc k=some r→∃u,k u=some r∧u.size=acc.size∧
      ∀I N ρ n a,EnvOk I N ρ n g a→Wf I n acc→Wf I n u∧Instr.fill pl (cells ρ acc).toArray (ps.map fun x=>(x.1,a.eval x.2))=some (cells ρ u).toArray
  | [],acc,h=>⟨acc,by simpa [buildGo] using h,rfl,fun I N ρ n a _ hw=>⟨hw,by simp [Instr.fill]⟩⟩
  | (i, x)::ps,acc,h=>by
    simp only [buildGo] at h
    obtain ⟨v,h1,hv⟩:=ev_spec h
    obtain ⟨o,s,p,h2,ho,hpl⟩:=hp _ _ _ h1
    obtain ⟨h3,h4⟩:=bif_some h2
    have hs:v.size=s:=by simpa using h3
    obtain ⟨acc',h5,ht,hw,hwf⟩:=setSub_spec h4
    obtain ⟨u,hu,hus,hall⟩:=fill_spec hp h5
    refine ⟨u,hu,by rw [hus,hw.size],fun I N ρ n a he hwa=>?_⟩
    · obtain ⟨e1,e2⟩:=hv I N ρ n a he
      obtain ⟨g1,g2⟩:=hall I N ρ n a he (hwf I n hwa e2)
      refine ⟨g1,?_⟩
      simp only [List.map_cons,Instr.fill,hpl,e1,val_cells ρ ht]
      have h6:=cells_length ρ v
      have h7:=cells_length ρ acc
      have hroom:=hw.room
      rw [ho] at hw hroom
      rw [if_neg (by simp; omega)]
      have hf:=foldl_set o (cells ρ v) 0 (cells ρ acc).toArray (by simp; omega)
      have e:(cells ρ v).toArray.zipIdx.foldl (fun cs (x:Value × Nat)=>cs.setIfInBounds (o+ x.2) x.1) (cells ρ acc).toArray=(overlay (cells ρ acc) (cells ρ v) o).toArray:=by
        rw [← Array.foldl_toList]
        simpa using hf
      have e':(overlay (cells ρ acc) (cells ρ v) o)=cells ρ acc':=overlay_written hw
      rw [e'] at e
      have goal:=g2
      rw [← e] at goal
      exact goal
def OptIs : Option Value→Option Int→Prop
  | none,none=>True
  | some (.int _ m),some n=>m=n
  | _,_=>False
theorem optInt_spec {g:EF} {x:Option Operand} {k:Option Int→R α} {r:α} (h:optInt g x k=some r):
    ∃n,k n=some r∧∀I N ρ m a,EnvOk I N ρ m g a→OptIs (x.map a.eval) n:=by
  cases x with
  | none=>exact ⟨none,by simpa [optInt] using h,fun _ _ _ _ _ _=>trivial⟩
  | some x=>
    simp only [optInt] at h
    obtain ⟨v,h1,hv⟩:=ev_spec h
    cases v<;>simp at h1
    exact ⟨_,h1,fun I N ρ m a he=>by simp [(hv I N ρ m a he).1,val_int,OptIs]⟩
theorem run_bounds {b:Bool} {len cap:Nat} {lo hi:Option Value} {l h:Option Int} (hl:OptIs lo l) (hh:OptIs hi h) (h1:0≤h.getD len∧h.getD len≤cap) (h2:0≤l.getD 0∧l.getD 0≤h.getD len) (w:World):
    (Instr.sliceBounds b len cap lo hi none).run P w=.ok ((l.getD 0).toNat,(h.getD len).toNat,cap) w:=by
  have forms:∀{v:Option Value} {n:Option Int},OptIs v n→(v=none∧n=none)∨∃kd m,v=some (.int kd m)∧n=some m:=by
    intro v n h
    cases v with
    | none=>cases n<;>simp_all [OptIs]
    | some v=>
      cases n with
      | none=>cases v<;>simp [OptIs] at h
      | some n=>cases v<;>simp [OptIs] at h; subst h; exact .inr ⟨_,_,rfl,rfl⟩
  unfold Instr.sliceBounds
  rcases forms hh with ⟨rfl,rfl⟩ | ⟨kh,hn,rfl,rfl⟩<;>rcases forms hl with ⟨rfl,rfl⟩ | ⟨kl,ln,rfl,rfl⟩<;>simp only [Option.getD_none,Option.getD_some] at h1 h2
  · simp
  · simp [run_sliceBound w kl ln len _ h2.1 h2.2]
  · simp [run_sliceBound w kh hn cap _ h1.1 h1.2]
  · simp [run_sliceBound w kh hn cap _ h1.1 h1.2,run_sliceBound w kl ln hn.toNat _ h2.1 (by omega)]
theorem slcop_spec {te:TE} (hte:TEok P te) {t:TypeId} {x:SV} {lo:Int} {hi l:Option Int} {k:SV→R α} {r:α} (h:slcop te t x lo hi k=some r) (hlo:lo=l.getD 0):
    ∃v,k v=some r∧(∀I n,Wf I n x→Wf I n v)∧∀I n ρ (w:World) lv hv,Wf I n x→OptIs lv l→OptIs hv hi→(Instr.sliceAt t (val ρ x) lv hv none).run P w=.ok (val ρ v) w:=by
  subst hlo
  cases x<;>simp only [slcop] at h<;>try (simp at h; done)
  case str s=>
    obtain ⟨d,h1,ht⟩:=tlook_spec h hte
    have hd:=ht.desc
    split at h1<;>try (simp at h1; done)
    rename_i hsd
    rw [hsd] at hd
    obtain ⟨h3,h4⟩:=bif_some h1
    obtain ⟨h5,h6⟩:=bif_some h4
    simp only [Bool.and_eq_true,decide_eq_true_eq] at h3 h5
    refine ⟨_,h6,fun _ _ _=>by simp [Wf],fun I n ρ w lv hv _ hlv hhv=>?_⟩
    have e:=run_bounds (P:=P) (b:=false) hlv hhv h3 h5 w
    simp only [Instr.sliceAt,Instr.slice,Sem.run_bind,run_underlying hd.1,Result.andThen_ok,val_str,Option.isSome_none,Bool.false_eq_true,if_false,e]
    rfl
  case slc b p sz off len cap=>
    cases cap<;>simp only at h<;>try (simp at h; done)
    rename_i cap
    obtain ⟨d,h1,ht⟩:=tlook_spec h hte
    have hd:=ht.desc
    split at h1<;>try (simp at h1; done)
    rename_i e hsd
    rw [hsd] at hd
    obtain ⟨es,h2,hes⟩:=tlook_spec h1 hte
    obtain ⟨h3,h4⟩:=bif_some h2
    obtain ⟨h5,h6⟩:=bif_some h4
    obtain ⟨h7,h8⟩:=bif_some h6
    have hsz:sz=es.size:=by simpa using h3
    subst hsz
    simp only [Bool.and_eq_true,decide_eq_true_eq] at h5 h7
    refine ⟨_,h8,fun _ _ hw=>by simpa [Wf] using hw,fun I n ρ w lv hv _ hlv hhv=>?_⟩
    have e:=run_bounds (P:=P) (b:=true) hlv hhv h5 h7 w
    simp only [Instr.sliceAt,Instr.slice,Sem.run_bind,run_underlying hd.1,Result.andThen_ok,val,pack,SV.isAgg,cells,cond_false,List.headD_cons,e,run_sizeOf hes,Sem.run_pure]
    congr 2
    by_cases hc:cap=(l.getD 0).toNat
    · simp only [hc,if_true]
    · simp only [hc,if_false,Option.map_some,Addr.add_lit,Option.some.injEq,Addr.mk.injEq,true_and,and_true,Nat.add_mul]
      omega
  case vslc td nl a len cap f=>
    obtain ⟨d,h1,ht⟩:=tlook_spec h hte
    have hd:=ht.desc
    split at h1<;>try (simp at h1; done)
    rename_i e hsd
    rw [hsd] at hd
    obtain ⟨es,h2,hes⟩:=tlook_spec h1 hte
    obtain ⟨h3,h4⟩:=bif_some h2
    obtain ⟨h5,h6⟩:=bif_some h4
    obtain ⟨h7,h8⟩:=bif_some h6
    have hsz:td.size=es.size:=by simpa using h3
    simp only [Bool.and_eq_true,decide_eq_true_eq] at h5 h7
    refine ⟨_,h8,fun I n hw=>?_,fun I n ρ w lv hv hw hlv hhv=>?_⟩
    · simp only [Wf,VW] at hw ⊢
      obtain ⟨w0,w1,w2,w3⟩:=hw
      have e0:0 < cap - (l.getD 0).toNat→(if cap=(l.getD 0).toNat then a else a.add ((l.getD 0).toNat * td.size)).spot=none:=fun h0=>by rw [if_neg (by omega),addr_add (w2 (by omega))]
      refine ⟨fun hnl=>by have:=w0 hnl; omega,by omega,e0,fun i hi=>?_⟩
      have hne:cap ≠ (l.getD 0).toNat:=by omega
      rw [if_neg hne,addr_add (w2 (by omega))]
      obtain ⟨w5,w6⟩:=w3 ((l.getD 0).toNat+ i) (by omega)
      exact ⟨by rw [Nat.add_mul] at w5; simpa only [Nat.add_assoc] using w5,w6⟩
    · simp only [Wf,VW] at hw
      have hes2:=run_sizeOf hes
      rw [← hsz] at hes2
      have e:=run_bounds (P:=P) (b:=true) (cap:=cap) hlv hhv ⟨h5.1,by omega⟩ h7 w
      cases nl
      · simp only [Instr.sliceAt,Instr.slice,Sem.run_bind,run_underlying hd.1,Result.andThen_ok,val,pack,SV.isAgg,cells,cond_false,List.headD_cons,e,hes2,Sem.run_pure]
        congr 2
        split<;>simp
      · obtain ⟨rfl,rfl⟩:=hw.1 rfl
        simp only [Instr.sliceAt,Instr.slice,Sem.run_bind,run_underlying hd.1,Result.andThen_ok,val,pack,SV.isAgg,cells,cond_false,cond_true,List.headD_cons,e,hes2,Sem.run_pure]
        have e1:(l.getD 0).toNat=0:=by omega
        have e2:(hi.getD ((0:Nat):Int)).toNat=0:=by omega
        simp only [e1,e2]
        rfl
  case ptr b p=>
    obtain ⟨d,h1,ht⟩:=tlook_spec h hte
    have hd:=ht.desc
    split at h1<;>try (simp at h1; done)
    rename_i n e es ea hsd
    rw [hsd] at hd
    obtain ⟨h5,h6⟩:=bif_some h1
    obtain ⟨h7,h8⟩:=bif_some h6
    simp only [Bool.and_eq_true,decide_eq_true_eq] at h5 h7
    refine ⟨_,h8,fun _ _ hw=>by simpa [Wf] using hw,fun I n' ρ w lv hv _ hlv hhv=>?_⟩
    have e':=run_bounds (P:=P) (b:=false) hlv hhv h5 h7 w
    obtain ⟨hd1,hd2,hd3⟩:=hd
    have hsz:(sizeOf e).run P w=.ok es w:=by
      cases hi:P.info? e with
      | none=>simp [hi] at hd2
      | some i=>simp [hi] at hd2; simp [sizeOf,typeInfo,hi,hd2]
    simp only [Instr.sliceAt,Sem.run_bind,run_underlying hd1,Result.andThen_ok,val,pack,SV.isAgg,cells,cond_false,List.headD_cons,Instr.sureAddr,Sem.run_pure,e',hsz]
    congr 2
    by_cases hc:n=(l.getD 0).toNat
    · simp only [hc,if_true,Nat.zero_mul,Nat.add_zero]
    · simp only [hc,if_false,Addr.add_lit,Option.some.injEq,Addr.mk.injEq,true_and,and_true]
      omega
  case nils=>
    obtain ⟨d,h1,ht⟩:=tlook_spec h hte
    have hd:=ht.desc
    split at h1<;>try (simp at h1; done)
    rename_i e hsd
    rw [hsd] at hd
    obtain ⟨es,h2,hes⟩:=tlook_spec h1 hte
    obtain ⟨h5,h6⟩:=bif_some h2
    simp only [Bool.and_eq_true,decide_eq_true_eq] at h5
    refine ⟨_,h6,fun _ _ hw=>hw,fun I n ρ w lv hv _ hlv hhv=>?_⟩
    have e:=run_bounds (P:=P) (b:=true) (len:=0) (cap:=0) hlv hhv (by have:=h5.2; simp only [Int.natCast_zero] at *; omega) (by have:=h5.1; have:=h5.2; simp only [Int.natCast_zero] at *; omega) w
    have e1:(l.getD 0).toNat=0:=by rw [h5.1]; rfl
    have e2:(hi.getD ((0:Nat):Int)).toNat=0:=by have:=h5.2; simp only [Int.natCast_zero] at *; omega
    rw [e1,e2] at e
    simp only [Instr.sliceAt,Instr.slice,Sem.run_bind,run_underlying hd.1,Result.andThen_ok,val,pack,SV.isAgg,cells,cond_false,List.headD_cons,e,run_sizeOf hes,Sem.run_pure]
    simp
theorem mnmx_spec {mx:Bool} {g:EF}:∀{l:List Operand} {acc:SV} {k:SV→R α} {r:α},mnmx mx g acc l k=some r→
    ∃ v,k v=some r∧(∀I n,Wf I n acc→Wf I n v)∧∀I N ρ n a (w:World),EnvOk I N ρ n g a→
      ((l.map a.eval).foldlM (if mx then Builtin.max2 else Builtin.min2) (val ρ acc)).run P w=.ok (val ρ v) w
  | [],acc,k,r,h=>⟨acc,by cases acc<;>simpa [mnmx] using h,fun _ _ h=>h,fun I N ρ n a w _=>by simp⟩
  | y ::l,acc,k,r,h=>by
    cases acc<;>simp only [mnmx] at h<;>try (simp at h; done)
    rename_i kd x
    obtain ⟨v,h1,hv⟩:=ev_spec h
    cases v<;>simp only at h1<;>try (simp at h1; done)
    rename_i kd' z
    obtain ⟨u,hu,hw,hall⟩:=mnmx_spec h1
    refine ⟨u,hu,fun I n _=>hw I n (by simp [Wf]),fun I N ρ n a w he=>?_⟩
    have e:=hall I N ρ n a w he
    simp only [List.map_cons,List.foldlM_cons,Sem.run_bind,(hv I N ρ n a he).1,val_int]
    cases mx
    · simp only [Bool.false_eq_true,if_false,Builtin.min2,Sem.run_pure,Result.andThen_ok] at e ⊢
      simpa [val_int,pickmx] using e
    · simp only [if_true,Builtin.max2,Sem.run_pure,Result.andThen_ok] at e ⊢
      simpa [val_int,pickmx] using e
end
end Go.Sh
namespace Go.Sh
open Go
section
variable {α:Type} {P:Program} {I:Imm}
theorem sizeB_spec {e:TypeId} {n:Nat} (h:sizeB P e n=true):(P.info? e).map (·.size)=some n:=by
  unfold sizeB at h
  split at h
  · rename_i i hi; rw [hi]; simp [Nat.eq_of_beq_eq_true h]
  · cases h
theorem aggB_spec {e:TypeId} {g:Bool} (h:aggB P e g=true):∃d,P.underlying e=some d∧aggDesc d=g:=by
  unfold aggB at h
  split at h
  · rename_i d hd; exact ⟨d,hd,by simpa using h⟩
  · cases h
theorem seqF_spec {d:Nat} {q:Shape→SV→SV→(Bool→R α)→R α} {B:TypeId→Shape→Bool}
    (hq:∀(t:TypeId) (s:Shape) (x y:SV) (k:Bool→R α) (r:α),q s x y k=some r→B t s=true→∃c,k c=some r∧∀e,d≤e→∀ρ (w:World),(Op.equalIn e t (val ρ x) (val ρ y)).run P w=.ok c w) {a b:SV}:
    ∀ {F:List Field} {fs:List (Nat × Nat × Bool × Shape)} {i:Nat} {k:Bool→R α} {r:α},seqF q a b i fs k=some r→fieldsB P B F fs=true→
      ∃c,k c=some r∧∀e,d≤e→∀ρ (w:World),(Op.eqFields e (cells ρ a).toArray (cells ρ b).toArray F).run P w=.ok c w
  | [],[],i,k,r,h,_=>⟨true,h,fun e _ ρ w=>by simp [Op.eqFields]⟩
  | [],_::_,_,_,_,_,hB=>by simp [fieldsB] at hB
  | _::_,[],_,_,_,_,hB=>by simp [fieldsB] at hB
  | f::F,(o,sz,g,s)::fs,i,k,r,h,hB=>by
    simp only [fieldsB,Bool.and_eq_true] at hB
    obtain ⟨⟨⟨⟨⟨hn,ho⟩,hsz⟩,hag⟩,hqB⟩,hrest⟩:=hB
    have ho':=Nat.eq_of_beq_eq_true ho
    obtain ⟨x,h1,hx,_⟩:=sub_spec h
    obtain ⟨h2,h3⟩:=bif_some h1
    obtain ⟨y,h4,hy,_⟩:=sub_spec h3
    obtain ⟨h5,h6⟩:=bif_some h4
    obtain ⟨c,h7,hc⟩:=hq _ _ _ _ _ _ h6 hqB
    obtain ⟨c',h8,hc'⟩:=seqF_spec (B:=B) hq h7 hrest
    obtain ⟨dd,hd1,hd2⟩:=aggB_spec hag
    refine ⟨c && c',h8,fun e he ρ w=>?_⟩
    have e1:=run_part_of hd1 (sizeB_spec hsz) hd2 (ρ:=ρ) (by simpa [offOf,Step.off] using hx) h2 w
    have e2:=run_part_of hd1 (sizeB_spec hsz) hd2 (ρ:=ρ) (by simpa [offOf,Step.off] using hy) h5 w
    have hn' : f.name ≠ "_" := by simpa using hn
    simp only [Op.eqFields,hn',ne_eq,not_false_eq_true,if_true,Sem.run_bind,ho',e1,e2,hc e he ρ w,Result.andThen_ok]
    cases c
    · simp
    · simpa using hc' e he ρ w
theorem eqItems_ints {el:TypeId} {kd:IntKind} (hu:P.underlying el=some (.int kd)) {n:Nat} {f g:Nat→Int} {e:Nat} (w:World):∀(is:List Nat),(∀i ∈ is,i < n)→
    (Op.eqItems (e+ 1) el 1 ((List.range n).map fun i=>Value.int kd (f i)).toArray ((List.range n).map fun i=>Value.int kd (g i)).toArray is).run P w=.ok (is.all fun i=>f i==g i) w
  | [],_=>by simp [Op.eqItems]
  | i::is,h=>by
    have hi:=h i (by simp)
    have p1:(part el ((List.range n).map fun i=>Value.int kd (f i)).toArray (i * 1)).run P w=.ok (.int kd (f i)) w:=by simp [part,isAgg,run_underlying hu,hi]
    have p2:(part el ((List.range n).map fun i=>Value.int kd (g i)).toArray (i * 1)).run P w=.ok (.int kd (g i)) w:=by simp [part,isAgg,run_underlying hu,hi]
    have ih:=eqItems_ints hu (e:=e) (f:=f) (g:=g) w is fun j hj=>h j (by simp [hj])
    simp only [Op.eqItems,Sem.run_bind,p1,p2,run_equalIn_int w e el _ _ _ _ hu,Result.andThen_ok,List.all_cons]
    cases hb:(f i==g i)
    · simp
    · simpa using ih
theorem seqB_spec : ∀{d:Nat} (t:TypeId) (s:Shape) (a b:SV) (k:Bool→R α) (r:α),seqB d s a b k=some r→shB P d t s=true→∃c,k c=some r∧∀e,d≤e→∀ρ (w:World),(Op.equalIn e t (val ρ a) (val ρ b)).run P w=.ok c w
  | 0,_,_,_,_,_,_,h,_=>by simp [seqB] at h
  | d + 1,t,s,a,b,k,r,h,hB=>by
    unfold shB at hB
    split at hB<;>try (simp at hB; done)
    · rename_i hu
      simp only [seqB] at h
      split at h<;>try (simp at h; done)
      exact ⟨_,h,fun e he ρ w=>by obtain ⟨e,rfl⟩:∃e',e=e'+ 1:=⟨e - 1,by omega⟩; rw [val_bool,val_bool]; exact run_equalIn_bool w e t _ _ hu⟩
    · rename_i kd k' hu
      have hk:=of_decide_eq_true hB
      subst hk
      simp only [seqB] at h
      split at h<;>try (simp at h; done)
      obtain ⟨h1,h2⟩:=bif_some h
      simp only [Bool.and_eq_true,decide_eq_true_eq] at h1
      obtain ⟨rfl,rfl⟩:=h1
      exact ⟨_,h2,fun e he ρ w=>by obtain ⟨e,rfl⟩:∃e',e=e'+ 1:=⟨e - 1,by omega⟩; rw [val_int,val_int,run_equalIn_int w e t _ _ _ _ hu]⟩
    · rename_i hu
      simp only [seqB] at h
      split at h<;>try (simp at h; done)
      exact ⟨_,h,fun e he ρ w=>by obtain ⟨e,rfl⟩:∃e',e=e'+ 1:=⟨e - 1,by omega⟩; rw [val_str,val_str]; exact run_equalIn_string w e t _ _ hu⟩
    · rename_i F fs hu
      simp only [Bool.and_eq_true,Bool.not_eq_true'] at hB
      simp only [seqB] at h
      obtain ⟨h1,h2⟩:=bif_some h
      simp only [Bool.and_eq_true] at h1
      obtain ⟨c,h3,h4⟩:=seqF_spec (P:=P) (B:=shB P d) (d:=d) (fun t s x y k r hq hb=>seqB_spec t s x y k r hq hb) h2 hB.2
      refine ⟨c,h3,fun e he ρ w=>?_⟩
      obtain ⟨e,rfl⟩:∃e',e=e'+ 1:=⟨e - 1,by omega⟩
      have hf:P.fieldsOf t=F:=by simp [Program.fieldsOf,hu]
      rw [val_agg ρ h1.1,val_agg ρ h1.2,run_equalIn_struct w e t _ _ (by rw [hf]; exact hu) hB.1,hf]
      exact h4 e (by omega) ρ w
    · rename_i n el n' es s hu
      simp only [Bool.and_eq_true] at hB
      simp only [seqB] at h
      split at h<;>try (simp at h; done)
      rename_i j m f j' m' g kd
      obtain ⟨h1,h2⟩:=bif_some h
      simp only [Bool.and_eq_true,decide_eq_true_eq] at h1
      obtain ⟨⟨hj,hj'⟩,he1,hm1,hm2⟩:=h1
      have hes:=Nat.eq_of_beq_eq_true he1
      have hm:=Nat.eq_of_beq_eq_true hm1
      have hm':=Nat.eq_of_beq_eq_true hm2
      have hn:=Nat.eq_of_beq_eq_true hB.1.1
      subst hes hm hm' hn
      have hsz:=sizeB_spec hB.1.2
      have hel:P.underlying el=some (.int kd):=by
        have:=hB.2
        cases d with
        | zero=>simp [shB] at this
        | succ d=>
          cases hu2:P.underlying el with
          | none=>simp [shB,hu2] at this
          | some dd=>
            cases dd<;>simp [shB,hu2] at this
            rw [this]
      cases hi:P.info? el with
      | none=>simp [hi] at hsz
      | some i=>
        have hc:P.cellsOf el=1:=by simp [hi] at hsz; simp [Program.cellsOf,hi,hsz]
        refine ⟨_,h2,fun e he ρ w=>?_⟩
        obtain ⟨e,rfl⟩:∃e',e=e'+ 1:=⟨e - 1,by omega⟩
        cases d with
        | zero=>simp [shB] at hB
        | succ d=>
          obtain ⟨e,rfl⟩:∃e',e=e'+ 1:=⟨e - 1,by omega⟩
          rw [val_agg ρ rfl,val_agg ρ rfl,run_equalIn_array w (e+ 1) _ _ hu hi,hc,hj,hj']
          exact eqItems_ints hel w _ fun i hi=>List.mem_range.1 hi
theorem eqop_spec {te:TE} (hte:TEok P te) {t:TypeId} {a b:SV} {k:Bool→R α} {r:α} (h:eqop te t a b k=some r):
    ∃c,k c=some r∧∀ρ (w:World),(Op.equal t (val ρ a) (val ρ b)).run P w=.ok c w∧(∀kd x,val ρ a ≠ .int kd x)∧(∀z,val ρ a ≠ .string z)∧(∀kd x,val ρ a ≠ .float kd x)∧(∀kd x y,val ρ a ≠ .complex kd x y)∧(val ρ a ≠ .nilIface)∧(P.eqGuardType P.depth t=false∨∀z,val ρ a ≠ .agg z):=by
  unfold eqop at h
  split at h
  · rename_i x y
    obtain ⟨s,h1,ht⟩:=tlook_spec h hte
    obtain ⟨h2,h3⟩:=bif_some h1
    have hd:=ht.desc
    cases hsd:s.sd with
    | sc d=>
      rw [hsd] at hd h2
      cases d<;>simp [isBoolSD] at h2
      exact ⟨_,h3,fun ρ w=>⟨run_equal_bool w t x y hd.1,by simp [val_bool],by simp [val_bool],by simp [val_bool],by simp [val_bool],by simp [val_bool],.inr (by simp [val_bool])⟩⟩
    | st fs=>rw [hsd] at h2; simp [isBoolSD] at h2
    | ar n e es ea=>rw [hsd] at h2; simp [isBoolSD] at h2
  · obtain ⟨s,h1,ht⟩:=tlook_spec h hte
    split at h1
    · rename_i sh hsh
      obtain ⟨h2,h3⟩:=bif_some h1
      simp only [Bool.and_eq_true] at h2
      obtain ⟨e1,e2⟩:=ht.eqs sh hsh
      obtain ⟨c,h4,h5⟩:=seqB_spec t sh a b k r h3 e1
      refine ⟨c,h4,fun ρ w=>⟨h5 Op.maxDepth (by decide) ρ w,?_⟩⟩
      rw [val_agg ρ h2.1]
      exact ⟨by simp,by simp,by simp,by simp,by simp,.inl e2⟩
    have shape:∀{x:SV} {c:Bool},nilness s.sd x=some c→∀ρ,(∀kd y,val ρ x ≠ .int kd y)∧(∀z,val ρ x ≠ .string z)∧(∀kd y,val ρ x ≠ .float kd y)∧(∀kd y z,val ρ x ≠ .complex kd y z)∧(val ρ x ≠ .nilIface)∧(P.eqGuardType P.depth t=false∨∀z,val ρ x ≠ .agg z):=by
      intro x c hx ρ
      cases x
      case vslc _ nl _ _ _ _=>cases nl<;>simp [val,pack,SV.isAgg,cells]
      all_goals (simp [nilness] at hx<;>simp [val,pack,SV.isAgg,cells])
    cases ha:nilness s.sd a with
    | none=>rw [ha] at h1; simp at h1
    | some c=>
      cases hb:nilness s.sd b with
      | none=>rw [ha,hb] at h1; cases c<;>simp at h1
      | some c'=>
        rw [ha,hb] at h1
        cases c'
        · cases c
          · simp at h1
          · exact ⟨false,h1,fun ρ w=>⟨(run_equalIn_nil ht ha hb ρ w 9999).2,shape ha ρ⟩⟩
        · refine ⟨c,by cases c<;>simpa using h1,fun ρ w=>⟨(run_equalIn_nil ht hb ha ρ w 9999).1,shape ha ρ⟩⟩
theorem intop2_spec {op:BinOp} {t:TypeId} {kd kd':IntKind} {x y:Int} {k:SV→R α} {r:α} (h:intop2 op kd x kd' y k=some r):
    ∃v,k v=some r∧(∀I n,Wf I n v)∧∀ρ (w:World),(Go.binOp op t (.int kd x) (.int kd' y)).run P w=.ok (val ρ v) w:=by
  have other:(bif decide (kd=kd') then intop op kd x y k else none)=some r→op ≠ .shl→op ≠ .shr→∃v,k v=some r∧(∀I n,Wf I n v)∧∀ρ (w:World),(Go.binOp op t (.int kd x) (.int kd' y)).run P w=.ok (val ρ v) w:=by
    intro h h1 h2
    obtain ⟨h3,h4⟩:=bif_some h
    have hk:=of_decide_eq_true h3
    subst hk
    obtain ⟨v,hv,hw,hr⟩:=intop_spec h4 h1 h2
    exact ⟨v,hv,hw,fun ρ w=>hr ρ t w⟩
  cases op
  case shl=>
    simp only [intop2] at h
    cases hy:decide (y < 0)<;>rw [hy] at h<;>simp at h
    have hy:=of_decide_eq_false hy
    exact ⟨_,h,by simp [Wf],fun ρ w=>by simp [val_int,Go.binOp,Op.shift,hy,gshl]⟩
  case shr=>
    simp only [intop2] at h
    cases hy:decide (y < 0)<;>rw [hy] at h<;>simp at h
    have hy:=of_decide_eq_false hy
    exact ⟨_,h,by simp [Wf],fun ρ w=>by simp [val_int,Go.binOp,Op.shift,hy,gshr]⟩
  all_goals exact other h (by simp) (by simp)
theorem binop_spec {te:TE} (hte:TEok P te) {op:BinOp} {t:TypeId} {a b:SV} {k:SV→R α} {r:α} (h:binop te op t a b k=some r):
    ∃v,k v=some r∧(∀I n,Wf I n v)∧∀ρ x y (w:World),(do eqGuard op t x y (val ρ a) (val ρ b); Go.binOp op t (val ρ a) (val ρ b):Sem Value).run P w=.ok (val ρ v) w:=by
  unfold binop at h
  split at h
  · rename_i kd x kd' y
    obtain ⟨v,hv,hw,hr⟩:=intop2_spec (P:=P) (t:=t) h
    refine ⟨v,hv,hw,fun ρ x' y' w=>?_⟩
    have e:(eqGuard op t x' y' (val ρ (.int kd x)) (val ρ (.int kd' y))).run P w=.ok () w:=by
      cases op<;>simp [eqGuard,val_int]
    simp only [Sem.run_bind,e,Result.andThen_ok]
    exact hr ρ w
  · rename_i x y
    obtain ⟨v,hv,hw,hr⟩:=strop_spec (P:=P) h
    refine ⟨v,hv,hw,fun ρ x' y' w=>?_⟩
    have e:(eqGuard op t x' y' (val ρ (.str x)) (val ρ (.str y))).run P w=.ok () w:=by
      cases op<;>simp [eqGuard,val_str]
    simp only [Sem.run_bind,e,Result.andThen_ok]
    exact hr ρ t w
  · have key:∀{op:BinOp} {neg:Bool},(op=.eql∧neg=false)∨(op=.neq∧neg=true)→∀{c:Bool},(∀ρ (w:World),(Op.equal t (val ρ a) (val ρ b)).run P w=.ok c w∧(∀kd x,val ρ a ≠ .int kd x)∧(∀z,val ρ a ≠ .string z)∧(∀kd x,val ρ a ≠ .float kd x)∧(∀kd x y,val ρ a ≠ .complex kd x y)∧(val ρ a ≠ .nilIface)∧(P.eqGuardType P.depth t=false∨∀z,val ρ a ≠ .agg z))→
        ∀ρ x y (w:World),(do eqGuard op t x y (val ρ a) (val ρ b); Go.binOp op t (val ρ a) (val ρ b):Sem Value).run P w=.ok (.bool (c ^^ neg)) w:=by
      intro op neg ho c hr ρ x' y' w
      obtain ⟨h1,h2,h3,h4,h5,h6,h7⟩:=hr ρ w
      generalize val ρ a=va at *
      generalize val ρ b=vb at *
      have e:(eqGuard op t x' y' va vb).run P w=.ok () w:=by
        rcases ho with ⟨rfl,_⟩ | ⟨rfl,_⟩<;>cases va<;>first | (exact absurd rfl h6) | (rcases h7 with h7 | h7<;>first | (exact absurd rfl (h7 _)) | (cases vb<;>simp [eqGuard,h7])) | simp [eqGuard]
      simp only [Sem.run_bind,e,Result.andThen_ok]
      rcases ho with ⟨rfl,rfl⟩ | ⟨rfl,rfl⟩<;>cases va<;>first | (exact absurd rfl (h2 _ _)) | (exact absurd rfl (h3 _)) | (exact absurd rfl (h4 _ _)) | (exact absurd rfl (h5 _ _ _)) | (simp [Go.binOp,h1])
    cases op<;>simp only [cmpop] at h<;>try (simp at h; done)
    · obtain ⟨c,hc,hr⟩:=eqop_spec hte h
      exact ⟨_,hc,by simp [Wf],fun ρ x' y' w=>by have:=key (.inl ⟨rfl,rfl⟩) hr ρ x' y' w; simpa [val_bool] using this⟩
    · obtain ⟨c,hc,hr⟩:=eqop_spec hte h
      exact ⟨_,hc,by simp [Wf],fun ρ x' y' w=>by have:=key (.inr ⟨rfl,rfl⟩) hr ρ x' y' w; simpa [val_bool] using this⟩
theorem unop_spec {op:UnOp} {a:SV} {k:SV→R α} {r:α} (h:unop op a k=some r):
    ∃v,k v=some r∧(∀I n,Wf I n v)∧∀ρ (w:World),(Op.unary op (val ρ a)).run P w=.ok (val ρ v) w:=by
  unfold unop at h
  split at h<;>try (simp at h; done)
  · exact ⟨_,h,by simp [Wf],fun ρ w=>by simp [Op.unary,val_int,Op.intArith]⟩
  · exact ⟨_,h,by simp [Wf],fun ρ w=>by simp only [Op.unary,val_int,Op.intBits,Sem.run_pure,bitop]⟩
  · exact ⟨_,h,by simp [Wf],fun ρ w=>by simp [Op.unary,val_bool]⟩
theorem conv_spec {src dst:TypeId} {s d:STy} (hs:TyOk P src s) (hd:TyOk P dst d) {a:SV} {k:SV→R α} {r:α} (h:conv d.sd a k=some r):
    ∃v,k v=some r∧(∀I n,Wf I n v)∧∀ρ (w:World),(convert src dst (val ρ a)).run P w=.ok (val ρ v) w:=by
  unfold conv at h
  have hdd:=hd.desc
  obtain ⟨ds,hs1⟩:=ty_under hs
  split at h<;>try (simp at h; done)
  · rename_i kd _ x hsd
    rw [hsd] at hdd
    refine ⟨_,h,by simp [Wf],fun ρ w=>?_⟩
    simp only [convert,Sem.run_bind,run_underlying hs1,run_underlying hdd.1,Result.andThen_ok,val_int]
    cases ds<;>simp [Conv.intToInt]
  · rename_i x hsd
    rw [hsd] at hdd
    refine ⟨_,h,by simp [Wf],fun ρ w=>?_⟩
    simp only [convert,Sem.run_bind,run_underlying hs1,run_underlying hdd.1,Result.andThen_ok,val_str]
    cases ds<;>simp
theorem convH_spec {te:TE} (hte:TEok P te) {src dst:TypeId} {s d:STy} (hs:TyOk P src s) (hd:TyOk P dst d) {h:HF} {a:SV} {k:SV→R α} {r:α} (hk:convH te s.sd d.sd h a k=some r):
    ∃v,k v=some r∧(∀I n,Wf I n v)∧∀I ρ n (w:World),HRel I ρ n h w→(convert src dst (val ρ a)).run P w=.ok (val ρ v) w:=by
  have hsd:=hs.desc
  have hdd:=hd.desc
  unfold convH at hk
  split at hk
  · rename_i b p sz off len cap
    split at hk<;>try (simp at hk; done)
    rename_i e h1 h2
    obtain ⟨es,h3,hes⟩:=tlook_spec hk hte
    have hed:=hes.desc
    split at h3<;>try (simp at h3; done)
    rename_i h4
    split at h3<;>try (simp at h3; done)
    rename_i g v hb
    obtain ⟨u,h5,hl,_⟩:=sub_spec h3
    split at h5<;>try (simp at h5; done)
    rename_i m f _
    obtain ⟨h6,h7⟩:=bif_some h5
    simp only [Bool.and_eq_true,decide_eq_true_eq] at h6
    obtain ⟨h6,h8⟩:=h6
    have:=Nat.eq_of_beq_eq_true h6
    subst this
    rw [h1] at hsd; rw [h2] at hdd; rw [h4] at hed
    refine ⟨_,h7,by simp [Wf],fun I ρ n w hh=>?_⟩
    have ev:val ρ (.slc b p 1 off len cap)=.slice (some ⟨(ρ b).blk,(ρ b).base+ offOf p+ off,none⟩) len (match cap with | some c=>c | none=>(ρ b).cap - off):=by
      simp only [val,pack,SV.isAgg,cells,Nat.mul_one,Nat.add_assoc]; rfl
    rw [ev,val_str]
    refine run_convert_bytes_arg w src e hsd.1 hed.1 _ _ _ _ _ (by simp) (fun i hi=>?_) dst hdd.1
    have:=hh.cell (j:=off+ i) hb hl (by simp [SV.size]; omega)
    rw [show (ρ b).base+ offOf p+ off+ i=(ρ b).base+ offOf p+ (off+ i) by omega,this]
    simp [cells,hi,show off+ i < m by omega]
  · rename_i b sz len
    split at hk<;>try (simp at hk; done)
    rename_i e h1 h2
    obtain ⟨es,h3,hes⟩:=tlook_spec hk hte
    have hed:=hes.desc
    split at h3<;>try (simp at h3; done)
    rename_i h4
    split at h3<;>try (simp at h3; done)
    rename_i g v hb
    split at h3<;>try (simp at h3; done)
    rename_i m f
    obtain ⟨h6,h7⟩:=bif_some h3
    simp only [Bool.and_eq_true,decide_eq_true_eq] at h6
    obtain ⟨h6,h8⟩:=h6
    have:=Nat.eq_of_beq_eq_true h6
    subst this
    rw [h1] at hsd; rw [h2] at hdd; rw [h4] at hed
    refine ⟨_,h7,by simp [Wf],fun I ρ n w hh=>?_⟩
    rw [val_str]
    rcases val_oslc ρ b 1 len with ⟨_,rfl,ev⟩ | ev<;>rw [ev]
    · have e0:strOf f 0=.empty:=rfl
      rw [e0]
      exact run_convert_bytes_nil w src e hsd.1 hed.1 _ _ dst hdd.1
    · refine run_convert_bytes_arg w src e hsd.1 hed.1 _ _ _ _ _ (by simp) (fun i hi=>?_) dst hdd.1
      have:=hh.cell (j:=i) hb (Lies.refl _) (by simp [SV.size]; omega)
      rw [show (ρ b).base+ i=(ρ b).base+ 0+ i by omega,this]
      simp [cells,hi,show i < m by omega]
  · split at hk<;>try (simp at hk; done)
    rename_i e h1 h2
    obtain ⟨es,h3,hes⟩:=tlook_spec hk hte
    have hed:=hes.desc
    split at h3<;>try (simp at h3; done)
    rename_i h4
    rw [h1] at hsd; rw [h2] at hdd; rw [h4] at hed
    refine ⟨_,h3,by simp [Wf],fun I ρ n w hh=>?_⟩
    have ev:val ρ .nils=.slice none 0 0:=by simp [val,pack,SV.isAgg,cells]
    rw [ev,val_str]
    exact run_convert_bytes_nil w src e hsd.1 hed.1 _ _ dst hdd.1
  · obtain ⟨v,h4,hw,hr⟩:=conv_spec hs hd hk
    exact ⟨v,h4,hw,fun I ρ n w _=>hr ρ w⟩
theorem fields_at {t:TypeId} {s:STy} (ht:TyOk P t s) {fs:List (Nat × Nat × Bool)} (hsd:s.sd=.st fs):∃F:Array Field,P.underlying t=some (.struct F)∧
    ∀(i:Nat) (f:Nat × Nat × Bool),fs[i]?=some f→∃fd:Field,F[i]?=some fd∧fd.offset=f.1∧(P.info? fd.type).map (·.size)=some f.2.1∧isAggT P fd.type=some f.2.2:=by
  have hd:=ht.desc
  rw [hsd] at hd
  obtain ⟨F,h1,h2⟩:=hd
  refine ⟨F,h1,fun i f hf=>?_⟩
  have e:=congrArg (fun l=>l[i]?) h2
  simp only [List.getElem?_map,hf,Option.map_some] at e
  cases hF:F.toList[i]? with
  | none=>rw [hF] at e; simp at e
  | some fd=>
    rw [hF] at e
    simp only [Option.map_some,Option.some.injEq,Prod.mk.injEq] at e
    exact ⟨fd,by simpa using hF,e.1,e.2.1,e.2.2⟩
theorem run_sizeOf' {t:TypeId} {n:Nat} (h:(P.info? t).map (·.size)=some n) (w:World):(sizeOf t).run P w=.ok n w:=by
  cases hi:P.info? t with
  | none=>simp [hi] at h
  | some i=>simp [hi] at h; simp [sizeOf,typeInfo,hi,h]
theorem isAggT_spec {t:TypeId} {g:Bool} (h:isAggT P t=some g):∃d,P.underlying t=some d∧aggDesc d=g:=by
  unfold isAggT at h
  cases hu:P.underlying t with
  | none=>simp [hu] at h
  | some d=>simp [hu] at h; exact ⟨d,rfl,h⟩
def POk (P:Program) (I:Imm) (g:EF) (e:HF) (o:Oper) (v:SV):Prop:=
  ∀n N ρ a w,EnvOk I N ρ n g a→HRel I ρ n e w→(execOp a.eval o).run P w=.ok (.value (val ρ v)) w∧Wf I n v
end
end Go.Sh
namespace Go.Sh
open Go
section
variable {α:Type} {P:Program} {I:Imm}
theorem lookM_pick {kd:IntKind} {n:Int} {k:SV→R α} {r:α} {z:SV}:∀{l:List (SV × SV)},lookM kd n l z k=some r→
    ∃ v,k v=some r∧∀ρ (ms:List MapEntry) (i:Nat),ms.map (fun m=>(m.key,m.val))=l.map (fun e=>(val ρ e.1,val ρ e.2))→
      ((∃j e,e ∈ l∧e.2=v∧Instr.findNow (.int kd) (.int kd n) ms i=some (some (j,val ρ v)))∨(v=z∧Instr.findNow (.int kd) (.int kd n) ms i=some none))
  | [],h=>⟨z,by simpa [lookM] using h,fun ρ ms i hm=>.inr ⟨rfl,by cases ms<;>simp at hm; rfl⟩⟩
  | (a, v)::l,h=>by
    unfold lookM at h
    split at h
    · rename_i heq; simp at heq
    · rename_i kd' n' v' l' heq
      simp only [List.cons.injEq,Prod.mk.injEq] at heq
      obtain ⟨⟨rfl,rfl⟩,rfl⟩:=heq
      obtain ⟨h1,h2⟩:=bif_some h
      have:=of_decide_eq_true h1
      subst this
      by_cases e:n=n'
      · rw [decide_eq_true e] at h2
        refine ⟨v,h2,fun ρ ms i hm=>.inl ⟨i,(.int kd' n',v),by simp,rfl,?_⟩⟩
        cases ms with
        | nil=>simp at hm
        | cons m ms=>
          simp only [List.map_cons,List.cons.injEq,Prod.mk.injEq] at hm
          obtain ⟨⟨hk,hv⟩,_⟩:=hm
          rw [val_int] at hk
          simp [Instr.findNow,hk,Instr.sameNow,e,hv]
      · rw [decide_eq_false e] at h2
        obtain ⟨u,h3,h4⟩:=lookM_pick h2
        refine ⟨u,h3,fun ρ ms i hm=>?_⟩
        cases ms with
        | nil=>simp at hm
        | cons m ms=>
          simp only [List.map_cons,List.cons.injEq,Prod.mk.injEq] at hm
          obtain ⟨⟨hk,hv⟩,hms⟩:=hm
          rw [val_int] at hk
          have e2:Instr.findNow (.int kd') (.int kd' n) (m::ms) i=Instr.findNow (.int kd') (.int kd' n) ms (i+ 1):=by
            have:(n==n')=false:=by simpa using e
            simp [Instr.findNow,hk,Instr.sameNow,this]
          rw [e2]
          rcases h4 ρ ms (i+ 1) hms with ⟨j,e',h5,h6,h7⟩ | h4
          · exact .inl ⟨j,e',List.mem_cons_of_mem _ h5,h6,h7⟩
          · exact .inr h4
    · cases h
theorem nth_wf {n:Nat→Prop} {l:List SV} {i:Nat} {v:SV} (h:l[i]?=some v) (hw:Wfs I n l):Wf I n v:=wfs_iff.1 hw v (List.mem_of_getElem? h)
set_option maxHeartbeats 1000000 in
theorem pval_spec {te:TE} (hte:TEok P te) {o:Oper} {g:EF} {hp:HF} {k:SV→R α} {r:α} (h:pval te o.op g hp k=some r):
    ∃v,k v=some r∧POk P I g hp o v:=by
  obtain ⟨dst,op,type,pos,after,guard⟩:=o
  cases op<;>simp only [pval] at h<;>try (simp at h; done)
  case move x=>
    obtain ⟨v,h1,hv⟩:=ev_spec h
    exact ⟨v,h1,fun m N ρ a w he hh=>⟨by simp [execOp,(hv I N ρ _ a he).1],(hv I N ρ _ a he).2⟩⟩
  case assign x=>
    obtain ⟨v,h1,hv⟩:=ev_spec h
    exact ⟨v,h1,fun m N ρ a w he hh=>⟨by simp [execOp,(hv I N ρ _ a he).1],(hv I N ρ _ a he).2⟩⟩
  case pick c x y=>
    obtain ⟨c',h1,hc⟩:=ev_spec h
    cases c'<;>(try simp only at h1)<;>try (simp at h1; done)
    rename_i b
    cases b
    · obtain ⟨v,h2,hv⟩:=ev_spec h1
      exact ⟨v,h2,fun m N ρ a w he hh=>⟨by simp [execOp,(hc I N ρ _ a he).1,(hv I N ρ _ a he).1,val_bool,asBool],(hv I N ρ _ a he).2⟩⟩
    · obtain ⟨v,h2,hv⟩:=ev_spec h1
      exact ⟨v,h2,fun m N ρ a w he hh=>⟨by simp [execOp,(hc I N ρ _ a he).1,(hv I N ρ _ a he).1,val_bool,asBool],(hv I N ρ _ a he).2⟩⟩
  case load t x=>
    obtain ⟨s,h1,ht⟩:=tlook_spec h hte
    obtain ⟨p,h2,hp⟩:=ev_spec h1
    cases p<;>(try simp only at h2)<;>try (simp at h2; done)
    · rename_i b p
      split at h2<;>try (simp at h2; done)
      rename_i g' v h3
      have h4:=h2
      obtain ⟨u,h5,hl,hw⟩:=sub_spec h4
      obtain ⟨h6,h7⟩:=bif_some h5
      refine ⟨u,h7,fun m N ρ a w he hh=>⟨?_,hw I _ (hh.wf.dom b _ h3).2⟩⟩
      have e:=run_loadVar_of (P:=P) ht (a:=⟨(ρ b).blk,(ρ b).base+ offOf p,none⟩) rfl (ρ:=ρ) (u:=u) (w:=w) (fun j hj=>hh.cell h3 hl hj) h6
      simp [execOp,(hp I N ρ _ a he).1,val_ptr,Instr.loadAt,Instr.sureAddr,e]
    · rename_i ad v
      obtain ⟨h6,h7⟩:=bif_some h2
      refine ⟨v,h7,fun m N ρ a w he hh=>?_⟩
      obtain ⟨e1,e2⟩:=hp I N ρ _ a he
      simp only [Wf] at e2
      have e:=run_loadVar_of (P:=P) ht (a:=ad) e2.1.1 (ρ:=ρ) (u:=v) (w:=w) (fun j hj=>VOk.cell hh e2.1 hj) h6
      exact ⟨by simp [execOp,e1,val_vptr,Instr.loadAt,Instr.sureAddr,e],e2.2.mono fun _ h=>h.elim⟩
  case nilCheck x=>
    obtain ⟨v,h1,hv⟩:=ev_spec h
    cases v<;>(try simp only at h1)<;>try (simp at h1; done)
    · exact ⟨_,h1,fun m N ρ a w he hh=>⟨by simp [execOp,(hv I N ρ _ a he).1,val_ptr],(hv I N ρ _ a he).2⟩⟩
    · exact ⟨_,h1,fun m N ρ a w he hh=>⟨by simp [execOp,(hv I N ρ _ a he).1,val_vptr],(hv I N ρ _ a he).2⟩⟩
    · rename_i f fs cs
      cases f<;>(try simp only at h1)<;>try (simp at h1; done)
      exact ⟨_,h1,fun m N ρ a w he hh=>⟨by simp [execOp,(hv I N ρ _ a he).1,val,pack,SV.isAgg,cells],(hv I N ρ _ a he).2⟩⟩
  case binOp op t x y t'=>
    obtain ⟨a1,h1,ha⟩:=ev_spec h
    obtain ⟨b1,h2,hb⟩:=ev_spec h1
    obtain ⟨v,h3,hw,hr⟩:=binop_spec hte h2
    refine ⟨v,h3,fun m N ρ a w he hh=>⟨?_,hw _ _⟩⟩
    have e:=hr ρ x y w
    simp only [execOp,(ha I N ρ _ a he).1,(hb I N ρ _ a he).1]
    rw [Sem.run_bind,e]; rfl
  case unOp op t x=>
    obtain ⟨a1,h1,ha⟩:=ev_spec h
    obtain ⟨v,h3,hw,hr⟩:=unop_spec (P:=P) h1
    exact ⟨v,h3,fun m N ρ a w he hh=>⟨by simp [execOp,(ha I N ρ _ a he).1,hr ρ w],hw _ _⟩⟩
  case convert src dst' x=>
    obtain ⟨s,h1,hs⟩:=tlook_spec h hte
    obtain ⟨d,h2,hd⟩:=tlook_spec h1 hte
    obtain ⟨a1,h3,ha⟩:=ev_spec h2
    obtain ⟨v,h4,hw,hr⟩:=convH_spec hte hs hd h3
    exact ⟨v,h4,fun m N ρ a w he hh=>⟨by simp [execOp,(ha I N ρ _ a he).1,hr I ρ _ w hh],hw _ _⟩⟩
  case fieldAddr t x i=>
    obtain ⟨s,h1,ht⟩:=tlook_spec h hte
    split at h1<;>try (simp at h1; done)
    rename_i fs hsd
    obtain ⟨f,h2,h3⟩:=nth_spec h1
    cases hz:Nat.beq f.2.1 0<;>rw [hz] at h3<;>simp only [cond_false,cond_true] at h3<;>try (simp at h3; done)
    have hz':f.2.1 ≠ 0:=fun e=>by rw [e] at hz; simp at hz
    obtain ⟨F,hu,hF⟩:=fields_at ht hsd
    obtain ⟨fd,hfd,ho,hsz,hag⟩:=hF i f h2
    obtain ⟨p,h4,hp⟩:=ev_spec h3
    cases p<;>(try simp only at h4)<;>try (simp at h4; done)
    · rename_i b p
      refine ⟨_,h4,fun m N ρ a w he hh=>?_⟩
      obtain ⟨e1,e2⟩:=hp I N ρ _ a he
      refine ⟨?_,by simpa [Wf] using e2⟩
      simp [execOp,e1,val_ptr,Instr.fieldAt,run_underlying hu,hfd,Instr.sureAddr,fieldPlace,run_sizeOf' hsz,hz',ho,Addr.add_lit,offOf_append,offOf,Step.off,Nat.add_assoc]
    · rename_i ad v
      obtain ⟨u,h5,hl,hw⟩:=sub_spec h4
      refine ⟨_,h5,fun m N ρ a w he hh=>?_⟩
      obtain ⟨e1,e2⟩:=hp I N ρ _ a he
      simp only [Wf] at e2 ⊢
      refine ⟨?_,?_,hw I _ e2.2⟩
      · simp [execOp,e1,val_vptr,Instr.fieldAt,run_underlying hu,hfd,Instr.sureAddr,fieldPlace,run_sizeOf' hsz,hz',ho]
      · have:=VOk.sub e2.1 hl
        simpa [offOf,Step.off] using this
  case field t x i=>
    obtain ⟨s,h1,ht⟩:=tlook_spec h hte
    split at h1<;>try (simp at h1; done)
    rename_i fs hsd
    obtain ⟨f,h2,h3⟩:=nth_spec h1
    obtain ⟨F,hu,hF⟩:=fields_at ht hsd
    obtain ⟨fd,hfd,ho,hsz,hag⟩:=hF i f h2
    obtain ⟨d,hd1,hd2⟩:=isAggT_spec hag
    obtain ⟨p,h4,hp⟩:=ev_spec h3
    cases p<;>(try simp only at h4)<;>try (simp at h4; done)
    obtain ⟨u,h5,hl,hw⟩:=sub_spec h4
    obtain ⟨h6,h7⟩:=bif_some h5
    refine ⟨u,h7,fun m N ρ a w he hh=>?_⟩
    obtain ⟨e1,e2⟩:=hp I N ρ _ a he
    have e3:=run_part_of hd1 hsz hd2 (ρ:=ρ) (by simpa [offOf,Step.off] using hl) h6 w
    have e4:∀l,val ρ (.agg l)=.agg (cells ρ (.agg l)).toArray:=fun l=>val_agg ρ rfl
    refine ⟨?_,hw I _ e2⟩
    simp [execOp,e1,e4,Instr.field,run_underlying hu,hfd,asAgg,ho,e3]
  case indexAddr t x ix=>
    obtain ⟨s,h1,ht⟩:=tlook_spec h hte
    obtain ⟨xv,h2,hx⟩:=ev_spec h1
    obtain ⟨iv,h3,hi⟩:=ev_spec h2
    cases iv<;>(try simp only at h3)<;>try (simp at h3; done)
    rename_i kd i
    have hd:=ht.desc
    split at h3<;>try (simp at h3; done)
    · rename_i n e es ea b p hsd
      rw [hsd] at hd
      obtain ⟨h4,h5⟩:=bif_some h3
      simp only [Bool.and_eq_true,decide_eq_true_eq] at h4
      refine ⟨_,h5,fun m N ρ a w he hh=>?_⟩
      obtain ⟨e1,e2⟩:=hx I N ρ _ a he
      refine ⟨?_,by simpa [Wf] using e2⟩
      simp [execOp,e1,(hi I N ρ _ a he).1,val_int,val_ptr,Instr.indexAt,asIntOf,run_underlying hd.1,Instr.sureAddr,h4,run_sizeOf' hd.2.1,Addr.add_lit,offOf_append,offOf,Step.off,Nat.add_assoc]
    · rename_i n e es ea ad v hsd
      rw [hsd] at hd
      obtain ⟨h4,h5⟩:=bif_some h3
      simp only [Bool.and_eq_true,decide_eq_true_eq] at h4
      obtain ⟨u,h6,hl,hw⟩:=sub_spec h5
      refine ⟨_,h6,fun m N ρ a w he hh=>?_⟩
      obtain ⟨e1,e2⟩:=hx I N ρ _ a he
      simp only [Wf] at e2 ⊢
      refine ⟨?_,?_,hw I _ e2.2⟩
      · simp [execOp,e1,(hi I N ρ _ a he).1,val_int,val_vptr,Instr.indexAt,asIntOf,run_underlying hd.1,Instr.sureAddr,h4,run_sizeOf' hd.2.1]
      · have:=VOk.sub e2.1 hl
        simpa [offOf,Step.off] using this
    · rename_i e b p sz off len cap hsd
      rw [hsd] at hd
      obtain ⟨es,h4,hes⟩:=tlook_spec h3 hte
      obtain ⟨h5,h6⟩:=bif_some h4
      obtain ⟨h7,h8⟩:=bif_some h6
      have hsz:sz=es.size:=by simpa using h5
      subst hsz
      simp only [Bool.and_eq_true,decide_eq_true_eq] at h7
      refine ⟨_,h8,fun m N ρ a w he hh=>?_⟩
      obtain ⟨e1,e2⟩:=hx I N ρ _ a he
      refine ⟨?_,by simpa [Wf] using e2⟩
      simp [execOp,e1,(hi I N ρ _ a he).1,val_int,val,pack,SV.isAgg,cells,Instr.indexAt,asIntOf,run_underlying hd.1,h7,run_sizeOf hes,Addr.add_lit,offOf_append,offOf,Step.off,Nat.add_assoc,Nat.add_mul]
    · rename_i e b sz len hsd
      rw [hsd] at hd
      obtain ⟨es,h4,hes⟩:=tlook_spec h3 hte
      obtain ⟨h5,h6⟩:=bif_some h4
      obtain ⟨h7,h8⟩:=bif_some h6
      have hsz:sz=es.size:=by simpa using h5
      subst hsz
      simp only [Bool.and_eq_true,decide_eq_true_eq] at h7
      refine ⟨_,h8,fun m N ρ a w he hh=>?_⟩
      obtain ⟨e1,e2⟩:=hx I N ρ _ a he
      refine ⟨?_,by simpa [Wf] using e2⟩
      rw [val_oslc_pos ρ b es.size (by omega)] at e1
      simp [execOp,e1,(hi I N ρ _ a he).1,val_int,val_ptr,Instr.indexAt,asIntOf,run_underlying hd.1,h7,run_sizeOf hes,Addr.add_lit,offOf,Step.off]
    · rename_i e td nl ad len cap f hsd
      rw [hsd] at hd
      obtain ⟨es,h4,hes⟩:=tlook_spec h3 hte
      obtain ⟨h5,h6⟩:=bif_some h4
      obtain ⟨h7,h8⟩:=bif_some h6
      have hsz:td.size=es.size:=by simpa using h5
      simp only [Bool.and_eq_true,decide_eq_true_eq] at h7
      refine ⟨_,h8,fun m N ρ a w he hh=>?_⟩
      obtain ⟨e1,e2⟩:=hx I N ρ _ a he
      simp only [Wf,VW] at e2 ⊢
      have hes2:=run_sizeOf hes
      rw [← hsz] at hes2
      obtain ⟨w0,w1,w2,w3⟩:=e2
      obtain ⟨w5,w6⟩:=w3 i.toNat (by omega)
      have hnl:nl=false:=by cases nl; rfl; have:=w0 rfl; omega
      subst hnl
      refine ⟨?_,?_,(wf_sv td _).2 w6⟩
      · simp [execOp,e1,(hi I N ρ _ a he).1,val_int,val,pack,SV.isAgg,cells,Instr.indexAt,asIntOf,run_underlying hd.1,h7,hes2]
      · rw [addr_add (w2 (by omega))]; exact w5
  case index t x ix=>
    obtain ⟨s,h1,ht⟩:=tlook_spec h hte
    obtain ⟨xv,h2,hx⟩:=ev_spec h1
    obtain ⟨iv,h3,hi⟩:=ev_spec h2
    cases iv<;>(try simp only at h3)<;>try (simp at h3; done)
    rename_i kd i
    have hd:=ht.desc
    split at h3<;>try (simp at h3; done)
    · rename_i n e es ea xv hsd
      rw [hsd] at hd
      obtain ⟨h4,h5⟩:=bif_some h3
      obtain ⟨h6,h7⟩:=bif_some h5
      simp only [Bool.and_eq_true,decide_eq_true_eq] at h6
      obtain ⟨u,h8,hl,hw⟩:=sub_spec h7
      obtain ⟨h9,h10⟩:=bif_some h8
      obtain ⟨d,hd1,hd2⟩:=isAggT_spec hd.2.2
      refine ⟨u,h10,fun m N ρ a w he hh=>?_⟩
      obtain ⟨e1,e2⟩:=hx I N ρ _ a he
      have e3:=run_part_of hd1 hd.2.1 hd2 (ρ:=ρ) (by simpa [offOf,Step.off] using hl) h9 w
      refine ⟨?_,hw I _ e2⟩
      simp [execOp,e1,(hi I N ρ _ a he).1,val_int,val_agg ρ h4,Instr.index,asIntOf,run_underlying hd.1,h6,run_sizeOf' hd.2.1,e3]
    · rename_i z hsd
      rw [hsd] at hd
      obtain ⟨h6,h7⟩:=bif_some h3
      simp only [Bool.and_eq_true,decide_eq_true_eq] at h6
      refine ⟨_,h7,fun m N ρ a w he hh=>⟨?_,by simp [Wf]⟩⟩
      have hlt:i.toNat < z.size:=by omega
      simp [execOp,(hx I N ρ _ a he).1,(hi I N ρ _ a he).1,val_int,val_str,Instr.index,asIntOf,run_underlying hd.1,h6,bytesAt,hlt]
  case build t ps=>
    obtain ⟨s,h1,ht⟩:=tlook_spec h hte
    split at h1<;>try (simp at h1; done)
    · rename_i fs hsd
      obtain ⟨F,hu,hF⟩:=fields_at ht hsd
      obtain ⟨u,h2,hs,hall⟩:=fill_spec (pl:=fun i=>(F.map fun f=>(f.offset,((P.info? f.type).map (·.size)).getD 0))[i]?) (fun i k r h=>by
        unfold stPlace at h
        obtain ⟨f,hf,h⟩:=nth_spec h
        obtain ⟨fd,hfd,ho,hsz,_⟩:=hF i f hf
        exact ⟨_,_,_,h,by simp [offOf,Step.off],by simp [hfd,ho,hsz]⟩) h1
      obtain ⟨h3,h4⟩:=bif_some h2
      refine ⟨u,h4,fun m N ρ a w he hh=>?_⟩
      obtain ⟨g1,g2⟩:=hall I N ρ _ a he (ht.zero.2.2 _ _)
      refine ⟨?_,g1⟩
      have hmap:(F.mapM fun f=>(do pure (f.offset,← sizeOf f.type):Sem (Nat × Nat))).run P w=.ok (F.map fun f=>(f.offset,((P.info? f.type).map (·.size)).getD 0)) w:=by
        refine run_mapM_array fun f hf=>?_
        obtain ⟨i,hi⟩:=List.getElem?_of_mem hf
        have hlen:fs.length=F.toList.length:=by
          have hd:=ht.desc
          rw [hsd] at hd
          obtain ⟨F',q1,q2⟩:=hd
          rw [hu] at q1
          cases q1
          have:=congrArg List.length q2
          simpa using this.symm
        have hil:=(List.getElem?_eq_some_iff.1 hi).1
        obtain ⟨fd,hfd,ho,hsz,_⟩:=hF i fs[i] (by simp)
        have:fd=f:=by
          rw [← Array.getElem?_toList,hi] at hfd
          exact (Option.some.inj hfd).symm
        subst this
        simp [run_sizeOf' hsz,hsz]
      have hz:=val_cells ρ ht.zero.2.1
      simp only [execOp,Instr.build,Sem.run_bind,run_zeroValue ht ρ,Result.andThen_ok,run_underlying hu,hmap,hz]
      have e:(ps.map fun x=>(x.1,a.eval x.2)).toList=ps.toList.map fun x=>(x.1,a.eval x.2):=by simp
      rw [e,g2]
      simp [val_agg ρ h3]
    · rename_i n e es ea hsd
      have hd:=ht.desc
      rw [hsd] at hd
      obtain ⟨u,h2,hs,hall⟩:=fill_spec (pl:=fun i=>some (i * es,es)) (fun i k r h=>by
        unfold arPlace at h
        exact ⟨_,_,_,h,by simp [offOf,Step.off],rfl⟩) h1
      obtain ⟨h3,h4⟩:=bif_some h2
      refine ⟨u,h4,fun m N ρ a w he hh=>?_⟩
      obtain ⟨g1,g2⟩:=hall I N ρ _ a he (ht.zero.2.2 _ _)
      refine ⟨?_,g1⟩
      have hz:=val_cells ρ ht.zero.2.1
      simp only [execOp,Instr.build,Sem.run_bind,run_zeroValue ht ρ,Result.andThen_ok,run_underlying hd.1,run_sizeOf' hd.2.1,hz]
      have e:(ps.map fun x=>(x.1,a.eval x.2)).toList=ps.toList.map fun x=>(x.1,a.eval x.2):=by simp
      rw [e,g2]
      simp [val_agg ρ h3]
  case slice t x lo hi mx=>
    cases mx<;>(try simp only at h)<;>try (simp at h; done)
    obtain ⟨xv,h1,hx⟩:=ev_spec h
    obtain ⟨l,h2,hl⟩:=optInt_spec h1
    obtain ⟨hv,h3,hhv⟩:=optInt_spec h2
    rw [slcop2_eq] at h3
    obtain ⟨v,h4,hw,hr⟩:=slcop_spec hte h3 rfl
    refine ⟨v,h4,fun m N ρ a w he hh=>?_⟩
    obtain ⟨e1,e2⟩:=hx I N ρ _ a he
    have e3:=hr I _ ρ w _ _ e2 (hl I N ρ _ a he) (hhv I N ρ _ a he)
    refine ⟨?_,hw _ _ e2⟩
    simp [execOp,e1,e3]
  case extract x i=>
    obtain ⟨xv,h1,hx⟩:=ev_spec h
    cases xv<;>(try simp only at h1)<;>try (simp at h1; done)
    rename_i l
    obtain ⟨v,h2,h3⟩:=nth_spec h1
    refine ⟨v,h3,fun m N ρ a w he hh=>?_⟩
    obtain ⟨e1,e2⟩:=hx I N ρ _ a he
    simp only [Wf] at e2
    refine ⟨?_,nth_wf h2 e2⟩
    simp [execOp,e1,val,vals_eq,Instr.extract,h2]
  case lookup t x ix ok=>
    cases ok<;>(try simp only at h)<;>try (simp at h; done)
    obtain ⟨s,h1,ht⟩:=tlook_spec h hte
    have hd:=ht.desc
    split at h1<;>try (simp at h1; done)
    rename_i kt et hsd
    rw [hsd] at hd
    obtain ⟨ks,h2,hks⟩:=tlook_spec h1 hte
    have hkd:=hks.desc
    split at h2<;>try (simp at h2; done)
    rename_i kd hksd
    rw [hksd] at hkd
    obtain ⟨es,h3,hes⟩:=tlook_spec h2 hte
    obtain ⟨mv,h4,hm⟩:=ev_spec h3
    cases mv<;>(try simp only at h4)<;>try (simp at h4; done)
    rename_i b
    split at h4<;>try (simp at h4; done)
    rename_i l hb
    obtain ⟨iv,h5,hi⟩:=ev_spec h4
    cases iv<;>(try simp only at h5)<;>try (simp at h5; done)
    rename_i kd' n
    obtain ⟨h6,h7⟩:=bif_some h5
    have:=of_decide_eq_true h6
    subst this
    obtain ⟨v,h8,h9⟩:=lookM_pick h7
    refine ⟨v,h8,fun m N ρ a w he hh=>?_⟩
    obtain ⟨e1,e2⟩:=hm I N ρ _ a he
    obtain ⟨e3,_⟩:=hi I N ρ _ a he
    have hbn:(ρ b).nil=false:=by
      cases e:(ρ b).nil
      · rfl
      · obtain ⟨_,g',v',q1,_⟩:=hh.none_ b _ hb e
        cases q1
    obtain ⟨ms,clock,q1,q2⟩:=hh.obj b _ hb hbn
    have hwf:=(hh.wf.dom b _ hb).2
    have q3:=h9 ρ ms.toList 0 q2
    have hv0:val ρ (.map b)=.map (some (ρ b).blk):=rfl
    have hck:∀c,(Instr.checkKey c 10000 kt (.int kd' n)).run P w=.ok () w:=fun c=>MapKept.run_checkKey hkd.1 (show MapKept.IsKey (.int kd') (.int kd' n) from rfl) c 9999
    rcases q3 with ⟨j,e,h10,h11,h12⟩ | ⟨rfl,h12⟩
    · refine ⟨?_,h11 ▸ (hwf e h10).2⟩
      have hf:=MapKept.run_findKey (P:=P) (w:=w) hkd.1 h12
      simp [execOp,e1,e3,hv0,val_int,Instr.lookup,run_underlying hd.1,getObj,Sem.run,q1,hck,hf]
    · refine ⟨?_,hes.zero.2.2 _ _⟩
      have hf:=MapKept.run_findKey (P:=P) (w:=w) hkd.1 h12
      simp [execOp,e1,e3,hv0,val_int,Instr.lookup,run_underlying hd.1,getObj,Sem.run,q1,hck,hf,run_zeroValue hes ρ]
  case makeFunc f fs cs=>
    obtain ⟨fv,h1,hf⟩:=evs_spec h
    obtain ⟨cv,h2,hc⟩:=evs_spec h1
    refine ⟨_,h2,fun m N ρ a w he hh=>?_⟩
    obtain ⟨e1,e2⟩:=hf I N ρ _ a he
    obtain ⟨e3,e4⟩:=hc I N ρ _ a he
    refine ⟨?_,by simpa only [Wf,wfs_iff] using ⟨e2,e4⟩⟩
    have q1:fs.map a.eval=(vals ρ fv).toArray:=by apply Array.toList_inj.1; simp [e1,vals_eq]
    have q2:cs.map a.eval=(vals ρ cv).toArray:=by apply Array.toList_inj.1; simp [e3,vals_eq]
    simp [execOp,Instr.makeFunc,val,pack,SV.isAgg,cells,q1,q2]
  case call c=>
    obtain ⟨callee,args,argTypes⟩:=c
    cases callee<;>(try simp only at h)<;>try (simp at h; done)
    rename_i bi
    cases bi<;>(try simp only at h)<;>try (simp at h; done)
    case len=>
      split at h<;>try (simp at h; done)
      rename_i x t hargs htys
      obtain ⟨s,h1,ht⟩:=tlook_spec h hte
      obtain ⟨xv,h2,hx⟩:=ev_spec h1
      have hd:=ht.desc
      have ea:args=#[x]:=by apply Array.toList_inj.1; simpa using hargs
      have et:argTypes=#[t]:=by apply Array.toList_inj.1; simpa using htys
      subst ea; subst et
      split at h2<;>try (simp at h2; done)
      · rename_i z hsd
        rw [hsd] at hd
        exact ⟨_,h2,fun m N ρ a w he hh=>⟨by simp [execOp,resolve,invoke,builtin,Builtin.len_,(hx I N ρ _ a he).1,val_str,run_underlying hd.1,goInt,val_int],by simp [Wf]⟩⟩
      · rename_i e b p sz off n cap hsd
        rw [hsd] at hd
        exact ⟨_,h2,fun m N ρ a w he hh=>⟨by simp [execOp,resolve,invoke,builtin,Builtin.len_,(hx I N ρ _ a he).1,run_underlying hd.1,goInt,val,pack,SV.isAgg,cells],by simp [Wf]⟩⟩
      · rename_i e td nl ad n cap f hsd
        rw [hsd] at hd
        refine ⟨_,h2,fun m N ρ a w he hh=>⟨?_,by simp [Wf]⟩⟩
        have hw:=(hx I N ρ _ a he).2
        simp only [Wf,VW] at hw
        cases nl
        · simp [execOp,resolve,invoke,builtin,Builtin.len_,(hx I N ρ _ a he).1,run_underlying hd.1,goInt,val,pack,SV.isAgg,cells]
        · obtain ⟨rfl,_⟩:=hw.1 rfl
          simp [execOp,resolve,invoke,builtin,Builtin.len_,(hx I N ρ _ a he).1,run_underlying hd.1,goInt,val,pack,SV.isAgg,cells]
      · rename_i e b sz n hsd
        rw [hsd] at hd
        refine ⟨_,h2,fun m N ρ a w he hh=>⟨?_,by simp [Wf]⟩⟩
        have e1:=(hx I N ρ _ a he).1
        rcases val_oslc ρ b sz n with ⟨_,rfl,ev⟩ | ev<;>rw [ev] at e1
        · simp [execOp,resolve,invoke,builtin,Builtin.len_,e1,run_underlying hd.1,goInt,val,pack,SV.isAgg,cells]
        · simp [execOp,resolve,invoke,builtin,Builtin.len_,e1,run_underlying hd.1,goInt,val,pack,SV.isAgg,cells]
      · rename_i e hsd
        rw [hsd] at hd
        exact ⟨_,h2,fun m N ρ a w he hh=>⟨by simp [execOp,resolve,invoke,builtin,Builtin.len_,(hx I N ρ _ a he).1,run_underlying hd.1,goInt,val,pack,SV.isAgg,cells],by simp [Wf]⟩⟩
      · rename_i n e es ea xv hsd
        rw [hsd] at hd
        exact ⟨_,h2,fun m N ρ a w he hh=>⟨by simp [execOp,resolve,invoke,builtin,Builtin.len_,run_underlying hd.1,goInt,val_int],by simp [Wf]⟩⟩
    case max=>
      split at h<;>try (simp at h; done)
      rename_i x l hargs
      obtain ⟨xv,h2,hx⟩:=ev_spec h
      cases xv<;>(try simp only at h2)<;>try (simp at h2; done)
      obtain ⟨v,h3,hw,hr⟩:=mnmx_spec (P:=P) h2
      refine ⟨v,h3,fun m N ρ a w he hh=>⟨?_,hw _ _ (by simp [Wf])⟩⟩
      have e:=hr I N ρ _ a w he
      simp only [if_true] at e
      simp [execOp,resolve,invoke,builtin,Builtin.max_,hargs,(hx I N ρ _ a he).1,e]
    case min=>
      split at h<;>try (simp at h; done)
      rename_i x l hargs
      obtain ⟨xv,h2,hx⟩:=ev_spec h
      cases xv<;>(try simp only at h2)<;>try (simp at h2; done)
      obtain ⟨v,h3,hw,hr⟩:=mnmx_spec (P:=P) h2
      refine ⟨v,h3,fun m N ρ a w he hh=>⟨?_,hw _ _ (by simp [Wf])⟩⟩
      have e:=hr I N ρ _ a w he
      simp only [Bool.false_eq_true,if_false] at e
      simp [execOp,resolve,invoke,builtin,Builtin.min_,hargs,(hx I N ρ _ a he).1,e]
end
end Go.Sh
namespace Go.Sh
open Go
section
variable {α:Type} {P:Program} {I:Imm}
def World.setBlk (w:World) (g:Nat) (o:Obj):World:={ w with heap:=w.heap.setIfInBounds g o }
theorem setCell_blk {w:World} {g o:Nat} {cur:Array Value} {T:TypeId} {fz:Nat × Nat} (hg:w.heap[g]?=some (.cells cur T fz)) (v:Value):
    w.setCell ⟨g,o,none⟩ v=World.setBlk w g (.cells (cur.setIfInBounds o v) T fz):=by
  unfold World.setCell World.setBlk
  congr 1
  apply Array.ext_getElem?
  intro i
  rw [Array.getElem?_modify,Array.getElem?_setIfInBounds]
  have hlt:=(Array.getElem?_eq_some_iff.1 hg).1
  by_cases hi:g=i
  · subst hi; simp only [if_true,hg,hlt,Option.map_some,Option.isSome_none,Bool.false_eq_true,if_false]
  · simp [hi]
theorem setBlk_setBlk (w:World) (g:Nat) (o o':Obj):World.setBlk (World.setBlk w g o) g o'=World.setBlk w g o':=by simp [World.setBlk]
theorem setBlk_self {w:World} {g:Nat} {o:Obj} (hg:w.heap[g]?=some o):World.setBlk w g o=w:=by
  unfold World.setBlk
  have:w.heap.setIfInBounds g o=w.heap:=by
    apply Array.ext_getElem?
    intro i
    rw [Array.getElem?_setIfInBounds]
    by_cases hi:g=i
    · subst hi; rw [hg]; have hlt:=(Array.getElem?_eq_some_iff.1 hg).1; simp [hlt]
    · simp [hi]
  rw [this]
theorem setBlk_get {w:World} {g:Nat} {o o':Obj} (hg:w.heap[g]?=some o'):(World.setBlk w g o).heap[g]?=some o:=by
  have hlt:=(Array.getElem?_eq_some_iff.1 hg).1
  simp [World.setBlk,hlt]
theorem setBlk_other {w:World} {g i:Nat} {o:Obj} (h:i ≠ g):(World.setBlk w g o).heap[i]?=w.heap[i]?:=by
  simp only [World.setBlk]; rw [Array.getElem?_setIfInBounds_ne (Ne.symm h)]
theorem run_storeCells_gen (g o:Nat) (T:TypeId) (fz:Nat × Nat):∀(vs:List Value) (i:Nat) (cur:Array Value) (w:World),w.heap[g]?=some (.cells cur T fz)→o+ i+ vs.length≤cur.size→
    (∀j,i≤j→j < i+ vs.length→¬ (fz.1≤o+ j∧o+ j < fz.2))→(∀v ∈ vs,flatV v=true)→
    (storeCells ⟨g,o,none⟩ vs i).run P w=.ok () (World.setBlk w g (.cells (overlay cur.toList vs (o+ i)).toArray T fz))
  | [],i,cur,w,hg,_,_,_=>by
    simp only [storeCells,overlay,List.append_nil,List.length_nil,Nat.add_zero,List.take_append_drop,Array.toArray_toList]
    rw [setBlk_self hg]
    rfl
  | v ::rest,i,cur,w,hg,hl,hz,h1=>by
    have hi:o+ i < cur.size:=by simp at hl; omega
    have hadd:(⟨g,o,none⟩:Addr).add i=⟨g,o+ i,none⟩:=addr_add rfl i
    have hcell:w.cell? ⟨g,o+ i,none⟩=some cur[o+ i]:=by simp [World.cell?,hg,hi]
    have hz0:=hz i (Nat.le_refl _) (by simp)
    have hfro:w.frozen? ⟨g,o+ i,none⟩=false:=by
      simp only [World.frozen?,hg,Bool.and_eq_false_iff,decide_eq_false_iff_not]
      omega
    have hv:v.oneCell'=true:=by
      have:=h1 v (by simp)
      cases v<;>simp [flatV,Value.oneCell'] at this ⊢
    have hst:(store ((⟨g,o,none⟩:Addr).add i) v).run P w=.ok () (World.setBlk w g (.cells (cur.setIfInBounds (o+ i) v) T fz)):=by
      rw [hadd,run_store P w _ v _ hv,hcell]
      simp [hfro,setCell_blk hg v]
    have ih:=run_storeCells_gen g o T fz rest (i+ 1) (cur.setIfInBounds (o+ i) v) (World.setBlk w g (.cells (cur.setIfInBounds (o+ i) v) T fz)) (setBlk_get hg) (by simp at hl ⊢; omega)
      (fun j h2 h3=>hz j (by omega) (by simp; omega)) (fun x hx=>h1 x (by simp [hx]))
    simp only [storeCells,Sem.run_bind,hst,Result.andThen_ok,ih,setBlk_setBlk]
    congr 3
    have e:=list_seg_step cur.toList (o+ i) v rest (by simp at hl ⊢; omega)
    simpa [overlay,Array.toList_setIfInBounds,Nat.add_assoc] using e
def putH (h:HF) (b:Nat) (o:SObj):HF:=fun c=>bif Nat.beq b c then o.live else h c
theorem putH_same (h:HF) (b:Nat) (o:SObj):putH h b o b=o.live:=by simp [putH]
theorem putH_other {h:HF} {b c:Nat} {o:SObj} (hne:c ≠ b):putH h b o c=h c:=by simp [putH,beq_ne (Ne.symm hne)]
def putP (ρ:Nat→Pl) (b:Nat) (p:Pl):Nat→Pl:=fun c=>bif Nat.beq b c then p else ρ c
theorem putP_same (ρ:Nat→Pl) (b:Nat) (p:Pl):putP ρ b p b=p:=by simp [putP]
theorem putP_other {ρ:Nat→Pl} {b c:Nat} {p:Pl} (hne:c ≠ b):putP ρ b p c=ρ c:=by simp [putP,beq_ne (Ne.symm hne)]
theorem ObjAt.congr {ρ ρ':Nat→Pl} {D:Nat→Prop} {b:Nat} {w w':World} {o:SObj} (h:ObjAt ρ b w o) (hw:OWf I D o) (hρ:∀c,D c→ρ' c=ρ c) (hb:D b) (hh:w'.heap[(ρ b).blk]?=w.heap[(ρ b).blk]?):ObjAt ρ' b w' o:=by
  have e:=hρ b hb
  cases o with
  | cells g v=>
    obtain ⟨c,T,fz,h1,h2,h3,h4,h5⟩:=h
    refine ⟨c,T,fz,by rw [e,hh,h1],fun j hj=>?_,by rw [e]; exact h3,by rw [e]; exact h4,by rw [e]; exact h5⟩
    rw [e,h2 j hj,cells_congr hρ hw]
  | dead=>exact h.elim
  | map es=>
    obtain ⟨ms,cl,h1,h2⟩:=h
    refine ⟨ms,cl,by rw [e,hh,h1],?_⟩
    rw [h2]
    apply List.map_congr_left
    intro x hx
    have:=hw x hx
    rw [val_congr hρ this.1,val_congr hρ this.2]
theorem OWf.mono {D D':Nat→Prop} (h:∀b,D b→D' b) {o:SObj} (g:OWf I D o):OWf I D' o:=by
  cases o with
  | cells _ v=>exact Wf.mono h g
  | map es=>exact fun e he=>⟨Wf.mono h (g e he).1,Wf.mono h (g e he).2⟩
  | dead=>trivial
theorem HRel.mono {ρ:Nat→Pl} {D D':Nat→Prop} {h:HF} {w:World} (g:HRel I ρ D h w) (hD:∀b,D b→D' b):HRel I ρ D' h w:=
  ⟨⟨fun b o hb=>⟨hD b (g.wf.dom b o hb).1,OWf.mono hD (g.wf.dom b o hb).2⟩⟩,g.obj,g.inj,g.imm,g.off,g.none_⟩
theorem HRel.add {ρ:Nat→Pl} {D D':Nat→Prop} {h:HF} {w:World} (g:HRel I ρ D h w) {b:Nat} (hb:¬ D b) (hD:∀c,D c→D' c) (hb':D' b) {o:SObj} (ho:OWf I D' o) {ob:Obj} {p:Pl} (hp:p.blk=w.heap.size) (hpn:p.nil=false)
    (hat:ObjAt (putP ρ b p) b { w with heap:=w.heap.push ob } o):
    HRel I (putP ρ b p) D' (putH h b o) { w with heap:=w.heap.push ob }∧Ext ρ D h w (putP ρ b p) D' (putH h b o) { w with heap:=w.heap.push ob }:=by
  have hρ:∀c,D c→putP ρ b p c=ρ c:=fun c hc=>putP_other (fun e=>hb (e ▸ hc))
  have hget:∀i,i < w.heap.size→(w.heap.push ob)[i]?=w.heap[i]?:=fun i hi=>by rw [Array.getElem?_push,if_neg (by omega)]
  have old:∀c o',putH h b o c=some o'→(c=b∧o'=o)∨(c ≠ b∧h c=some o'):=fun c o' hc=>by
    by_cases e:c=b
    · subst e; rw [putH_same] at hc; exact .inl ⟨rfl,live_some hc⟩
    · rw [putH_other e] at hc; exact .inr ⟨e,hc⟩
  have hlt:∀c o',h c=some o'→(ρ c).nil=false→(ρ c).blk < w.heap.size:=fun c o' hc hz=>(g.obj c o' hc hz).lt
  refine ⟨⟨⟨fun c o' hc=>?_⟩,fun c o' hc hz=>?_,fun c o1 c' o2 hc hc' hz hz' hbl=>?_,fun i x hi=>?_,fun c o' hc hz=>?_,fun c o' hc hz=>?_⟩,⟨hD,hρ,rfl,rfl,rfl,by simp,fun i hi _=>hget i hi,fun c o' hc hz=>?_⟩⟩
  · rcases old c o' hc with ⟨rfl,rfl⟩ | ⟨e,hc⟩
    · exact ⟨hb',ho⟩
    · exact ⟨hD _ (g.wf.dom c o' hc).1,OWf.mono hD (g.wf.dom c o' hc).2⟩
  · rcases old c o' hc with ⟨rfl,rfl⟩ | ⟨e,hc⟩
    · exact hat
    · rw [putP_other e] at hz
      exact ObjAt.congr (I:=I) (g.obj c o' hc hz) (g.wf.dom c o' hc).2 hρ (g.wf.dom c o' hc).1 (hget _ (hlt c o' hc hz))
  · rcases old c o1 hc with ⟨q1,q2⟩ | ⟨e,hc1⟩<;>rcases old c' o2 hc' with ⟨q3,q4⟩ | ⟨e',hc2⟩
    · rw [q1,q3]
    · rw [putP_other e'] at hz'; rw [q1,putP_same,putP_other e',hp] at hbl; have:=hlt c' o2 hc2 hz'; omega
    · rw [putP_other e] at hz; rw [q3,putP_same,putP_other e,hp] at hbl; have:=hlt c o1 hc1 hz; omega
    · rw [putP_other e] at hz; rw [putP_other e'] at hz'; rw [putP_other e,putP_other e'] at hbl; exact g.inj c o1 c' o2 hc1 hc2 hz hz' hbl
  · have:=g.imm i x hi
    rw [hget i (Array.getElem?_eq_some_iff.1 this).1,this]
  · rcases old c o' hc with ⟨rfl,rfl⟩ | ⟨e,hc⟩
    · rw [putP_same,hp]
      cases hI:I w.heap.size with
      | none=>rfl
      | some x=>have:=g.imm _ x hI; simp at this
    · rw [putP_other e] at hz ⊢; exact g.off c o' hc hz
  · rcases old c o' hc with ⟨rfl,rfl⟩ | ⟨e,hc⟩
    · rw [putP_same,hpn] at hz; cases hz
    · rw [putP_other e] at hz ⊢; exact g.none_ c o' hc hz
  · rcases old c o' hc with ⟨rfl,rfl⟩ | ⟨e,hc⟩
    · rw [putP_same,hp]; exact .inl (Nat.le_refl _)
    · rw [putP_other e] at hz ⊢; exact .inr ⟨c,o',hc,hz,rfl⟩
theorem HRel.set {ρ:Nat→Pl} {D:Nat→Prop} {h:HF} {w:World} (g:HRel I ρ D h w) {b:Nat} {o0 o:SObj} (hb:h b=some o0) (hbn:(ρ b).nil=false) (ho:OWf I D o) {ob:Obj} (hat:ObjAt ρ b (World.setBlk w (ρ b).blk ob) o):
    HRel I ρ D (putH h b o) (World.setBlk w (ρ b).blk ob)∧Ext ρ D h w ρ D (putH h b o) (World.setBlk w (ρ b).blk ob):=by
  have old:∀c o',putH h b o c=some o'→(c=b∧o'=o)∨(c ≠ b∧h c=some o'):=fun c o' hc=>by
    by_cases e:c=b
    · subst e; rw [putH_same] at hc; exact .inl ⟨rfl,live_some hc⟩
    · rw [putH_other e] at hc; exact .inr ⟨e,hc⟩
  have any:∀c o',putH h b o c=some o'→∃o1,h c=some o1:=fun c o' hc=>by
    rcases old c o' hc with ⟨rfl,_⟩ | ⟨_,hc⟩
    · exact ⟨o0,hb⟩
    · exact ⟨o',hc⟩
  refine ⟨⟨⟨fun c o' hc=>?_⟩,fun c o' hc hz=>?_,fun c o1 c' o2 hc hc' hz hz' hbl=>?_,fun i x hi=>?_,fun c o' hc hz=>?_,fun c o' hc hz=>?_⟩,⟨fun _ h=>h,fun _ _=>rfl,rfl,rfl,rfl,by simp [World.setBlk],fun i hi hn=>setBlk_other (Ne.symm (hn b o0 hb hbn)),fun c o' hc hz=>?_⟩⟩
  · rcases old c o' hc with ⟨rfl,rfl⟩ | ⟨e,hc⟩
    · exact ⟨(g.wf.dom _ _ hb).1,ho⟩
    · exact g.wf.dom c o' hc
  · rcases old c o' hc with ⟨rfl,rfl⟩ | ⟨e,hc⟩
    · exact hat
    · exact ObjAt.congr (I:=I) (g.obj c o' hc hz) (g.wf.dom c o' hc).2 (fun _ _=>rfl) (g.wf.dom c o' hc).1 (setBlk_other fun e'=>e (g.inj c o' b o0 hc hb hz hbn e'))
  · obtain ⟨q1,hq1⟩:=any c o1 hc
    obtain ⟨q2,hq2⟩:=any c' o2 hc'
    exact g.inj c q1 c' q2 hq1 hq2 hz hz' hbl
  · rw [setBlk_other,g.imm i x hi]
    intro e
    have:=g.off b o0 hb hbn
    rw [← e,hi] at this
    cases this
  · obtain ⟨q1,hq1⟩:=any c o' hc
    exact g.off c q1 hq1 hz
  · rcases old c o' hc with ⟨rfl,rfl⟩ | ⟨e,hc⟩
    · rw [hbn] at hz; cases hz
    · exact g.none_ c o' hc hz
  · obtain ⟨q1,hq1⟩:=any c o' hc
    exact .inr ⟨c,q1,hq1,hz,rfl⟩
theorem HRel.swap {ρ:Nat→Pl} {D:Nat→Prop} {h:HF} {w:World} (g:HRel I ρ D h w) {b:Nat} {gg:Option Nat} {u0 u:SV} (hb:h b=some (.cells gg u0)) (hs:u.size=u0.size) (hcu:cells ρ u=cells ρ u0) (hu:Wf I D u):
    HRel I ρ D (putH h b (.cells gg u)) w∧Ext ρ D h w ρ D (putH h b (.cells gg u)) w:=by
  have old:∀c o',putH h b (.cells gg u) c=some o'→(c=b∧o'=.cells gg u)∨(c ≠ b∧h c=some o'):=fun c o' hc=>by
    by_cases e:c=b
    · subst e; rw [putH_same] at hc; exact .inl ⟨rfl,live_some hc⟩
    · rw [putH_other e] at hc; exact .inr ⟨e,hc⟩
  have any:∀c o',putH h b (.cells gg u) c=some o'→∃o1,h c=some o1:=fun c o' hc=>by
    rcases old c o' hc with ⟨rfl,_⟩ | ⟨_,hc⟩
    · exact ⟨_,hb⟩
    · exact ⟨o',hc⟩
  refine ⟨⟨⟨fun c o' hc=>?_⟩,fun c o' hc hz=>?_,fun c o1 c' o2 hc hc' hz hz' hbl=>?_,g.imm,fun c o' hc hz=>?_,fun c o' hc hz=>?_⟩,⟨fun _ h=>h,fun _ _=>rfl,rfl,rfl,rfl,Nat.le_refl _,fun i hi hn=>rfl,fun c o' hc hz=>?_⟩⟩
  · rcases old c o' hc with ⟨rfl,rfl⟩ | ⟨e,hc⟩
    · exact ⟨(g.wf.dom _ _ hb).1,hu⟩
    · exact g.wf.dom c o' hc
  · rcases old c o' hc with ⟨rfl,rfl⟩ | ⟨e,hc⟩
    · obtain ⟨cc,T,fz,q1,q2,q3,q4,q5⟩:=g.obj _ _ hb hz
      have hr:reachOf (ρ c) gg u=reachOf (ρ c) gg u0:=by cases gg<;>simp [reachOf,hs]
      exact ⟨cc,T,fz,q1,by rw [hs,hcu]; exact q2,by rw [hr,hs]; exact q3,by rw [hr]; exact q4,by rw [hr]; exact q5⟩
    · exact g.obj c o' hc hz
  · obtain ⟨q1,hq1⟩:=any c o1 hc
    obtain ⟨q2,hq2⟩:=any c' o2 hc'
    exact g.inj c q1 c' q2 hq1 hq2 hz hz' hbl
  · obtain ⟨q1,hq1⟩:=any c o' hc
    exact g.off c q1 hq1 hz
  · rcases old c o' hc with ⟨rfl,rfl⟩ | ⟨e,hc⟩
    · obtain ⟨q1,g',v',q2,q3⟩:=g.none_ _ _ hb hz
      cases q2
      exact ⟨q1,gg,u,rfl,by omega⟩
    · exact g.none_ c o' hc hz
  · obtain ⟨q1,hq1⟩:=any c o' hc
    exact .inr ⟨c,q1,hq1,hz,rfl⟩
def rowOf (z:SV) (n:Nat):SV:=
  match z with
  | .int kd 0=>.ints kd n fun _=>0
  | .bool false=>.bools n fun _=>false
  | z=>.arr z.size n fun _=>z
def cpy (f src:Nat→Int) (off n:Nat):Nat→Int:=fun j=>bif Nat.ble off j && Nat.blt j (off+ n) then src (j - off) else f j
def copySrc (h:HF) (x:SV) (k:IntKind→Nat→(Nat→Int)→R α):R α:=
  match x with
  | .str s=>k .u8 s.size (bytesAt s)
  | .slc b p sz off len _=>match h b with
    | some (.cells _ v)=>sub v p fun
      | .ints kd m f=>bif Nat.beq sz 1 && decide (off+ len≤m) then k kd len (fun i=>f (off+ i)) else none
      | _=>none
    | _=>none
  | _=>none
def wcopy (te :TE) (g:EF) (h:HF) (args:List Operand) (tys:List TypeId) (k:SV→Nat→SObj→R α):R α:=
  match args,tys with
  | [d, x],[dT,_]=>tlook te dT fun s=>match s.sd with
    | .sc (.slice e)=>tlook te e fun es=>bif Nat.beq es.size 1 then ev g d fun
      | .slc b p sz off dlen _=>bif Nat.beq sz 1 then ev g x fun x=>copySrc h x fun kd slen src=>match h b with
        | some (.cells gg v)=>sub v p fun
          | .ints kd' m f=>bif decide (kd'=kd) && decide (off+ dlen≤m) then
              setSub v p (.ints kd m (cpy f src off (Nat.min slen dlen))) fun u=>k (.int .i64 (Nat.min slen dlen)) b (.cells gg u) else none
          | _=>none
        | _=>none else none
      | _=>none else none
    | _=>none
  | _,_=>none
def noKey (kd:IntKind) (n:Int):List (SV × SV)→Bool
  | []=>true
  | (.int kd' n',_)::l=>decide (kd'=kd) && (!decide (n=n') && noKey kd n l)
  | _=>false
def wval (te:TE) (op:Op) (g:EF) (h:HF) (nid:Nat) (k:SV→Nat→SObj→R α):R α:=
  match op with
  | .alloc t=>tlook te t fun s=>k (.ptr nid []) nid (.cells none s.zero)
  | .box _ x=>ev g x fun v=>bif v.isTuple then none else k (.ptr nid []) nid (.cells none v)
  | .store t a x=>tlook te t fun s=>ev g a fun
    | .ptr b p=>ev g x fun v=>bif Nat.beq v.size s.size then match h b with
      | some (.cells g u)=>setSub u p v fun u=>k (.tuple []) b (.cells g u)
      | _=>none else none
    | _=>none
  | .buildSlice t len ps=>tlook te t fun s=>match s.sd with
    | .sc (.slice e)=>tlook te e fun es=>bif Nat.beq es.size 0 then none else bif decide (len * es.size≤2 ^ 24) then
        buildGo g (arPlace es.size) ps.toList (rowOf es.zero len) fun u=>k (.slc nid [] es.size 0 len (some len)) nid (.cells none u) else none
    | _=>none
  | .makeMap _ none=>k (.map nid) nid (.map [])
  | .insert t m key v=>tlook te t fun s=>match s.sd with
    | .sc (.map kt _)=>tlook te kt fun ks=>match ks.sd with
      | .sc (.int kd)=>ev g m fun
        | .map b=>match h b with
          | some (.map l)=>ev g key fun
            | .int kd' n=>bif decide (kd'=kd) && noKey kd n l then ev g v fun v=>k (.tuple []) b (.map (l++ [(.int kd n,v)])) else none
            | _=>none
          | _=>none
        | _=>none
      | _=>none
    | _=>none
  | .makeSlice t l c=>tlook te t fun s=>match s.sd with
    | .sc (.slice e)=>tlook te e fun es=>bif Nat.beq es.size 0 then none else ev g l fun
      | .int kl l=>ev g c fun
        | .int kc c=>bif decide (kl=.i64) && decide (kc=.i64) && (decide (0≤l) && decide (l≤c)) then bif decide (es.bytes * c≤2 ^ 48) && decide (c≤2 ^ 48) then
            k (.slc nid [] es.size 0 l.toNat none) nid (.cells (some es.size) (rowOf es.zero c.toNat)) else none else none
        | _=>none
      | _=>none
    | _=>none
  | .call c=>match c.callee with
    | .builtin .copy=>wcopy te g h c.args.toList c.argTypes.toList k
    | _=>none
  | _=>none
def WOk (P:Program) (I:Imm) (g:EF) (h:HF) (o:Oper) (nid:Nat) (v:SV) (b:Nat) (ob:SObj):Prop:=
  ∀ N ρ D D' a w,EnvOk I N ρ D g a→HRel I ρ D h w→(b=nid→¬ D nid)→(∀c,D c→D' c)→(b=nid→D' nid)→∃ρ' w' nx,(execOp a.eval o).run P w=.ok nx w'∧(nx=.value (val ρ' v)∨(nx=.skip∧v=.tuple []))∧
    HRel I ρ' D' (putH h b ob) w'∧Ext ρ D h w ρ' D' (putH h b ob) w'∧Wf I D' v
theorem objAt_new {ρ:Nat→Pl} {b:Nat} {v:SV} {w:World} {T:TypeId} {D:Nat→Prop} (hw:Wf I D v) (hb:¬ D b):
    ObjAt (putP ρ b ⟨w.heap.size,0,0,false⟩) b { w with heap:=w.heap.push (.cells (cells ρ v).toArray T) } (.cells none v):=by
  have e:cells (putP ρ b ⟨w.heap.size,0,0,false⟩) v=cells ρ v:=cells_congr (I:=I) (fun c hc=>putP_other (fun (e:c=b)=>hb (e ▸ hc))) hw
  refine ⟨(cells ρ v).toArray,T,(0,0),by simp [putP_same],fun j _=>by simp [putP_same,e],by simp [reachOf],by simp [reachOf,putP_same,cells_length],fun j _=>by simp⟩
theorem objAt_newR {ρ:Nat→Pl} {b:Nat} {v:SV} {w:World} {T:TypeId} {D:Nat→Prop} {c s:Nat} (hw:Wf I D v) (hb:¬ D b) (hs:v.size=c * s):
    ObjAt (putP ρ b ⟨w.heap.size,0,c,false⟩) b { w with heap:=w.heap.push (.cells (cells ρ v).toArray T) } (.cells (some s) v):=by
  have e:cells (putP ρ b ⟨w.heap.size,0,c,false⟩) v=cells ρ v:=cells_congr (I:=I) (fun d hd=>putP_other (fun (e:d=b)=>hb (e ▸ hd))) hw
  refine ⟨(cells ρ v).toArray,T,(0,0),by simp [putP_same],fun j _=>by simp [putP_same,e],by simp [reachOf,putP_same,hs],by simp [reachOf,putP_same,cells_length,hs],fun j _=>by simp⟩
theorem rowOf_spec {z:SV} (hz:z.isTuple=false) (hs:z.size ≠ 0) (n:Nat) (ρ:Nat→Pl):(rowOf z n).size=n * z.size∧(rowOf z n).isTuple=false∧(∀I D,Wf I D z→Wf I D (rowOf z n))∧
    (Array.range (n * z.size)).map (fun i=>(cells ρ z).toArray[i % (cells ρ z).toArray.size]!)=(cells ρ (rowOf z n)).toArray:=by
  have hl:=cells_length ρ z
  have gen:(Array.range (n * z.size)).map (fun i=>(cells ρ z).toArray[i % (cells ρ z).toArray.size]!)=(cells ρ (.arr z.size n fun _=>z)).toArray:=by
    apply Array.toList_inj.1
    apply List.ext_getElem?
    intro j
    have hsz:(cells ρ z).toArray.size=z.size:=by simp [hl]
    by_cases hj:j < n * z.size
    · have hq:j / z.size < n:=by rw [Nat.div_lt_iff_lt_mul (by omega)]; exact hj
      have hr:j % z.size < z.size:=Nat.mod_lt _ (by omega)
      have hd:j=j / z.size * z.size+ j % z.size:=by rw [Nat.mul_comm]; exact (Nat.div_add_mod j _).symm
      have a1:=flat_get z.size n (fun _=>fit z.size (cells ρ z)) (fun i=>fit_length _ _) (j / z.size) (j % z.size) hq hr
      rw [← hd,fit_same _ _ hl] at a1
      simp only [cells,fit_same _ _ hl,a1]
      simp [hj,hl,hr]
    · rw [List.getElem?_eq_none (by simp; omega),List.getElem?_eq_none (by simp only [cells_length,SV.size]; omega)]
  unfold rowOf
  split
  · rename_i kd
    refine ⟨by simp [SV.size],rfl,fun _ _ _=>by simp [Wf],?_⟩
    rw [gen]
    simp only [SV.size,cells]
    congr 1
    clear gen
    induction n with
    | zero=>simp
    | succ n ih=>simp only [List.range_succ,List.flatMap_append,ih,List.map_append]; simp [fit]
  · refine ⟨by simp [SV.size],rfl,fun _ _ _=>by simp [Wf],?_⟩
    rw [gen]
    simp only [SV.size,cells]
    congr 1
    clear gen
    induction n with
    | zero=>simp
    | succ n ih=>simp only [List.range_succ,List.flatMap_append,ih,List.map_append]; simp [fit]
  · refine ⟨by simp [SV.size],rfl,fun _ _ h=>by simp [Wf,h],gen⟩
theorem wrap_small {n:Int} (h0:0≤n) (h1:n≤2 ^ 48):IntKind.i64.wrap n=n:=by
  have e:IntKind.i64.wrap n=(if IntKind.i64.signed && decide (n % 18446744073709551616 ≥ 9223372036854775808) then n % 18446744073709551616 - 18446744073709551616 else n % 18446744073709551616):=rfl
  rw [e]
  have h2:n % 18446744073709551616=n:=by omega
  rw [h2,if_neg]
  simp only [Bool.and_eq_true,decide_eq_true_eq,not_and]
  omega
theorem arPlace_spec {es i:Nat} {k:Nat→Nat→Path→R α} {r:α} (h:arPlace es i k=some r):∃o s p,k o s p=some r∧offOf p=o∧(fun i=>some (i * es,es)) i=some (o,s):=by
  unfold arPlace at h
  exact ⟨_,_,_,h,by simp [offOf,Step.off],rfl⟩
theorem write_cells {ρ:Nat→Pl} {D:Nat→Prop} {h:HF} {w:World} (hh:HRel I ρ D h w) {b:Nat} {gg:Option Nat} {u0 u:SV} (hb:h b=some (.cells gg u0)) {o:Nat} {cs:List Value} (hroom:o+ cs.length≤u0.size) (hsz:u.size=u0.size)
    (hnew:∀j,j < cs.length→(cells ρ u)[o+ j]?=cs[j]?) (hold:∀j,j < o∨o+ cs.length≤j→(cells ρ u)[j]?=(cells ρ u0)[j]?) (hflat:∀x ∈ cs,flatV x=true) (hwf:Wf I D u):
    ∃w',(storeCells ⟨(ρ b).blk,(ρ b).base+ o,none⟩ cs 0).run P w=.ok () w'∧HRel I ρ D (putH h b (.cells gg u)) w'∧Ext ρ D h w ρ D (putH h b (.cells gg u)) w':=by
  have hul:=cells_length ρ u
  by_cases hz:u0.size=0
  · have e0:cs=[]:=List.length_eq_zero_iff.1 (by omega)
    subst e0
    have e1:cells ρ u=[]:=List.length_eq_zero_iff.1 (by omega)
    have e2:cells ρ u0=[]:=List.length_eq_zero_iff.1 (by rw [cells_length]; omega)
    obtain ⟨q1,q2⟩:=HRel.swap hh hb hsz (by rw [e1,e2]) hwf
    exact ⟨w,by simp [storeCells],q1,q2⟩
  have hbn:=hh.real hb (by omega)
  obtain ⟨c,T,fz,hheap,hcell,hr1,hr2,hfz⟩:=hh.obj b _ hb hbn
  have hst:=run_storeCells_gen (P:=P) (ρ b).blk ((ρ b).base+ o) T fz cs 0 c w hheap (by omega) (fun j _ hj=>by
    have:=hfz (o+ j) (by omega)
    rwa [← Nat.add_assoc] at this) hflat
  have hobj:ObjAt ρ b (World.setBlk w (ρ b).blk (.cells (overlay c.toList cs ((ρ b).base+ o+ 0)).toArray T fz)) (.cells gg u):=by
    have hreach:reachOf (ρ b) gg u=reachOf (ρ b) gg u0:=by cases gg<;>simp [reachOf,hsz]
    have hol:(overlay c.toList cs ((ρ b).base+ o+ 0)).length=c.size:=by simp [overlay]; omega
    refine ⟨_,T,fz,setBlk_get hheap,fun j hj=>?_,by rw [hreach]; omega,by rw [hreach]; simp only [List.size_toArray,hol]; exact hr2,by rw [hreach]; exact hfz⟩
    simp only [List.getElem?_toArray,Nat.add_zero]
    by_cases hc:o≤j∧j < o+ cs.length
    · have hnew:=hnew (j - o) (by omega)
      rw [show o+ (j - o)=j by omega] at hnew
      rw [hnew]
      unfold overlay
      have e:(List.take ((ρ b).base+ o) c.toList).length=(ρ b).base+ o:=by simp; omega
      rw [List.append_assoc,List.getElem?_append_right (by rw [e]; omega),e,List.getElem?_append_left (by omega)]
      congr 1; omega
    · have hold:=hold j (by omega)
      rw [hold,← hcell j (by omega)]
      unfold overlay
      have e:(List.take ((ρ b).base+ o) c.toList).length=(ρ b).base+ o:=by simp; omega
      by_cases hlt:j < o
      · rw [List.append_assoc,List.getElem?_append_left (by rw [e]; omega),List.getElem?_take,if_pos (by omega)]
        simp
      · rw [List.getElem?_append_right (by simp; omega)]
        have e2:(List.take ((ρ b).base+ o) c.toList++ cs).length=(ρ b).base+ o+ cs.length:=by simp; omega
        rw [e2,List.getElem?_drop]
        rw [show (ρ b).base+ o+ cs.length+ ((ρ b).base+ j - ((ρ b).base+ o+ cs.length))=(ρ b).base+ j by omega]
        simp
  obtain ⟨e1,e2⟩:=HRel.set hh hb hbn (o:=.cells gg u) hwf hobj
  exact ⟨_,hst,e1,e2⟩
theorem val_slc1 (ρ:Nat→Pl) (b:Nat) (p:Path) (off len:Nat) (cap:Option Nat):∃c,val ρ (.slc b p 1 off len cap)=.slice (some ⟨(ρ b).blk,(ρ b).base+ (offOf p+ off),none⟩) len c:=by
  cases cap
  · exact ⟨_,by simp only [val,pack,SV.isAgg,cells,Nat.mul_one]; rfl⟩
  · exact ⟨_,by simp only [val,pack,SV.isAgg,cells,Nat.mul_one]; rfl⟩
theorem copySrc_spec {h:HF} {x:SV} {k:IntKind→Nat→(Nat→Int)→R α} {r:α} (hk:copySrc h x k=some r):
    ∃kd n src,k kd n src=some r∧∀ρ D w,HRel I ρ D h w→(Builtin.lenOf (val ρ x)).run P w=.ok n w∧∀m,m≤n→(Builtin.firstCells 1 m (val ρ x)).run P w=.ok ((List.range m).map fun i=>Value.int kd (src i)).toArray w:=by
  unfold copySrc at hk
  split at hk<;>try (simp at hk; done)
  · rename_i s
    refine ⟨_,_,_,hk,fun ρ D w hh=>⟨by simp [val_str,Builtin.lenOf],fun m hm=>?_⟩⟩
    have e:List.take m (List.map (fun b:UInt8=>Value.int IntKind.u8 (b.toNat:Int)) s.data.toList)=(List.range m).map fun i=>Value.int .u8 (bytesAt s i):=by
      apply List.ext_getElem?
      intro j
      by_cases hj:j < m
      · have hlt:j < s.data.toList.length:=by have:s.size=s.data.toList.length:=rfl; omega
        have hb:bytesAt s j=((s.data.toList[j].toNat:Nat):Int):=by
          unfold bytesAt
          have:s[j]?=some s.data.toList[j]:=by
            have hlt2:j < s.size:=by have:s.size=s.data.toList.length:=rfl; omega
            rw [getElem?_pos s j hlt2]; rfl
          rw [this]; rfl
        simp [hj,hb]
        exact ⟨s.data[j]'(by simpa using hlt),by simp,rfl⟩
      · simp [List.getElem?_take,hj]
    simp only [val_str,Builtin.firstCells]
    simp
    apply Array.toList_inj.1
    simpa using e
  · rename_i b p sz off len cap
    split at hk<;>try (simp at hk; done)
    rename_i g v hb
    obtain ⟨u,h5,hl,_⟩:=sub_spec hk
    split at h5<;>try (simp at h5; done)
    rename_i kd m f _
    obtain ⟨h6,h7⟩:=bif_some h5
    simp only [Bool.and_eq_true,decide_eq_true_eq] at h6
    obtain ⟨h6,h8⟩:=h6
    have:=Nat.eq_of_beq_eq_true h6
    subst this
    refine ⟨_,_,_,h7,fun ρ D w hh=>?_⟩
    have ev:val ρ (.slc b p 1 off len cap)=.slice (some ⟨(ρ b).blk,(ρ b).base+ offOf p+ off,none⟩) len (match cap with | some c=>c | none=>(ρ b).cap - off):=by
      simp only [val,pack,SV.isAgg,cells,Nat.mul_one,Nat.add_assoc]; rfl
    rw [ev]
    refine ⟨by simp [Builtin.lenOf],fun m' hm=>?_⟩
    have e:=run_loadCells_list (P:=P) w ⟨(ρ b).blk,(ρ b).base+ offOf p+ off,none⟩ ((List.range m').map fun i=>Value.int kd (f (off+ i))) (fun j v' hj=>by
      have hjl:j < m':=by have:=(List.getElem?_eq_some_iff.1 hj).1; simpa using this
      have:=hh.cell (j:=off+ j) hb hl (by simp [SV.size]; omega)
      rw [addr_add rfl,show (ρ b).base+ offOf p+ off+ j=(ρ b).base+ offOf p+ (off+ j) by omega]
      simp only
      rw [this,← hj]
      simp [cells,hjl,show off+ j < m by omega])
    simp only [List.length_map,List.length_range] at e
    simp [Builtin.firstCells,e]
theorem wval_spec {te:TE} (hte:TEok P te) {o:Oper} {g:EF} {h:HF} {nid:Nat} {k:SV→Nat→SObj→R α} {r:α} (hv:wval te o.op g h nid k=some r):
    ∃v b ob,k v b ob=some r∧(b=nid∨∃o0,h b=some o0)∧WOk P I g h o nid v b ob:=by
  obtain ⟨dst,op,type,pos,after,guard⟩:=o
  cases op<;>simp only [wval] at hv<;>try (simp at hv; done)
  case alloc t=>
    obtain ⟨s,h1,ht⟩:=tlook_spec hv hte
    refine ⟨_,_,_,h1,.inl rfl,fun N ρ D D' a w he hh hn hD hnD=>?_⟩
    have hz:=val_cells ρ ht.zero.2.1
    obtain ⟨e1,e2⟩:=HRel.add hh (hn rfl) hD (hnD rfl) (o:=.cells none s.zero) (ht.zero.2.2 I D') (p:=⟨w.heap.size,0,0,false⟩) rfl rfl (objAt_new (T:=t) (ht.zero.2.2 I D) (hn rfl))
    refine ⟨_,_,.value (.pointer (some ⟨w.heap.size,0,none⟩)),?_,.inl ?_,e1,e2,by simpa [Wf] using hnD rfl⟩
    · simp [execOp,Instr.alloc,run_zeroValue ht ρ,newVar,newRow,hz]
    · simp [val_ptr,putP_same,offOf]
  case box t x=>
    obtain ⟨v,h1,hx⟩:=ev_spec hv
    cases ht:v.isTuple<;>rw [ht] at h1<;>simp at h1
    refine ⟨_,_,_,h1,.inl rfl,fun N ρ D D' a w he hh hn hD hnD=>?_⟩
    obtain ⟨x1,x2⟩:=hx I N ρ D a he
    have hz:=val_cells ρ ht
    obtain ⟨e1,e2⟩:=HRel.add hh (hn rfl) hD (hnD rfl) (o:=.cells none v) (Wf.mono hD x2) (p:=⟨w.heap.size,0,0,false⟩) rfl rfl (objAt_new (T:=t) x2 (hn rfl))
    refine ⟨_,_,.value (.pointer (some ⟨w.heap.size,0,none⟩)),?_,.inl ?_,e1,e2,by simpa [Wf] using hnD rfl⟩
    · simp [execOp,Instr.box,newVar,newRow,x1,hz]
    · simp [val_ptr,putP_same,offOf]
  case store t x y=>
    obtain ⟨s,h1,ht⟩:=tlook_spec hv hte
    obtain ⟨p,h2,hp⟩:=ev_spec h1
    cases p<;>(try simp only at h2)<;>try (simp at h2; done)
    rename_i b p
    obtain ⟨v,h3,hy⟩:=ev_spec h2
    obtain ⟨h4,h5⟩:=bif_some h3
    split at h5<;>try (simp at h5; done)
    rename_i gg u0 hb
    obtain ⟨u,h6,htu,hwr,hwf⟩:=setSub_spec h5
    have hs:v.size=s.size:=by simpa using h4
    refine ⟨_,_,_,h6,.inr ⟨_,hb⟩,fun N ρ D D' a w he hh hn hD hnD=>?_⟩
    obtain ⟨p1,p2⟩:=hp I N ρ D a he
    obtain ⟨y1,y2⟩:=hy I N ρ D a he
    have hvl:=cells_length ρ v
    obtain ⟨w',hst,e1,e2⟩:=write_cells (P:=P) hh hb (u:=u) (o:=offOf p) (cs:=cells ρ v) (by rw [hvl]; exact hwr.room) hwr.size (fun j hj=>hwr.new ρ j (by rwa [hvl] at hj)) (fun j hj=>hwr.old ρ j (by rwa [hvl] at hj)) (fun x hx=>cells_flat ρ v x hx) (hwf I D (hh.wf.dom b _ hb).2 y2)
    refine ⟨ρ,_,.skip,?_,.inr ⟨rfl,rfl⟩,HRel.mono e1 hD,⟨hD,e2.agree,e2.os,e2.tape,e2.output,e2.size,e2.frame,e2.img⟩,by simp [Wf,Wfs]⟩
    have hvc:=val_cells ρ htu
    have hne:¬ (cells ρ v).length ≠ s.size:=by omega
    simp only [execOp,p1,y1,val_ptr,Instr.storeAt,Instr.sureAddr,Sem.run_bind,Sem.run_pure,Result.andThen_ok,storeVar,run_sizeOf ht,hvc,List.size_toArray,hst,Sem.run_ite,if_neg hne]
  case call c =>
    obtain ⟨callee,args,argTypes⟩:=c
    cases callee<;>(try simp only at hv)<;>try (simp at hv; done)
    rename_i bi
    cases bi<;>(try simp only at hv)<;>try (simp at hv; done)
    unfold wcopy at hv
    split at hv<;>try (simp at hv; done)
    rename_i d x dT sT hargs htys
    obtain ⟨s,h1,ht⟩:=tlook_spec hv hte
    split at h1<;>try (simp at h1; done)
    rename_i e hsd
    obtain ⟨es,h2,hes⟩:=tlook_spec h1 hte
    obtain ⟨h3,h4⟩:=bif_some h2
    obtain ⟨dv,h5,hd⟩:=ev_spec h4
    cases dv<;>(try simp only at h5)<;>try (simp at h5; done)
    rename_i b p sz off dlen cap
    obtain ⟨h6,h7⟩:=bif_some h5
    obtain ⟨xv,h8,hx⟩:=ev_spec h7
    obtain ⟨kd,slen,src,h9,hsrc⟩:=copySrc_spec (P:=P) (I:=I) h8
    split at h9<;>try (simp at h9; done)
    rename_i gg u0 hb
    obtain ⟨y,h10,hl,_⟩:=sub_spec h9
    split at h10<;>try (simp at h10; done)
    rename_i kd' m f _
    obtain ⟨h11,h12⟩:=bif_some h10
    obtain ⟨u,h13,_,hwr,hwf⟩:=setSub_spec h12
    have hsz1:=Nat.eq_of_beq_eq_true h6
    have hes1:=Nat.eq_of_beq_eq_true h3
    subst hsz1
    simp only [Bool.and_eq_true,decide_eq_true_eq] at h11
    obtain ⟨hkd,hm⟩:=h11
    subst hkd
    refine ⟨_,_,_,h13,.inr ⟨_,hb⟩,fun N ρ D D' a w he hh hn hD hnD=>?_⟩
    have ea:args=#[d,x]:=by apply Array.toList_inj.1; simpa using hargs
    have et:argTypes=#[dT,sT]:=by apply Array.toList_inj.1; simpa using htys
    subst ea; subst et
    have hnd:Nat.min slen dlen≤dlen:=Nat.min_le_right _ _
    have hroom:=hwr.room
    simp only [SV.size] at hroom
    have hud:=ht.desc
    rw [hsd] at hud
    obtain ⟨w', q1,q2,q3⟩:=write_cells (P:=P) hh hb (u:=u) (o:=offOf p+ off) (cs:=(List.range (Nat.min slen dlen)).map fun i=>Value.int kd' (src i)) (by simp; omega) hwr.size (fun j hj=>by
        simp only [List.length_map,List.length_range] at hj
        have:=hwr.new ρ (off+ j) (by simp only [SV.size]; omega)
        rw [Nat.add_assoc,this]
        have hb1:Nat.ble off (off+ j)=true:=by simp
        have hb2:Nat.blt (off+ j) (off+ Nat.min slen dlen)=true:=by simpa using hj
        simp [cells,hj,show off+ j < m by omega,cpy,hb1,hb2]) (fun j hj=>by
        simp only [List.length_map,List.length_range] at hj
        by_cases hr:offOf p≤j∧j < offOf p+ m
        · have h1:=hwr.new ρ (j - offOf p) (by simp only [SV.size]; omega)
          have h2:=hl.2 ρ (j - offOf p) (by simp only [SV.size]; omega)
          rw [show offOf p+ (j - offOf p)=j by omega] at h1 h2
          rw [h1,h2]
          have hb1:(Nat.ble off (j - offOf p) && Nat.blt (j - offOf p) (off+ Nat.min slen dlen))=false:=by
            cases e1:Nat.ble off (j - offOf p)
            · rfl
            · have e1':=Nat.le_of_ble_eq_true e1
              cases e2:Nat.blt (j - offOf p) (off+ Nat.min slen dlen)
              · rfl
              · have e2':j - offOf p < off+ Nat.min slen dlen:=by simpa using e2
                omega
          simp [cells,show j - offOf p < m by omega,cpy,hb1]
        · exact hwr.old ρ j (by simp only [SV.size]; omega)) (fun x hx=>by
        obtain ⟨i,_,rfl⟩:=List.mem_map.1 hx
        rfl) (hwf I D (hh.wf.dom b _ hb).2 (by simp [Wf]))
    obtain ⟨d1,d2⟩:=hd I N ρ D a he
    obtain ⟨x1,x2⟩:=hx I N ρ D a he
    obtain ⟨s1,s2⟩:=hsrc ρ D w hh
    obtain ⟨cv,ev⟩:=val_slc1 ρ b p off dlen cap
    refine ⟨ρ,w',.value (goInt (Nat.min slen dlen)),?_,.inl (by simp [val_int,goInt]),HRel.mono q2 hD,⟨hD,q3.agree,q3.os,q3.tape,q3.output,q3.size,q3.frame,q3.img⟩,by simp [Wf]⟩
    have hso:=run_sizeOf hes (w:=w)
    rw [hes1] at hso
    simp [execOp,resolve,invoke,builtin,Builtin.copy_,d1,x1,ev,run_underlying hud.1,s1,hso,s2 _ (Nat.min_le_left slen dlen),q1]
  case buildSlice t len ps=>
    obtain ⟨s,h1,ht⟩:=tlook_spec hv hte
    split at h1<;>try (simp at h1; done)
    rename_i e hsd
    have hd:=ht.desc
    rw [hsd] at hd
    obtain ⟨es,h2,hes⟩:=tlook_spec h1 hte
    cases hz:Nat.beq es.size 0<;>rw [hz] at h2<;>simp only [cond_false,cond_true] at h2<;>try (simp at h2; done)
    have hz':es.size ≠ 0:=fun e=>by rw [e] at hz; simp at hz
    obtain ⟨h3,h4⟩:=bif_some h2
    have h3:=of_decide_eq_true h3
    obtain ⟨u,h5,hus,hall⟩:=fill_spec (fun i k r h=>arPlace_spec h) h4
    refine ⟨_,_,_,h5,.inl rfl,fun N ρ D D' a w he hh hn hD hnD=>?_⟩
    obtain ⟨q1,q2,q3,q4⟩:=rowOf_spec (ρ:=ρ) hes.zero.2.1 (by rw [hes.zero.1]; exact hz') len
    have hzc:=val_cells ρ hes.zero.2.1
    obtain ⟨g1,g2⟩:=hall I N ρ D a he (q3 I D (hes.zero.2.2 I D))
    obtain ⟨e1,e2⟩:=HRel.add hh (hn rfl) hD (hnD rfl) (o:=.cells none u) (Wf.mono hD g1) (p:=⟨w.heap.size,0,0,false⟩) rfl rfl (objAt_new (T:=e) g1 (hn rfl))
    refine ⟨_,_,.value (.slice (some ⟨w.heap.size,0,none⟩) len len),?_,.inl ?_,e1,e2,by simpa [Wf] using hnD rfl⟩
    · rw [hes.zero.1] at q4
      have e3:(ps.map fun x=>(x.1,a.eval x.2)).toList=ps.toList.map fun x=>(x.1,a.eval x.2):=by simp
      by_cases hlen:len * es.size=0
      · have:len=0:=by rcases Nat.mul_eq_zero.1 hlen with h | h<;>omega
        subst this
        have q5:(Array.range (0 * es.size)).map (fun i=>(#[]:Array Value)[i % (#[]:Array Value).size]!)=(cells ρ (rowOf es.zero 0)).toArray:=by rw [← q4]; simp
        simp only [execOp,Instr.buildSlice,Sem.run_bind,run_underlying hd.1,Result.andThen_ok,run_sizeOf hes,Sem.run_ite]
        rw [if_neg (by omega)]
        simp only [hlen,if_true,Sem.run_pure,Result.andThen_ok,e3]
        simp only [hlen] at q5
        simp only [q5,g2,newRow,Sem.run_bind,run_newObj,Result.andThen_ok,Sem.run_pure]
      · simp only [execOp,Instr.buildSlice,Sem.run_bind,run_underlying hd.1,Result.andThen_ok,run_sizeOf hes,Sem.run_ite]
        rw [if_neg (by omega)]
        simp only [hlen,if_false,Sem.run_pure,Sem.run_bind,run_zeroValue hes ρ,hzc,Result.andThen_ok,e3,q4,g2,newRow,run_newObj]
    · simp [val,pack,SV.isAgg,cells,putP_same,offOf]
  case makeMap t res=>
    cases res<;>(try simp only at hv)<;>try (simp at hv; done)
    refine ⟨_,_,_,hv,.inl rfl,fun N ρ D D' a w he hh hn hD hnD=>?_⟩
    obtain ⟨e1,e2⟩:=HRel.add hh (hn rfl) hD (hnD rfl) (o:=.map []) (by simp [OWf]) (p:=⟨w.heap.size,0,0,false⟩) rfl rfl (ob:=.map #[] 0) ⟨#[],0,by simp [putP_same],by simp⟩
    refine ⟨_,_,.value (.map (some w.heap.size)),?_,.inl ?_,e1,e2,by simpa [Wf] using hnD rfl⟩
    · simp [execOp,Instr.makeMap]
    · simp [val,pack,SV.isAgg,cells,putP_same]
  case insert t x key v0=>
    obtain ⟨s,h1,ht⟩:=tlook_spec hv hte
    have hd:=ht.desc
    split at h1<;>try (simp at h1; done)
    rename_i kt et hsd
    rw [hsd] at hd
    obtain ⟨ks,h2,hks⟩:=tlook_spec h1 hte
    have hkd:=hks.desc
    split at h2<;>try (simp at h2; done)
    rename_i kd hksd
    rw [hksd] at hkd
    obtain ⟨mv,h4,hm⟩:=ev_spec h2
    cases mv<;>(try simp only at h4)<;>try (simp at h4; done)
    rename_i b
    split at h4<;>try (simp at h4; done)
    rename_i l hb
    obtain ⟨iv,h5,hi⟩:=ev_spec h4
    cases iv<;>(try simp only at h5)<;>try (simp at h5; done)
    rename_i kd' n
    obtain ⟨h6,h7⟩:=bif_some h5
    simp only [Bool.and_eq_true,decide_eq_true_eq] at h6
    obtain ⟨rfl,hno⟩:=h6
    obtain ⟨v,h8,hval⟩:=ev_spec h7
    refine ⟨_,_,_,h8,.inr ⟨_,hb⟩,fun N ρ D D' a w he hh hn hD hnD=>?_⟩
    obtain ⟨e1,e2⟩:=hm I N ρ _ a he
    obtain ⟨e3,_⟩:=hi I N ρ _ a he
    obtain ⟨e4,e5⟩:=hval I N ρ _ a he
    have hbn:(ρ b).nil=false:=by
      cases e:(ρ b).nil
      · rfl
      · obtain ⟨_,g',v',q1,_⟩:=hh.none_ b _ hb e
        cases q1
    obtain ⟨ms,clock,q1,q2⟩:=hh.obj b _ hb hbn
    have hwf:=(hh.wf.dom b _ hb).2
    have hf:∀(l:List (SV × SV)) (ms:List MapEntry) (i:Nat),noKey kd' n l=true→ms.map (fun m=>(m.key,m.val))=l.map (fun e=>(val ρ e.1,val ρ e.2))→Instr.findNow (.int kd') (.int kd' n) ms i=some none:=by
      intro l
      induction l with
      | nil=>intro ms i _ hm; cases ms with
        | nil=>rfl
        | cons m ms=>simp at hm
      | cons y l ih=>
        intro ms i hk hm
        obtain ⟨y1,y2⟩:=y
        cases ms with
        | nil=>simp at hm
        | cons m ms=>
          simp only [List.map_cons,List.cons.injEq,Prod.mk.injEq] at hm
          obtain ⟨⟨hk1,_⟩,hms⟩:=hm
          cases y1<;>simp only [noKey] at hk<;>try (cases hk; done)
          rename_i kd2 n2
          simp only [Bool.and_eq_true,decide_eq_true_eq,Bool.not_eq_true',decide_eq_false_iff_not] at hk
          obtain ⟨rfl,hne,hk⟩:=hk
          rw [val_int] at hk1
          have:(n==n2)=false:=by simpa using hne
          simp [Instr.findNow,hk1,Instr.sameNow,this,ih ms (i+ 1) hk hms]
    have hck:∀c,(Instr.checkKey c 10000 kt (.int kd' n)).run P w=.ok () w:=fun c=>MapKept.run_checkKey hkd.1 (show MapKept.IsKey (.int kd') (.int kd' n) from rfl) c 9999
    have hfk:=MapKept.run_findKey (P:=P) (w:=w) hkd.1 (hf l ms.toList 0 hno q2)
    obtain ⟨r1,r2⟩:=HRel.set hh hb hbn (o:=.map (l++ [(.int kd' n,v)])) (fun e he'=>by
      rcases List.mem_append.1 he' with he' | he'
      · exact hwf e he'
      · simp only [List.mem_singleton] at he'; subst he'; exact ⟨by simp [Wf],e5⟩) (ob:=.map (ms.push { key:=.int kd' n,val:=val ρ v,born:=clock }) (clock+ 1)) ⟨_,_,setBlk_get q1,by simp [q2,val_int]⟩
    refine ⟨ρ,_,.skip,?_,.inr ⟨rfl,rfl⟩,HRel.mono r1 hD,⟨hD,r2.agree,r2.os,r2.tape,r2.output,r2.size,r2.frame,r2.img⟩,by simp [Wf,Wfs]⟩
    have hv0:val ρ (.map b)=.map (some (ρ b).blk):=rfl
    have hso:=MapKept.run_setObj_map (P:=P) (.map (ms.push { key:=.int kd' n,val:=val ρ v,born:=clock }) (clock+ 1)) q1
    simp [execOp,e1,e3,e4,hv0,val_int,Instr.mapUpdate,run_underlying hd.1,getObj,Sem.run,q1,hck,hfk,hso,World.setBlk]
  case makeSlice t l c=>
    obtain ⟨s,h1,ht⟩:=tlook_spec hv hte
    split at h1<;>try (simp at h1; done)
    rename_i e hsd
    have hd:=ht.desc
    rw [hsd] at hd
    obtain ⟨es,h2,hes⟩:=tlook_spec h1 hte
    cases hz:Nat.beq es.size 0<;>rw [hz] at h2<;>simp only [cond_false,cond_true] at h2<;>try (simp at h2; done)
    have hz':es.size ≠ 0:=fun e=>by rw [e] at hz; simp at hz
    obtain ⟨lv,h3,hl⟩:=ev_spec h2
    cases lv<;>(try simp only at h3)<;>try (simp at h3; done)
    rename_i kl l'
    obtain ⟨cv,h4,hc⟩:=ev_spec h3
    cases cv<;>(try simp only at h4)<;>try (simp at h4; done)
    rename_i kc c'
    obtain ⟨h5,h6⟩:=bif_some h4
    obtain ⟨h7,h8⟩:=bif_some h6
    simp only [Bool.and_eq_true,decide_eq_true_eq] at h5 h7
    obtain ⟨⟨hkl,hkc⟩,hl0,hlc⟩:=h5
    subst hkl; subst hkc
    refine ⟨_,_,_,h8,.inl rfl,fun N ρ D D' a w he hh hn hD hnD=>?_⟩
    obtain ⟨l1,_⟩:=hl I N ρ D a he
    obtain ⟨c1,_⟩:=hc I N ρ D a he
    obtain ⟨q1,q2,q3,q4⟩:=rowOf_spec (ρ:=ρ) hes.zero.2.1 (by rw [hes.zero.1]; exact hz') c'.toNat
    have hzc:=val_cells ρ hes.zero.2.1
    obtain ⟨e1,e2⟩:=HRel.add hh (hn rfl) hD (hnD rfl) (o:=.cells (some es.size) (rowOf es.zero c'.toNat)) (Wf.mono hD (q3 I D (hes.zero.2.2 I D))) (p:=⟨w.heap.size,0,c'.toNat,false⟩) rfl rfl (objAt_newR (T:=e) (q3 I D (hes.zero.2.2 I D)) (hn rfl) (by rw [q1,hes.zero.1]))
    refine ⟨_,_,.value (.slice (some ⟨w.heap.size,0,none⟩) l'.toNat c'.toNat),?_,.inl ?_,e1,e2,by simpa [Wf] using hnD rfl⟩
    · obtain ⟨i,hi1,hi2,hi3,hi4⟩:=ty_info hes
      have hti:(typeInfo e).run P w=.ok i w:=by simp [typeInfo,hi1]
      have w1:=wrap_small hl0 (by omega)
      have w2:=wrap_small (n:=c') (by omega) h7.2
      have hcond:¬ ((decide (c' < 0) || decide ((i.bytes:Int) * c' > 2 ^ 48))=true∨l' < 0∨l' > c'):=by
        simp only [Bool.or_eq_true,decide_eq_true_eq,hi3]
        omega
      rw [hes.zero.1] at q4
      simp only [execOp,l1,c1,val_int,Instr.makeSlice,Sem.run_bind,run_underlying hd.1,Result.andThen_ok,asInt,asIntOf,Sem.run_pure,hti,w1,w2,Sem.run_ite]
      rw [if_neg (by simpa [or_assoc] using hcond)]
      simp only [run_askRoom,Result.andThen_ok,run_sizeOf hes,Sem.run_bind,Sem.run_ite,Sem.run_pure,run_zeroValue hes ρ,hzc,newRow,run_newObj]
      by_cases hc0:c'.toNat * es.size=0
      · have q5:(Array.range (c'.toNat * es.size)).map (fun i=>(#[]:Array Value)[i % (#[]:Array Value).size]!)=(cells ρ (rowOf es.zero c'.toNat)).toArray:=by rw [← q4]; simp [hc0]
        simp only [hc0,if_true,Result.andThen_ok] at q5 ⊢
        simp only [q5]
      · simp only [hc0,if_false,Result.andThen_ok,q4]
    · simp [val,pack,SV.isAgg,cells,putP_same,offOf]
end
end Go.Sh
namespace Go.Sh
open Go
section
variable {α:Type} {P:Program} {I:Imm}
theorem flat_shift {sz m off len t:Nat} {F:Nat→List Value} (hF:∀i,(F i).length=sz) (h:off+ len≤m) (ht:t < len * sz):
    ((List.range m).flatMap F)[off * sz+ t]?=((List.range len).flatMap fun i=>F (off+ i))[t]?:=by
  have hs : 0 < sz := by rcases Nat.eq_zero_or_pos sz with rfl | h
                         · simp at ht
                         · exact h
  have hq:t / sz < len:=by rw [Nat.div_lt_iff_lt_mul hs]; exact ht
  have hr:t % sz < sz:=Nat.mod_lt _ hs
  have hd:t=t / sz * sz+ t % sz:=by rw [Nat.mul_comm]; exact (Nat.div_add_mod t sz).symm
  have a1:=flat_get sz m F hF (off+ t / sz) (t % sz) (by omega) hr
  have a2:=flat_get sz len (fun i=>F (off+ i)) (fun i=>hF _) (t / sz) (t % sz) hq hr
  rw [← hd] at a2
  rw [a2,← a1,Nat.add_mul,Nat.add_assoc,← hd]
def rowTD : (d:TD)→Nat→(Nat→d.Val)→SV
  | .int k,n,f=>.ints k n f
  | .bool,n,f=>.bools n f
  | d,n,f=>.arr d.size n fun i=>d.sv (f i)
theorem rowTD_size (d:TD) (n:Nat) (f:Nat→d.Val):(rowTD d n f).size=n * d.size:=by cases d<;>simp [rowTD,SV.size,TD.size]
theorem rowTD_cells (ρ:Nat→Pl) (d:TD) (n:Nat) (f:Nat→d.Val):cells ρ (rowTD d n f)=cells ρ (.arr d.size n fun i=>d.sv (f i)):=by
  have one:∀g:Nat→Value,(List.range n).map g=(List.range n).flatMap fun i=>fit 1 [g i]:=fun g=>by
    induction n with
    | zero=>rfl
    | succ n ih=>simp only [List.range_succ,List.map_append,List.flatMap_append,ih]; rfl
  cases d with
  | int k=>simp only [rowTD,cells,TD.size,TD.sv]; exact one _
  | bool=>simp only [rowTD,cells,TD.size,TD.sv]; exact one _
  | str=>rfl
  | st l=>rfl
  | ints m k=>rfl
  | sl e=>rfl
theorem rowTD_wf {I:Imm} {D:Nat→Prop} (d:TD) (n:Nat) (f:Nat→d.Val) (h:∀i,i < n→VW I d (f i)):Wf I D (rowTD d n f):=by
  cases d with
  | int k=>simp [rowTD,Wf]
  | bool=>simp [rowTD,Wf]
  | str=>simp only [rowTD,Wf]; exact fun i hi=>(wf_sv _ _).2 (h i hi)
  | st l=>simp only [rowTD,Wf]; exact fun i hi=>(wf_sv (.st l) _).2 (h i hi)
  | ints m k=>simp only [rowTD,Wf]; exact fun i hi=>(wf_sv (.ints m k) _).2 (h i hi)
  | sl e=>simp only [rowTD,Wf]; exact fun i hi=>(wf_sv (.sl e) _).2 (h i hi)
def rowAt (h:HF) (sz:Nat) (x:SV) (k:Nat→SV→R α):R α:=
  match x with
  | .nils=>k 0 (.arr sz 0 fun _=>.bool false)
  | .str s=>bif Nat.beq sz 1 then k s.size (.ints .u8 s.size (bytesAt s)) else none
  | .slc b p s' off len _=>bif Nat.beq s' sz then match h b with
    | some (.cells _ v)=>sub v p fun
      | .ints kd m f=>bif Nat.beq sz 1 && decide (off+ len≤m) then k len (.ints kd len fun i=>f (off+ i)) else none
      | .bools m f=>bif Nat.beq sz 1 && decide (off+ len≤m) then k len (.bools len fun i=>f (off+ i)) else none
      | .arr s2 m f=>bif Nat.beq s2 sz && decide (off+ len≤m) then k len (.arr sz len fun i=>f (off+ i)) else none
      | _=>none
    | _=>none else none
  | .vslc td _ _ len _ f=>bif Nat.beq td.size sz then k len (rowTD td len f) else none
  | .oslc b s' len=>bif Nat.beq s' sz then match h b with
    | some (.cells _ v)=>match v with
      | .ints kd m f=>bif Nat.beq sz 1 && decide (len≤m) then k len (.ints kd len f) else none
      | .bools m f=>bif Nat.beq sz 1 && decide (len≤m) then k len (.bools len f) else none
      | .arr s2 m f=>bif Nat.beq s2 sz && decide (len≤m) then k len (.arr sz len f) else none
      | _=>none
    | _=>none else none
  | _=>none
structure RowOk (P:Program) (I:Imm) (h:HF) (sz:Nat) (x:SV) (n:Nat) (row:SV):Prop where
  size:row.size=n * sz
  at_:∀b p s' off len cap,x=.slc b p s' off len cap→s'=sz∧n=len∧∃g v u,h b=some (.cells g v)∧Lies v (offOf p) u∧off * sz+ n * sz≤u.size∧∀ρ t,t < n * sz→(cells ρ u)[off * sz+ t]?=(cells ρ row)[t]?
  ato:∀b s' len,x=.oslc b s' len→s'=sz∧n=len∧∃g v,h b=some (.cells g v)∧n * sz≤v.size∧∀ρ t,t < n * sz→(cells ρ v)[t]?=(cells ρ row)[t]?
  run:∀ρ D w,HRel I ρ D h w→Wf I D x→Wf I D row∧(∀w',(Builtin.lenOf (val ρ x)).run P w'=.ok n w')∧∀w',w'.heap=w.heap→(Builtin.firstCells sz n (val ρ x)).run P w'=.ok (cells ρ row).toArray w'
theorem load_row {a:Addr} (ha:a.spot=none) {cs:List Value} {k:Nat} (hk:cs.length=k) {w:World} (h:∀j,j < cs.length→w.cell? ⟨a.block,a.off+ j,none⟩=cs[j]?) {w':World} (hw:w'.heap=w.heap):(loadCells a k).run P w'=.ok cs.toArray w':=by
  subst hk
  refine run_loadCells_list (P:=P) w' a cs fun j v hj=>?_
  have:=h j (List.getElem?_eq_some_iff.1 hj).1
  rw [addr_add ha,← hj,← this]
  simp [World.cell?,hw]
theorem load_rowV {a:Addr} {cs:List Value} {k:Nat} (ha:0 < k→a.spot=none) (hk:cs.length=k) {w:World} (h:∀j,j < cs.length→w.cell? ⟨a.block,a.off+ j,none⟩=cs[j]?) {w':World} (hw:w'.heap=w.heap):(loadCells a k).run P w'=.ok cs.toArray w':=by
  rcases Nat.eq_zero_or_pos k with rfl | h0
  · have:cs=[]:=by simpa using hk
    subst this
    simp [loadCells,loadCellsFrom]
  · exact load_row (ha h0) hk h hw
theorem rowAt_spec {h : HF} {sz :Nat} {x:SV} {k:Nat→SV→R α} {r:α} (hk:rowAt h sz x k=some r):∃n row,k n row=some r∧RowOk P I h sz x n row:=by
  unfold rowAt at hk
  split at hk<;>try (simp at hk; done)
  · refine ⟨_,_,hk,by simp [SV.size],(fun _ _ _ _ _ _ e=>by simp at e),(fun _ _ _ e=>by simp at e),fun ρ D w hh hx=>⟨by simp [Wf],fun w'=>by simp [val,pack,SV.isAgg,cells,Builtin.lenOf],fun w' hw=>by simp [val,pack,SV.isAgg,cells,Builtin.firstCells]⟩⟩
  · rename_i s
    obtain ⟨h1,h2⟩:=bif_some hk
    have:=Nat.eq_of_beq_eq_true h1
    subst this
    refine ⟨_,_,h2,by simp [SV.size],(fun _ _ _ _ _ _ e=>by simp at e),(fun _ _ _ e=>by simp at e),fun ρ D w hh hx=>⟨by simp [Wf],fun w'=>by simp [val_str,Builtin.lenOf],fun w' hw=>?_⟩⟩
    have e:byteCells s=(List.range s.size).map fun i=>Value.int .u8 (bytesAt s i):=by
      apply List.ext_getElem?
      intro j
      by_cases hj:j < s.size
      · have hlt:j < s.data.toList.length:=hj
        have hb:bytesAt s j=((s.data.toList[j].toNat:Nat):Int):=by
          unfold bytesAt
          have:s[j]?=some s.data.toList[j]:=by rw [getElem?_pos s j hj]; rfl
          rw [this]; rfl
        have hlt2:j < s.data.size:=hj
        simp [byteCells,hj,hb]
        try exact ⟨s.data[j]'hlt2,by simp,rfl⟩
      · have hl:=byteCells_length s
        rw [List.getElem?_eq_none (by omega),List.getElem?_eq_none (by simp; omega)]
    rw [val_str,firstCells_string,e]
    simp [cells]
  · rename_i b p s' off len cap
    obtain ⟨h0,hk⟩:=bif_some hk
    have:=Nat.eq_of_beq_eq_true h0
    subst this
    split at hk<;>try (simp at hk; done)
    rename_i g v hb
    obtain ⟨u,h5,hl,hwu⟩:=sub_spec hk
    have hval:∀ρ,∃c,val ρ (.slc b p s' off len cap)=.slice (some ⟨(ρ b).blk,(ρ b).base+ (offOf p+ off * s'),none⟩) len c:=fun ρ=>by
      cases cap
      · exact ⟨_,rfl⟩
      · exact ⟨_,rfl⟩
    have fin:∀row:SV,row.size=len * s'→off * s'+ len * s'≤u.size→(∀ρ t,t < len * s'→(cells ρ u)[off * s'+ t]?=(cells ρ row)[t]?)→(∀D,Wf I D u→Wf I D row)→RowOk P I h s' (.slc b p s' off len cap) len row:=by
      intro row hs hle hc hw
      refine ⟨hs,(fun _ _ _ _ _ _ e=>by cases e; exact ⟨rfl,rfl,g,v,u,hb,hl,hle,hc⟩),(fun _ _ _ e=>by cases e),fun ρ D w hh hx=>⟨hw D (hwu I D (hh.wf.dom b _ hb).2),fun w'=>?_,fun w' hw'=>?_⟩⟩
      · obtain ⟨c,e⟩:=hval ρ; rw [e]; simp [Builtin.lenOf]
      · obtain ⟨c,e⟩:=hval ρ
        rw [e]
        have hlen:=cells_length ρ row
        refine load_row (P:=P) (a:=⟨(ρ b).blk,(ρ b).base+ (offOf p+ off * s'),none⟩) rfl (k:=len * s') (by omega) (w:=w) (fun j hj=>?_) hw'
        have:=hh.cell (j:=off * s'+ j) hb hl (by omega)
        rw [← hc ρ j (by omega),← this]
        congr 2; simp only; omega
    split at h5<;>try (simp at h5; done)
    · rename_i kd m f
      obtain ⟨h6,h7⟩:=bif_some h5
      simp only [Bool.and_eq_true,decide_eq_true_eq] at h6
      have:=Nat.eq_of_beq_eq_true h6.1
      subst this
      refine ⟨_,_,h7,fin _ (by simp [SV.size]) (by simp only [SV.size]; omega) (fun ρ t ht=>?_) (fun D _=>by simp [Wf])⟩
      have h1:off * 1+ t < m:=by omega
      simp [cells,show t < len by omega,show off+ t < m by omega]
    · rename_i m f
      obtain ⟨h6,h7⟩:=bif_some h5
      simp only [Bool.and_eq_true,decide_eq_true_eq] at h6
      have:=Nat.eq_of_beq_eq_true h6.1
      subst this
      refine ⟨_,_,h7,fin _ (by simp [SV.size]) (by simp only [SV.size]; omega) (fun ρ t ht=>?_) (fun D _=>by simp [Wf])⟩
      have h1:off * 1+ t < m:=by omega
      simp [cells,show t < len by omega,show off+ t < m by omega]
    · rename_i s2 m f
      obtain ⟨h6,h7⟩:=bif_some h5
      simp only [Bool.and_eq_true,decide_eq_true_eq] at h6
      have:=Nat.eq_of_beq_eq_true h6.1
      subst this
      refine ⟨_,_,h7,fin _ (by simp [SV.size]) (by simp only [SV.size]; rw [← Nat.add_mul]; exact Nat.mul_le_mul_right _ h6.2) (fun ρ t ht=>?_) (fun D hw=>?_)⟩
      · simp only [cells]
        exact flat_shift (fun i=>fit_length _ _) h6.2 ht
      · simp only [Wf] at hw ⊢
        exact fun i hi=>hw _ (by omega)
  · rename_i td nl a len cap f
    obtain ⟨h0,hk2⟩:=bif_some hk
    have:=Nat.eq_of_beq_eq_true h0
    subst this
    refine ⟨_,_,hk2,rowTD_size _ _ _,(fun _ _ _ _ _ _ e=>by simp at e),(fun _ _ _ e=>by simp at e),fun ρ D w hh hx=>?_⟩
    simp only [Wf,VW] at hx
    obtain ⟨hnl,hlc,hsp,hall⟩:=hx
    cases nl
    case true=>
      obtain ⟨rfl,rfl⟩:=hnl rfl
      refine ⟨rowTD_wf _ _ _ fun i hi=>by omega,fun w'=>by simp [val,pack,SV.isAgg,cells,Builtin.lenOf],fun w' hw'=>?_⟩
      rw [rowTD_cells]
      simp [val,pack,SV.isAgg,cells,Builtin.firstCells]
    refine ⟨rowTD_wf _ _ _ fun i hi=>(hall i hi).2,fun w'=>by simp [val,pack,SV.isAgg,cells,Builtin.lenOf],fun w' hw'=>?_⟩
    have e:val ρ (.vslc td false a len cap f)=.slice (some a) len cap:=rfl
    rw [e,rowTD_cells]
    have hlen:=cells_length ρ (.arr td.size len fun i=>td.sv (f i))
    simp only [SV.size] at hlen
    have hsp':0 < len * td.size→a.spot=none:=fun h0=>hsp (Nat.lt_of_lt_of_le (Nat.pos_of_mul_pos_right h0) hlc)
    refine load_rowV (P:=P) (k:=len * td.size) hsp' (by omega) (w:=w) (fun t ht=>?_) hw'
    rw [hlen] at ht
    have hs : 0 < td.size := by rcases Nat.eq_zero_or_pos td.size with h | h
                                · rw [h] at ht; simp at ht
                                · exact h
    have hq:t / td.size < len:=by rw [Nat.div_lt_iff_lt_mul hs]; exact ht
    have hr:t % td.size < td.size:=Nat.mod_lt _ hs
    have hd:t=t / td.size * td.size+ t % td.size:=by rw [Nat.mul_comm]; exact (Nat.div_add_mod t _).symm
    obtain ⟨q2,_⟩:=hall _ hq
    have hsz:=sv_size td (f (t / td.size))
    have a1:=flat_get td.size len (fun i=>fit td.size (cells ρ (td.sv (f i)))) (fun i=>fit_length _ _) (t / td.size) (t % td.size) hq hr
    rw [← hd,fit_same _ _ (by rw [cells_length,hsz])] at a1
    simp only [cells]
    rw [a1,← VOk.cell hh q2 (j:=t % td.size) (by omega)]
    congr 2
    simp only
    omega
  · rename_i b s' len
    obtain ⟨h0,hk⟩:=bif_some hk
    have:=Nat.eq_of_beq_eq_true h0
    subst this
    split at hk<;>try (simp at hk; done)
    rename_i g v hb
    have fin:∀row:SV,row.size=len * s'→len * s'≤v.size→(∀ρ t,t < len * s'→(cells ρ v)[t]?=(cells ρ row)[t]?)→(∀D,Wf I D v→Wf I D row)→RowOk P I h s' (.oslc b s' len) len row:=by
      intro row hs hle hc hw
      refine ⟨hs,(fun _ _ _ _ _ _ e=>by cases e),(fun _ _ _ e=>by cases e; exact ⟨rfl,rfl,g,v,hb,hle,hc⟩),fun ρ D w hh hx=>⟨hw D (hh.wf.dom b _ hb).2,fun w'=>?_,fun w' hw'=>?_⟩⟩
      · rcases val_oslc ρ b s' len with ⟨_,rfl,ev⟩ | ev<;>rw [ev]<;>simp [Builtin.lenOf]
      · have hlen:=cells_length ρ row
        rcases val_oslc ρ b s' len with ⟨_,rfl,ev⟩ | ev<;>rw [ev]
        · have e0:cells ρ row=[]:=List.length_eq_zero_iff.1 (by rw [hlen,hs,Nat.zero_mul])
          rw [e0]; simp [Builtin.firstCells]
        · refine load_row (P:=P) (a:=⟨(ρ b).blk,(ρ b).base,none⟩) rfl (k:=len * s') (by omega) (w:=w) (fun j hj=>?_) hw'
          have:=hh.cell (j:=j) hb (Lies.refl _) (by omega)
          rw [← hc ρ j (by omega),← this]
          rfl
    split at hk<;>try (simp at hk; done)
    · rename_i kd m f
      obtain ⟨h6,h7⟩:=bif_some hk
      simp only [Bool.and_eq_true,decide_eq_true_eq] at h6
      have:=Nat.eq_of_beq_eq_true h6.1
      subst this
      refine ⟨_,_,h7,fin _ (by simp [SV.size]) (by simp only [SV.size]; omega) (fun ρ t ht=>?_) (fun D _=>by simp [Wf])⟩
      simp [cells,show t < len by omega,show t < m by omega]
    · rename_i m f
      obtain ⟨h6,h7⟩:=bif_some hk
      simp only [Bool.and_eq_true,decide_eq_true_eq] at h6
      have:=Nat.eq_of_beq_eq_true h6.1
      subst this
      refine ⟨_,_,h7,fin _ (by simp [SV.size]) (by simp only [SV.size]; omega) (fun ρ t ht=>?_) (fun D _=>by simp [Wf])⟩
      simp [cells,show t < len by omega,show t < m by omega]
    · rename_i s2 m f
      obtain ⟨h6,h7⟩:=bif_some hk
      simp only [Bool.and_eq_true,decide_eq_true_eq] at h6
      have:=Nat.eq_of_beq_eq_true h6.1
      subst this
      refine ⟨_,_,h7,fin _ (by simp [SV.size]) (by simp only [SV.size]; exact Nat.mul_le_mul_right _ h6.2) (fun ρ t ht=>?_) (fun D hw=>?_)⟩
      · simp only [cells]
        have:=flat_shift (F:=fun i=>fit s2 (cells ρ (f i))) (sz:=s2) (m:=m) (off:=0) (len:=len) (t:=t) (fun i=>fit_length _ _) (by omega) ht
        simpa using this
      · simp only [Wf] at hw ⊢
        exact fun i hi=>hw _ (by omega)
def joinRow (sz m n:Nat) (a b:SV) (k:SV→R α):R α:=
  match a,b with
  | .ints kd _ f,.ints kd' _ g=>bif decide (kd=kd') && Nat.beq sz 1 then k (.ints kd (m+ n) fun i=>bif Nat.blt i m then f i else g (i - m)) else none
  | .bools _ f,.bools _ g=>bif Nat.beq sz 1 then k (.bools (m+ n) fun i=>bif Nat.blt i m then f i else g (i - m)) else none
  | .arr s1 _ f,.arr s2 _ g=>bif (Nat.beq s1 sz && Nat.beq s2 sz) && !Nat.beq sz 0 then k (.arr sz (m+ n) fun i=>bif Nat.blt i m then f i else g (i - m)) else none
  | _,_=>none
theorem range_join {β:Type} (m n:Nat) (f g:Nat→β):(List.range (m+ n)).map (fun i=>bif Nat.blt i m then f i else g (i - m))=(List.range m).map f++ (List.range n).map g:=by
  apply List.ext_getElem?
  intro j
  by_cases hj:j < m
  · have hb:Nat.blt j m=true:=by simpa using hj
    rw [List.getElem?_append_left (by simpa using hj)]
    simp [hj,hb,show j < m+ n by omega]
  · have hb:Nat.blt j m=false:=by
      cases e:Nat.blt j m
      · rfl
      · have:j < m:=by simpa using e
        omega
    rw [List.getElem?_append_right (by simp; omega)]
    simp only [List.length_map,List.length_range]
    by_cases hj2:j < m+ n
    · simp [hj2,hb,show j - m < n by omega]
    · rw [List.getElem?_eq_none (by simp; omega),List.getElem?_eq_none (by simp; omega)]
theorem joinRow_spec {sz m n : Nat} {a b :SV} {k:SV→R α} {r:α} (hk:joinRow sz m n a b k=some r) (ha:a.size=m * sz) (hb:b.size=n * sz):
    ∃row,k row=some r∧row.size=(m+ n) * sz∧(∀ρ,cells ρ row=cells ρ a++ cells ρ b)∧∀D,Wf I D a→Wf I D b→Wf I D row:=by
  unfold joinRow at hk
  split at hk<;>try (simp at hk; done)
  · rename_i kd m' f kd' n' g
    obtain ⟨h1,h2⟩:=bif_some hk
    simp only [Bool.and_eq_true,decide_eq_true_eq] at h1
    have:=Nat.eq_of_beq_eq_true h1.2
    subst this
    obtain ⟨rfl,_⟩:=h1
    simp only [SV.size,Nat.mul_one] at ha hb
    subst ha; subst hb
    refine ⟨_,h2,by simp [SV.size],fun ρ=>?_,fun D _ _=>by simp [Wf]⟩
    simp only [cells]
    rw [← range_join]
    apply List.map_congr_left
    intro i _
    cases Nat.blt i m'<;>rfl
  · rename_i m' f n' g
    obtain ⟨h1,h2⟩:=bif_some hk
    have:=Nat.eq_of_beq_eq_true h1
    subst this
    simp only [SV.size,Nat.mul_one] at ha hb
    subst ha; subst hb
    refine ⟨_,h2,by simp [SV.size],fun ρ=>?_,fun D _ _=>by simp [Wf]⟩
    simp only [cells]
    rw [← range_join]
    apply List.map_congr_left
    intro i _
    cases Nat.blt i m'<;>rfl
  · rename_i s1 m' f s2 n' g
    obtain ⟨h1,h2⟩:=bif_some hk
    simp only [Bool.and_eq_true] at h1
    have e1:=Nat.eq_of_beq_eq_true h1.1.1
    have e2:=Nat.eq_of_beq_eq_true h1.1.2
    subst e1; subst e2
    simp only [SV.size] at ha hb
    have hpos:0 < s2:=by
      rcases Nat.eq_zero_or_pos s2 with rfl | h
      · simp at h1
      · exact h
    · have hm:m'=m:=Nat.eq_of_mul_eq_mul_right hpos ha
      have hn:n'=n:=Nat.eq_of_mul_eq_mul_right hpos hb
      subst hm; subst hn
      refine ⟨_,h2,by simp [SV.size],fun ρ=>?_,fun D h3 h4=>?_⟩
      · simp only [cells,List.flatMap_def]
        rw [← List.flatten_append,← range_join]
        congr 1
        apply List.map_congr_left
        intro i _
        cases Nat.blt i m'<;>rfl
      · simp only [Wf] at h3 h4 ⊢
        intro i hi
        cases e:Nat.blt i m'
        · refine h4 _ ?_
          have : ¬ i < m' := fun h => by have:Nat.blt i m'=true:=by simpa using h
                                         rw [e] at this; cases this
          omega
        · exact h3 _ (by simpa using e)
def okSrc (s:STy):Bool:=match s.sd with | .sc (.slice _)=>true | .sc .string=>true | _=>false
def wapp (te:TE) (g:EF) (h:HF) (nid:Nat) (args:List Operand) (tys:List TypeId) (k0:SV→R α) (k1:SV→List (Nat × SObj)→R α):R α:=
  match args,tys with
  | [d, x],[dT,xT]=>tlook te dT fun s=>match s.sd with
    | .sc (.slice e)=>tlook te e fun es=>tlook te xT fun xs=>bif okSrc xs && !Nat.beq es.size 0 then ev g d fun d=>ev g x fun x=>rowAt h es.size x fun n row=>
      bif Nat.beq n 0 then (match d with
        | .nils=>k0 .nils
        | .slc b p sz off len (some c)=>bif Nat.ble len c then k0 (.slc b p sz off len (some c)) else none
        | .slc b [] sz 0 len none=>rowAt h es.size (.slc b [] sz 0 len none) fun _ _=>match h b with
          | some (.cells (some sz') _)=>bif Nat.beq sz' es.size then k0 (.slc b [] sz 0 len none) else none
          | _=>none
        | _=>none) else
      match d with
      | .nils=>bif decide (n * es.bytes≤140737488355328) && decide (n≤4611686018427387904) then k1 (.slc nid [] es.size 0 n none) [(nid,.cells (some es.size) row)] else none
      | .slc b p sz off len (some c)=>rowAt h es.size (.slc b p sz off len (some c)) fun m old=>bif Nat.blt c (m+ n) && (decide ((m+ n) * es.bytes≤140737488355328) && decide (m+ n≤4611686018427387904)) then
          bif Nat.beq m 0 then k1 (.slc nid [] es.size 0 n none) [(nid,.cells (some es.size) row)]
          else joinRow es.size m n old row fun row'=>k1 (.slc nid [] es.size 0 (m+ n) none) [(nid,.cells (some es.size) row')] else none
      | .slc b [] sz 0 len none=>rowAt h es.size (.slc b [] sz 0 len none) fun m old=>bif decide ((m+ n) * es.bytes≤140737488355328) && decide (m+ n≤4611686018427387904) then match h b with
          | some (.cells (some sz') _)=>bif Nat.beq sz' es.size then joinRow es.size m n old row fun row'=>k1 (.slc nid [] es.size 0 (m+ n) none) [(nid,.cells (some es.size) row'),(b,.dead)] else none
          | _=>none else none
      | _=>none else none
    | _=>none
  | _,_=>none
def putsH (h:HF):List (Nat × SObj)→HF
  | []=>h
  | x::l=>putH (putsH h l) x.1 x.2
def WOkL (P:Program) (I:Imm) (g:EF) (h:HF) (o:Oper) (nid:Nat) (v:SV) (wr:List (Nat × SObj)):Prop:=
  ∀ N ρ D D' a w,EnvOk I N ρ D g a→HRel I ρ D h w→¬ D nid→(∀c,D c→D' c)→D' nid→∃ρ' w',(execOp a.eval o).run P w=.ok (.value (val ρ' v)) w'∧
    HRel I ρ' D' (putsH h wr) w'∧Ext ρ D h w ρ' D' (putsH h wr) w'∧Wf I D' v
theorem app_grow {ρ:Nat→Pl} {D D':Nat→Prop} {h:HF} {w:World} (hh:HRel I ρ D h w) {nid:Nat} (hn:¬ D nid) (hD:∀c,D c→D' c) (hnD:D' nid) {row:SV} {sz need G:Nat} (hs:row.size=need * sz) (hG:need≤G) {zs:Array Value} (hz:zs.size=(G - need) * sz)
    (hw:Wf I D row) (e:TypeId) {cs:Array Value} (hcs:cs=(cells ρ row).toArray++ zs):
    HRel I (putP ρ nid ⟨w.heap.size,0,G,false⟩) D' (putH h nid (.cells (some sz) row)) (w.drew.alloc (.cells cs e))∧Ext ρ D h w (putP ρ nid ⟨w.heap.size,0,G,false⟩) D' (putH h nid (.cells (some sz) row)) (w.drew.alloc (.cells cs e)):=by
  subst hcs
  have hlen:=cells_length ρ row
  have ec:cells (putP ρ nid ⟨w.heap.size,0,G,false⟩) row=cells ρ row:=cells_congr (I:=I) (fun c hc=>putP_other (fun (e:c=nid)=>hn (e ▸ hc))) hw
  have hmul:need * sz+ (G - need) * sz=G * sz:=by rw [← Nat.add_mul]; congr 1; omega
  have hle:need * sz≤G * sz:=Nat.mul_le_mul_right _ hG
  obtain ⟨e1,e2⟩:=HRel.add (hh.drew (w.drawn+ 1)) hn hD hnD (o:=.cells (some sz) row) (Wf.mono hD hw) (p:=⟨w.heap.size,0,G,false⟩) rfl rfl (ob:=.cells ((cells ρ row).toArray++ zs) e)
    ⟨_,e,(0,0),by simp [putP_same]; rfl,fun j hj=>by
      rw [putP_same,ec]
      simp only [Nat.zero_add,List.getElem?_toArray]
      rw [Array.getElem?_append_left (by simp; omega)]
      simp,by simp only [reachOf,putP_same]; omega,by simp only [reachOf,putP_same,Array.size_append,hz,List.size_toArray,hlen,hs]; omega,fun j _=>by simp⟩
  exact ⟨e1,(Ext.drew ρ D h w (w.drawn+ 1)).trans e2⟩
theorem HRel.rename {ρ:Nat→Pl} {D D':Nat→Prop} {h:HF} {w:World} (g:HRel I ρ D h w) {b nid:Nat} {o:SObj} (hb:h b=some o) (hn:¬ D nid) (hD:∀c,D c→D' c) (hnD:D' nid):
    HRel I (putP ρ nid (ρ b)) D' (putH (putH h b .dead) nid o) w∧Ext ρ D h w (putP ρ nid (ρ b)) D' (putH (putH h b .dead) nid o) w:=by
  have hρ:∀c,D c→putP ρ nid (ρ b) c=ρ c:=fun c hc=>putP_other (fun e=>hn (e ▸ hc))
  have hlive:∃o',o.live=some o'→True:=⟨o,fun _=>trivial⟩
  have old:∀c o',putH (putH h b .dead) nid o c=some o'→(c=nid∧o'=o)∨(c ≠ nid∧c ≠ b∧h c=some o'):=fun c o' hc=>by
    by_cases e:c=nid
    · subst e; rw [putH_same] at hc; exact .inl ⟨rfl,live_some hc⟩
    · rw [putH_other e] at hc
      by_cases e2:c=b
      · subst e2; rw [putH_same] at hc; simp [SObj.live] at hc
      · rw [putH_other e2] at hc; exact .inr ⟨e,e2,hc⟩
  obtain ⟨d1,d2⟩:=g.wf.dom b o hb
  refine ⟨⟨⟨fun c o' hc=>?_⟩,fun c o' hc hz=>?_,fun c o1 c' o2 hc hc' hz hz' hbl=>?_,g.imm,fun c o' hc hz=>?_,fun c o' hc hz=>?_⟩,⟨hD,hρ,rfl,rfl,rfl,Nat.le_refl _,fun i hi _=>rfl,fun c o' hc hz=>?_⟩⟩
  · rcases old c o' hc with ⟨rfl,rfl⟩ | ⟨_,_,h3⟩
    · exact ⟨hnD,OWf.mono hD d2⟩
    · exact ⟨hD _ (g.wf.dom c o' h3).1,OWf.mono hD (g.wf.dom c o' h3).2⟩
  · rcases old c o' hc with ⟨rfl,rfl⟩ | ⟨_,_,h3⟩
    · rw [putP_same] at hz
      have hat:=g.obj b _ hb hz
      cases o' with
      | cells gg v=>
        obtain ⟨cc,T,fz,q1,q2,q3,q4,q5⟩:=hat
        refine ⟨cc,T,fz,by rw [putP_same]; exact q1,fun j hj=>?_,by rw [putP_same]; exact q3,by rw [putP_same]; exact q4,by rw [putP_same]; exact q5⟩
        rw [putP_same,q2 j hj,cells_congr hρ d2]
      | map es=>
        obtain ⟨ms,cl,q1,q2⟩:=hat
        refine ⟨ms,cl,by rw [putP_same]; exact q1,?_⟩
        rw [q2]
        apply List.map_congr_left
        intro x hx
        have:=d2 x hx
        rw [val_congr hρ this.1,val_congr hρ this.2]
      | dead=>exact hat.elim
    · rename_i h1 _
      rw [putP_other h1] at hz
      exact ObjAt.congr (I:=I) (g.obj c o' h3 hz) (g.wf.dom c o' h3).2 hρ (g.wf.dom c o' h3).1 rfl
  · rcases old c o1 hc with ⟨rfl,rfl⟩ | ⟨h1,h2,h3⟩<;>rcases old c' o2 hc' with ⟨rfl,rfl⟩ | ⟨h1',h2',h3'⟩
    · rfl
    · rw [putP_same] at hz; rw [putP_other h1'] at hz'; rw [putP_same,putP_other h1'] at hbl; exact absurd (g.inj _ _ _ _ hb h3' hz hz' hbl).symm h2'
    · rw [putP_other h1] at hz; rw [putP_same] at hz'; rw [putP_same,putP_other h1] at hbl; exact absurd (g.inj _ _ _ _ h3 hb hz hz' hbl) h2
    · rw [putP_other h1] at hz; rw [putP_other h1'] at hz'; rw [putP_other h1,putP_other h1'] at hbl; exact g.inj _ _ _ _ h3 h3' hz hz' hbl
  · rcases old c o' hc with ⟨rfl,rfl⟩ | ⟨h1,_,h3⟩
    · rw [putP_same] at hz ⊢; exact g.off _ _ hb hz
    · rw [putP_other h1] at hz ⊢; exact g.off _ _ h3 hz
  · rcases old c o' hc with ⟨rfl,rfl⟩ | ⟨h1,_,h3⟩
    · rw [putP_same] at hz ⊢; exact g.none_ _ _ hb hz
    · rw [putP_other h1] at hz ⊢; exact g.none_ _ _ h3 hz
  · rcases old c o' hc with ⟨rfl,rfl⟩ | ⟨h1,_,h3⟩
    · rw [putP_same] at hz ⊢; exact .inr ⟨b,_,hb,hz,rfl⟩
    · rw [putP_other h1] at hz ⊢; exact .inr ⟨c,_,h3,hz,rfl⟩
theorem putH_put (h:HF) (b:Nat) (o o':SObj):putH (putH h b o) b o'=putH h b o':=by
  funext c
  unfold putH
  cases Nat.beq b c<;>rfl
theorem src_of {xs:STy} {xT:TypeId} (hx:TyOk P xT xs) (hok:okSrc xs=true):(∃e',P.underlying xT=some (.slice e'))∨P.underlying xT=some .string:=by
  have hd:=hx.desc
  unfold okSrc at hok
  split at hok<;>try (simp at hok; done)
  · rename_i e h; rw [h] at hd; exact .inl ⟨_,hd.1⟩
  · rename_i h; rw [h] at hd; exact .inr hd.1
theorem wapp_spec {te:TE} (hte:TEok P te) {o:Oper} {c:Call} (ho:o.op=.call c) (hc:c.callee=.builtin .append) {g:EF} {h:HF} {nid:Nat} {k0:SV→R α} {k1:SV→List (Nat × SObj)→R α} {r:α} (hv:wapp te g h nid c.args.toList c.argTypes.toList k0 k1=some r):
    (∃v,k0 v=some r∧POk P I g h o v)∨∃v wr,k1 v wr=some r∧(∀x ∈ wr,x.1=nid∨∃o0,h x.1=some o0)∧WOkL P I g h o nid v wr:=by
  obtain ⟨dst,op,type,pos,after,guard⟩:=o
  simp only at ho
  subst ho
  obtain ⟨callee,args,argTypes⟩:=c
  simp only at hc
  subst hc
  unfold wapp at hv
  split at hv<;>try (simp at hv; done)
  rename_i d x dT xT hargs htys
  obtain ⟨s,h1,ht⟩:=tlook_spec hv hte
  split at h1<;>try (simp at h1; done)
  rename_i e hsd
  obtain ⟨es,h2,hes⟩:=tlook_spec h1 hte
  obtain ⟨xs,h3,hxs⟩:=tlook_spec h2 hte
  obtain ⟨h4,h5⟩:=bif_some h3
  simp only [Bool.and_eq_true] at h4
  obtain ⟨dv,h6,hd⟩:=ev_spec h5
  obtain ⟨xv,h7,hx⟩:=ev_spec h6
  obtain ⟨n,row,h8,hrow⟩:=rowAt_spec (P:=P) (I:=I) h7
  have ea:args=#[d,x]:=by apply Array.toList_inj.1; simpa using hargs
  have et:argTypes=#[dT,xT]:=by apply Array.toList_inj.1; simpa using htys
  subst ea; subst et
  have hud:=ht.desc
  rw [hsd] at hud
  obtain ⟨i,hi1,hi2,hi3,hi4⟩:=ty_info hes
  have hsz0:es.size ≠ 0:=fun e0=>by rw [e0] at h4; simp at h4
  have hsrc:∀N ρ D a w,EnvOk I N ρ D g a→HRel I ρ D h w→Src P i.size xT (val ρ xv) n (cells ρ row) w:=fun N ρ D a w he hh=>by
    obtain ⟨q1,q2⟩:=hx I N ρ D a he
    obtain ⟨_,r2,r3⟩:=hrow.run ρ D w hh q2
    rw [hi2]
    exact ⟨src_of hxs h4.1,r2,r3 w rfl,r3 _ rfl,by rw [cells_length,hrow.size],fun u hu=>by
      have:=cells_flat ρ row u hu
      cases u<;>simp [flatV,Value.oneCell'] at this ⊢⟩
  cases hn0:Nat.beq n 0
  · -- something is appended
    rw [hn0] at h8
    simp only [cond_false] at h8
    have hn:n ≠ 0:=fun e0=>by rw [e0] at hn0; simp at hn0
    right
    -- a new row
    have grow:∀(row':SV) (old:List SV→List Value) (m C:Nat) (base:(Nat→Pl)→Option Addr),row'.size=(m+ n) * es.size→C < m+ n→(m+ n) * es.bytes≤140737488355328→m+ n≤4611686018427387904→
        ∀N ρ D D' a w,EnvOk I N ρ D g a→HRel I ρ D h w→¬ D nid→(∀c,D c→D' c)→D' nid→Wf I D row'→val ρ dv=.slice (base ρ) m C→
        (∃olds:List Value,(Builtin.firstCells es.size m (.slice (base ρ) m C)).run P w.drew=.ok olds.toArray w.drew∧cells ρ row'=olds++ cells ρ row)→
        ∃ ρ' w',(execOp a.eval ⟨dst,.call ⟨.builtin .append,#[d,x],#[dT,xT]⟩,type,pos,after,guard⟩).run P w=.ok (.value (val ρ' (.slc nid [] es.size 0 (m+ n) none))) w'∧
          HRel I ρ' D' (putH h nid (.cells (some es.size) row')) w'∧Ext ρ D h w ρ' D' (putH h nid (.cells (some es.size) row')) w'∧Wf I D' (.slc nid [] es.size 0 (m+ n) none):=by
      intro row' _ m C base hrs hC hb hb2 N ρ D D' a w he hh hn hD hnD hw hval ⟨olds,ho1,ho2⟩
      have hfit:Builtin.nextslicecap (m+ n) C * i.bytes≤281474976710656:=growslice_fits hC (by rw [hi3]; exact hb)
      have hz:=hi4 ρ
      have hzsz:(val ρ es.zero).cells.size=es.size:=by
        have:=val_cells ρ hes.zero.2.1
        rw [this]; simp [cells_length,hes.zero.1]
      have hrun:=run_append_grow_src (P:=P) w dT xT type e i (val ρ es.zero) hud.1 hi1 hz (base ρ) m C olds (by rw [hi2]; exact ho1) (val ρ xv) n (cells ρ row) (hsrc N ρ D a w he hh) hC (by omega) hfit
      have hge:=grownCap_ge w (m+ n) C e
      obtain ⟨e1,e2⟩:=app_grow (I:=I) hh hn hD hnD (row:=row') (sz:=es.size) (need:=m+ n) (G:=grownCap w (m+ n) C e) hrs hge (zs:=Builtin.zeroCells (val ρ es.zero).cells (grownCap w (m+ n) C e - (m+ n))) (by rw [size_zeroCells,hzsz]) hw e
        (cs:=(olds++ cells ρ row).toArray++ Builtin.zeroCells (val ρ es.zero).cells (grownCap w (m+ n) C e - (m+ n))) (by rw [ho2])
      refine ⟨_,_,?_,e1,e2,by simpa [Wf] using hnD⟩
      obtain ⟨d1,_⟩:=hd I N ρ D a he
      obtain ⟨x1,_⟩:=hx I N ρ D a he
      have ev:val (putP ρ nid ⟨w.heap.size,0,grownCap w (m+ n) C e,false⟩) (.slc nid [] es.size 0 (m+ n) none)=.slice (some ⟨w.heap.size,0,none⟩) (m+ n) (grownCap w (m+ n) C e):=by simp [val,pack,SV.isAgg,cells,putP_same,offOf]
      rw [ev]
      simp [execOp,resolve,invoke,builtin,d1,x1,hval,hrun]
    split at h8
    · -- onto nil
      obtain ⟨h9,h10⟩:=bif_some h8
      simp only [Bool.and_eq_true,decide_eq_true_eq] at h9
      refine ⟨_,_,h10,fun y hy=>by simp at hy; subst hy; exact .inl rfl,fun N ρ D D' a w he hh hnf hD hnD=>?_⟩
      have hwr:=(hrow.run ρ D w hh (hx I N ρ D a he).2).1
      have:=grow row (fun _=>[]) 0 0 (fun _=>none) (by rw [Nat.zero_add]; exact hrow.size) (by omega) (by rw [Nat.zero_add]; exact h9.1) (by omega) N ρ D D' a w he hh hnf hD hnD hwr (by simp [val,pack,SV.isAgg,cells]) ⟨[],by simp [Builtin.firstCells],by simp⟩
      simpa only [Nat.zero_add,putsH] using this
    · rename_i b p sz off len c
      obtain ⟨m,old,h9,hold⟩:=rowAt_spec (P:=P) (I:=I) h8
      obtain ⟨h10,h11⟩:=bif_some h9
      simp only [Bool.and_eq_true,decide_eq_true_eq] at h10
      have hcm:c < m+ n:=by simpa using h10.1
      obtain ⟨e1,e2,gg,v0,u0,hb0,_⟩:=hold.at_ b p sz off len (some c) rfl
      subst e1; subst e2
      have hbase:∀ρ,val ρ (.slc b p es.size off m (some c))=.slice (some ⟨(ρ b).blk,(ρ b).base+ (offOf p+ off * es.size),none⟩) m c:=fun ρ=>rfl
      have holdc:∀N ρ D a w,EnvOk I N ρ D g a→HRel I ρ D h w→(Builtin.firstCells es.size m (.slice (some ⟨(ρ b).blk,(ρ b).base+ (offOf p+ off * es.size),none⟩) m c)).run P w.drew=.ok (cells ρ old).toArray w.drew:=fun N ρ D a w he hh=>by
        have:=(hold.run ρ D w hh (hd I N ρ D a he).2).2.2 w.drew rfl
        rwa [hbase] at this
      cases hm0:Nat.beq m 0<;>rw [hm0] at h11<;>simp only [cond_true,cond_false] at h11
      · obtain ⟨row',h12,hrs,hcells,hwf⟩:=joinRow_spec (I:=I) h11 hold.size hrow.size
        refine ⟨_,_,h12,fun y hy=>by simp at hy; subst hy; exact .inl rfl,fun N ρ D D' a w he hh hnf hD hnD=>?_⟩
        have hwr:=(hrow.run ρ D w hh (hx I N ρ D a he).2).1
        have hwo:=(hold.run ρ D w hh (hd I N ρ D a he).2).1
        exact grow row' (fun _=>[]) m c (fun ρ=>some ⟨(ρ b).blk,(ρ b).base+ (offOf p+ off * es.size),none⟩) hrs hcm h10.2.1 h10.2.2 N ρ D D' a w he hh hnf hD hnD (hwf D hwo hwr) (hbase ρ) ⟨cells ρ old,holdc N ρ D a w he hh,hcells ρ⟩
      · have:m=0:=Nat.eq_of_beq_eq_true hm0
        subst this
        refine ⟨_,_,h11,fun y hy=>by simp at hy; subst hy; exact .inl rfl,fun N ρ D D' a w he hh hnf hD hnD=>?_⟩
        have hwr:=(hrow.run ρ D w hh (hx I N ρ D a he).2).1
        have hl0:cells ρ old=[]:=by
          have:=cells_length ρ old
          rw [hold.size] at this
          simpa using this
        have hh2:=holdc N ρ D a w he hh
        rw [hl0] at hh2
        have:=grow row (fun _=>[]) 0 c (fun ρ=>some ⟨(ρ b).blk,(ρ b).base+ (offOf p+ off * es.size),none⟩) (by rw [Nat.zero_add]; exact hrow.size) hcm h10.2.1 h10.2.2 N ρ D D' a w he hh hnf hD hnD hwr (hbase ρ) ⟨[],hh2,by simp⟩
        simpa only [Nat.zero_add,putsH] using this
    · rename_i b sz len
      obtain ⟨m,old,h9,hold⟩:=rowAt_spec (P:=P) (I:=I) h8
      obtain ⟨h10,h11⟩:=bif_some h9
      simp only [Bool.and_eq_true,decide_eq_true_eq] at h10
      split at h11<;>try (simp at h11; done)
      rename_i sz' v hb
      obtain ⟨h12,h13⟩:=bif_some h11
      have:=Nat.eq_of_beq_eq_true h12
      subst this
      obtain ⟨row',h14,hrs,hcells,hwf⟩:=joinRow_spec (I:=I) h13 hold.size hrow.size
      obtain ⟨e1,e2,gg,v0,u0,hb0,hl0,hle0,hat0⟩:=hold.at_ b [] sz 0 len none rfl
      subst e1; subst e2
      rw [hb] at hb0
      cases hb0
      refine ⟨_,_,h14,fun y hy=>by
        simp only [List.mem_cons,List.not_mem_nil,or_false] at hy
        rcases hy with rfl | rfl
        · exact .inl rfl
        · exact .inr ⟨_,hb⟩,fun N ρ D D' a w he hh hnf hD hnD=>?_⟩
      have hwr:=(hrow.run ρ D w hh (hx I N ρ D a he).2).1
      have hwo:=(hold.run ρ D w hh (hd I N ρ D a he).2).1
      have hbD:D b:=(hh.wf.dom b _ hb).1
      have hbn:nid ≠ b:=fun e0=>hnf (e0 ▸ hbD)
      have hbase:val ρ (.slc b [] es.size 0 m none)=.slice (some ⟨(ρ b).blk,(ρ b).base,none⟩) m (ρ b).cap:=by simp [val,pack,SV.isAgg,cells,offOf]
      have holdc:(Builtin.firstCells es.size m (.slice (some ⟨(ρ b).blk,(ρ b).base,none⟩) m (ρ b).cap)).run P w.drew=.ok (cells ρ old).toArray w.drew:=by
        have:=(hold.run ρ D w hh (hd I N ρ D a he).2).2.2 w.drew rfl
        rwa [hbase] at this
      by_cases hroom:m+ n≤(ρ b).cap
      · -- in place
        have hbz:(ρ b).nil=false:=by
          cases e:(ρ b).nil
          · rfl
          · have:=(hh.none_ b _ hb e).1; omega
        obtain ⟨cc,T,fz,hheap,hcell,hr1,hr2,hfz⟩:=hh.obj b _ hb hbz
        simp only [reachOf] at hr1 hr2 hfz
        have hrl:=cells_length ρ row
        rw [hrow.size] at hrl
        have hle:(m+ n) * es.size≤(ρ b).cap * es.size:=Nat.mul_le_mul_right _ hroom
        have hmul:(m+ n) * es.size=m * es.size+ n * es.size:=Nat.add_mul _ _ _
        have hst:=run_storeCells_gen (P:=P) (ρ b).blk ((ρ b).base+ m * es.size) T fz (cells ρ row) 0 cc w hheap (by omega) (fun j _ hj=>by
          have:=hfz (m * es.size+ j) (by omega)
          rwa [← Nat.add_assoc] at this) (fun x hx=>cells_flat ρ row x hx)
        simp only [Nat.add_zero] at hst
        have hol:(overlay cc.toList (cells ρ row) ((ρ b).base+ m * es.size)).length=cc.size:=by simp [overlay]; omega
        have hobj:ObjAt ρ b (World.setBlk w (ρ b).blk (.cells (overlay cc.toList (cells ρ row) ((ρ b).base+ m * es.size)).toArray T fz)) (.cells (some es.size) row'):=by
          refine ⟨_,T,fz,setBlk_get hheap,fun j hj=>?_,by simp only [reachOf]; omega,by simp only [reachOf,List.size_toArray,hol]; exact hr2,by simp only [reachOf]; exact hfz⟩
          rw [hrs] at hj
          simp only [List.getElem?_toArray]
          rw [hcells]
          have hlo:=cells_length ρ old
          rw [hold.size] at hlo
          unfold overlay
          have e:(List.take ((ρ b).base+ m * es.size) cc.toList).length=(ρ b).base+ m * es.size:=by simp; omega
          by_cases hjl:j < m * es.size
          · have hR:(cells ρ old++ cells ρ row)[j]?=(cells ρ old)[j]?:=List.getElem?_append_left (by omega)
            rw [hR,List.append_assoc,List.getElem?_append_left (by rw [e]; omega),List.getElem?_take,if_pos (by omega)]
            have h1:=hat0 ρ j hjl
            have h2:=hl0.2 ρ j (by omega)
            simp only [Nat.zero_mul,Nat.zero_add,offOf] at h1 h2
            rw [← h1,← h2,← hcell j (by have:=hl0.1; simp only [offOf] at this; omega)]
            simp
          · have hR:(cells ρ old++ cells ρ row)[j]?=(cells ρ row)[j - (cells ρ old).length]?:=List.getElem?_append_right (by omega)
            rw [hR,List.append_assoc,List.getElem?_append_right (by rw [e]; omega),e,List.getElem?_append_left (by omega)]
            congr 1; omega
        obtain ⟨q1,q2⟩:=HRel.set hh hb hbz (o:=.cells (some es.size) row') (hwf D hwo hwr) hobj
        obtain ⟨q3,q4⟩:=HRel.rename q1 (b:=b) (nid:=nid) (o:=.cells (some es.size) row') (by rw [putH_same]; rfl) hnf hD hnD
        rw [putH_put] at q3 q4
        refine ⟨_,_,?_,q3,q2.trans q4,by simpa [Wf] using hnD⟩
        obtain ⟨d1,_⟩:=hd I N ρ D a he
        obtain ⟨x1,_⟩:=hx I N ρ D a he
        have hs:=hsrc N ρ D a w he hh
        have hrun:(Builtin.append_ #[dT,xT] type #[.slice (some ⟨(ρ b).blk,(ρ b).base,none⟩) m (ρ b).cap,val ρ xv]).run P w=.ok (.slice (some ⟨(ρ b).blk,(ρ b).base,none⟩) (m+ n) (ρ b).cap) (World.setBlk w (ρ b).blk (.cells (overlay cc.toList (cells ρ row) ((ρ b).base+ m * es.size)).toArray T fz)):=by
          have hcl:=hs.cells
          rw [hi2] at hcl
          rcases hs.kind with ⟨e',hk⟩ | hk<;>simp [Builtin.append_,run_underlying hud.1,run_underlying hk,sizeOf,typeInfo,hi1,hi2,hs.len,hroom,hcl,Addr.add_lit,hst]
        have ev:val (putP ρ nid (ρ b)) (.slc nid [] es.size 0 (m+ n) none)=.slice (some ⟨(ρ b).blk,(ρ b).base,none⟩) (m+ n) (ρ b).cap:=by simp [val,pack,SV.isAgg,cells,putP_same,offOf]
        rw [ev]
        simp [execOp,resolve,invoke,builtin,d1,x1,hbase,hrun]
      · obtain ⟨ρ',w',q1,q2,q3,q4⟩:=grow row' (fun _=>[]) m (ρ b).cap (fun ρ=>some ⟨(ρ b).blk,(ρ b).base,none⟩) hrs (by omega) h10.1 h10.2 N ρ D D' a w he hh hnf hD hnD (hwf D hwo hwr) hbase ⟨cells ρ old,holdc,hcells ρ⟩
        have hsub:∀c o',putH (putH h b .dead) nid (.cells (some es.size) row') c=some o'→putH h nid (.cells (some es.size) row') c=some o':=fun c o' hc=>by
          by_cases e0:c=nid
          · subst e0; rw [putH_same] at hc ⊢; exact hc
          · rw [putH_other e0] at hc ⊢
            by_cases e1:c=b
            · subst e1; rw [putH_same] at hc; simp [SObj.live] at hc
            · rw [putH_other e1] at hc; exact hc
        refine ⟨ρ',w',q1,?_,?_,q4⟩
        · exact ⟨⟨fun c o' hc=>q2.wf.dom c o' (hsub c o' hc)⟩,fun c o' hc=>q2.obj c o' (hsub c o' hc),fun c o1 c' o2 hc hc'=>q2.inj c o1 c' o2 (hsub c o1 hc) (hsub c' o2 hc'),q2.imm,fun c o' hc=>q2.off c o' (hsub c o' hc),fun c o' hc=>q2.none_ c o' (hsub c o' hc)⟩
        · exact ⟨q3.le,q3.agree,q3.os,q3.tape,q3.output,q3.size,q3.frame,fun c o' hc=>q3.img c o' (hsub c o' hc)⟩
    · simp at h8
  · -- nothing is appended
    have:=Nat.eq_of_beq_eq_true hn0
    subst this
    simp only [Nat.beq_refl,cond_true] at h8
    left
    have gen:∀(base:Option Addr) (len cap:Nat) (N:Nat) (ρ:Nat→Pl) (D:Nat→Prop) (a:Act) (w:World),EnvOk I N ρ D g a→HRel I ρ D h w→val ρ dv=.slice base len cap→len≤cap→(execOp a.eval ⟨dst,.call ⟨.builtin .append,#[d,x],#[dT,xT]⟩,type,pos,after,guard⟩).run P w=.ok (.value (val ρ dv)) w:=by
      intro base len cap N ρ D a w he hh hval hle
      obtain ⟨d1,_⟩:=hd I N ρ D a he
      obtain ⟨x1,_⟩:=hx I N ρ D a he
      have hs:=hsrc N ρ D a w he hh
      have hcl:=hs.cells
      rw [hi2] at hcl
      have hl0:cells ρ row=[]:=by
        have:=cells_length ρ row
        rw [hrow.size] at this
        simpa using this
      rw [hl0] at hcl
      have hrun:(Builtin.append_ #[dT,xT] type #[.slice base len cap,val ρ xv]).run P w=.ok (.slice base len cap) w:=by
        rcases hs.kind with ⟨e',hk⟩ | hk<;>cases base<;>simp [Builtin.append_,run_underlying hud.1,run_underlying hk,sizeOf,typeInfo,hi1,hi2,hs.len,hle,hcl,storeCells]
      simp [execOp,resolve,invoke,builtin,d1,x1,hval,hrun]
    split at h8
    · exact ⟨_,h8,fun D N ρ a w he hh=>⟨gen none 0 0 N ρ D a w he hh (by simp [val,pack,SV.isAgg,cells]) (Nat.le_refl _),by simp [Wf]⟩⟩
    · rename_i b p sz off len c
      obtain ⟨h9,h10⟩:=bif_some h8
      exact ⟨_,h10,fun D N ρ a w he hh=>⟨gen _ len c N ρ D a w he hh rfl (Nat.le_of_ble_eq_true h9),(hd I N ρ D a he).2⟩⟩
    · rename_i b sz len
      obtain ⟨m,old,h9,hold⟩:=rowAt_spec (P:=P) (I:=I) h8
      split at h9<;>try (simp at h9; done)
      rename_i sz' v hb
      obtain ⟨h12,h13⟩:=bif_some h9
      have:=Nat.eq_of_beq_eq_true h12
      subst this
      obtain ⟨e1,e2,gg,v0,u0,hb0,hl0,hle0,hat0⟩:=hold.at_ b [] sz 0 len none rfl
      subst e1; subst e2
      rw [hb] at hb0
      cases hb0
      refine ⟨_,h13,fun D N ρ a w he hh=>⟨gen (some ⟨(ρ b).blk,(ρ b).base,none⟩) m (ρ b).cap N ρ D a w he hh (by simp [val,pack,SV.isAgg,cells,offOf]) ?_,(hd I N ρ D a he).2⟩⟩
      have hl1:=hl0.1
      cases hbz:(ρ b).nil
      case true=>
        obtain ⟨_,g',v',q2,q3⟩:=hh.none_ b _ hb hbz
        cases q2
        simp only [offOf] at hl1
        exact Nat.le_of_mul_le_mul_right (by omega:m * es.size≤(ρ b).cap * es.size) (by omega)
      obtain ⟨cc,T,fz,hheap,hcell,hr1,hr2,hfz⟩:=hh.obj b _ hb hbz
      simp only [reachOf] at hr1
      have:=hl0.1
      exact Nat.le_of_mul_le_mul_right (by omega:m * es.size≤(ρ b).cap * es.size) (by omega)
    · simp at h8
end
end Go.Sh
namespace Go.Sh
open Go
section
variable {α:Type} {P:Program} {I:Imm}
theorem HRel.shift {ρ:Nat→Pl} {D D':Nat→Prop} {h:HF} {w:World} (g:HRel I ρ D h w) {b nid s lo:Nat} {u0 u:SV} (hb:h b=some (.cells (some s) u0)) (hn:¬ D nid) (hD:∀c,D c→D' c) (hnD:D' nid)
    (hlo:lo≤(ρ b).cap) (hroom:lo * s+ u.size≤u0.size) (hcu:∀j,j < u.size→(cells ρ u)[j]?=(cells ρ u0)[lo * s+ j]?) (hu:Wf I D u) {bs:Nat} (hbs:((ρ b).cap=lo∧u.size=0∧bs=(ρ b).base)∨bs=(ρ b).base+ lo * s) {p:Pl} (hp:p=⟨(ρ b).blk,bs,(ρ b).cap - lo,(ρ b).nil⟩):
    HRel I (putP ρ nid p) D' (putH (putH h b .dead) nid (.cells (some s) u)) w∧Ext ρ D h w (putP ρ nid p) D' (putH (putH h b .dead) nid (.cells (some s) u)) w:=by
  subst hp
  have hρ:∀c,D c→putP ρ nid ⟨(ρ b).blk,bs,(ρ b).cap - lo,(ρ b).nil⟩ c=ρ c:=fun c hc=>putP_other (fun e=>hn (e ▸ hc))
  have old:∀c o',putH (putH h b .dead) nid (.cells (some s) u) c=some o'→(c=nid∧o'=.cells (some s) u)∨(c ≠ nid∧c ≠ b∧h c=some o'):=fun c o' hc=>by
    by_cases e:c=nid
    · subst e; rw [putH_same] at hc; exact .inl ⟨rfl,live_some hc⟩
    · rw [putH_other e] at hc
      by_cases e2:c=b
      · subst e2; rw [putH_same] at hc; simp [SObj.live] at hc
      · rw [putH_other e2] at hc; exact .inr ⟨e,e2,hc⟩
  refine ⟨⟨⟨fun c o' hc=>?_⟩,fun c o' hc hz=>?_,fun c o1 c' o2 hc hc' hz hz' hbl=>?_,g.imm,fun c o' hc hz=>?_,fun c o' hc hz=>?_⟩,⟨hD,hρ,rfl,rfl,rfl,Nat.le_refl _,fun i hi _=>rfl,fun c o' hc hz=>?_⟩⟩
  · rcases old c o' hc with ⟨rfl,rfl⟩ | ⟨_,_,h3⟩
    · exact ⟨hnD,Wf.mono hD hu⟩
    · exact ⟨hD _ (g.wf.dom c o' h3).1,OWf.mono hD (g.wf.dom c o' h3).2⟩
  · rcases old c o' hc with ⟨rfl,rfl⟩ | ⟨h1,_,h3⟩
    · rw [putP_same] at hz
      obtain ⟨cc,T,fz,q1,q2,q3,q4,q5⟩:=g.obj b _ hb hz
      simp only [reachOf] at q3 q4 q5
      have hm:((ρ b).cap - lo) * s=(ρ b).cap * s - lo * s:=Nat.sub_mul _ _ _
      have hl:=Nat.mul_le_mul_right s hlo
      refine ⟨cc,T,fz,by rw [putP_same]; exact q1,fun j hj=>?_,by simp only [reachOf,putP_same]; omega,?_,?_⟩
      · rw [putP_same,cells_congr hρ hu,hcu j hj,← q2 (lo * s+ j) (by omega)]
        rcases hbs with ⟨_,h0,_⟩ | rfl
        · omega
        · congr 1; simp only; omega
      · simp only [reachOf,putP_same]
        rcases hbs with ⟨h0,_,rfl⟩ | rfl
        · rw [h0,Nat.sub_self,Nat.zero_mul]; omega
        · omega
      · simp only [reachOf,putP_same]
        rcases hbs with ⟨h0,_,rfl⟩ | rfl
        · rw [h0,Nat.sub_self,Nat.zero_mul]; intro j hj; omega
        · intro j hj
          have:=q5 (lo * s+ j) (by omega)
          rwa [← Nat.add_assoc] at this
    · rw [putP_other h1] at hz
      exact ObjAt.congr (I:=I) (g.obj c o' h3 hz) (g.wf.dom c o' h3).2 hρ (g.wf.dom c o' h3).1 rfl
  · rcases old c o1 hc with ⟨rfl,rfl⟩ | ⟨h1,h2,h3⟩<;>rcases old c' o2 hc' with ⟨rfl,rfl⟩ | ⟨h1',h2',h3'⟩
    · rfl
    · rw [putP_same] at hz; rw [putP_other h1'] at hz'; rw [putP_same,putP_other h1'] at hbl; exact absurd (g.inj _ _ _ _ hb h3' hz hz' hbl).symm h2'
    · rw [putP_other h1] at hz; rw [putP_same] at hz'; rw [putP_same,putP_other h1] at hbl; exact absurd (g.inj _ _ _ _ h3 hb hz hz' hbl) h2
    · rw [putP_other h1] at hz; rw [putP_other h1'] at hz'; rw [putP_other h1,putP_other h1'] at hbl; exact g.inj _ _ _ _ h3 h3' hz hz' hbl
  · rcases old c o' hc with ⟨rfl,rfl⟩ | ⟨h1,_,h3⟩
    · rw [putP_same] at hz ⊢; exact g.off _ _ hb hz
    · rw [putP_other h1] at hz ⊢; exact g.off _ _ h3 hz
  · rcases old c o' hc with ⟨rfl,rfl⟩ | ⟨h1,_,h3⟩
    · rw [putP_same] at hz ⊢
      obtain ⟨q1,g',v',q2,q3⟩:=g.none_ _ _ hb hz
      cases q2
      exact ⟨by simp only; omega,_,_,rfl,by omega⟩
    · rw [putP_other h1] at hz ⊢; exact g.none_ _ _ h3 hz
  · rcases old c o' hc with ⟨rfl,rfl⟩ | ⟨h1,_,h3⟩
    · rw [putP_same] at hz ⊢; exact .inr ⟨b,_,hb,hz,rfl⟩
    · rw [putP_other h1] at hz ⊢; exact .inr ⟨c,_,h3,hz,rfl⟩
def wsliceO (te:TE) (h:HF) (nid:Nat) (t:TypeId) (b sz len:Nat) (lo hi:Option Int) (k1:SV→List (Nat × SObj)→R α):R α:=
  tlook te t fun d=>match d.sd with
  | .sc (.slice e)=>tlook te e fun es=>gdK lo 0 fun l=>gdK hi (len:Int) fun hh=>
    bif Nat.beq sz es.size then bif decide (0≤hh) && decide (hh≤(len:Int)) then bif decide (0≤l) && decide (l≤hh) then
    match h b with
    | some (.cells (some s') _)=>bif Nat.beq s' sz && !Nat.beq sz 0 then rowAt h sz (.oslc b sz len) fun _ _=>rowAt h sz (.slc b [] sz l.toNat (hh.toNat - l.toNat) none) fun n u=>k1 (.oslc nid sz n) [(nid,.cells (some sz) u),(b,.dead)] else none
    | _=>none else none else none else none
  | _=>none
theorem wsliceO_spec {te:TE} (hte:TEok P te) {h:HF} {nid:Nat} {t:TypeId} {b sz len:Nat} {lo hi:Option Int} {k1:SV→List (Nat × SObj)→R α} {r:α} (hv:wsliceO te h nid t b sz len lo hi k1=some r):
    ∃ v wr,k1 v wr=some r∧(∀x ∈ wr,x.1=nid∨∃o0,h x.1=some o0)∧∀ρ D D' w lv hv,HRel I ρ D h w→OptIs lv lo→OptIs hv hi→¬ D nid→(∀c,D c→D' c)→D' nid→
      ∃ρ',(Instr.sliceAt t (val ρ (.oslc b sz len)) lv hv none).run P w=.ok (val ρ' v) w∧HRel I ρ' D' (putsH h wr) w∧Ext ρ D h w ρ' D' (putsH h wr) w∧Wf I D' v:=by
  unfold wsliceO at hv
  obtain ⟨d,h1,ht⟩:=tlook_spec hv hte
  have hd:=ht.desc
  split at h1<;>try (simp at h1; done)
  rename_i e hsd
  rw [hsd] at hd
  obtain ⟨es,h2,hes⟩:=tlook_spec h1 hte
  rw [gdK_eq,gdK_eq] at h2
  obtain ⟨h3,h4⟩:=bif_some h2
  obtain ⟨h5,h6⟩:=bif_some h4
  obtain ⟨h7,h8⟩:=bif_some h6
  have hsz:sz=es.size:=by simpa using h3
  subst hsz
  simp only [Bool.and_eq_true,decide_eq_true_eq] at h5 h7
  split at h8<;>try (simp at h8; done)
  rename_i s' v0 hb
  obtain ⟨h9,h10⟩:=bif_some h8
  simp only [Bool.and_eq_true,Bool.not_eq_true'] at h9
  have:=Nat.eq_of_beq_eq_true h9.1
  subst this
  have hz0:es.size ≠ 0:=fun e0=>by rw [e0] at h9; simp at h9
  obtain ⟨n0,u',h10',hwhole⟩:=rowAt_spec (P:=P) (I:=I) h10
  obtain ⟨_,e0,gg0,v1,hb1,hle0,_⟩:=hwhole.ato _ _ _ rfl
  rw [hb] at hb1
  cases hb1
  rw [e0] at hle0
  obtain ⟨n,u,h11,hrow⟩:=rowAt_spec (P:=P) (I:=I) h10'
  clear e0 h10' hwhole
  obtain ⟨_,e2,gg,v,uu,hb',hl,hle,hat⟩:=hrow.at_ _ _ _ _ _ _ rfl
  rw [hb] at hb'
  cases hb'
  refine ⟨_,_,h11,fun y hy=>by
    simp only [List.mem_cons,List.not_mem_nil,or_false] at hy
    rcases hy with rfl | rfl
    · exact .inl rfl
    · exact .inr ⟨_,hb⟩,fun ρ D D' w lv hv hh hlv hhv hn hD hnD=>?_⟩
  generalize hL:(lo.getD 0).toNat=L at *
  generalize hH:(hi.getD (len:Int)).toNat=H at *
  have hHl:H≤len:=by omega
  have hLH:L≤H:=by omega
  have hwu:Wf I D u:=(hrow.run ρ D w hh (show Wf I D (.slc b [] es.size L (H - L) none) from (hh.wf.dom b _ hb).1)).1
  have hl1:=hl.1
  simp only [offOf,Nat.zero_add] at hl1
  have hus:=hrow.size
  have hmul:(L+ n) * es.size=L * es.size+ n * es.size:=Nat.add_mul _ _ _
  have hcap:(L+ n)≤(ρ b).cap:=by
    cases hbz:(ρ b).nil
    · obtain ⟨cc,T,fz,q1,q2,q3,q4,q5⟩:=hh.obj b _ hb hbz
      simp only [reachOf] at q3
      exact Nat.le_of_mul_le_mul_right (by omega:(L+ n) * es.size≤(ρ b).cap * es.size) (by omega)
    · obtain ⟨q1,g',v',q2,q3⟩:=hh.none_ b _ hb hbz
      cases q2
      have h0:(L+ n) * es.size=0:=by omega
      rcases Nat.mul_eq_zero.1 h0 with h | h
      · omega
      · exact absurd h hz0
  have hcu:∀j,j < u.size→(cells ρ u)[j]?=(cells ρ v0)[L * es.size+ j]?:=fun j hj=>by
    have a1:=hat ρ j (by omega)
    have a2:=hl.2 ρ (L * es.size+ j) (by omega)
    simp only [offOf,Nat.zero_add] at a2
    rw [← a1,← a2]
  have hbn:∃bs,(((ρ b).cap=L∧u.size=0∧bs=(ρ b).base)∨bs=(ρ b).base+ L * es.size)∧bs=(if (ρ b).cap=L then (ρ b).base else (ρ b).base+ L * es.size):=by
    by_cases hc:(ρ b).cap=L
    · have:n=0:=by omega
      exact ⟨(ρ b).base,.inl ⟨hc,by rw [hus,this,Nat.zero_mul],rfl⟩,by rw [if_pos hc]⟩
    · exact ⟨_,.inr rfl,by rw [if_neg hc]⟩
  obtain ⟨bs,hbs1,hbs2⟩:=hbn
  obtain ⟨q1,q2⟩:=HRel.shift hh hb hn hD hnD (lo:=L) (u:=u) (by omega) (by omega) hcu hwu hbs1 rfl
  refine ⟨_,?_,q1,q2,by simpa [Wf] using hnD⟩
  have hnl:H - L=n:=e2.symm
  have hval:∀(p:Pl) (m:Nat),putP ρ nid p nid=p:=fun p m=>putP_same _ _ _
  rcases val_oslc ρ b es.size len with ⟨hz,hl0,ev⟩ | ev
  · have hH0:H=0:=by omega
    have hL0:L=0:=by omega
    have hn0:n=0:=by omega
    have e:=run_bounds (P:=P) (b:=true) (len:=0) (cap:=0) hlv hhv (by rw [hl0] at h5; exact h5) (by rw [hl0] at h7; exact h7) w
    have ev2:val (putP ρ nid ⟨(ρ b).blk,bs,(ρ b).cap - L,(ρ b).nil⟩) (.oslc nid es.size n)=.slice none 0 0:=by
      subst hn0
      simp [val,pack,SV.isAgg,cells,putP_same,hz]
    rw [ev,ev2]
    have e0:(hi.getD ((0:Nat):Int)).toNat=0:=by rw [hl0] at hH; omega
    simp only [Instr.sliceAt,Instr.slice,Sem.run_bind,run_underlying hd.1,Result.andThen_ok,e,run_sizeOf hes,Sem.run_pure,hL,hL0,e0]
    simp
  · have e:=run_bounds (P:=P) (b:=true) (len:=len) (cap:=(ρ b).cap) hlv hhv (by omega) h7 w
    rw [ev]
    simp only [Instr.sliceAt,Instr.slice,Sem.run_bind,run_underlying hd.1,Result.andThen_ok,e,run_sizeOf hes,Sem.run_pure,hL,hH]
    have ev2:val (putP ρ nid ⟨(ρ b).blk,bs,(ρ b).cap - L,(ρ b).nil⟩) (.oslc nid es.size n)=.slice (some ⟨(ρ b).blk,bs,none⟩) n ((ρ b).cap - L):=by
      cases hbz:(ρ b).nil
      · rw [val_oslc_real _ _ _ _ (by rw [putP_same]),putP_same]
      · obtain ⟨q1,g',v',q2,q3⟩:=hh.none_ b _ hb hbz
        cases q2
        have h0:len=0:=by
          rcases Nat.mul_eq_zero.1 (show len * es.size=0 by omega) with h | h
          · exact h
          · exact absurd h hz0
        rw [h0] at ev
        simp [val,pack,SV.isAgg,cells,hbz] at ev
    rw [ev2,hbs2,hnl]
    by_cases hc:(ρ b).cap=L<;>simp [hc,Addr.add_lit]
def wappO (te:TE) (g:EF) (h:HF) (nid:Nat) (args:List Operand) (tys:List TypeId) (k1:SV→List (Nat × SObj)→R α):R α:=
  match args,tys with
  | [d, x],[dT,xT]=>tlook te dT fun s=>match s.sd with
    | .sc (.slice e)=>tlook te e fun es=>tlook te xT fun xs=>bif okSrc xs && !Nat.beq es.size 0 then ev g d fun d=>match d with
      | .oslc b sz len=>ev g x fun x=>rowAt h es.size x fun n row=>rowAt h es.size (.oslc b sz len) fun m old=>
        bif decide ((m+ n) * es.bytes≤140737488355328) && decide (m+ n≤4611686018427387904) then match h b with
          | some (.cells (some sz') _)=>bif Nat.beq sz' es.size then joinRow es.size m n old row fun row'=>k1 (.oslc nid es.size (m+ n)) [(nid,.cells (some es.size) row'),(b,.dead)] else none
          | _=>none else none
      | _=>none else none
    | _=>none
  | _,_=>none
theorem wappO_spec {te:TE} (hte:TEok P te) {o:Oper} {c:Call} (ho:o.op=.call c) (hc:c.callee=.builtin .append) {g:EF} {h:HF} {nid:Nat} {k1:SV→List (Nat × SObj)→R α} {r:α} (hv:wappO te g h nid c.args.toList c.argTypes.toList k1=some r):
    ∃v wr,k1 v wr=some r∧(∀x ∈ wr,x.1=nid∨∃o0,h x.1=some o0)∧WOkL P I g h o nid v wr:=by
  obtain ⟨dst,op,type,pos,after,guard⟩:=o
  simp only at ho
  subst ho
  obtain ⟨callee,args,argTypes⟩:=c
  simp only at hc
  subst hc
  unfold wappO at hv
  split at hv<;>try (simp at hv; done)
  rename_i d x dT xT hargs htys
  obtain ⟨s,h1,ht⟩:=tlook_spec hv hte
  split at h1<;>try (simp at h1; done)
  rename_i e hsd
  obtain ⟨es,h2,hes⟩:=tlook_spec h1 hte
  obtain ⟨xs,h3,hxs⟩:=tlook_spec h2 hte
  obtain ⟨h4,h5⟩:=bif_some h3
  simp only [Bool.and_eq_true] at h4
  obtain ⟨dv,h6,hd⟩:=ev_spec h5
  split at h6<;>try (simp at h6; done)
  rename_i b sz len
  obtain ⟨xv,h7,hx⟩:=ev_spec h6
  obtain ⟨n,row,h8,hrow⟩:=rowAt_spec (P:=P) (I:=I) h7
  obtain ⟨m,old,h9,hold⟩:=rowAt_spec (P:=P) (I:=I) h8
  have ea:args=#[d,x]:=by apply Array.toList_inj.1; simpa using hargs
  have et:argTypes=#[dT,xT]:=by apply Array.toList_inj.1; simpa using htys
  subst ea; subst et
  have hud:=ht.desc
  rw [hsd] at hud
  obtain ⟨i,hi1,hi2,hi3,hi4⟩:=ty_info hes
  have hsz0:es.size ≠ 0:=fun e0=>by rw [e0] at h4; simp at h4
  have hsrc:∀N ρ D a w,EnvOk I N ρ D g a→HRel I ρ D h w→Src P i.size xT (val ρ xv) n (cells ρ row) w:=fun N ρ D a w he hh=>by
    obtain ⟨q1,q2⟩:=hx I N ρ D a he
    obtain ⟨_,r2,r3⟩:=hrow.run ρ D w hh q2
    rw [hi2]
    exact ⟨src_of hxs h4.1,r2,r3 w rfl,r3 _ rfl,by rw [cells_length,hrow.size],fun u hu=>by
      have:=cells_flat ρ row u hu
      cases u<;>simp [flatV,Value.oneCell'] at this ⊢⟩
  obtain ⟨h10,h11⟩:=bif_some h9
  simp only [Bool.and_eq_true,decide_eq_true_eq] at h10
  split at h11<;>try (simp at h11; done)
  rename_i sz' v0 hb
  obtain ⟨h12,h13⟩:=bif_some h11
  have:=Nat.eq_of_beq_eq_true h12
  subst this
  obtain ⟨row',h14,hrs,hcells,hwf⟩:=joinRow_spec (I:=I) h13 hold.size hrow.size
  obtain ⟨e1,e2,gg,v1,hb0,hle0,hat0⟩:=hold.ato b sz len rfl
  subst e1; subst e2
  rw [hb] at hb0
  cases hb0
  have hids:∀y ∈ [(nid,SObj.cells (some es.size) row'),(b,.dead)],y.1=nid∨∃o0,h y.1=some o0:=fun y hy=>by
    simp only [List.mem_cons,List.not_mem_nil,or_false] at hy
    rcases hy with rfl | rfl
    · exact .inl rfl
    · exact .inr ⟨_,hb⟩
  refine ⟨_,_,h14,hids,fun N ρ D D' a w he hh hnf hD hnD=>?_⟩
  have hwr:=(hrow.run ρ D w hh (hx I N ρ D a he).2).1
  have hwo:=(hold.run ρ D w hh (hd I N ρ D a he).2).1
  obtain ⟨d1,_⟩:=hd I N ρ D a he
  obtain ⟨x1,_⟩:=hx I N ρ D a he
  have hs:=hsrc N ρ D a w he hh
  have hbD:D b:=(hh.wf.dom b _ hb).1
  have hbn:nid ≠ b:=fun e0=>hnf (e0 ▸ hbD)
  have holdc:=(hold.run ρ D w hh (hd I N ρ D a he).2).2.2 w.drew rfl
  -- a new row
  have grow:∀(C:Nat) (base:Option Addr),C < m+ n→n ≠ 0→val ρ (.oslc b es.size m)=.slice base m C→
      ∃ ρ' w',(execOp a.eval ⟨dst,.call ⟨.builtin .append,#[d,x],#[dT,xT]⟩,type,pos,after,guard⟩).run P w=.ok (.value (val ρ' (.oslc nid es.size (m+ n)))) w'∧
        HRel I ρ' D' (putsH h [(nid,.cells (some es.size) row'),(b,.dead)]) w'∧Ext ρ D h w ρ' D' (putsH h [(nid,.cells (some es.size) row'),(b,.dead)]) w'∧Wf I D' (.oslc nid es.size (m+ n)):=by
    intro C base hC hn hval
    have hfit:Builtin.nextslicecap (m+ n) C * i.bytes≤281474976710656:=growslice_fits hC (by rw [hi3]; exact h10.1)
    have hz:=hi4 ρ
    have hzsz:(val ρ es.zero).cells.size=es.size:=by
      have:=val_cells ρ hes.zero.2.1
      rw [this]; simp [cells_length,hes.zero.1]
    rw [hval] at holdc
    have hrun:=run_append_grow_src (P:=P) w dT xT type e i (val ρ es.zero) hud.1 hi1 hz base m C (cells ρ old) (by rw [hi2]; exact holdc) (val ρ xv) n (cells ρ row) hs hC (by omega) hfit
    have hge:=grownCap_ge w (m+ n) C e
    obtain ⟨e1,e2⟩:=app_grow (I:=I) hh hnf hD hnD (row:=row') (sz:=es.size) (need:=m+ n) (G:=grownCap w (m+ n) C e) hrs hge (zs:=Builtin.zeroCells (val ρ es.zero).cells (grownCap w (m+ n) C e - (m+ n))) (by rw [size_zeroCells,hzsz]) (hwf D hwo hwr) e
      (cs:=(cells ρ old++ cells ρ row).toArray++ Builtin.zeroCells (val ρ es.zero).cells (grownCap w (m+ n) C e - (m+ n))) (by rw [hcells ρ])
    have hsub:∀c o',putH (putH h b .dead) nid (.cells (some es.size) row') c=some o'→putH h nid (.cells (some es.size) row') c=some o':=fun c o' hc=>by
      by_cases e0:c=nid
      · subst e0; rw [putH_same] at hc ⊢; exact hc
      · rw [putH_other e0] at hc ⊢
        by_cases e1:c=b
        · subst e1; rw [putH_same] at hc; simp [SObj.live] at hc
        · rw [putH_other e1] at hc; exact hc
    refine ⟨_,_,?_,⟨⟨fun c o' hc=>e1.wf.dom c o' (hsub c o' hc)⟩,fun c o' hc=>e1.obj c o' (hsub c o' hc),fun c o1 c' o2 hc hc'=>e1.inj c o1 c' o2 (hsub c o1 hc) (hsub c' o2 hc'),e1.imm,fun c o' hc=>e1.off c o' (hsub c o' hc),fun c o' hc=>e1.none_ c o' (hsub c o' hc)⟩,
      ⟨e2.le,e2.agree,e2.os,e2.tape,e2.output,e2.size,e2.frame,fun c o' hc=>e2.img c o' (hsub c o' hc)⟩,by simpa [Wf] using hnD⟩
    rw [val_oslc_pos _ _ _ (by omega),putP_same]
    simp [execOp,resolve,invoke,builtin,d1,x1,hval,hrun]
  have swapped:(ρ b).nil=false→n=0→∃ρ',HRel I ρ' D' (putsH h [(nid,.cells (some es.size) row'),(b,.dead)]) w∧Ext ρ D h w ρ' D' (putsH h [(nid,.cells (some es.size) row'),(b,.dead)]) w∧val ρ' (.oslc nid es.size (m+ n))=val ρ (.oslc b es.size m)∧Wf I D' (.oslc nid es.size (m+ n)):=by
    intro hz hn
    subst hn
    obtain ⟨q1,q2⟩:=HRel.shift hh hb hnf hD hnD (lo:=0) (u:=row') (Nat.zero_le _) (by rw [hrs]; simpa using hle0) (fun j hj=>by
      rw [hcells ρ]
      have hlo:=cells_length ρ old
      rw [hold.size] at hlo
      rw [hrs,Nat.add_zero] at hj
      rw [List.getElem?_append_left (by omega),← hat0 ρ j hj]; simp) (hwf D hwo hwr) (.inr rfl) rfl
    exact ⟨_,q1,q2,by rw [val_oslc_real _ _ _ _ (by rw [putP_same]; exact hz),val_oslc_real _ _ _ _ hz,putP_same]; simp,by simpa [Wf] using hnD⟩
  have nothing:n=0→∀base C,val ρ (.oslc b es.size m)=.slice base m C→m≤C→(execOp a.eval ⟨dst,.call ⟨.builtin .append,#[d,x],#[dT,xT]⟩,type,pos,after,guard⟩).run P w=.ok (.value (val ρ (.oslc b es.size m))) w:=by
    intro hn base C hval hle
    subst hn
    have hcl:=hs.cells
    rw [hi2] at hcl
    have hl0:cells ρ row=[]:=by
      have:=cells_length ρ row
      rw [hrow.size] at this
      simpa using this
    rw [hl0] at hcl
    have hrun:(Builtin.append_ #[dT,xT] type #[.slice base m C,val ρ xv]).run P w=.ok (.slice base m C) w:=by
      rcases hs.kind with ⟨e',hk⟩ | hk<;>cases base<;>simp [Builtin.append_,run_underlying hud.1,run_underlying hk,sizeOf,typeInfo,hi1,hi2,hs.len,hle,hcl,storeCells]
    simp [execOp,resolve,invoke,builtin,d1,x1,hval,hrun]
  cases hbz:(ρ b).nil
  · -- it lies somewhere
    have hval:=val_oslc_real ρ b es.size m hbz
    obtain ⟨cc,T,fz,hheap,hcell,hr1,hr2,hfz⟩:=hh.obj b _ hb hbz
    simp only [reachOf] at hr1 hr2 hfz
    have hmc:m≤(ρ b).cap:=Nat.le_of_mul_le_mul_right (by omega:m * es.size≤(ρ b).cap * es.size) (by omega)
    by_cases hn:n=0
    · obtain ⟨ρ',q1,q2,q3,q4⟩:=swapped hbz hn
      exact ⟨ρ',w,by rw [q3]; exact nothing hn _ _ hval hmc,q1,q2,q4⟩
    by_cases hroom:m+ n≤(ρ b).cap
    · -- in place
      have hrl:=cells_length ρ row
      rw [hrow.size] at hrl
      have hle:(m+ n) * es.size≤(ρ b).cap * es.size:=Nat.mul_le_mul_right _ hroom
      have hmul:(m+ n) * es.size=m * es.size+ n * es.size:=Nat.add_mul _ _ _
      have hst:=run_storeCells_gen (P:=P) (ρ b).blk ((ρ b).base+ m * es.size) T fz (cells ρ row) 0 cc w hheap (by omega) (fun j _ hj=>by
        have:=hfz (m * es.size+ j) (by omega)
        rwa [← Nat.add_assoc] at this) (fun x hx=>cells_flat ρ row x hx)
      simp only [Nat.add_zero] at hst
      have hol:(overlay cc.toList (cells ρ row) ((ρ b).base+ m * es.size)).length=cc.size:=by simp [overlay]; omega
      have hobj:ObjAt ρ b (World.setBlk w (ρ b).blk (.cells (overlay cc.toList (cells ρ row) ((ρ b).base+ m * es.size)).toArray T fz)) (.cells (some es.size) row'):=by
        refine ⟨_,T,fz,setBlk_get hheap,fun j hj=>?_,by simp only [reachOf]; omega,by simp only [reachOf,List.size_toArray,hol]; exact hr2,by simp only [reachOf]; exact hfz⟩
        rw [hrs] at hj
        simp only [List.getElem?_toArray]
        rw [hcells]
        have hlo:=cells_length ρ old
        rw [hold.size] at hlo
        unfold overlay
        have e:(List.take ((ρ b).base+ m * es.size) cc.toList).length=(ρ b).base+ m * es.size:=by simp; omega
        by_cases hjl:j < m * es.size
        · have hR:(cells ρ old++ cells ρ row)[j]?=(cells ρ old)[j]?:=List.getElem?_append_left (by omega)
          rw [hR,List.append_assoc,List.getElem?_append_left (by rw [e]; omega),List.getElem?_take,if_pos (by omega)]
          have h1:=hat0 ρ j hjl
          rw [← h1,← hcell j (by omega)]
          simp
        · have hR:(cells ρ old++ cells ρ row)[j]?=(cells ρ row)[j - (cells ρ old).length]?:=List.getElem?_append_right (by omega)
          rw [hR,List.append_assoc,List.getElem?_append_right (by omega),e,List.getElem?_append_left (by omega)]
          congr 1; omega
      obtain ⟨q1,q2⟩:=HRel.set hh hb hbz (o:=.cells (some es.size) row') (hwf D hwo hwr) hobj
      obtain ⟨q3,q4⟩:=HRel.rename q1 (b:=b) (nid:=nid) (o:=.cells (some es.size) row') (by rw [putH_same]; rfl) hnf hD hnD
      rw [putH_put] at q3 q4
      refine ⟨_,_,?_,q3,q2.trans q4,by simpa [Wf] using hnD⟩
      have hrun:(Builtin.append_ #[dT,xT] type #[.slice (some ⟨(ρ b).blk,(ρ b).base,none⟩) m (ρ b).cap,val ρ xv]).run P w=.ok (.slice (some ⟨(ρ b).blk,(ρ b).base,none⟩) (m+ n) (ρ b).cap) (World.setBlk w (ρ b).blk (.cells (overlay cc.toList (cells ρ row) ((ρ b).base+ m * es.size)).toArray T fz)):=by
        have hcl:=hs.cells
        rw [hi2] at hcl
        rcases hs.kind with ⟨e',hk⟩ | hk<;>simp [Builtin.append_,run_underlying hud.1,run_underlying hk,sizeOf,typeInfo,hi1,hi2,hs.len,hroom,hcl,Addr.add_lit,hst]
      rw [val_oslc_real _ _ _ _ (by rw [putP_same]; exact hbz),putP_same]
      simp [execOp,resolve,invoke,builtin,d1,x1,hval,hrun]
    · exact grow _ _ (by omega) hn hval
  · -- nil
    obtain ⟨hc0,g',v',q2,q3⟩:=hh.none_ b _ hb hbz
    cases q2
    have hm0:m=0:=by
      rcases Nat.mul_eq_zero.1 (show m * es.size=0 by omega) with h | h
      · exact h
      · exact absurd h hsz0
    have hval:val ρ (.oslc b es.size m)=.slice none m 0:=by subst hm0; simp [val,pack,SV.isAgg,cells,hbz]
    by_cases hn:n=0
    · have hrun:=nothing hn _ _ hval (by omega)
      subst hn
      obtain ⟨q1,q2⟩:=HRel.shift hh hb hnf hD hnD (lo:=0) (u:=row') (Nat.zero_le _) (by rw [hrs]; simpa using hle0) (fun j hj=>by
        rw [hrs,hm0] at hj; simp at hj) (hwf D hwo hwr) (.inr rfl) rfl
      refine ⟨_,w,?_,q1,q2,by simpa [Wf] using hnD⟩
      rw [hrun,hval]
      subst hm0
      simp [val,pack,SV.isAgg,cells,putP_same,hbz]
    · exact grow 0 none (by omega) hn hval
def wsliceN (te:TE) (h:HF) (t:TypeId) (b sz off len:Nat) (lo hi:Option Int) (k0:SV→R α):R α:=
  tlook te t fun d=>match d.sd with
  | .sc (.slice e)=>tlook te e fun es=>gdK lo 0 fun l=>gdK hi (len:Int) fun hh=>
    bif Nat.beq sz es.size then bif decide (0≤hh) && decide (hh≤(len:Int)) then bif decide (0≤l) && decide (l≤hh) then bif decide (l < (len:Int)) then
    match h b with
    | some (.cells (some s') v)=>bif Nat.beq s' sz && (!Nat.beq sz 0 && Nat.ble ((off+ len) * sz) v.size) then k0 (.slc b [] sz (off+ l.toNat) (hh.toNat - l.toNat) none) else none
    | _=>none else none else none else none else none
  | _=>none
theorem wsliceN_spec {te:TE} (hte:TEok P te) {h:HF} {t:TypeId} {b sz off len:Nat} {lo hi:Option Int} {k0:SV→R α} {r:α} (hv:wsliceN te h t b sz off len lo hi k0=some r):
    ∃v,k0 v=some r∧∀ρ D w lv hv,HRel I ρ D h w→OptIs lv lo→OptIs hv hi→(Instr.sliceAt t (val ρ (.slc b [] sz off len none)) lv hv none).run P w=.ok (val ρ v) w∧Wf I D v:=by
  unfold wsliceN at hv
  obtain ⟨d,h1,ht⟩:=tlook_spec hv hte
  have hd:=ht.desc
  split at h1<;>try (simp at h1; done)
  rename_i e hsd
  rw [hsd] at hd
  obtain ⟨es,h2,hes⟩:=tlook_spec h1 hte
  rw [gdK_eq,gdK_eq] at h2
  obtain ⟨h3,h4⟩:=bif_some h2
  obtain ⟨h5,h6⟩:=bif_some h4
  obtain ⟨h7,h8⟩:=bif_some h6
  obtain ⟨h9,h10⟩:=bif_some h8
  have hsz:sz=es.size:=by simpa using h3
  subst hsz
  simp only [Bool.and_eq_true,decide_eq_true_eq] at h5 h7 h9
  split at h10<;>try (simp at h10; done)
  rename_i s' v0 hb
  obtain ⟨h11,h12⟩:=bif_some h10
  simp only [Bool.and_eq_true,Bool.not_eq_true',Nat.ble_eq] at h11
  obtain ⟨h13,h14,h15⟩:=h11
  have:=Nat.eq_of_beq_eq_true h13
  subst this
  have hz0:es.size ≠ 0:=fun e0=>by rw [e0] at h14; simp at h14
  refine ⟨_,h12,fun ρ D w lv hv hh hlv hhv=>⟨?_,by simp only [Wf]; exact (hh.wf.dom b _ hb).1⟩⟩
  have hlen:0 < len:=by omega
  have hpos:0 < (off+ len) * es.size:=Nat.mul_pos (by omega) (by omega)
  have hcap:off+ len≤(ρ b).cap:=by
    cases hbz:(ρ b).nil
    · obtain ⟨cc,T,fz,q1,q2,q3,q4,q5⟩:=hh.obj b _ hb hbz
      simp only [reachOf] at q3
      exact Nat.le_of_mul_le_mul_right (by omega:(off+ len) * es.size≤(ρ b).cap * es.size) (by omega)
    · obtain ⟨q1,g',v',q2,q3⟩:=hh.none_ b _ hb hbz
      cases q2
      omega
  have h5':0≤hi.getD (len:Int)∧hi.getD (len:Int)≤(((ρ b).cap - off:Nat):Int):=⟨h5.1,by omega⟩
  have e:=run_bounds (P:=P) (b:=true) hlv hhv h5' h7 w
  simp only [Instr.sliceAt,Instr.slice,Sem.run_bind,run_underlying hd.1,Result.andThen_ok,val,pack,SV.isAgg,cells,cond_false,List.headD_cons,e,run_sizeOf hes,Sem.run_pure]
  have hc:(ρ b).cap - off ≠ (lo.getD 0).toNat:=by omega
  congr 2
  · simp only [hc,if_false,Option.map_some,Addr.add_lit,Option.some.injEq,Addr.mk.injEq,true_and,and_true,Nat.add_mul]
    omega
  · omega
def wgrow (te:TE) (op:Op) (g:EF) (h:HF) (nid:Nat) (k0:SV→R α) (k1:SV→List (Nat × SObj)→R α):R α:=
  match op with
  | .call c=>match c.args.toList with
    | [d,x]=>ev g d fun
      | .oslc _ _ _=>wappO te g h nid [d,x] c.argTypes.toList k1
      | _=>wapp te g h nid [d,x] c.argTypes.toList k0 k1
    | _=>none
  | .slice t x lo hi none=>ev g x fun
    | .oslc b sz len=>optInt g lo fun lo=>optInt g hi fun hi=>wsliceO te h nid t b sz len lo hi k1
    | .slc b [] sz off len none=>optInt g lo fun lo=>optInt g hi fun hi=>wsliceN te h t b sz off len lo hi k0
    | _=>pval te op g h k0
  | _=>pval te op g h k0
theorem wgrow_spec {te:TE} (hte:TEok P te) {o:Oper} (hop:∀c,o.op=.call c→c.callee=.builtin .append) {g:EF} {h:HF} {nid:Nat} {k0:SV→R α} {k1:SV→List (Nat × SObj)→R α} {r:α} (hv:wgrow te o.op g h nid k0 k1=some r):
    (∃v,k0 v=some r∧POk P I g h o v)∨∃v wr,k1 v wr=some r∧(∀x ∈ wr,x.1=nid∨∃o0,h x.1=some o0)∧WOkL P I g h o nid v wr:=by
  unfold wgrow at hv
  split at hv
  · rename_i c ho
    have hc:=hop c ho
    split at hv<;>try (simp at hv; done)
    rename_i d x hargs
    obtain ⟨dv,h1,hd⟩:=ev_spec hv
    rw [← hargs] at h1
    split at h1
    · exact .inr (wappO_spec hte ho hc h1)
    · exact wapp_spec hte ho hc h1
  · rename_i t x lo hi ho
    obtain ⟨xv,h1,hx⟩:=ev_spec hv
    split at h1
    · rename_i b sz len
      obtain ⟨l,h2,hl⟩:=optInt_spec h1
      obtain ⟨hh,h3,hhv⟩:=optInt_spec h2
      obtain ⟨v,wr,h4,h5,h6⟩:=wsliceO_spec (P:=P) (I:=I) hte h3
      refine .inr ⟨v,wr,h4,h5,fun N ρ D D' a w he hr hn hD hnD=>?_⟩
      obtain ⟨e1,_⟩:=hx I N ρ D a he
      obtain ⟨ρ',q1,q2,q3,q4⟩:=h6 ρ D D' w _ _ hr (hl I N ρ D a he) (hhv I N ρ D a he) hn hD hnD
      refine ⟨ρ',w,?_,q2,q3,q4⟩
      simp [execOp,ho,e1,q1]
    · rename_i b sz off len
      obtain ⟨l,h2,hl⟩:=optInt_spec h1
      obtain ⟨hh,h3,hhv⟩:=optInt_spec h2
      obtain ⟨v,h4,h5⟩:=wsliceN_spec (P:=P) (I:=I) hte h3
      refine .inl ⟨v,h4,fun n N ρ a w he hr=>?_⟩
      obtain ⟨e1,_⟩:=hx I N ρ n a he
      obtain ⟨q1,q2⟩:=h5 ρ n w _ _ hr (hl I N ρ n a he) (hhv I N ρ n a he)
      exact ⟨by simp [execOp,ho,e1,q1],q2⟩
    · exact .inl (pval_spec hte h1)
  · exact .inl (pval_spec hte hv)
end
end Go.Sh
