/-
  What the functions of Two come to, told without the program.
-/
import Derived.Test.YtodnffhcbhlifaaGreatSpWalk
set_option linter.unusedSimpArgs false
set_option linter.unusedVariables false
namespace Go.Sh
open Go
set_option linter.unusedSimpArgs false
def joinS (frame at_:Int):Int:=bitop .or .u64 (gshl .u64 (IntKind.u64.wrap frame) 8) (zextS at_ 8)
def joinF {α:Type}:FP α:=fun args k=>match args with
  | [.int .i64 frame,.int .u64 at_]=>k (.int .u64 (joinS frame at_))
  | _=>none
def leafBits (e:Int):Int:=IntKind.i64.wrap (zextS e 8)
def secondS (f:Nat→Int) (sec:Bool) (host place kind:Int):Int × Int × Int:=
  bif !sec then (bif leB 65536 place then (0,255,1) else (place,255,0)) else
  bif (walkS f host place).2 !=0 then (0,255,(walkS f host place).2) else
  bif !mayS (leafBits (walkS f host place).1) kind true false false then (0,255,1) else
  (joinS (frameS (walkS f host place).1) place,leafBits (walkS f host place).1,0)
def secondV (r:Int × Int × Int):SV:=.tuple [.int .u64 r.1,.int .i64 r.2.1,.int .i64 r.2.2]
def secondF {α:Type}:FF α:=fun args σ k=>match args with
  | [p,.agg [.bool _,.bool a2,.bool _,.bool _,.int .i64 _,.int .i64 _,.int .i64 _,.int .i64 a8],.int .u64 place,.int .i64 kind]=>withMem σ p fun _ _ _ _ f=>k (secondV (secondS f a2 a8 place kind)) σ
  | _=>none
structure Fault where
  cause:Int
  value:Int
  place:Int
  gva:Bool
abbrev Fault.sv (f:Fault):SV:=.agg [.int .u64 f.cause,.int .u64 f.value,.int .u64 f.place,.bool f.gva]
abbrev noFault : Fault:=⟨0,0,0,false⟩
def k2 (kind:Int):Nat:=(pickmx false (pickmx true kind 0) 2).toNat
theorem k2_eq (kind:Int):pickmx false (pickmx true kind 0) 2=if kind < 0 then 0 else if 2 < kind then 2 else kind:=by
  have h1:pickmx false (pickmx true kind 0) 2=if 2 < (if kind < 0 then 0 else kind) then 2 else (if kind < 0 then 0 else kind):=rfl
  rw [h1]
  by_cases h:kind < 0<;>simp [h]
theorem k2_bd (kind:Int):0≤pickmx false (pickmx true kind 0) 2∧pickmx false (pickmx true kind 0) 2≤2:=by rw [k2_eq]; (repeat' split)<;>omega
def c3 (a b c kind:Int):Int:=bif decide (kind≤0) then a else bif decide (kind≤1) then b else c
theorem c3_upd (a b c kind:Int):upd (upd (upd (fun _=>(0:Int)) 0 a) 1 b) 2 c (k2 kind)=c3 a b c kind:=by
  unfold k2 c3; rw [k2_eq]
  by_cases h0:kind < 0
  · rw [if_pos h0,decide_eq_true (by omega:kind≤0)]; rfl
  · rw [if_neg h0]
    by_cases h2:2 < kind
    · rw [if_pos h2,decide_eq_false (by omega:¬ kind≤0),decide_eq_false (by omega:¬ kind≤1)]; rfl
    · rw [if_neg h2]
      have:kind=0∨kind=1∨kind=2:=by omega
      rcases this with rfl | rfl | rfl<;>rfl
def faultS (at_ kind:Int) (v:Bool) (place:Int) (cs:Nat→Int):Fault:=⟨cs (k2 kind),at_,IntKind.u64.wrap (place.tdiv 4),v⟩
def faultF {α:Type}:FP α:=fun args k=>match args with
  | [.agg [.int .u64 at_,.int .i64 kind,.bool v],.int .u64 place,.ints .u64 3 cs]=>k (faultS at_ kind v place cs).sv
  | _=>none
def pageS (at_ kind:Int) (v:Bool):Fault:=⟨c3 12 13 15 kind,at_,0,v⟩
def accessS (at_ kind:Int) (v:Bool):Fault:=⟨c3 1 5 7 kind,at_,0,v⟩
def guestS (at_ kind:Int) (v:Bool) (place:Int):Fault:=⟨c3 20 21 23 kind,at_,IntKind.u64.wrap (place.tdiv 4),v⟩
def ofS (at_ kind:Int) (v:Bool) (code place:Int):Fault:=bif code==1 then guestS at_ kind v place else accessS at_ kind v
def pageF {α:Type}:FP α:=fun args k=>match args with
  | [.agg [.int .u64 at_,.int .i64 kind,.bool v]]=>k (pageS at_ kind v).sv
  | _=>none
def accessF {α:Type}:FP α:=fun args k=>match args with
  | [.agg [.int .u64 at_,.int .i64 kind,.bool v]]=>k (accessS at_ kind v).sv
  | _=>none
def guestF {α:Type}:FP α:=fun args k=>match args with
  | [.agg [.int .u64 at_,.int .i64 kind,.bool v],.int .u64 place]=>k (guestS at_ kind v place).sv
  | _=>none
def ofF {α:Type}:FP α:=fun args k=>match args with
  | [.agg [.int .u64 at_,.int .i64 kind,.bool v],.int .i64 code,.int .u64 place]=>k (ofS at_ kind v code place).sv
  | _=>none
def placeS (frame index:Int):Int:=IntKind.u64.wrap (IntKind.i64.wrap (IntKind.i64.wrap (frame * 256)+ IntKind.i64.wrap (index * 8)))
def rdr (f:Nat→Int) (sec:Bool) (host frame index:Int):Int × Int:=
  bif (secondS f sec host (placeS frame index) 1).2.2 !=0 then (0,IntKind.i64.wrap ((secondS f sec host (placeS frame index) 1).2.2+ 2)) else
  bif entryOk (IntKind.i64.wrap (IntKind.u64.wrap ((secondS f sec host (placeS frame index) 1).1.tdiv 256))) index then
    (entryV f (IntKind.i64.wrap (IntKind.u64.wrap ((secondS f sec host (placeS frame index) 1).1.tdiv 256))) index,0) else (0,4)
def rdrF {α:Type}:FF α:=fun args σ k=>match args with
  | [.ptr rb [],.int .i64 frame,.int .i64 index]=>match σ.get rb with
    | some (.cells g (.agg [p,.agg [.bool a1,.bool a2,.bool a3,.bool a4,.int .i64 a5,.int .i64 a6,.int .i64 a7,.int .i64 a8],.int .u64 _]))=>withMem σ p fun b b1 _ _ f=>
      cond (Nat.beq rb b || Nat.beq rb b1) none (k (.tuple [.int .u64 (rdr f a2 a8 frame index).1,.int .i64 (rdr f a2 a8 frame index).2])
        ⟨σ.next,[(rb,.cells g (.agg [.ptr b [],.agg [.bool a1,.bool a2,.bool a3,.bool a4,.int .i64 a5,.int .i64 a6,.int .i64 a7,.int .i64 a8],.int .u64 (placeS frame index)]))]++ σ.blocks⟩)
    | _=>none
  | _=>none
def lastR (rd:Int→Int→Int × Int) (root at_:Int):Int:=
  bif (rd root (IntKind.i64.wrap (bitsS at_ 12 4))).2 !=0 then placeS root (IntKind.i64.wrap (bitsS at_ 12 4)) else
  placeS (frameS (rd root (IntKind.i64.wrap (bitsS at_ 12 4))).1) (IntKind.i64.wrap (bitsS at_ 8 4))
structure Firsts where
  place:Int
  leaf:Int
  fault:Fault
  ok:Bool
abbrev Firsts.sv (r:Firsts):SV:=.tuple [.int .u64 r.place,.int .i64 r.leaf,r.fault.sv,.bool r.ok]
def firstS (f:Nat→Int) (fst sec sum mxr:Bool) (root host at_ kind:Int) (v user:Bool):Firsts:=
  bif !fst then ⟨at_,255,noFault,true⟩ else
  bif ltB 1 (thr (rdr f sec host) root at_).2 then ⟨0,255,ofS at_ kind v (IntKind.i64.wrap ((thr (rdr f sec host) root at_).2 - 2)) (lastR (rdr f sec host) root at_),false⟩ else
  bif (thr (rdr f sec host) root at_).2==1 then ⟨0,255,pageS at_ kind v,false⟩ else
  bif !mayS (leafBits (thr (rdr f sec host) root at_).1) kind user sum mxr then ⟨0,255,pageS at_ kind v,false⟩ else
  ⟨joinS (frameS (thr (rdr f sec host) root at_).1) at_,leafBits (thr (rdr f sec host) root at_).1,noFault,true⟩
def firstF {α:Type}:FF α:=fun args σ k=>match args with
  | [p,.agg [.bool a1,.bool a2,.bool a3,.bool a4,.int .i64 _,.int .i64 _,.int .i64 a7,.int .i64 a8],.agg [.int .u64 at_,.int .i64 kind,.bool v],.bool user]=>withMem σ p fun _ _ _ _ f=>cond (decide (at_ < 65536)) (k (firstS f a1 a2 a3 a4 a7 a8 at_ kind v user).sv σ) none
  | _=>none
structure Asking where
  first:Bool
  second:Bool
  sum:Bool
  mxr:Bool
  asid:Int
  vmid:Int
  root:Int
  host:Int
abbrev Asking.sv (a:Asking):SV:=.agg [.bool a.first,.bool a.second,.bool a.sum,.bool a.mxr,.int .i64 a.asid,.int .i64 a.vmid,.int .i64 a.root,.int .i64 a.host]
def onA (c:Nat→Int) (i:Int):Int:=bif bitS c i 63 then IntKind.i64.wrap (bitsS (c i.toNat) 16 8) else 0
def onR (c:Nat→Int) (i:Int):Int:=bif bitS c i 63 then IntKind.i64.wrap (bitsS (c i.toNat) 0 8) else 0
def onF {α:Type}:FP α:=fun args k=>match args with
  | [.agg [.ints .u64 32 _,.int .u64 _,.int .i64 _,.bool _,.ints .u64 29 c,.int .u64 _],.int .i64 i]=>cond (decide (0≤i) && decide (i < 29)) (k (.tuple [.bool (bitS c i 63),.int .i64 (onA c i),.int .i64 (onR c i)])) none
  | _=>none
def askS (c:Nat→Int) (level:Int) (v:Bool):Asking:=
  bif level==3 then ⟨false,false,false,false,0,0,0,0⟩ else
  bif !v then ⟨bitS c 15 63,false,bitS c 0 18,bitS c 0 19,onA c 15,0,onR c 15,0⟩ else
  ⟨bitS c 28 63,bitS c 21 63,bitS c 22 18,bitS c 22 19 || bitS c 0 19,onA c 28,onA c 21,onR c 28,onR c 21⟩
def askF {α:Type}:FP α:=fun args k=>match args with
  | [.agg [.ints .u64 32 _,.int .u64 _,.int .i64 _,.bool _,.ints .u64 29 c,.int .u64 _],.int .i64 level,.bool v]=>k (askS c level v).sv
  | _=>none
structure Entry where
  valid:Bool
  v:Bool
  page:Int
  asid:Int
  vmid:Int
  frame:Int
  bits:Int
  host:Int
  guest:Int
abbrev Entry.sv (e:Entry):SV:=.agg [.bool e.valid,.bool e.v,.int .i64 e.page,.int .i64 e.asid,.int .i64 e.vmid,.int .i64 e.frame,.int .i64 e.bits,.int .i64 e.host,.int .i64 e.guest]
abbrev noEntry : Entry:=⟨false,false,0,0,0,0,0,0,0⟩
structure Trans where
  to:Int
  e:Entry
  f:Fault
  ok:Bool
abbrev Trans.sv (t:Trans):SV:=.tuple [.int .u64 t.to,t.e.sv,t.f.sv,.bool t.ok]
def pageOf (a:Int):Int:=IntKind.i64.wrap (gshr .u64 a 8)
def offA (a:Asking):Bool:=a.first==false && (a.second==false && (a.sum==a.sum && (a.mxr==a.mxr && (a.asid==0 && (a.vmid==0 && (a.root==0 && (a.host==0 && true)))))))
theorem offA_eq (a:Asking):(a.first==false && (a.second==false && (a.sum==a.sum && (a.mxr==a.mxr && (a.asid==0 && (a.vmid==0 && (a.root==0 && (a.host==0 && true))))))))=offA a:=rfl
def transA (f:Nat→Int) (a:Asking) (at_ kind:Int) (user v:Bool):Trans:=
  bif offA a then
    (bif ltB at_ 65536 then ⟨at_,⟨true,v,pageOf at_,0,0,pageOf at_,255,255,pageOf at_⟩,noFault,true⟩ else ⟨at_,⟨true,v,0,0,0,0,255,255,0⟩,noFault,true⟩) else
  bif leB 65536 at_ then ⟨0,noEntry,bif a.first then pageS at_ kind v else guestS at_ kind v at_,false⟩ else
  bif !(firstS f a.first a.second a.sum a.mxr a.root a.host at_ kind v user).ok then ⟨0,noEntry,(firstS f a.first a.second a.sum a.mxr a.root a.host at_ kind v user).fault,false⟩ else
  bif (secondS f a.second a.host (firstS f a.first a.second a.sum a.mxr a.root a.host at_ kind v user).place kind).2.2 !=0 then
    ⟨0,noEntry,ofS at_ kind v (secondS f a.second a.host (firstS f a.first a.second a.sum a.mxr a.root a.host at_ kind v user).place kind).2.2 (firstS f a.first a.second a.sum a.mxr a.root a.host at_ kind v user).place,false⟩ else
  ⟨(secondS f a.second a.host (firstS f a.first a.second a.sum a.mxr a.root a.host at_ kind v user).place kind).1,
    ⟨true,v,pageOf at_,a.asid,a.vmid,pageOf (secondS f a.second a.host (firstS f a.first a.second a.sum a.mxr a.root a.host at_ kind v user).place kind).1,(firstS f a.first a.second a.sum a.mxr a.root a.host at_ kind v user).leaf,
      (secondS f a.second a.host (firstS f a.first a.second a.sum a.mxr a.root a.host at_ kind v user).place kind).2.1,pageOf (firstS f a.first a.second a.sum a.mxr a.root a.host at_ kind v user).place⟩,noFault,true⟩
def transF {α:Type}:FF α:=fun args σ k=>match args with
  | [p,.agg [.ints .u64 32 _,.int .u64 _,.int .i64 _,.bool _,.ints .u64 29 c,.int .u64 _],.int .u64 at_,.int .i64 kind,.int .i64 level,.bool v]=>withMem σ p fun _ _ _ _ f=>k (transA f (askS c level v) at_ kind (level==0) v).sv σ
  | _=>none
end Go.Sh
