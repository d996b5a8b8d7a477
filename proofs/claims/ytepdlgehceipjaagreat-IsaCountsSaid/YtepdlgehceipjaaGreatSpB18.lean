/-
  The bus and accesses (printed by wip/pr/pr.py): what the functions come to, told without the program.
-/
import Derived.Test.YtepdlgehceipjaaGreatSkC
import Derived.Test.YtepdlgehceipjaaGreatSpTwo
set_option linter.unusedSimpArgs false
set_option linter.unusedVariables false
namespace Go.Sh
open Go
set_option linter.unusedVariables false
structure GState where
  X:(Nat→Int)
  PC:Int
  Level:Int
  V:Bool
  C:(Nat→Int)
  Done:Int
abbrev GState.sv (t:GState):SV:=.agg [.ints .u64 32 t.X,.int .u64 t.PC,.int .i64 t.Level,.bool t.V,.ints .u64 29 t.C,.int .u64 t.Done]
def GState.dec {α:Type} (v:SV) (k:GState→R α):R α:=match v with
  | .agg [a0,a1,a2,a3,a4,a5]=>decA .u64 32 a0 fun x0=>decI .u64 a1 fun x1=>decI .i64 a2 fun x2=>decB a3 fun x3=>decA .u64 29 a4 fun x4=>decI .u64 a5 fun x5=>k ⟨x0,x1,x2,x3,x4,x5⟩
  | _=>none
theorem GState.dec_spec {α:Type} {v:SV} {k:GState→R α} {r:α} (h:GState.dec v k=some r):∃t:GState,v=t.sv∧k t=some r:=by
  unfold GState.dec at h
  split at h<;>try (cases h; done)
  obtain ⟨x0,rfl,h0⟩:=decA_spec h
  obtain ⟨x1,rfl,h1⟩:=decI_spec h0
  obtain ⟨x2,rfl,h2⟩:=decI_spec h1
  obtain ⟨x3,rfl,h3⟩:=decB_spec h2
  obtain ⟨x4,rfl,h4⟩:=decA_spec h3
  obtain ⟨x5,rfl,h5⟩:=decI_spec h4
  exact ⟨⟨x0,x1,x2,x3,x4,x5⟩,rfl,h5⟩
theorem GState.ids (t:GState) {p:Nat→Prop}:Ids p t.sv:=by simp [Ids,Idss]
structure GInsn where
  Op:Int
  Rd:Int
  Rs1:Int
  Rs2:Int
  Imm:Int
  CSR:Int
abbrev GInsn.sv (t:GInsn):SV:=.agg [.int .i64 t.Op,.int .i64 t.Rd,.int .i64 t.Rs1,.int .i64 t.Rs2,.int .i64 t.Imm,.int .i64 t.CSR]
def GInsn.dec {α:Type} (v:SV) (k:GInsn→R α):R α:=match v with
  | .agg [a0,a1,a2,a3,a4,a5]=>decI .i64 a0 fun x0=>decI .i64 a1 fun x1=>decI .i64 a2 fun x2=>decI .i64 a3 fun x3=>decI .i64 a4 fun x4=>decI .i64 a5 fun x5=>k ⟨x0,x1,x2,x3,x4,x5⟩
  | _=>none
theorem GInsn.dec_spec {α:Type} {v:SV} {k:GInsn→R α} {r:α} (h:GInsn.dec v k=some r):∃t:GInsn,v=t.sv∧k t=some r:=by
  unfold GInsn.dec at h
  split at h<;>try (cases h; done)
  obtain ⟨x0,rfl,h0⟩:=decI_spec h
  obtain ⟨x1,rfl,h1⟩:=decI_spec h0
  obtain ⟨x2,rfl,h2⟩:=decI_spec h1
  obtain ⟨x3,rfl,h3⟩:=decI_spec h2
  obtain ⟨x4,rfl,h4⟩:=decI_spec h3
  obtain ⟨x5,rfl,h5⟩:=decI_spec h4
  exact ⟨⟨x0,x1,x2,x3,x4,x5⟩,rfl,h5⟩
theorem GInsn.ids (t:GInsn) {p:Nat→Prop}:Ids p t.sv:=by simp [Ids,Idss]
structure GFault where
  Cause:Int
  Value:Int
  Place:Int
  GVA:Bool
abbrev GFault.sv (t:GFault):SV:=.agg [.int .u64 t.Cause,.int .u64 t.Value,.int .u64 t.Place,.bool t.GVA]
def GFault.dec {α:Type} (v:SV) (k:GFault→R α):R α:=match v with
  | .agg [a0,a1,a2,a3]=>decI .u64 a0 fun x0=>decI .u64 a1 fun x1=>decI .u64 a2 fun x2=>decB a3 fun x3=>k ⟨x0,x1,x2,x3⟩
  | _=>none
theorem GFault.dec_spec {α:Type} {v:SV} {k:GFault→R α} {r:α} (h:GFault.dec v k=some r):∃t:GFault,v=t.sv∧k t=some r:=by
  unfold GFault.dec at h
  split at h<;>try (cases h; done)
  obtain ⟨x0,rfl,h0⟩:=decI_spec h
  obtain ⟨x1,rfl,h1⟩:=decI_spec h0
  obtain ⟨x2,rfl,h2⟩:=decI_spec h1
  obtain ⟨x3,rfl,h3⟩:=decB_spec h2
  exact ⟨⟨x0,x1,x2,x3⟩,rfl,h3⟩
theorem GFault.ids (t:GFault) {p:Nat→Prop}:Ids p t.sv:=by simp [Ids,Idss]
structure GRetire where
  PC:Int
  Word:Int
  Rd:Int
  Value:Int
  Trap:Bool
  F:GFault
  Level:Int
  V:Bool
  Line:Bool
abbrev GRetire.sv (t:GRetire):SV:=.agg [.int .u64 t.PC,.int .u32 t.Word,.int .i64 t.Rd,.int .u64 t.Value,.bool t.Trap,GFault.sv t.F,.int .i64 t.Level,.bool t.V,.bool t.Line]
def GRetire.dec {α:Type} (v:SV) (k:GRetire→R α):R α:=match v with
  | .agg [a0,a1,a2,a3,a4,a5,a6,a7,a8]=>decI .u64 a0 fun x0=>decI .u32 a1 fun x1=>decI .i64 a2 fun x2=>decI .u64 a3 fun x3=>decB a4 fun x4=>GFault.dec a5 fun x5=>decI .i64 a6 fun x6=>decB a7 fun x7=>decB a8 fun x8=>k ⟨x0,x1,x2,x3,x4,x5,x6,x7,x8⟩
  | _=>none
theorem GRetire.dec_spec {α:Type} {v:SV} {k:GRetire→R α} {r:α} (h:GRetire.dec v k=some r):∃t:GRetire,v=t.sv∧k t=some r:=by
  unfold GRetire.dec at h
  split at h<;>try (cases h; done)
  obtain ⟨x0,rfl,h0⟩:=decI_spec h
  obtain ⟨x1,rfl,h1⟩:=decI_spec h0
  obtain ⟨x2,rfl,h2⟩:=decI_spec h1
  obtain ⟨x3,rfl,h3⟩:=decI_spec h2
  obtain ⟨x4,rfl,h4⟩:=decB_spec h3
  obtain ⟨x5,rfl,h5⟩:=GFault.dec_spec h4
  obtain ⟨x6,rfl,h6⟩:=decI_spec h5
  obtain ⟨x7,rfl,h7⟩:=decB_spec h6
  obtain ⟨x8,rfl,h8⟩:=decB_spec h7
  exact ⟨⟨x0,x1,x2,x3,x4,x5,x6,x7,x8⟩,rfl,h8⟩
theorem GRetire.ids (t:GRetire) {p:Nat→Prop}:Ids p t.sv:=by simp [Ids,Idss]
structure GExec_result where
  s:GState
  value:Int
  f:GFault
  ok:Bool
abbrev GExec_result.sv (t:GExec_result):SV:=.agg [GState.sv t.s,.int .u64 t.value,GFault.sv t.f,.bool t.ok]
def GExec_result.dec {α:Type} (v:SV) (k:GExec_result→R α):R α:=match v with
  | .agg [a0,a1,a2,a3]=>GState.dec a0 fun x0=>decI .u64 a1 fun x1=>GFault.dec a2 fun x2=>decB a3 fun x3=>k ⟨x0,x1,x2,x3⟩
  | _=>none
theorem GExec_result.dec_spec {α:Type} {v:SV} {k:GExec_result→R α} {r:α} (h:GExec_result.dec v k=some r):∃t:GExec_result,v=t.sv∧k t=some r:=by
  unfold GExec_result.dec at h
  split at h<;>try (cases h; done)
  obtain ⟨x0,rfl,h0⟩:=GState.dec_spec h
  obtain ⟨x1,rfl,h1⟩:=decI_spec h0
  obtain ⟨x2,rfl,h2⟩:=GFault.dec_spec h1
  obtain ⟨x3,rfl,h3⟩:=decB_spec h2
  exact ⟨⟨x0,x1,x2,x3⟩,rfl,h3⟩
theorem GExec_result.ids (t:GExec_result) {p:Nat→Prop}:Ids p t.sv:=by simp [Ids,Idss]
structure GEntry where
  Valid:Bool
  V:Bool
  Page:Int
  Asid:Int
  Vmid:Int
  Frame:Int
  Bits:Int
  Host:Int
  Guest:Int
abbrev GEntry.sv (t:GEntry):SV:=.agg [.bool t.Valid,.bool t.V,.int .i64 t.Page,.int .i64 t.Asid,.int .i64 t.Vmid,.int .i64 t.Frame,.int .i64 t.Bits,.int .i64 t.Host,.int .i64 t.Guest]
def GEntry.dec {α:Type} (v:SV) (k:GEntry→R α):R α:=match v with
  | .agg [a0,a1,a2,a3,a4,a5,a6,a7,a8]=>decB a0 fun x0=>decB a1 fun x1=>decI .i64 a2 fun x2=>decI .i64 a3 fun x3=>decI .i64 a4 fun x4=>decI .i64 a5 fun x5=>decI .i64 a6 fun x6=>decI .i64 a7 fun x7=>decI .i64 a8 fun x8=>k ⟨x0,x1,x2,x3,x4,x5,x6,x7,x8⟩
  | _=>none
theorem GEntry.dec_spec {α:Type} {v:SV} {k:GEntry→R α} {r:α} (h:GEntry.dec v k=some r):∃t:GEntry,v=t.sv∧k t=some r:=by
  unfold GEntry.dec at h
  split at h<;>try (cases h; done)
  obtain ⟨x0,rfl,h0⟩:=decB_spec h
  obtain ⟨x1,rfl,h1⟩:=decB_spec h0
  obtain ⟨x2,rfl,h2⟩:=decI_spec h1
  obtain ⟨x3,rfl,h3⟩:=decI_spec h2
  obtain ⟨x4,rfl,h4⟩:=decI_spec h3
  obtain ⟨x5,rfl,h5⟩:=decI_spec h4
  obtain ⟨x6,rfl,h6⟩:=decI_spec h5
  obtain ⟨x7,rfl,h7⟩:=decI_spec h6
  obtain ⟨x8,rfl,h8⟩:=decI_spec h7
  exact ⟨⟨x0,x1,x2,x3,x4,x5,x6,x7,x8⟩,rfl,h8⟩
theorem GEntry.ids (t:GEntry) {p:Nat→Prop}:Ids p t.sv:=by simp [Ids,Idss]
@[reducible] def Lf_GState : Lf GState:=.of GState.sv GState.dec GState.dec_spec (fun t=>GState.ids t) fun _=>rfl
theorem pl_GState : (OSh.leaf Lf_GState).Plain:=fun t I D=>show Wf I D (GState.sv t) by simp [Wf,Wfs]
@[reducible] def Lf_GInsn : Lf GInsn:=.of GInsn.sv GInsn.dec GInsn.dec_spec (fun t=>GInsn.ids t) fun _=>rfl
@[reducible] def Lf_GFault : Lf GFault:=.of GFault.sv GFault.dec GFault.dec_spec (fun t=>GFault.ids t) fun _=>rfl
theorem pl_GFault : (OSh.leaf Lf_GFault).Plain:=fun t I D=>show Wf I D (GFault.sv t) by simp [Wf,Wfs]
@[reducible] def Lf_GRetire : Lf GRetire:=.of GRetire.sv GRetire.dec GRetire.dec_spec (fun t=>GRetire.ids t) fun _=>rfl
theorem pl_GRetire : (OSh.leaf Lf_GRetire).Plain:=fun t I D=>show Wf I D (GRetire.sv t) by simp [Wf,Wfs]
@[reducible] def Lf_GExec_result : Lf GExec_result:=.of GExec_result.sv GExec_result.dec GExec_result.dec_spec (fun t=>GExec_result.ids t) fun _=>rfl
theorem pl_GExec_result : (OSh.leaf Lf_GExec_result).Plain:=fun t I D=>show Wf I D (GExec_result.sv t) by simp [Wf,Wfs]
@[reducible] def sh_Mem : OSh (Nat→Int):=(.own (.st (.cons (.cap .u8 32768) .nil) (fun x=>x.1) (fun x=>(x,())) (fun _=>rfl)))
theorem plsh_Mem : sh_Mem.Plain:=⟨trivial,trivial⟩
structure GPort where
  inp:Row
  outp:Row
  typed:Int
structure GBus where
  m:(Nat→Int)
  time:Int
  alarm:Int
  ports:(Nat→GPort)
@[reducible] def sh_Bus : OSh GBus:=(.own (.st (.cons sh_Mem (.cons (.leaf (Lf_au .u64)) (.cons (.leaf (Lf_int .u64)) (.cons (.arr 4 3 (.st (.cons (.orow .u8) (.cons (.orow .u8) (.cons (.leaf (Lf_int .i64)) .nil))) (fun x=>(⟨x.1,x.2.1,x.2.2.1⟩:GPort)) (fun x=>(x.inp,x.outp,x.typed,())) (fun _=>rfl))) .nil)))) (fun x=>(⟨x.1,x.2.1,x.2.2.1,x.2.2.2.1⟩:GBus)) (fun x=>(x.m,x.time,x.alarm,x.ports,())) (fun _=>rfl)))
theorem plsh_Bus : sh_Bus.Plain:=⟨plsh_Mem,⟨(pl_au .u64),⟨(pl_int .u64),⟨⟨trivial,⟨trivial,⟨(pl_int .i64),trivial⟩⟩⟩,trivial⟩⟩⟩⟩
abbrev NB (b:GBus):GBus:=GBus.mk b.m b.time b.alarm (upd (upd (upd (fun _=>b.ports 0) 1 (b.ports 1)) 2 (b.ports 2)) 3 (b.ports 3))
abbrev GN {α:Type} (b:GBus) (k:R α):R α:=gN (b.ports 0).inp.n (b.ports 0).inp.n (gN (b.ports 0).outp.n (b.ports 0).outp.n (gN (b.ports 1).inp.n (b.ports 1).inp.n (gN (b.ports 1).outp.n (b.ports 1).outp.n (gN (b.ports 2).inp.n (b.ports 2).inp.n (gN (b.ports 2).outp.n (b.ports 2).outp.n (gN (b.ports 3).inp.n (b.ports 3).inp.n (gN (b.ports 3).outp.n (b.ports 3).outp.n (k))))))))
abbrev Sg_z1b (α:Type):=SgCon α
def p_z1b {α:Type} (x1 x2:Int) (kn:R α) (kp:Nat→R α):R α:=
  let b1:Bool:=(x2 !=1)
  cond b1 (
  kn) (
  let b2:Bool:=(ltB x1 61696)
  cond b2 (
  kn) (
  let t3:Int:=(IntKind.u64.wrap (x1 - 61696))
  let t4:Int:=(Int.tmod t3 256)
  let b5:Bool:=(t4 !=0)
  cond b5 (
  kn) (
  let t6:Int:=(IntKind.u64.wrap (x1 - 61696))
  let t7:Int:=(IntKind.u64.wrap (Int.tdiv t6 256))
  let b8:Bool:=(leB 4 t7)
  cond b8 (
  kn) (
  cond (decide (0≤t7) && decide (t7 < 4)) (
  kp (Int.toNat t7)) none))))
theorem mono_z1b {α:Type} {x1 x2:Int} {kn:R α} {kp kp':Nat→R α} {r:α} (h:∀i,kp' i=some r→kp i=some r) (hk:p_z1b x1 x2 kn kp'=some r):p_z1b x1 x2 kn kp=some r:=by
  unfold p_z1b at hk ⊢
  dsimp only at hk ⊢
  repeat' (first | exact hk | exact h _ hk | (refine cond_mono hk ?_ ?_<;>intro hk))
abbrev Sg_z1z (α:Type):=(Nat→Int)→Int→Int→(Int→Int→R α)→R α
def ad_z1z {α:Type} (F:Sg_z1z α):FF α:=fun args σ k=>match args with
  | [a0,a1,a2]=>withMem σ a0 fun _ b1 _ g1 x0=>decI .u64 a1 fun x1=>decI .i64 a2 fun x2=>F x0 x1 x2 (fun r0 r1=>k (.tuple [(.int .u64 r0),(.int .i64 r1)]) σ)
  | _=>none
abbrev Sg_z1j (α:Type):=GBus→Int→Int→(GBus→Int→Bool→R α)→R α
@[reducible] def E_z1j : OShs (GBus × Int × Int × Unit):=(.cons sh_Bus (.cons (.leaf (Lf_int .u64)) (.cons (.leaf (Lf_int .i64)) .nil)))
@[reducible] def M_z1j : OShs (GBus × Unit):=(.cons sh_Bus .nil)
@[reducible] def Q_z1j : OShs (Int × Bool × Unit):=(.cons (.leaf (Lf_int .u64)) (.cons (.leaf Lf_bool) .nil))
theorem E_z3s : E_z1j.PlainP:=⟨plsh_Bus,trivial,trivial,trivial⟩
theorem M_z3s : M_z1j.Plain:=⟨plsh_Bus,trivial⟩
theorem Q_z3s : Q_z1j.Plain:=⟨(pl_int .u64),pl_bool,trivial⟩
def ad_z1j {α:Type} (F:Sg_z1j α):FF α:=adO E_z1j M_z1j Q_z1j false fun a k=>F a.1 a.2.1 a.2.2.1 (fun y0 z0 z1=>k (y0,()) (z0,z1,()))
def p_z1j {α:Type} (F_z1b:Sg_z1b α) (F_z1z:Sg_z1z α) (x0:GBus) (x1:Int) (x2:Int) (k:GBus→Int→Bool→R α):R α:=
  let b1:Bool:=(x1==61440)
  cond b1 (
  let b2:Bool:=(x2==8)
  cond b2 (
  GN x0 ((((((((k (NB x0) x0.time true))))))))) (
  let b3:Bool:=(x1==61448)
  cond b3 (
  let b4:Bool:=(x2==8)
  cond b4 (
  GN x0 ((((((((k (NB x0) x0.alarm true))))))))) (
  F_z1b x1 x2 (
  F_z1z x0.m x1 x2 (fun r5 r6=>
  let b7:Bool:=(r6==0)
  GN x0 ((((((((k (NB x0) r5 b7)))))))))) (
  let b8:Bool:=((((x0.ports 0).inp.n:Nat):Int)==0)
  cond b8 (
  GN x0 ((((((((k (NB x0) 0 true))))))))) (
  cond (decide (0≤0) && decide (0 < (((x0.ports 0).inp.n:Nat):Int))) (
  cond (decide (0 < (x0.ports 0).inp.n)) (
  cond (decide (0≤(((x0.ports 0).inp.n:Nat):Int)) && decide ((((x0.ports 0).inp.n:Nat):Int)≤(((x0.ports 0).inp.n:Nat):Int))) (
  cond (decide (0≤1) && decide (1≤(((x0.ports 0).inp.n:Nat):Int))) (
  cond (decide ((x0.ports 0).inp.n≤(x0.ports 0).inp.n)) (
  cond (decide ((1+ ((x0.ports 0).inp.n - 1))≤(x0.ports 0).inp.n)) (
  let t9:Int:=(IntKind.u64.wrap ((x0.ports 0).inp.f 0))
  gN ((x0.ports 0).inp.n - 1) ((x0.ports 0).inp.n - 1) (gN (x0.ports 0).outp.n (x0.ports 0).outp.n (gN (x0.ports 1).inp.n (x0.ports 1).inp.n (gN (x0.ports 1).outp.n (x0.ports 1).outp.n (gN (x0.ports 2).inp.n (x0.ports 2).inp.n (gN (x0.ports 2).outp.n (x0.ports 2).outp.n (gN (x0.ports 3).inp.n (x0.ports 3).inp.n (gN (x0.ports 3).outp.n (x0.ports 3).outp.n (k (GBus.mk x0.m x0.time x0.alarm (upd (upd (upd (fun _=>(GPort.mk (Row.mk ((x0.ports 0).inp.n - 1) (fun i=>(x0.ports 0).inp.f (1+ i))) (x0.ports 0).outp (x0.ports 0).typed)) 1 (x0.ports 1)) 2 (x0.ports 2)) 3 (x0.ports 3))) t9 true))))))))) none) none) none) none) none) none)) (
  let b10:Bool:=((((x0.ports 1).inp.n:Nat):Int)==0)
  cond b10 (
  GN x0 ((((((((k (NB x0) 0 true))))))))) (
  cond (decide (0≤0) && decide (0 < (((x0.ports 1).inp.n:Nat):Int))) (
  cond (decide (0 < (x0.ports 1).inp.n)) (
  cond (decide (0≤(((x0.ports 1).inp.n:Nat):Int)) && decide ((((x0.ports 1).inp.n:Nat):Int)≤(((x0.ports 1).inp.n:Nat):Int))) (
  cond (decide (0≤1) && decide (1≤(((x0.ports 1).inp.n:Nat):Int))) (
  cond (decide ((x0.ports 1).inp.n≤(x0.ports 1).inp.n)) (
  cond (decide ((1+ ((x0.ports 1).inp.n - 1))≤(x0.ports 1).inp.n)) (
  let t11:Int:=(IntKind.u64.wrap ((x0.ports 1).inp.f 0))
  gN (x0.ports 0).inp.n (x0.ports 0).inp.n (gN (x0.ports 0).outp.n (x0.ports 0).outp.n (gN ((x0.ports 1).inp.n - 1) ((x0.ports 1).inp.n - 1) (gN (x0.ports 1).outp.n (x0.ports 1).outp.n (gN (x0.ports 2).inp.n (x0.ports 2).inp.n (gN (x0.ports 2).outp.n (x0.ports 2).outp.n (gN (x0.ports 3).inp.n (x0.ports 3).inp.n (gN (x0.ports 3).outp.n (x0.ports 3).outp.n (k (GBus.mk x0.m x0.time x0.alarm (upd (upd (upd (fun _=>(x0.ports 0)) 1 (GPort.mk (Row.mk ((x0.ports 1).inp.n - 1) (fun i=>(x0.ports 1).inp.f (1+ i))) (x0.ports 1).outp (x0.ports 1).typed)) 2 (x0.ports 2)) 3 (x0.ports 3))) t11 true))))))))) none) none) none) none) none) none)) (
  let b12:Bool:=((((x0.ports 2).inp.n:Nat):Int)==0)
  cond b12 (
  GN x0 ((((((((k (NB x0) 0 true))))))))) (
  cond (decide (0≤0) && decide (0 < (((x0.ports 2).inp.n:Nat):Int))) (
  cond (decide (0 < (x0.ports 2).inp.n)) (
  cond (decide (0≤(((x0.ports 2).inp.n:Nat):Int)) && decide ((((x0.ports 2).inp.n:Nat):Int)≤(((x0.ports 2).inp.n:Nat):Int))) (
  cond (decide (0≤1) && decide (1≤(((x0.ports 2).inp.n:Nat):Int))) (
  cond (decide ((x0.ports 2).inp.n≤(x0.ports 2).inp.n)) (
  cond (decide ((1+ ((x0.ports 2).inp.n - 1))≤(x0.ports 2).inp.n)) (
  let t13:Int:=(IntKind.u64.wrap ((x0.ports 2).inp.f 0))
  gN (x0.ports 0).inp.n (x0.ports 0).inp.n (gN (x0.ports 0).outp.n (x0.ports 0).outp.n (gN (x0.ports 1).inp.n (x0.ports 1).inp.n (gN (x0.ports 1).outp.n (x0.ports 1).outp.n (gN ((x0.ports 2).inp.n - 1) ((x0.ports 2).inp.n - 1) (gN (x0.ports 2).outp.n (x0.ports 2).outp.n (gN (x0.ports 3).inp.n (x0.ports 3).inp.n (gN (x0.ports 3).outp.n (x0.ports 3).outp.n (k (GBus.mk x0.m x0.time x0.alarm (upd (upd (upd (fun _=>(x0.ports 0)) 1 (x0.ports 1)) 2 (GPort.mk (Row.mk ((x0.ports 2).inp.n - 1) (fun i=>(x0.ports 2).inp.f (1+ i))) (x0.ports 2).outp (x0.ports 2).typed)) 3 (x0.ports 3))) t13 true))))))))) none) none) none) none) none) none)) (
  let b14:Bool:=((((x0.ports 3).inp.n:Nat):Int)==0)
  cond b14 (
  GN x0 ((((((((k (NB x0) 0 true))))))))) (
  cond (decide (0≤0) && decide (0 < (((x0.ports 3).inp.n:Nat):Int))) (
  cond (decide (0 < (x0.ports 3).inp.n)) (
  cond (decide (0≤(((x0.ports 3).inp.n:Nat):Int)) && decide ((((x0.ports 3).inp.n:Nat):Int)≤(((x0.ports 3).inp.n:Nat):Int))) (
  cond (decide (0≤1) && decide (1≤(((x0.ports 3).inp.n:Nat):Int))) (
  cond (decide ((x0.ports 3).inp.n≤(x0.ports 3).inp.n)) (
  cond (decide ((1+ ((x0.ports 3).inp.n - 1))≤(x0.ports 3).inp.n)) (
  let t15:Int:=(IntKind.u64.wrap ((x0.ports 3).inp.f 0))
  gN (x0.ports 0).inp.n (x0.ports 0).inp.n (gN (x0.ports 0).outp.n (x0.ports 0).outp.n (gN (x0.ports 1).inp.n (x0.ports 1).inp.n (gN (x0.ports 1).outp.n (x0.ports 1).outp.n (gN (x0.ports 2).inp.n (x0.ports 2).inp.n (gN (x0.ports 2).outp.n (x0.ports 2).outp.n (gN ((x0.ports 3).inp.n - 1) ((x0.ports 3).inp.n - 1) (gN (x0.ports 3).outp.n (x0.ports 3).outp.n (k (GBus.mk x0.m x0.time x0.alarm (upd (upd (upd (fun _=>(x0.ports 0)) 1 (x0.ports 1)) 2 (x0.ports 2)) 3 (GPort.mk (Row.mk ((x0.ports 3).inp.n - 1) (fun i=>(x0.ports 3).inp.f (1+ i))) (x0.ports 3).outp (x0.ports 3).typed))) t15 true))))))))) none) none) none) none) none) none)))) (
  F_z1b x1 x2 (
  F_z1z x0.m x1 x2 (fun r16 r17=>
  let b18:Bool:=(r17==0)
  GN x0 ((((((((k (NB x0) r16 b18)))))))))) (
  let b19:Bool:=((((x0.ports 0).inp.n:Nat):Int)==0)
  cond b19 (
  GN x0 ((((((((k (NB x0) 0 true))))))))) (
  cond (decide (0≤0) && decide (0 < (((x0.ports 0).inp.n:Nat):Int))) (
  cond (decide (0 < (x0.ports 0).inp.n)) (
  cond (decide (0≤(((x0.ports 0).inp.n:Nat):Int)) && decide ((((x0.ports 0).inp.n:Nat):Int)≤(((x0.ports 0).inp.n:Nat):Int))) (
  cond (decide (0≤1) && decide (1≤(((x0.ports 0).inp.n:Nat):Int))) (
  cond (decide ((x0.ports 0).inp.n≤(x0.ports 0).inp.n)) (
  cond (decide ((1+ ((x0.ports 0).inp.n - 1))≤(x0.ports 0).inp.n)) (
  let t20:Int:=(IntKind.u64.wrap ((x0.ports 0).inp.f 0))
  gN ((x0.ports 0).inp.n - 1) ((x0.ports 0).inp.n - 1) (gN (x0.ports 0).outp.n (x0.ports 0).outp.n (gN (x0.ports 1).inp.n (x0.ports 1).inp.n (gN (x0.ports 1).outp.n (x0.ports 1).outp.n (gN (x0.ports 2).inp.n (x0.ports 2).inp.n (gN (x0.ports 2).outp.n (x0.ports 2).outp.n (gN (x0.ports 3).inp.n (x0.ports 3).inp.n (gN (x0.ports 3).outp.n (x0.ports 3).outp.n (k (GBus.mk x0.m x0.time x0.alarm (upd (upd (upd (fun _=>(GPort.mk (Row.mk ((x0.ports 0).inp.n - 1) (fun i=>(x0.ports 0).inp.f (1+ i))) (x0.ports 0).outp (x0.ports 0).typed)) 1 (x0.ports 1)) 2 (x0.ports 2)) 3 (x0.ports 3))) t20 true))))))))) none) none) none) none) none) none)) (
  let b21:Bool:=((((x0.ports 1).inp.n:Nat):Int)==0)
  cond b21 (
  GN x0 ((((((((k (NB x0) 0 true))))))))) (
  cond (decide (0≤0) && decide (0 < (((x0.ports 1).inp.n:Nat):Int))) (
  cond (decide (0 < (x0.ports 1).inp.n)) (
  cond (decide (0≤(((x0.ports 1).inp.n:Nat):Int)) && decide ((((x0.ports 1).inp.n:Nat):Int)≤(((x0.ports 1).inp.n:Nat):Int))) (
  cond (decide (0≤1) && decide (1≤(((x0.ports 1).inp.n:Nat):Int))) (
  cond (decide ((x0.ports 1).inp.n≤(x0.ports 1).inp.n)) (
  cond (decide ((1+ ((x0.ports 1).inp.n - 1))≤(x0.ports 1).inp.n)) (
  let t22:Int:=(IntKind.u64.wrap ((x0.ports 1).inp.f 0))
  gN (x0.ports 0).inp.n (x0.ports 0).inp.n (gN (x0.ports 0).outp.n (x0.ports 0).outp.n (gN ((x0.ports 1).inp.n - 1) ((x0.ports 1).inp.n - 1) (gN (x0.ports 1).outp.n (x0.ports 1).outp.n (gN (x0.ports 2).inp.n (x0.ports 2).inp.n (gN (x0.ports 2).outp.n (x0.ports 2).outp.n (gN (x0.ports 3).inp.n (x0.ports 3).inp.n (gN (x0.ports 3).outp.n (x0.ports 3).outp.n (k (GBus.mk x0.m x0.time x0.alarm (upd (upd (upd (fun _=>(x0.ports 0)) 1 (GPort.mk (Row.mk ((x0.ports 1).inp.n - 1) (fun i=>(x0.ports 1).inp.f (1+ i))) (x0.ports 1).outp (x0.ports 1).typed)) 2 (x0.ports 2)) 3 (x0.ports 3))) t22 true))))))))) none) none) none) none) none) none)) (
  let b23:Bool:=((((x0.ports 2).inp.n:Nat):Int)==0)
  cond b23 (
  GN x0 ((((((((k (NB x0) 0 true))))))))) (
  cond (decide (0≤0) && decide (0 < (((x0.ports 2).inp.n:Nat):Int))) (
  cond (decide (0 < (x0.ports 2).inp.n)) (
  cond (decide (0≤(((x0.ports 2).inp.n:Nat):Int)) && decide ((((x0.ports 2).inp.n:Nat):Int)≤(((x0.ports 2).inp.n:Nat):Int))) (
  cond (decide (0≤1) && decide (1≤(((x0.ports 2).inp.n:Nat):Int))) (
  cond (decide ((x0.ports 2).inp.n≤(x0.ports 2).inp.n)) (
  cond (decide ((1+ ((x0.ports 2).inp.n - 1))≤(x0.ports 2).inp.n)) (
  let t24:Int:=(IntKind.u64.wrap ((x0.ports 2).inp.f 0))
  gN (x0.ports 0).inp.n (x0.ports 0).inp.n (gN (x0.ports 0).outp.n (x0.ports 0).outp.n (gN (x0.ports 1).inp.n (x0.ports 1).inp.n (gN (x0.ports 1).outp.n (x0.ports 1).outp.n (gN ((x0.ports 2).inp.n - 1) ((x0.ports 2).inp.n - 1) (gN (x0.ports 2).outp.n (x0.ports 2).outp.n (gN (x0.ports 3).inp.n (x0.ports 3).inp.n (gN (x0.ports 3).outp.n (x0.ports 3).outp.n (k (GBus.mk x0.m x0.time x0.alarm (upd (upd (upd (fun _=>(x0.ports 0)) 1 (x0.ports 1)) 2 (GPort.mk (Row.mk ((x0.ports 2).inp.n - 1) (fun i=>(x0.ports 2).inp.f (1+ i))) (x0.ports 2).outp (x0.ports 2).typed)) 3 (x0.ports 3))) t24 true))))))))) none) none) none) none) none) none)) (
  let b25:Bool:=((((x0.ports 3).inp.n:Nat):Int)==0)
  cond b25 (
  GN x0 ((((((((k (NB x0) 0 true))))))))) (
  cond (decide (0≤0) && decide (0 < (((x0.ports 3).inp.n:Nat):Int))) (
  cond (decide (0 < (x0.ports 3).inp.n)) (
  cond (decide (0≤(((x0.ports 3).inp.n:Nat):Int)) && decide ((((x0.ports 3).inp.n:Nat):Int)≤(((x0.ports 3).inp.n:Nat):Int))) (
  cond (decide (0≤1) && decide (1≤(((x0.ports 3).inp.n:Nat):Int))) (
  cond (decide ((x0.ports 3).inp.n≤(x0.ports 3).inp.n)) (
  cond (decide ((1+ ((x0.ports 3).inp.n - 1))≤(x0.ports 3).inp.n)) (
  let t26:Int:=(IntKind.u64.wrap ((x0.ports 3).inp.f 0))
  gN (x0.ports 0).inp.n (x0.ports 0).inp.n (gN (x0.ports 0).outp.n (x0.ports 0).outp.n (gN (x0.ports 1).inp.n (x0.ports 1).inp.n (gN (x0.ports 1).outp.n (x0.ports 1).outp.n (gN (x0.ports 2).inp.n (x0.ports 2).inp.n (gN (x0.ports 2).outp.n (x0.ports 2).outp.n (gN ((x0.ports 3).inp.n - 1) ((x0.ports 3).inp.n - 1) (gN (x0.ports 3).outp.n (x0.ports 3).outp.n (k (GBus.mk x0.m x0.time x0.alarm (upd (upd (upd (fun _=>(x0.ports 0)) 1 (x0.ports 1)) 2 (x0.ports 2)) 3 (GPort.mk (Row.mk ((x0.ports 3).inp.n - 1) (fun i=>(x0.ports 3).inp.f (1+ i))) (x0.ports 3).outp (x0.ports 3).typed))) t26 true))))))))) none) none) none) none) none) none))))) (
  let b27:Bool:=(x1==61448)
  cond b27 (
  let b28:Bool:=(x2==8)
  cond b28 (
  GN x0 ((((((((k (NB x0) x0.alarm true))))))))) (
  F_z1b x1 x2 (
  F_z1z x0.m x1 x2 (fun r29 r30=>
  let b31:Bool:=(r30==0)
  GN x0 ((((((((k (NB x0) r29 b31)))))))))) (
  let b32:Bool:=((((x0.ports 0).inp.n:Nat):Int)==0)
  cond b32 (
  GN x0 ((((((((k (NB x0) 0 true))))))))) (
  cond (decide (0≤0) && decide (0 < (((x0.ports 0).inp.n:Nat):Int))) (
  cond (decide (0 < (x0.ports 0).inp.n)) (
  cond (decide (0≤(((x0.ports 0).inp.n:Nat):Int)) && decide ((((x0.ports 0).inp.n:Nat):Int)≤(((x0.ports 0).inp.n:Nat):Int))) (
  cond (decide (0≤1) && decide (1≤(((x0.ports 0).inp.n:Nat):Int))) (
  cond (decide ((x0.ports 0).inp.n≤(x0.ports 0).inp.n)) (
  cond (decide ((1+ ((x0.ports 0).inp.n - 1))≤(x0.ports 0).inp.n)) (
  let t33:Int:=(IntKind.u64.wrap ((x0.ports 0).inp.f 0))
  gN ((x0.ports 0).inp.n - 1) ((x0.ports 0).inp.n - 1) (gN (x0.ports 0).outp.n (x0.ports 0).outp.n (gN (x0.ports 1).inp.n (x0.ports 1).inp.n (gN (x0.ports 1).outp.n (x0.ports 1).outp.n (gN (x0.ports 2).inp.n (x0.ports 2).inp.n (gN (x0.ports 2).outp.n (x0.ports 2).outp.n (gN (x0.ports 3).inp.n (x0.ports 3).inp.n (gN (x0.ports 3).outp.n (x0.ports 3).outp.n (k (GBus.mk x0.m x0.time x0.alarm (upd (upd (upd (fun _=>(GPort.mk (Row.mk ((x0.ports 0).inp.n - 1) (fun i=>(x0.ports 0).inp.f (1+ i))) (x0.ports 0).outp (x0.ports 0).typed)) 1 (x0.ports 1)) 2 (x0.ports 2)) 3 (x0.ports 3))) t33 true))))))))) none) none) none) none) none) none)) (
  let b34:Bool:=((((x0.ports 1).inp.n:Nat):Int)==0)
  cond b34 (
  GN x0 ((((((((k (NB x0) 0 true))))))))) (
  cond (decide (0≤0) && decide (0 < (((x0.ports 1).inp.n:Nat):Int))) (
  cond (decide (0 < (x0.ports 1).inp.n)) (
  cond (decide (0≤(((x0.ports 1).inp.n:Nat):Int)) && decide ((((x0.ports 1).inp.n:Nat):Int)≤(((x0.ports 1).inp.n:Nat):Int))) (
  cond (decide (0≤1) && decide (1≤(((x0.ports 1).inp.n:Nat):Int))) (
  cond (decide ((x0.ports 1).inp.n≤(x0.ports 1).inp.n)) (
  cond (decide ((1+ ((x0.ports 1).inp.n - 1))≤(x0.ports 1).inp.n)) (
  let t35:Int:=(IntKind.u64.wrap ((x0.ports 1).inp.f 0))
  gN (x0.ports 0).inp.n (x0.ports 0).inp.n (gN (x0.ports 0).outp.n (x0.ports 0).outp.n (gN ((x0.ports 1).inp.n - 1) ((x0.ports 1).inp.n - 1) (gN (x0.ports 1).outp.n (x0.ports 1).outp.n (gN (x0.ports 2).inp.n (x0.ports 2).inp.n (gN (x0.ports 2).outp.n (x0.ports 2).outp.n (gN (x0.ports 3).inp.n (x0.ports 3).inp.n (gN (x0.ports 3).outp.n (x0.ports 3).outp.n (k (GBus.mk x0.m x0.time x0.alarm (upd (upd (upd (fun _=>(x0.ports 0)) 1 (GPort.mk (Row.mk ((x0.ports 1).inp.n - 1) (fun i=>(x0.ports 1).inp.f (1+ i))) (x0.ports 1).outp (x0.ports 1).typed)) 2 (x0.ports 2)) 3 (x0.ports 3))) t35 true))))))))) none) none) none) none) none) none)) (
  let b36:Bool:=((((x0.ports 2).inp.n:Nat):Int)==0)
  cond b36 (
  GN x0 ((((((((k (NB x0) 0 true))))))))) (
  cond (decide (0≤0) && decide (0 < (((x0.ports 2).inp.n:Nat):Int))) (
  cond (decide (0 < (x0.ports 2).inp.n)) (
  cond (decide (0≤(((x0.ports 2).inp.n:Nat):Int)) && decide ((((x0.ports 2).inp.n:Nat):Int)≤(((x0.ports 2).inp.n:Nat):Int))) (
  cond (decide (0≤1) && decide (1≤(((x0.ports 2).inp.n:Nat):Int))) (
  cond (decide ((x0.ports 2).inp.n≤(x0.ports 2).inp.n)) (
  cond (decide ((1+ ((x0.ports 2).inp.n - 1))≤(x0.ports 2).inp.n)) (
  let t37:Int:=(IntKind.u64.wrap ((x0.ports 2).inp.f 0))
  gN (x0.ports 0).inp.n (x0.ports 0).inp.n (gN (x0.ports 0).outp.n (x0.ports 0).outp.n (gN (x0.ports 1).inp.n (x0.ports 1).inp.n (gN (x0.ports 1).outp.n (x0.ports 1).outp.n (gN ((x0.ports 2).inp.n - 1) ((x0.ports 2).inp.n - 1) (gN (x0.ports 2).outp.n (x0.ports 2).outp.n (gN (x0.ports 3).inp.n (x0.ports 3).inp.n (gN (x0.ports 3).outp.n (x0.ports 3).outp.n (k (GBus.mk x0.m x0.time x0.alarm (upd (upd (upd (fun _=>(x0.ports 0)) 1 (x0.ports 1)) 2 (GPort.mk (Row.mk ((x0.ports 2).inp.n - 1) (fun i=>(x0.ports 2).inp.f (1+ i))) (x0.ports 2).outp (x0.ports 2).typed)) 3 (x0.ports 3))) t37 true))))))))) none) none) none) none) none) none)) (
  let b38:Bool:=((((x0.ports 3).inp.n:Nat):Int)==0)
  cond b38 (
  GN x0 ((((((((k (NB x0) 0 true))))))))) (
  cond (decide (0≤0) && decide (0 < (((x0.ports 3).inp.n:Nat):Int))) (
  cond (decide (0 < (x0.ports 3).inp.n)) (
  cond (decide (0≤(((x0.ports 3).inp.n:Nat):Int)) && decide ((((x0.ports 3).inp.n:Nat):Int)≤(((x0.ports 3).inp.n:Nat):Int))) (
  cond (decide (0≤1) && decide (1≤(((x0.ports 3).inp.n:Nat):Int))) (
  cond (decide ((x0.ports 3).inp.n≤(x0.ports 3).inp.n)) (
  cond (decide ((1+ ((x0.ports 3).inp.n - 1))≤(x0.ports 3).inp.n)) (
  let t39:Int:=(IntKind.u64.wrap ((x0.ports 3).inp.f 0))
  gN (x0.ports 0).inp.n (x0.ports 0).inp.n (gN (x0.ports 0).outp.n (x0.ports 0).outp.n (gN (x0.ports 1).inp.n (x0.ports 1).inp.n (gN (x0.ports 1).outp.n (x0.ports 1).outp.n (gN (x0.ports 2).inp.n (x0.ports 2).inp.n (gN (x0.ports 2).outp.n (x0.ports 2).outp.n (gN ((x0.ports 3).inp.n - 1) ((x0.ports 3).inp.n - 1) (gN (x0.ports 3).outp.n (x0.ports 3).outp.n (k (GBus.mk x0.m x0.time x0.alarm (upd (upd (upd (fun _=>(x0.ports 0)) 1 (x0.ports 1)) 2 (x0.ports 2)) 3 (GPort.mk (Row.mk ((x0.ports 3).inp.n - 1) (fun i=>(x0.ports 3).inp.f (1+ i))) (x0.ports 3).outp (x0.ports 3).typed))) t39 true))))))))) none) none) none) none) none) none)))) (
  F_z1b x1 x2 (
  F_z1z x0.m x1 x2 (fun r40 r41=>
  let b42:Bool:=(r41==0)
  GN x0 ((((((((k (NB x0) r40 b42)))))))))) (
  let b43:Bool:=((((x0.ports 0).inp.n:Nat):Int)==0)
  cond b43 (
  GN x0 ((((((((k (NB x0) 0 true))))))))) (
  cond (decide (0≤0) && decide (0 < (((x0.ports 0).inp.n:Nat):Int))) (
  cond (decide (0 < (x0.ports 0).inp.n)) (
  cond (decide (0≤(((x0.ports 0).inp.n:Nat):Int)) && decide ((((x0.ports 0).inp.n:Nat):Int)≤(((x0.ports 0).inp.n:Nat):Int))) (
  cond (decide (0≤1) && decide (1≤(((x0.ports 0).inp.n:Nat):Int))) (
  cond (decide ((x0.ports 0).inp.n≤(x0.ports 0).inp.n)) (
  cond (decide ((1+ ((x0.ports 0).inp.n - 1))≤(x0.ports 0).inp.n)) (
  let t44:Int:=(IntKind.u64.wrap ((x0.ports 0).inp.f 0))
  gN ((x0.ports 0).inp.n - 1) ((x0.ports 0).inp.n - 1) (gN (x0.ports 0).outp.n (x0.ports 0).outp.n (gN (x0.ports 1).inp.n (x0.ports 1).inp.n (gN (x0.ports 1).outp.n (x0.ports 1).outp.n (gN (x0.ports 2).inp.n (x0.ports 2).inp.n (gN (x0.ports 2).outp.n (x0.ports 2).outp.n (gN (x0.ports 3).inp.n (x0.ports 3).inp.n (gN (x0.ports 3).outp.n (x0.ports 3).outp.n (k (GBus.mk x0.m x0.time x0.alarm (upd (upd (upd (fun _=>(GPort.mk (Row.mk ((x0.ports 0).inp.n - 1) (fun i=>(x0.ports 0).inp.f (1+ i))) (x0.ports 0).outp (x0.ports 0).typed)) 1 (x0.ports 1)) 2 (x0.ports 2)) 3 (x0.ports 3))) t44 true))))))))) none) none) none) none) none) none)) (
  let b45:Bool:=((((x0.ports 1).inp.n:Nat):Int)==0)
  cond b45 (
  GN x0 ((((((((k (NB x0) 0 true))))))))) (
  cond (decide (0≤0) && decide (0 < (((x0.ports 1).inp.n:Nat):Int))) (
  cond (decide (0 < (x0.ports 1).inp.n)) (
  cond (decide (0≤(((x0.ports 1).inp.n:Nat):Int)) && decide ((((x0.ports 1).inp.n:Nat):Int)≤(((x0.ports 1).inp.n:Nat):Int))) (
  cond (decide (0≤1) && decide (1≤(((x0.ports 1).inp.n:Nat):Int))) (
  cond (decide ((x0.ports 1).inp.n≤(x0.ports 1).inp.n)) (
  cond (decide ((1+ ((x0.ports 1).inp.n - 1))≤(x0.ports 1).inp.n)) (
  let t46:Int:=(IntKind.u64.wrap ((x0.ports 1).inp.f 0))
  gN (x0.ports 0).inp.n (x0.ports 0).inp.n (gN (x0.ports 0).outp.n (x0.ports 0).outp.n (gN ((x0.ports 1).inp.n - 1) ((x0.ports 1).inp.n - 1) (gN (x0.ports 1).outp.n (x0.ports 1).outp.n (gN (x0.ports 2).inp.n (x0.ports 2).inp.n (gN (x0.ports 2).outp.n (x0.ports 2).outp.n (gN (x0.ports 3).inp.n (x0.ports 3).inp.n (gN (x0.ports 3).outp.n (x0.ports 3).outp.n (k (GBus.mk x0.m x0.time x0.alarm (upd (upd (upd (fun _=>(x0.ports 0)) 1 (GPort.mk (Row.mk ((x0.ports 1).inp.n - 1) (fun i=>(x0.ports 1).inp.f (1+ i))) (x0.ports 1).outp (x0.ports 1).typed)) 2 (x0.ports 2)) 3 (x0.ports 3))) t46 true))))))))) none) none) none) none) none) none)) (
  let b47:Bool:=((((x0.ports 2).inp.n:Nat):Int)==0)
  cond b47 (
  GN x0 ((((((((k (NB x0) 0 true))))))))) (
  cond (decide (0≤0) && decide (0 < (((x0.ports 2).inp.n:Nat):Int))) (
  cond (decide (0 < (x0.ports 2).inp.n)) (
  cond (decide (0≤(((x0.ports 2).inp.n:Nat):Int)) && decide ((((x0.ports 2).inp.n:Nat):Int)≤(((x0.ports 2).inp.n:Nat):Int))) (
  cond (decide (0≤1) && decide (1≤(((x0.ports 2).inp.n:Nat):Int))) (
  cond (decide ((x0.ports 2).inp.n≤(x0.ports 2).inp.n)) (
  cond (decide ((1+ ((x0.ports 2).inp.n - 1))≤(x0.ports 2).inp.n)) (
  let t48:Int:=(IntKind.u64.wrap ((x0.ports 2).inp.f 0))
  gN (x0.ports 0).inp.n (x0.ports 0).inp.n (gN (x0.ports 0).outp.n (x0.ports 0).outp.n (gN (x0.ports 1).inp.n (x0.ports 1).inp.n (gN (x0.ports 1).outp.n (x0.ports 1).outp.n (gN ((x0.ports 2).inp.n - 1) ((x0.ports 2).inp.n - 1) (gN (x0.ports 2).outp.n (x0.ports 2).outp.n (gN (x0.ports 3).inp.n (x0.ports 3).inp.n (gN (x0.ports 3).outp.n (x0.ports 3).outp.n (k (GBus.mk x0.m x0.time x0.alarm (upd (upd (upd (fun _=>(x0.ports 0)) 1 (x0.ports 1)) 2 (GPort.mk (Row.mk ((x0.ports 2).inp.n - 1) (fun i=>(x0.ports 2).inp.f (1+ i))) (x0.ports 2).outp (x0.ports 2).typed)) 3 (x0.ports 3))) t48 true))))))))) none) none) none) none) none) none)) (
  let b49:Bool:=((((x0.ports 3).inp.n:Nat):Int)==0)
  cond b49 (
  GN x0 ((((((((k (NB x0) 0 true))))))))) (
  cond (decide (0≤0) && decide (0 < (((x0.ports 3).inp.n:Nat):Int))) (
  cond (decide (0 < (x0.ports 3).inp.n)) (
  cond (decide (0≤(((x0.ports 3).inp.n:Nat):Int)) && decide ((((x0.ports 3).inp.n:Nat):Int)≤(((x0.ports 3).inp.n:Nat):Int))) (
  cond (decide (0≤1) && decide (1≤(((x0.ports 3).inp.n:Nat):Int))) (
  cond (decide ((x0.ports 3).inp.n≤(x0.ports 3).inp.n)) (
  cond (decide ((1+ ((x0.ports 3).inp.n - 1))≤(x0.ports 3).inp.n)) (
  let t50:Int:=(IntKind.u64.wrap ((x0.ports 3).inp.f 0))
  gN (x0.ports 0).inp.n (x0.ports 0).inp.n (gN (x0.ports 0).outp.n (x0.ports 0).outp.n (gN (x0.ports 1).inp.n (x0.ports 1).inp.n (gN (x0.ports 1).outp.n (x0.ports 1).outp.n (gN (x0.ports 2).inp.n (x0.ports 2).inp.n (gN (x0.ports 2).outp.n (x0.ports 2).outp.n (gN ((x0.ports 3).inp.n - 1) ((x0.ports 3).inp.n - 1) (gN (x0.ports 3).outp.n (x0.ports 3).outp.n (k (GBus.mk x0.m x0.time x0.alarm (upd (upd (upd (fun _=>(x0.ports 0)) 1 (x0.ports 1)) 2 (x0.ports 2)) 3 (GPort.mk (Row.mk ((x0.ports 3).inp.n - 1) (fun i=>(x0.ports 3).inp.f (1+ i))) (x0.ports 3).outp (x0.ports 3).typed))) t50 true))))))))) none) none) none) none) none) none))))
abbrev Sg_z7 (α:Type):=(Nat→Int)→Int→Int→Int→((Nat→Int)→Int→R α)→R α
def ad_z7 {α:Type} (F:Sg_z7 α):FF α:=fun args σ k=>match args with
  | [a0,a1,a2,a3]=>withMem σ a0 fun _ b1 _ g1 x0=>decI .u64 a1 fun x1=>decI .i64 a2 fun x2=>decI .u64 a3 fun x3=>F x0 x1 x2 x3 (fun fm r0=>k (.int .i64 r0) ⟨σ.next,[(b1,byO g1 fm)]++ σ.blocks⟩)
  | _=>none
abbrev Sg_z1k (α:Type):=GBus→Int→Int→Int→(GBus→Bool→R α)→R α
@[reducible] def E_z1k : OShs (GBus × Int × Int × Int × Unit):=(.cons sh_Bus (.cons (.leaf (Lf_int .u64)) (.cons (.leaf (Lf_int .i64)) (.cons (.leaf (Lf_int .u64)) .nil))))
@[reducible] def M_z1k : OShs (GBus × Unit):=(.cons sh_Bus .nil)
@[reducible] def Q_z1k : OShs (Bool × Unit):=(.cons (.leaf Lf_bool) .nil)
theorem E_z3t : E_z1k.PlainP:=⟨plsh_Bus,trivial,trivial,trivial,trivial⟩
theorem M_z3t : M_z1k.Plain:=⟨plsh_Bus,trivial⟩
theorem Q_z3t : Q_z1k.Plain:=⟨pl_bool,trivial⟩
def ad_z1k {α:Type} (F:Sg_z1k α):FF α:=adO E_z1k M_z1k Q_z1k true fun a k=>F a.1 a.2.1 a.2.2.1 a.2.2.2.1 (fun y0 z0=>k (y0,()) (z0,()))
def p_z1k {α:Type} (F_z1b:Sg_z1b α) (F_z7:Sg_z7 α) (x0:GBus) (x1:Int) (x2:Int) (x3:Int) (k:GBus→Bool→R α):R α:=
  let b1:Bool:=(x1==61448)
  cond b1 (
  let b2:Bool:=(x2==8)
  cond b2 (
  GN x0 ((((((((k (GBus.mk x0.m x0.time x3 (upd (upd (upd (fun _=>(x0.ports 0)) 1 (x0.ports 1)) 2 (x0.ports 2)) 3 (x0.ports 3))) true))))))))) (
  F_z1b x1 x2 (
  F_z7 x0.m x1 x2 x3 (fun f3 r4=>
  let b5:Bool:=(r4==0)
  GN x0 ((((((((k (GBus.mk f3 x0.time x0.alarm (upd (upd (upd (fun _=>(x0.ports 0)) 1 (x0.ports 1)) 2 (x0.ports 2)) 3 (x0.ports 3))) b5)))))))))) (
  let t6:Int:=(IntKind.u8.wrap x3)
  cond (decide ((x0.ports 0).outp.n≤(x0.ports 0).outp.n)) (
  cond (decide (((x0.ports 0).outp.n+ 1) * 1≤140737488355328) && decide (((x0.ports 0).outp.n+ 1)≤4611686018427387904)) (
  let t7:Int:=(IntKind.i64.wrap (((((x0.ports 0).outp.n+ 1):Nat):Int) - 64))
  let t8:Int:=(pickmx true t7 0)
  cond (decide (0≤((((x0.ports 0).outp.n+ 1):Nat):Int)) && decide (((((x0.ports 0).outp.n+ 1):Nat):Int)≤((((x0.ports 0).outp.n+ 1):Nat):Int))) (
  cond (decide (0≤t8) && decide (t8≤((((x0.ports 0).outp.n+ 1):Nat):Int))) (
  cond (decide (((x0.ports 0).outp.n+ 1)≤((x0.ports 0).outp.n+ 1))) (
  cond (decide (((Int.toNat t8)+ (((x0.ports 0).outp.n+ 1) - (Int.toNat t8)))≤((x0.ports 0).outp.n+ 1))) (
  gN (x0.ports 0).inp.n (x0.ports 0).inp.n (gN (((x0.ports 0).outp.n+ 1) - (Int.toNat t8)) (((x0.ports 0).outp.n+ 1) - (Int.toNat t8)) (gN (x0.ports 1).inp.n (x0.ports 1).inp.n (gN (x0.ports 1).outp.n (x0.ports 1).outp.n (gN (x0.ports 2).inp.n (x0.ports 2).inp.n (gN (x0.ports 2).outp.n (x0.ports 2).outp.n (gN (x0.ports 3).inp.n (x0.ports 3).inp.n (gN (x0.ports 3).outp.n (x0.ports 3).outp.n (k (GBus.mk x0.m x0.time x0.alarm (upd (upd (upd (fun _=>(GPort.mk (x0.ports 0).inp (Row.mk (((x0.ports 0).outp.n+ 1) - (Int.toNat t8)) (fun i=>(fun i=>bif Nat.blt i (x0.ports 0).outp.n then (x0.ports 0).outp.f i else (fun i=>(upd (fun _=>0) 0 t6) (0+ i)) (i - (x0.ports 0).outp.n)) ((Int.toNat t8)+ i))) (x0.ports 0).typed)) 1 (x0.ports 1)) 2 (x0.ports 2)) 3 (x0.ports 3))) true))))))))) none) none) none) none) none) none) (
  let t9:Int:=(IntKind.u8.wrap x3)
  cond (decide ((x0.ports 1).outp.n≤(x0.ports 1).outp.n)) (
  cond (decide (((x0.ports 1).outp.n+ 1) * 1≤140737488355328) && decide (((x0.ports 1).outp.n+ 1)≤4611686018427387904)) (
  let t10:Int:=(IntKind.i64.wrap (((((x0.ports 1).outp.n+ 1):Nat):Int) - 64))
  let t11:Int:=(pickmx true t10 0)
  cond (decide (0≤((((x0.ports 1).outp.n+ 1):Nat):Int)) && decide (((((x0.ports 1).outp.n+ 1):Nat):Int)≤((((x0.ports 1).outp.n+ 1):Nat):Int))) (
  cond (decide (0≤t11) && decide (t11≤((((x0.ports 1).outp.n+ 1):Nat):Int))) (
  cond (decide (((x0.ports 1).outp.n+ 1)≤((x0.ports 1).outp.n+ 1))) (
  cond (decide (((Int.toNat t11)+ (((x0.ports 1).outp.n+ 1) - (Int.toNat t11)))≤((x0.ports 1).outp.n+ 1))) (
  gN (x0.ports 0).inp.n (x0.ports 0).inp.n (gN (x0.ports 0).outp.n (x0.ports 0).outp.n (gN (x0.ports 1).inp.n (x0.ports 1).inp.n (gN (((x0.ports 1).outp.n+ 1) - (Int.toNat t11)) (((x0.ports 1).outp.n+ 1) - (Int.toNat t11)) (gN (x0.ports 2).inp.n (x0.ports 2).inp.n (gN (x0.ports 2).outp.n (x0.ports 2).outp.n (gN (x0.ports 3).inp.n (x0.ports 3).inp.n (gN (x0.ports 3).outp.n (x0.ports 3).outp.n (k (GBus.mk x0.m x0.time x0.alarm (upd (upd (upd (fun _=>(x0.ports 0)) 1 (GPort.mk (x0.ports 1).inp (Row.mk (((x0.ports 1).outp.n+ 1) - (Int.toNat t11)) (fun i=>(fun i=>bif Nat.blt i (x0.ports 1).outp.n then (x0.ports 1).outp.f i else (fun i=>(upd (fun _=>0) 0 t9) (0+ i)) (i - (x0.ports 1).outp.n)) ((Int.toNat t11)+ i))) (x0.ports 1).typed)) 2 (x0.ports 2)) 3 (x0.ports 3))) true))))))))) none) none) none) none) none) none) (
  let t12:Int:=(IntKind.u8.wrap x3)
  cond (decide ((x0.ports 2).outp.n≤(x0.ports 2).outp.n)) (
  cond (decide (((x0.ports 2).outp.n+ 1) * 1≤140737488355328) && decide (((x0.ports 2).outp.n+ 1)≤4611686018427387904)) (
  let t13:Int:=(IntKind.i64.wrap (((((x0.ports 2).outp.n+ 1):Nat):Int) - 64))
  let t14:Int:=(pickmx true t13 0)
  cond (decide (0≤((((x0.ports 2).outp.n+ 1):Nat):Int)) && decide (((((x0.ports 2).outp.n+ 1):Nat):Int)≤((((x0.ports 2).outp.n+ 1):Nat):Int))) (
  cond (decide (0≤t14) && decide (t14≤((((x0.ports 2).outp.n+ 1):Nat):Int))) (
  cond (decide (((x0.ports 2).outp.n+ 1)≤((x0.ports 2).outp.n+ 1))) (
  cond (decide (((Int.toNat t14)+ (((x0.ports 2).outp.n+ 1) - (Int.toNat t14)))≤((x0.ports 2).outp.n+ 1))) (
  gN (x0.ports 0).inp.n (x0.ports 0).inp.n (gN (x0.ports 0).outp.n (x0.ports 0).outp.n (gN (x0.ports 1).inp.n (x0.ports 1).inp.n (gN (x0.ports 1).outp.n (x0.ports 1).outp.n (gN (x0.ports 2).inp.n (x0.ports 2).inp.n (gN (((x0.ports 2).outp.n+ 1) - (Int.toNat t14)) (((x0.ports 2).outp.n+ 1) - (Int.toNat t14)) (gN (x0.ports 3).inp.n (x0.ports 3).inp.n (gN (x0.ports 3).outp.n (x0.ports 3).outp.n (k (GBus.mk x0.m x0.time x0.alarm (upd (upd (upd (fun _=>(x0.ports 0)) 1 (x0.ports 1)) 2 (GPort.mk (x0.ports 2).inp (Row.mk (((x0.ports 2).outp.n+ 1) - (Int.toNat t14)) (fun i=>(fun i=>bif Nat.blt i (x0.ports 2).outp.n then (x0.ports 2).outp.f i else (fun i=>(upd (fun _=>0) 0 t12) (0+ i)) (i - (x0.ports 2).outp.n)) ((Int.toNat t14)+ i))) (x0.ports 2).typed)) 3 (x0.ports 3))) true))))))))) none) none) none) none) none) none) (
  let t15:Int:=(IntKind.u8.wrap x3)
  cond (decide ((x0.ports 3).outp.n≤(x0.ports 3).outp.n)) (
  cond (decide (((x0.ports 3).outp.n+ 1) * 1≤140737488355328) && decide (((x0.ports 3).outp.n+ 1)≤4611686018427387904)) (
  let t16:Int:=(IntKind.i64.wrap (((((x0.ports 3).outp.n+ 1):Nat):Int) - 64))
  let t17:Int:=(pickmx true t16 0)
  cond (decide (0≤((((x0.ports 3).outp.n+ 1):Nat):Int)) && decide (((((x0.ports 3).outp.n+ 1):Nat):Int)≤((((x0.ports 3).outp.n+ 1):Nat):Int))) (
  cond (decide (0≤t17) && decide (t17≤((((x0.ports 3).outp.n+ 1):Nat):Int))) (
  cond (decide (((x0.ports 3).outp.n+ 1)≤((x0.ports 3).outp.n+ 1))) (
  cond (decide (((Int.toNat t17)+ (((x0.ports 3).outp.n+ 1) - (Int.toNat t17)))≤((x0.ports 3).outp.n+ 1))) (
  gN (x0.ports 0).inp.n (x0.ports 0).inp.n (gN (x0.ports 0).outp.n (x0.ports 0).outp.n (gN (x0.ports 1).inp.n (x0.ports 1).inp.n (gN (x0.ports 1).outp.n (x0.ports 1).outp.n (gN (x0.ports 2).inp.n (x0.ports 2).inp.n (gN (x0.ports 2).outp.n (x0.ports 2).outp.n (gN (x0.ports 3).inp.n (x0.ports 3).inp.n (gN (((x0.ports 3).outp.n+ 1) - (Int.toNat t17)) (((x0.ports 3).outp.n+ 1) - (Int.toNat t17)) (k (GBus.mk x0.m x0.time x0.alarm (upd (upd (upd (fun _=>(x0.ports 0)) 1 (x0.ports 1)) 2 (x0.ports 2)) 3 (GPort.mk (x0.ports 3).inp (Row.mk (((x0.ports 3).outp.n+ 1) - (Int.toNat t17)) (fun i=>(fun i=>bif Nat.blt i (x0.ports 3).outp.n then (x0.ports 3).outp.f i else (fun i=>(upd (fun _=>0) 0 t15) (0+ i)) (i - (x0.ports 3).outp.n)) ((Int.toNat t17)+ i))) (x0.ports 3).typed))) true))))))))) none) none) none) none) none) none))) (
  F_z1b x1 x2 (
  F_z7 x0.m x1 x2 x3 (fun f18 r19=>
  let b20:Bool:=(r19==0)
  GN x0 ((((((((k (GBus.mk f18 x0.time x0.alarm (upd (upd (upd (fun _=>(x0.ports 0)) 1 (x0.ports 1)) 2 (x0.ports 2)) 3 (x0.ports 3))) b20)))))))))) (
  let t21:Int:=(IntKind.u8.wrap x3)
  cond (decide ((x0.ports 0).outp.n≤(x0.ports 0).outp.n)) (
  cond (decide (((x0.ports 0).outp.n+ 1) * 1≤140737488355328) && decide (((x0.ports 0).outp.n+ 1)≤4611686018427387904)) (
  let t22:Int:=(IntKind.i64.wrap (((((x0.ports 0).outp.n+ 1):Nat):Int) - 64))
  let t23:Int:=(pickmx true t22 0)
  cond (decide (0≤((((x0.ports 0).outp.n+ 1):Nat):Int)) && decide (((((x0.ports 0).outp.n+ 1):Nat):Int)≤((((x0.ports 0).outp.n+ 1):Nat):Int))) (
  cond (decide (0≤t23) && decide (t23≤((((x0.ports 0).outp.n+ 1):Nat):Int))) (
  cond (decide (((x0.ports 0).outp.n+ 1)≤((x0.ports 0).outp.n+ 1))) (
  cond (decide (((Int.toNat t23)+ (((x0.ports 0).outp.n+ 1) - (Int.toNat t23)))≤((x0.ports 0).outp.n+ 1))) (
  gN (x0.ports 0).inp.n (x0.ports 0).inp.n (gN (((x0.ports 0).outp.n+ 1) - (Int.toNat t23)) (((x0.ports 0).outp.n+ 1) - (Int.toNat t23)) (gN (x0.ports 1).inp.n (x0.ports 1).inp.n (gN (x0.ports 1).outp.n (x0.ports 1).outp.n (gN (x0.ports 2).inp.n (x0.ports 2).inp.n (gN (x0.ports 2).outp.n (x0.ports 2).outp.n (gN (x0.ports 3).inp.n (x0.ports 3).inp.n (gN (x0.ports 3).outp.n (x0.ports 3).outp.n (k (GBus.mk x0.m x0.time x0.alarm (upd (upd (upd (fun _=>(GPort.mk (x0.ports 0).inp (Row.mk (((x0.ports 0).outp.n+ 1) - (Int.toNat t23)) (fun i=>(fun i=>bif Nat.blt i (x0.ports 0).outp.n then (x0.ports 0).outp.f i else (fun i=>(upd (fun _=>0) 0 t21) (0+ i)) (i - (x0.ports 0).outp.n)) ((Int.toNat t23)+ i))) (x0.ports 0).typed)) 1 (x0.ports 1)) 2 (x0.ports 2)) 3 (x0.ports 3))) true))))))))) none) none) none) none) none) none) (
  let t24:Int:=(IntKind.u8.wrap x3)
  cond (decide ((x0.ports 1).outp.n≤(x0.ports 1).outp.n)) (
  cond (decide (((x0.ports 1).outp.n+ 1) * 1≤140737488355328) && decide (((x0.ports 1).outp.n+ 1)≤4611686018427387904)) (
  let t25:Int:=(IntKind.i64.wrap (((((x0.ports 1).outp.n+ 1):Nat):Int) - 64))
  let t26:Int:=(pickmx true t25 0)
  cond (decide (0≤((((x0.ports 1).outp.n+ 1):Nat):Int)) && decide (((((x0.ports 1).outp.n+ 1):Nat):Int)≤((((x0.ports 1).outp.n+ 1):Nat):Int))) (
  cond (decide (0≤t26) && decide (t26≤((((x0.ports 1).outp.n+ 1):Nat):Int))) (
  cond (decide (((x0.ports 1).outp.n+ 1)≤((x0.ports 1).outp.n+ 1))) (
  cond (decide (((Int.toNat t26)+ (((x0.ports 1).outp.n+ 1) - (Int.toNat t26)))≤((x0.ports 1).outp.n+ 1))) (
  gN (x0.ports 0).inp.n (x0.ports 0).inp.n (gN (x0.ports 0).outp.n (x0.ports 0).outp.n (gN (x0.ports 1).inp.n (x0.ports 1).inp.n (gN (((x0.ports 1).outp.n+ 1) - (Int.toNat t26)) (((x0.ports 1).outp.n+ 1) - (Int.toNat t26)) (gN (x0.ports 2).inp.n (x0.ports 2).inp.n (gN (x0.ports 2).outp.n (x0.ports 2).outp.n (gN (x0.ports 3).inp.n (x0.ports 3).inp.n (gN (x0.ports 3).outp.n (x0.ports 3).outp.n (k (GBus.mk x0.m x0.time x0.alarm (upd (upd (upd (fun _=>(x0.ports 0)) 1 (GPort.mk (x0.ports 1).inp (Row.mk (((x0.ports 1).outp.n+ 1) - (Int.toNat t26)) (fun i=>(fun i=>bif Nat.blt i (x0.ports 1).outp.n then (x0.ports 1).outp.f i else (fun i=>(upd (fun _=>0) 0 t24) (0+ i)) (i - (x0.ports 1).outp.n)) ((Int.toNat t26)+ i))) (x0.ports 1).typed)) 2 (x0.ports 2)) 3 (x0.ports 3))) true))))))))) none) none) none) none) none) none) (
  let t27:Int:=(IntKind.u8.wrap x3)
  cond (decide ((x0.ports 2).outp.n≤(x0.ports 2).outp.n)) (
  cond (decide (((x0.ports 2).outp.n+ 1) * 1≤140737488355328) && decide (((x0.ports 2).outp.n+ 1)≤4611686018427387904)) (
  let t28:Int:=(IntKind.i64.wrap (((((x0.ports 2).outp.n+ 1):Nat):Int) - 64))
  let t29:Int:=(pickmx true t28 0)
  cond (decide (0≤((((x0.ports 2).outp.n+ 1):Nat):Int)) && decide (((((x0.ports 2).outp.n+ 1):Nat):Int)≤((((x0.ports 2).outp.n+ 1):Nat):Int))) (
  cond (decide (0≤t29) && decide (t29≤((((x0.ports 2).outp.n+ 1):Nat):Int))) (
  cond (decide (((x0.ports 2).outp.n+ 1)≤((x0.ports 2).outp.n+ 1))) (
  cond (decide (((Int.toNat t29)+ (((x0.ports 2).outp.n+ 1) - (Int.toNat t29)))≤((x0.ports 2).outp.n+ 1))) (
  gN (x0.ports 0).inp.n (x0.ports 0).inp.n (gN (x0.ports 0).outp.n (x0.ports 0).outp.n (gN (x0.ports 1).inp.n (x0.ports 1).inp.n (gN (x0.ports 1).outp.n (x0.ports 1).outp.n (gN (x0.ports 2).inp.n (x0.ports 2).inp.n (gN (((x0.ports 2).outp.n+ 1) - (Int.toNat t29)) (((x0.ports 2).outp.n+ 1) - (Int.toNat t29)) (gN (x0.ports 3).inp.n (x0.ports 3).inp.n (gN (x0.ports 3).outp.n (x0.ports 3).outp.n (k (GBus.mk x0.m x0.time x0.alarm (upd (upd (upd (fun _=>(x0.ports 0)) 1 (x0.ports 1)) 2 (GPort.mk (x0.ports 2).inp (Row.mk (((x0.ports 2).outp.n+ 1) - (Int.toNat t29)) (fun i=>(fun i=>bif Nat.blt i (x0.ports 2).outp.n then (x0.ports 2).outp.f i else (fun i=>(upd (fun _=>0) 0 t27) (0+ i)) (i - (x0.ports 2).outp.n)) ((Int.toNat t29)+ i))) (x0.ports 2).typed)) 3 (x0.ports 3))) true))))))))) none) none) none) none) none) none) (
  let t30:Int:=(IntKind.u8.wrap x3)
  cond (decide ((x0.ports 3).outp.n≤(x0.ports 3).outp.n)) (
  cond (decide (((x0.ports 3).outp.n+ 1) * 1≤140737488355328) && decide (((x0.ports 3).outp.n+ 1)≤4611686018427387904)) (
  let t31:Int:=(IntKind.i64.wrap (((((x0.ports 3).outp.n+ 1):Nat):Int) - 64))
  let t32:Int:=(pickmx true t31 0)
  cond (decide (0≤((((x0.ports 3).outp.n+ 1):Nat):Int)) && decide (((((x0.ports 3).outp.n+ 1):Nat):Int)≤((((x0.ports 3).outp.n+ 1):Nat):Int))) (
  cond (decide (0≤t32) && decide (t32≤((((x0.ports 3).outp.n+ 1):Nat):Int))) (
  cond (decide (((x0.ports 3).outp.n+ 1)≤((x0.ports 3).outp.n+ 1))) (
  cond (decide (((Int.toNat t32)+ (((x0.ports 3).outp.n+ 1) - (Int.toNat t32)))≤((x0.ports 3).outp.n+ 1))) (
  gN (x0.ports 0).inp.n (x0.ports 0).inp.n (gN (x0.ports 0).outp.n (x0.ports 0).outp.n (gN (x0.ports 1).inp.n (x0.ports 1).inp.n (gN (x0.ports 1).outp.n (x0.ports 1).outp.n (gN (x0.ports 2).inp.n (x0.ports 2).inp.n (gN (x0.ports 2).outp.n (x0.ports 2).outp.n (gN (x0.ports 3).inp.n (x0.ports 3).inp.n (gN (((x0.ports 3).outp.n+ 1) - (Int.toNat t32)) (((x0.ports 3).outp.n+ 1) - (Int.toNat t32)) (k (GBus.mk x0.m x0.time x0.alarm (upd (upd (upd (fun _=>(x0.ports 0)) 1 (x0.ports 1)) 2 (x0.ports 2)) 3 (GPort.mk (x0.ports 3).inp (Row.mk (((x0.ports 3).outp.n+ 1) - (Int.toNat t32)) (fun i=>(fun i=>bif Nat.blt i (x0.ports 3).outp.n then (x0.ports 3).outp.f i else (fun i=>(upd (fun _=>0) 0 t30) (0+ i)) (i - (x0.ports 3).outp.n)) ((Int.toNat t32)+ i))) (x0.ports 3).typed))) true))))))))) none) none) none) none) none) none))
abbrev Sg_z1d (α:Type):=Int→(Nat→Int)→(Int→R α)→R α
def ad_z1d {α:Type} (F:Sg_z1d α):FP α:=fun args k=>match args with
  | [a0,a1]=>decI .i64 a0 fun x0=>decA .u64 3 a1 fun x1=>F x0 x1 (fun r0=>k (.int .u64 r0))
  | _=>none
def dR_access_cause {α:Type} (a0:SV) (k:Int→R α):R α:=decI .u64 a0 fun x0=>k x0
theorem dR_access_cause_spec {α:Type} {v:SV} {k:Int→R α} {r:α} (h:dR_access_cause v k=some r):∃x0,v=(.int .u64 x0)∧k x0=some r:=by
  unfold dR_access_cause at h
  obtain ⟨x0,rfl,h0⟩:=decI_spec h
  exact ⟨x0,rfl,h0⟩
def p_z1d {α:Type}  (x0:Int) (x1:(Nat→Int)) (k:Int→R α):R α:=
  let t1:Int:=(pickmx true x0 0)
  let t2:Int:=(pickmx false t1 2)
  cond (decide (0≤t2) && decide (t2 < 3)) (
  cond (decide ((Int.toNat t2) < 3)) (
  k (x1 (Int.toNat t2))) none) none
theorem le_z1d {α:Type} {F F':Sg_z1d α} (h:∀x0 x1 k r,F' x0 x1 k=some r→F x0 x1 k=some r) {args:List SV} {k:SV→R α} {r:α} (hk:ad_z1d F' args k=some r):ad_z1d F args k=some r:=by
  unfold ad_z1d at hk
  split at hk<;>try (cases hk; done)
  obtain ⟨x0,rfl,hk0⟩:=decI_spec hk
  obtain ⟨x1,rfl,hk1⟩:=decA_spec hk0
  have hkz:=hk1
  exact h x0 x1 _ _ hkz
abbrev Sg_z12 (α:Type):=Int→Int→Bool→(GFault→R α)→R α
def ad_z12 {α:Type} (F:Sg_z12 α):FP α:=fun args k=>match args with
  | [a0,a1,a2]=>decI .u64 a0 fun x0=>decI .i64 a1 fun x1=>decB a2 fun x2=>F x0 x1 x2 (fun r0=>k (GFault.sv r0))
  | _=>none
def dR_access_Bad {α:Type} (a0:SV) (k:GFault→R α):R α:=GFault.dec a0 fun x0=>k x0
theorem dR_access_Bad_spec {α:Type} {v:SV} {k:GFault→R α} {r:α} (h:dR_access_Bad v k=some r):∃x0,v=(GFault.sv x0)∧k x0=some r:=by
  unfold dR_access_Bad at h
  obtain ⟨x0,rfl,h0⟩:=GFault.dec_spec h
  exact ⟨x0,rfl,h0⟩
def p_z12 {α:Type} (F_z1d:Sg_z1d α) (x0:Int) (x1:Int) (x2:Bool) (k:GFault→R α):R α:=
  F_z1d x1 (upd (upd (upd (fun _=>0) 0 1) 1 5) 2 7) (fun r1=>
  k (GFault.mk r1 x0 0 x2))
theorem le_z12 {α:Type} {F F':Sg_z12 α} (h:∀x0 x1 x2 k r,F' x0 x1 x2 k=some r→F x0 x1 x2 k=some r) {args:List SV} {k:SV→R α} {r:α} (hk:ad_z12 F' args k=some r):ad_z12 F args k=some r:=by
  unfold ad_z12 at hk
  split at hk<;>try (cases hk; done)
  obtain ⟨x0,rfl,hk0⟩:=decI_spec hk
  obtain ⟨x1,rfl,hk1⟩:=decI_spec hk0
  obtain ⟨x2,rfl,hk2⟩:=decB_spec hk1
  have hkz:=hk2
  exact h x0 x1 x2 _ _ hkz
abbrev Sg_zs (α:Type):=GBus→Int→Int→Int→Int→Int→Bool→(GBus→Int→GFault→Bool→R α)→R α
@[reducible] def E_zs : OShs (GBus × Int × Int × Int × Int × Int × Bool × Unit):=(.cons sh_Bus (.cons (.leaf (Lf_int .u64)) (.cons (.leaf (Lf_int .u64)) (.cons (.leaf (Lf_int .i64)) (.cons (.leaf (Lf_int .i64)) (.cons (.leaf (Lf_int .u64)) (.cons (.leaf Lf_bool) .nil)))))))
@[reducible] def M_zs : OShs (GBus × Unit):=(.cons sh_Bus .nil)
@[reducible] def Q_zs : OShs (Int × GFault × Bool × Unit):=(.cons (.leaf (Lf_int .u64)) (.cons (.leaf Lf_GFault) (.cons (.leaf Lf_bool) .nil)))
theorem E_z3u : E_zs.PlainP:=⟨plsh_Bus,trivial,trivial,trivial,trivial,trivial,trivial,trivial⟩
theorem M_z3u : M_zs.Plain:=⟨plsh_Bus,trivial⟩
theorem Q_z3u : Q_zs.Plain:=⟨(pl_int .u64),pl_GFault,pl_bool,trivial⟩
def ad_zs {α:Type} (F:Sg_zs α):FF α:=adO E_zs M_zs Q_zs false fun a k=>F a.1 a.2.1 a.2.2.1 a.2.2.2.1 a.2.2.2.2.1 a.2.2.2.2.2.1 a.2.2.2.2.2.2.1 (fun y0 z0 z1 z2=>k (y0,()) (z0,z1,z2,()))
def p_zs {α:Type} (F_z12:Sg_z12 α) (F_z1k:Sg_z1k α) (F_z1j:Sg_z1j α) (x0:GBus) (x1:Int) (x2:Int) (x3:Int) (x4:Int) (x5:Int) (x6:Bool) (k:GBus→Int→GFault→Bool→R α):R α:=
  let b1:Bool:=(x4==0)
  cond b1 (
  let b2:Bool:=(leB 61440 x1)
  cond b2 (
  let b3:Bool:=(ltB x1 62720)
  cond b3 (
  F_z12 x2 x4 x6 (fun r4=>
  GN x0 ((((((((k (NB x0) 0 r4 false)))))))))) (
  let b5:Bool:=(x4==2)
  cond b5 (
  GN x0 ((((((((F_z1k (NB x0) x1 x3 x5 (fun y6 r7=>
  let b8:Bool:=(!r7)
  cond b8 (
  F_z12 x2 x4 x6 (fun r9=>
  GN y6 ((((((((k (NB y6) 0 r9 false)))))))))) (
  GN y6 ((((((((k (NB y6) 0 (GFault.mk 0 0 0 false) true))))))))))))))))))) (
  GN x0 ((((((((F_z1j (NB x0) x1 x3 (fun y10 r11 r12=>
  let b13:Bool:=(!r12)
  cond b13 (
  F_z12 x2 x4 x6 (fun r14=>
  GN y10 ((((((((k (NB y10) 0 r14 false)))))))))) (
  GN y10 ((((((((k (NB y10) r11 (GFault.mk 0 0 0 false) true))))))))))))))))))))) (
  let b15:Bool:=(x4==2)
  cond b15 (
  GN x0 ((((((((F_z1k (NB x0) x1 x3 x5 (fun y16 r17=>
  let b18:Bool:=(!r17)
  cond b18 (
  F_z12 x2 x4 x6 (fun r19=>
  GN y16 ((((((((k (NB y16) 0 r19 false)))))))))) (
  GN y16 ((((((((k (NB y16) 0 (GFault.mk 0 0 0 false) true))))))))))))))))))) (
  GN x0 ((((((((F_z1j (NB x0) x1 x3 (fun y20 r21 r22=>
  let b23:Bool:=(!r22)
  cond b23 (
  F_z12 x2 x4 x6 (fun r24=>
  GN y20 ((((((((k (NB y20) 0 r24 false)))))))))) (
  GN y20 ((((((((k (NB y20) r21 (GFault.mk 0 0 0 false) true))))))))))))))))))))) (
  let b25:Bool:=(x4==2)
  cond b25 (
  GN x0 ((((((((F_z1k (NB x0) x1 x3 x5 (fun y26 r27=>
  let b28:Bool:=(!r27)
  cond b28 (
  F_z12 x2 x4 x6 (fun r29=>
  GN y26 ((((((((k (NB y26) 0 r29 false)))))))))) (
  GN y26 ((((((((k (NB y26) 0 (GFault.mk 0 0 0 false) true))))))))))))))))))) (
  GN x0 ((((((((F_z1j (NB x0) x1 x3 (fun y30 r31 r32=>
  let b33:Bool:=(!r32)
  cond b33 (
  F_z12 x2 x4 x6 (fun r34=>
  GN y30 ((((((((k (NB y30) 0 r34 false)))))))))) (
  GN y30 ((((((((k (NB y30) r31 (GFault.mk 0 0 0 false) true))))))))))))))))))))
abbrev Sg_zz (α:Type):=Int→Int→Int→Bool→(GFault→Bool→R α)→R α
def ad_zz {α:Type} (F:Sg_zz α):FP α:=fun args k=>match args with
  | [a0,a1,a2,a3]=>decI .u64 a0 fun x0=>decI .i64 a1 fun x1=>decI .i64 a2 fun x2=>decB a3 fun x3=>F x0 x1 x2 x3 (fun r0 r1=>k (.tuple [(GFault.sv r0),(.bool r1)]))
  | _=>none
def dR_access_Aligned {α:Type} (v:SV) (k:GFault→Bool→R α):R α:=match v with
  | .tuple [a0,a1]=>GFault.dec a0 fun x0=>decB a1 fun x1=>k x0 x1
  | _=>none
theorem dR_access_Aligned_spec {α:Type} {v:SV} {k:GFault→Bool→R α} {r:α} (h:dR_access_Aligned v k=some r):∃x0 x1,v=(.tuple [(GFault.sv x0),(.bool x1)])∧k x0 x1=some r:=by
  unfold dR_access_Aligned at h
  split at h<;>try (cases h; done)
  obtain ⟨x0,rfl,h0⟩:=GFault.dec_spec h
  obtain ⟨x1,rfl,h1⟩:=decB_spec h0
  exact ⟨x0,x1,rfl,h1⟩
def p_zz {α:Type} (F_z12:Sg_z12 α) (F_z1d:Sg_z1d α) (x0:Int) (x1:Int) (x2:Int) (x3:Bool) (k:GFault→Bool→R α):R α:=
  let b1:Bool:=(x1 !=1)
  cond b1 (
  let b2:Bool:=(x1 !=2)
  cond b2 (
  let b3:Bool:=(x1 !=4)
  cond b3 (
  let b4:Bool:=(x1 !=8)
  cond b4 (
  F_z12 x0 x2 x3 (fun r5=>
  k r5 false)) (
  let t6:Int:=(IntKind.u64.wrap x1)
  cond (decide (t6=0)) none (
  let t7:Int:=(Int.tmod x0 t6)
  let b8:Bool:=(t7 !=0)
  cond b8 (
  F_z1d x2 (upd (upd (upd (fun _=>0) 0 0) 1 4) 2 6) (fun r9=>
  k (GFault.mk r9 x0 0 x3) false)) (
  k (GFault.mk 0 0 0 false) true)))) (
  let t10:Int:=(IntKind.u64.wrap x1)
  cond (decide (t10=0)) none (
  let t11:Int:=(Int.tmod x0 t10)
  let b12:Bool:=(t11 !=0)
  cond b12 (
  F_z1d x2 (upd (upd (upd (fun _=>0) 0 0) 1 4) 2 6) (fun r13=>
  k (GFault.mk r13 x0 0 x3) false)) (
  k (GFault.mk 0 0 0 false) true)))) (
  let t14:Int:=(IntKind.u64.wrap x1)
  cond (decide (t14=0)) none (
  let t15:Int:=(Int.tmod x0 t14)
  let b16:Bool:=(t15 !=0)
  cond b16 (
  F_z1d x2 (upd (upd (upd (fun _=>0) 0 0) 1 4) 2 6) (fun r17=>
  k (GFault.mk r17 x0 0 x3) false)) (
  k (GFault.mk 0 0 0 false) true)))) (
  let t18:Int:=(IntKind.u64.wrap x1)
  cond (decide (t18=0)) none (
  let t19:Int:=(Int.tmod x0 t18)
  let b20:Bool:=(t19 !=0)
  cond b20 (
  F_z1d x2 (upd (upd (upd (fun _=>0) 0 0) 1 4) 2 6) (fun r21=>
  k (GFault.mk r21 x0 0 x3) false)) (
  k (GFault.mk 0 0 0 false) true)))
theorem le_zz {α:Type} {F F':Sg_zz α} (h:∀x0 x1 x2 x3 k r,F' x0 x1 x2 x3 k=some r→F x0 x1 x2 x3 k=some r) {args:List SV} {k:SV→R α} {r:α} (hk:ad_zz F' args k=some r):ad_zz F args k=some r:=by
  unfold ad_zz at hk
  split at hk<;>try (cases hk; done)
  obtain ⟨x0,rfl,hk0⟩:=decI_spec hk
  obtain ⟨x1,rfl,hk1⟩:=decI_spec hk0
  obtain ⟨x2,rfl,hk2⟩:=decI_spec hk1
  obtain ⟨x3,rfl,hk3⟩:=decB_spec hk2
  have hkz:=hk3
  exact h x0 x1 x2 x3 _ _ hkz
abbrev Sg_z19 (α:Type):=(Nat→Int)→GState→Int→Int→Int→Bool→(Int→GEntry→GFault→Bool→R α)→R α
def ad_z19 {α:Type} (F:Sg_z19 α):FF α:=fun args σ k=>match args with
  | [a0,a1,a2,a3,a4,a5]=>withMem σ a0 fun _ b1 _ g1 x0=>GState.dec a1 fun x1=>decI .u64 a2 fun x2=>decI .i64 a3 fun x3=>decI .i64 a4 fun x4=>decB a5 fun x5=>F x0 x1 x2 x3 x4 x5 (fun r0 r1 r2 r3=>k (.tuple [(.int .u64 r0),(GEntry.sv r1),(GFault.sv r2),(.bool r3)]) σ)
  | _=>none
abbrev Sg_zu (α:Type):=GBus→GState→Int→Int→Int→Int→Int→Bool→(GBus→Int→GFault→Bool→R α)→R α
@[reducible] def E_zu : OShs (GBus × GState × Int × Int × Int × Int × Int × Bool × Unit):=(.cons sh_Bus (.cons (.leaf Lf_GState) (.cons (.leaf (Lf_int .u64)) (.cons (.leaf (Lf_int .i64)) (.cons (.leaf (Lf_int .i64)) (.cons (.leaf (Lf_int .u64)) (.cons (.leaf (Lf_int .i64)) (.cons (.leaf Lf_bool) .nil))))))))
@[reducible] def M_zu : OShs (GBus × Unit):=(.cons sh_Bus .nil)
@[reducible] def Q_zu : OShs (Int × GFault × Bool × Unit):=(.cons (.leaf (Lf_int .u64)) (.cons (.leaf Lf_GFault) (.cons (.leaf Lf_bool) .nil)))
theorem E_z3v : E_zu.PlainP:=⟨plsh_Bus,trivial,trivial,trivial,trivial,trivial,trivial,trivial,trivial⟩
theorem M_z3v : M_zu.Plain:=⟨plsh_Bus,trivial⟩
theorem Q_z3v : Q_zu.Plain:=⟨(pl_int .u64),pl_GFault,pl_bool,trivial⟩
def ad_zu {α:Type} (F:Sg_zu α):FF α:=adO E_zu M_zu Q_zu false fun a k=>F a.1 a.2.1 a.2.2.1 a.2.2.2.1 a.2.2.2.2.1 a.2.2.2.2.2.1 a.2.2.2.2.2.2.1 a.2.2.2.2.2.2.2.1 (fun y0 z0 z1 z2=>k (y0,()) (z0,z1,z2,()))
def p_zu {α:Type} (F_zz:Sg_zz α) (F_z19:Sg_z19 α) (F_zs:Sg_zs α) (x0:GBus) (x1:GState) (x2:Int) (x3:Int) (x4:Int) (x5:Int) (x6:Int) (x7:Bool) (k:GBus→Int→GFault→Bool→R α):R α:=
  F_zz x2 x3 x4 x7 (fun r1 r2=>
  let b3:Bool:=(!r2)
  cond b3 (
  GN x0 ((((((((k (NB x0) 0 r1 false))))))))) (
  F_z19 x0.m x1 x2 x4 x6 x7 (fun r4 r5 r6 r7=>
  let b8:Bool:=(!r7)
  cond b8 (
  GN x0 ((((((((k (NB x0) 0 r6 false))))))))) (
  GN x0 ((((((((F_zs (NB x0) r4 x2 x3 x4 x5 x7 (fun y9 r10 r11 r12=>
  GN y9 ((((((((k (NB y9) r10 r11 r12)))))))))))))))))))))
end Go.Sh
