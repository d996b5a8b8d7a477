/-
  The bus and accesses (printed by wip/pr/pr.py): what the functions come to, told without the program.
-/
import Derived.Test.YtodnffhcbhlifaaGreatSkC
import Derived.Test.YtodnffhcbhlifaaGreatSpTwo
set_option linter.unusedSimpArgs false
set_option linter.unusedVariables false
namespace Go.Sh
open Go
set_option linter.unusedVariables false
structure GState where
  X:(Nat→Int)
  PC:Int
  Level:Int
  V:Bool
  C:(Nat→Int)
  Done:Int
abbrev GState.sv (t:GState):SV:=.agg [.ints .u64 32 t.X,.int .u64 t.PC,.int .i64 t.Level,.bool t.V,.ints .u64 29 t.C,.int .u64 t.Done]
def GState.dec {α:Type} (v:SV) (k:GState→R α):R α:=match v with
  | .agg [a0,a1,a2,a3,a4,a5]=>decA .u64 32 a0 fun x0=>decI .u64 a1 fun x1=>decI .i64 a2 fun x2=>decB a3 fun x3=>decA .u64 29 a4 fun x4=>decI .u64 a5 fun x5=>k ⟨x0,x1,x2,x3,x4,x5⟩
  | _=>none
theorem GState.dec_spec {α:Type} {v:SV} {k:GState→R α} {r:α} (h:GState.dec v k=some r):∃t:GState,v=t.sv∧k t=some r:=by
  unfold GState.dec at h
  split at h<;>try (cases h; done)
  obtain ⟨x0,rfl,h0⟩:=decA_spec h
  obtain ⟨x1,rfl,h1⟩:=decI_spec h0
  obtain ⟨x2,rfl,h2⟩:=decI_spec h1
  obtain ⟨x3,rfl,h3⟩:=decB_spec h2
  obtain ⟨x4,rfl,h4⟩:=decA_spec h3
  obtain ⟨x5,rfl,h5⟩:=decI_spec h4
  exact ⟨⟨x0,x1,x2,x3,x4,x5⟩,rfl,h5⟩
theorem GState.ids (t:GState) {p:Nat→Prop}:Ids p t.sv:=by simp [Ids,Idss]
structure GInsn where
  Op:Int
  Rd:Int
  Rs1:Int
  Rs2:Int
  Imm:Int
  CSR:Int
abbrev GInsn.sv (t:GInsn):SV:=.agg [.int .i64 t.Op,.int .i64 t.Rd,.int .i64 t.Rs1,.int .i64 t.Rs2,.int .i64 t.Imm,.int .i64 t.CSR]
def GInsn.dec {α:Type} (v:SV) (k:GInsn→R α):R α:=match v with
  | .agg [a0,a1,a2,a3,a4,a5]=>decI .i64 a0 fun x0=>decI .i64 a1 fun x1=>decI .i64 a2 fun x2=>decI .i64 a3 fun x3=>decI .i64 a4 fun x4=>decI .i64 a5 fun x5=>k ⟨x0,x1,x2,x3,x4,x5⟩
  | _=>none
theorem GInsn.dec_spec {α:Type} {v:SV} {k:GInsn→R α} {r:α} (h:GInsn.dec v k=some r):∃t:GInsn,v=t.sv∧k t=some r:=by
  unfold GInsn.dec at h
  split at h<;>try (cases h; done)
  obtain ⟨x0,rfl,h0⟩:=decI_spec h
  obtain ⟨x1,rfl,h1⟩:=decI_spec h0
  obtain ⟨x2,rfl,h2⟩:=decI_spec h1
  obtain ⟨x3,rfl,h3⟩:=decI_spec h2
  obtain ⟨x4,rfl,h4⟩:=decI_spec h3
  obtain ⟨x5,rfl,h5⟩:=decI_spec h4
  exact ⟨⟨x0,x1,x2,x3,x4,x5⟩,rfl,h5⟩
theorem GInsn.ids (t:GInsn) {p:Nat→Prop}:Ids p t.sv:=by simp [Ids,Idss]
structure GFault where
  Cause:Int
  Value:Int
  Place:Int
  GVA:Bool
abbrev GFault.sv (t:GFault):SV:=.agg [.int .u64 t.Cause,.int .u64 t.Value,.int .u64 t.Place,.bool t.GVA]
def GFault.dec {α:Type} (v:SV) (k:GFault→R α):R α:=match v with
  | .agg [a0,a1,a2,a3]=>decI .u64 a0 fun x0=>decI .u64 a1 fun x1=>decI .u64 a2 fun x2=>decB a3 fun x3=>k ⟨x0,x1,x2,x3⟩
  | _=>none
theorem GFault.dec_spec {α:Type} {v:SV} {k:GFault→R α} {r:α} (h:GFault.dec v k=some r):∃t:GFault,v=t.sv∧k t=some r:=by
  unfold GFault.dec at h
  split at h<;>try (cases h; done)
  obtain ⟨x0,rfl,h0⟩:=decI_spec h
  obtain ⟨x1,rfl,h1⟩:=decI_spec h0
  obtain ⟨x2,rfl,h2⟩:=decI_spec h1
  obtain ⟨x3,rfl,h3⟩:=decB_spec h2
  exact ⟨⟨x0,x1,x2,x3⟩,rfl,h3⟩
theorem GFault.ids (t:GFault) {p:Nat→Prop}:Ids p t.sv:=by simp [Ids,Idss]
structure GRetire where
  PC:Int
  Word:Int
  Rd:Int
  Value:Int
  Trap:Bool
  F:GFault
  Level:Int
  V:Bool
  Line:Bool
abbrev GRetire.sv (t:GRetire):SV:=.agg [.int .u64 t.PC,.int .u32 t.Word,.int .i64 t.Rd,.int .u64 t.Value,.bool t.Trap,GFault.sv t.F,.int .i64 t.Level,.bool t.V,.bool t.Line]
def GRetire.dec {α:Type} (v:SV) (k:GRetire→R α):R α:=match v with
  | .agg [a0,a1,a2,a3,a4,a5,a6,a7,a8]=>decI .u64 a0 fun x0=>decI .u32 a1 fun x1=>decI .i64 a2 fun x2=>decI .u64 a3 fun x3=>decB a4 fun x4=>GFault.dec a5 fun x5=>decI .i64 a6 fun x6=>decB a7 fun x7=>decB a8 fun x8=>k ⟨x0,x1,x2,x3,x4,x5,x6,x7,x8⟩
  | _=>none
theorem GRetire.dec_spec {α:Type} {v:SV} {k:GRetire→R α} {r:α} (h:GRetire.dec v k=some r):∃t:GRetire,v=t.sv∧k t=some r:=by
  unfold GRetire.dec at h
  split at h<;>try (cases h; done)
  obtain ⟨x0,rfl,h0⟩:=decI_spec h
  obtain ⟨x1,rfl,h1⟩:=decI_spec h0
  obtain ⟨x2,rfl,h2⟩:=decI_spec h1
  obtain ⟨x3,rfl,h3⟩:=decI_spec h2
  obtain ⟨x4,rfl,h4⟩:=decB_spec h3
  obtain ⟨x5,rfl,h5⟩:=GFault.dec_spec h4
  obtain ⟨x6,rfl,h6⟩:=decI_spec h5
  obtain ⟨x7,rfl,h7⟩:=decB_spec h6
  obtain ⟨x8,rfl,h8⟩:=decB_spec h7
  exact ⟨⟨x0,x1,x2,x3,x4,x5,x6,x7,x8⟩,rfl,h8⟩
theorem GRetire.ids (t:GRetire) {p:Nat→Prop}:Ids p t.sv:=by simp [Ids,Idss]
structure GExec_result where
  s:GState
  value:Int
  f:GFault
  ok:Bool
abbrev GExec_result.sv (t:GExec_result):SV:=.agg [GState.sv t.s,.int .u64 t.value,GFault.sv t.f,.bool t.ok]
def GExec_result.dec {α:Type} (v:SV) (k:GExec_result→R α):R α:=match v with
  | .agg [a0,a1,a2,a3]=>GState.dec a0 fun x0=>decI .u64 a1 fun x1=>GFault.dec a2 fun x2=>decB a3 fun x3=>k ⟨x0,x1,x2,x3⟩
  | _=>none
theorem GExec_result.dec_spec {α:Type} {v:SV} {k:GExec_result→R α} {r:α} (h:GExec_result.dec v k=some r):∃t:GExec_result,v=t.sv∧k t=some r:=by
  unfold GExec_result.dec at h
  split at h<;>try (cases h; done)
  obtain ⟨x0,rfl,h0⟩:=GState.dec_spec h
  obtain ⟨x1,rfl,h1⟩:=decI_spec h0
  obtain ⟨x2,rfl,h2⟩:=GFault.dec_spec h1
  obtain ⟨x3,rfl,h3⟩:=decB_spec h2
  exact ⟨⟨x0,x1,x2,x3⟩,rfl,h3⟩
theorem GExec_result.ids (t:GExec_result) {p:Nat→Prop}:Ids p t.sv:=by simp [Ids,Idss]
structure GEntry where
  Valid:Bool
  V:Bool
  Page:Int
  Asid:Int
  Vmid:Int
  Frame:Int
  Bits:Int
  Host:Int
  Guest:Int
abbrev GEntry.sv (t:GEntry):SV:=.agg [.bool t.Valid,.bool t.V,.int .i64 t.Page,.int .i64 t.Asid,.int .i64 t.Vmid,.int .i64 t.Frame,.int .i64 t.Bits,.int .i64 t.Host,.int .i64 t.Guest]
def GEntry.dec {α:Type} (v:SV) (k:GEntry→R α):R α:=match v with
  | .agg [a0,a1,a2,a3,a4,a5,a6,a7,a8]=>decB a0 fun x0=>decB a1 fun x1=>decI .i64 a2 fun x2=>decI .i64 a3 fun x3=>decI .i64 a4 fun x4=>decI .i64 a5 fun x5=>decI .i64 a6 fun x6=>decI .i64 a7 fun x7=>decI .i64 a8 fun x8=>k ⟨x0,x1,x2,x3,x4,x5,x6,x7,x8⟩
  | _=>none
theorem GEntry.dec_spec {α:Type} {v:SV} {k:GEntry→R α} {r:α} (h:GEntry.dec v k=some r):∃t:GEntry,v=t.sv∧k t=some r:=by
  unfold GEntry.dec at h
  split at h<;>try (cases h; done)
  obtain ⟨x0,rfl,h0⟩:=decB_spec h
  obtain ⟨x1,rfl,h1⟩:=decB_spec h0
  obtain ⟨x2,rfl,h2⟩:=decI_spec h1
  obtain ⟨x3,rfl,h3⟩:=decI_spec h2
  obtain ⟨x4,rfl,h4⟩:=decI_spec h3
  obtain ⟨x5,rfl,h5⟩:=decI_spec h4
  obtain ⟨x6,rfl,h6⟩:=decI_spec h5
  obtain ⟨x7,rfl,h7⟩:=decI_spec h6
  obtain ⟨x8,rfl,h8⟩:=decI_spec h7
  exact ⟨⟨x0,x1,x2,x3,x4,x5,x6,x7,x8⟩,rfl,h8⟩
theorem GEntry.ids (t:GEntry) {p:Nat→Prop}:Ids p t.sv:=by simp [Ids,Idss]
structure GPort where
  inp:Row
  outp:Row
  typed:Int
structure GBus where
  m:(Nat→Int)
  time:Int
  alarm:Int
  ports:(Nat→GPort)
abbrev Sg_z10 (α:Type):=Int→(Nat→Int)→(Int→R α)→R α
def ad_z10 {α:Type} (F:Sg_z10 α):FP α:=fun args k=>match args with
  | [a0,a1]=>decI .i64 a0 fun x0=>decA .u64 3 a1 fun x1=>F x0 x1 (fun r0=>k (.int .u64 r0))
  | _=>none
def dR_access_cause {α:Type} (a0:SV) (k:Int→R α):R α:=decI .u64 a0 fun x0=>k x0
theorem dR_access_cause_spec {α:Type} {v:SV} {k:Int→R α} {r:α} (h:dR_access_cause v k=some r):∃x0,v=(.int .u64 x0)∧k x0=some r:=by
  unfold dR_access_cause at h
  obtain ⟨x0,rfl,h0⟩:=decI_spec h
  exact ⟨x0,rfl,h0⟩
def p_z10 {α:Type}  (x0:Int) (x1:(Nat→Int)) (k:Int→R α):R α:=
  let t1:Int:=(pickmx true x0 0)
  let t2:Int:=(pickmx false t1 2)
  cond (decide (0≤t2) && decide (t2 < 3)) (
  cond (decide ((Int.toNat t2) < 3)) (
  k (x1 (Int.toNat t2))) none) none
theorem le_z10 {α:Type} {F F':Sg_z10 α} (h:∀x0 x1 k r,F' x0 x1 k=some r→F x0 x1 k=some r) {args:List SV} {k:SV→R α} {r:α} (hk:ad_z10 F' args k=some r):ad_z10 F args k=some r:=by
  unfold ad_z10 at hk
  split at hk<;>try (cases hk; done)
  obtain ⟨x0,rfl,hk0⟩:=decI_spec hk
  obtain ⟨x1,rfl,hk1⟩:=decA_spec hk0
  have hkz:=hk1
  exact h x0 x1 _ _ hkz
abbrev Sg_z1w (α:Type):=Int→Int→Bool→(GFault→R α)→R α
def ad_z1w {α:Type} (F:Sg_z1w α):FP α:=fun args k=>match args with
  | [a0,a1,a2]=>decI .u64 a0 fun x0=>decI .i64 a1 fun x1=>decB a2 fun x2=>F x0 x1 x2 (fun r0=>k (GFault.sv r0))
  | _=>none
def dR_access_Bad {α:Type} (a0:SV) (k:GFault→R α):R α:=GFault.dec a0 fun x0=>k x0
theorem dR_access_Bad_spec {α:Type} {v:SV} {k:GFault→R α} {r:α} (h:dR_access_Bad v k=some r):∃x0,v=(GFault.sv x0)∧k x0=some r:=by
  unfold dR_access_Bad at h
  obtain ⟨x0,rfl,h0⟩:=GFault.dec_spec h
  exact ⟨x0,rfl,h0⟩
def p_z1w {α:Type} (F_z10:Sg_z10 α) (x0:Int) (x1:Int) (x2:Bool) (k:GFault→R α):R α:=
  F_z10 x1 (upd (upd (upd (fun _=>0) 0 1) 1 5) 2 7) (fun r1=>
  k (GFault.mk r1 x0 0 x2))
theorem le_z1w {α:Type} {F F':Sg_z1w α} (h:∀x0 x1 x2 k r,F' x0 x1 x2 k=some r→F x0 x1 x2 k=some r) {args:List SV} {k:SV→R α} {r:α} (hk:ad_z1w F' args k=some r):ad_z1w F args k=some r:=by
  unfold ad_z1w at hk
  split at hk<;>try (cases hk; done)
  obtain ⟨x0,rfl,hk0⟩:=decI_spec hk
  obtain ⟨x1,rfl,hk1⟩:=decI_spec hk0
  obtain ⟨x2,rfl,hk2⟩:=decB_spec hk1
  have hkz:=hk2
  exact h x0 x1 x2 _ _ hkz
end Go.Sh
