/-
  One instruction after the other (printed by wip/pr/pr.py): what the functions come to, told without the program.
-/
import Derived.Test.YtodnffhcbhlifaaGreatSpB18
set_option linter.unusedSimpArgs false
set_option linter.unusedVariables false
namespace Go.Sh
open Go
set_option linter.unusedVariables false
structure GRoute_turn where
  bit:Int
  index:Int
  given:Bool
  level:Int
  v:Bool
abbrev GRoute_turn.sv (t:GRoute_turn):SV:=.agg [.int .i64 t.bit,.int .i64 t.index,.bool t.given,.int .i64 t.level,.bool t.v]
def GRoute_turn.dec {α:Type} (v:SV) (k:GRoute_turn→R α):R α:=match v with
  | .agg [a0,a1,a2,a3,a4]=>decI .i64 a0 fun x0=>decI .i64 a1 fun x1=>decB a2 fun x2=>decI .i64 a3 fun x3=>decB a4 fun x4=>k ⟨x0,x1,x2,x3,x4⟩
  | _=>none
theorem GRoute_turn.dec_spec {α:Type} {v:SV} {k:GRoute_turn→R α} {r:α} (h:GRoute_turn.dec v k=some r):∃t:GRoute_turn,v=t.sv∧k t=some r:=by
  unfold GRoute_turn.dec at h
  split at h<;>try (cases h; done)
  obtain ⟨x0,rfl,h0⟩:=decI_spec h
  obtain ⟨x1,rfl,h1⟩:=decI_spec h0
  obtain ⟨x2,rfl,h2⟩:=decB_spec h1
  obtain ⟨x3,rfl,h3⟩:=decI_spec h2
  obtain ⟨x4,rfl,h4⟩:=decB_spec h3
  exact ⟨⟨x0,x1,x2,x3,x4⟩,rfl,h4⟩
theorem GRoute_turn.ids (t:GRoute_turn) {p:Nat→Prop}:Ids p t.sv:=by simp [Ids,Idss]
structure GTrap_told where
  pc:Int
  cause:Int
  value:Int
  place:Int
  at_:Int
abbrev GTrap_told.sv (t:GTrap_told):SV:=.agg [.int .i64 t.pc,.int .i64 t.cause,.int .i64 t.value,.int .i64 t.place,.int .i64 t.at_]
def GTrap_told.dec {α:Type} (v:SV) (k:GTrap_told→R α):R α:=match v with
  | .agg [a0,a1,a2,a3,a4]=>decI .i64 a0 fun x0=>decI .i64 a1 fun x1=>decI .i64 a2 fun x2=>decI .i64 a3 fun x3=>decI .i64 a4 fun x4=>k ⟨x0,x1,x2,x3,x4⟩
  | _=>none
theorem GTrap_told.dec_spec {α:Type} {v:SV} {k:GTrap_told→R α} {r:α} (h:GTrap_told.dec v k=some r):∃t:GTrap_told,v=t.sv∧k t=some r:=by
  unfold GTrap_told.dec at h
  split at h<;>try (cases h; done)
  obtain ⟨x0,rfl,h0⟩:=decI_spec h
  obtain ⟨x1,rfl,h1⟩:=decI_spec h0
  obtain ⟨x2,rfl,h2⟩:=decI_spec h1
  obtain ⟨x3,rfl,h3⟩:=decI_spec h2
  obtain ⟨x4,rfl,h4⟩:=decI_spec h3
  exact ⟨⟨x0,x1,x2,x3,x4⟩,rfl,h4⟩
theorem GTrap_told.ids (t:GTrap_told) {p:Nat→Prop}:Ids p t.sv:=by simp [Ids,Idss]
structure GTrap_kept where
  index:Int
  now:Int
  was:Int
abbrev GTrap_kept.sv (t:GTrap_kept):SV:=.agg [.int .i64 t.index,.int .i64 t.now,.int .i64 t.was]
def GTrap_kept.dec {α:Type} (v:SV) (k:GTrap_kept→R α):R α:=match v with
  | .agg [a0,a1,a2]=>decI .i64 a0 fun x0=>decI .i64 a1 fun x1=>decI .i64 a2 fun x2=>k ⟨x0,x1,x2⟩
  | _=>none
theorem GTrap_kept.dec_spec {α:Type} {v:SV} {k:GTrap_kept→R α} {r:α} (h:GTrap_kept.dec v k=some r):∃t:GTrap_kept,v=t.sv∧k t=some r:=by
  unfold GTrap_kept.dec at h
  split at h<;>try (cases h; done)
  obtain ⟨x0,rfl,h0⟩:=decI_spec h
  obtain ⟨x1,rfl,h1⟩:=decI_spec h0
  obtain ⟨x2,rfl,h2⟩:=decI_spec h1
  exact ⟨⟨x0,x1,x2⟩,rfl,h2⟩
theorem GTrap_kept.ids (t:GTrap_kept) {p:Nat→Prop}:Ids p t.sv:=by simp [Ids,Idss]
structure GDecode_parts where
  w:Int
  rd:Int
  f3:Int
  rs1:Int
  rs2:Int
  f7:Int
abbrev GDecode_parts.sv (t:GDecode_parts):SV:=.agg [.int .u32 t.w,.int .i64 t.rd,.int .i64 t.f3,.int .i64 t.rs1,.int .i64 t.rs2,.int .i64 t.f7]
def GDecode_parts.dec {α:Type} (v:SV) (k:GDecode_parts→R α):R α:=match v with
  | .agg [a0,a1,a2,a3,a4,a5]=>decI .u32 a0 fun x0=>decI .i64 a1 fun x1=>decI .i64 a2 fun x2=>decI .i64 a3 fun x3=>decI .i64 a4 fun x4=>decI .i64 a5 fun x5=>k ⟨x0,x1,x2,x3,x4,x5⟩
  | _=>none
theorem GDecode_parts.dec_spec {α:Type} {v:SV} {k:GDecode_parts→R α} {r:α} (h:GDecode_parts.dec v k=some r):∃t:GDecode_parts,v=t.sv∧k t=some r:=by
  unfold GDecode_parts.dec at h
  split at h<;>try (cases h; done)
  obtain ⟨x0,rfl,h0⟩:=decI_spec h
  obtain ⟨x1,rfl,h1⟩:=decI_spec h0
  obtain ⟨x2,rfl,h2⟩:=decI_spec h1
  obtain ⟨x3,rfl,h3⟩:=decI_spec h2
  obtain ⟨x4,rfl,h4⟩:=decI_spec h3
  obtain ⟨x5,rfl,h5⟩:=decI_spec h4
  exact ⟨⟨x0,x1,x2,x3,x4,x5⟩,rfl,h5⟩
theorem GDecode_parts.ids (t:GDecode_parts) {p:Nat→Prop}:Ids p t.sv:=by simp [Ids,Idss]
structure GInsn_Fields where
  Rd:Bool
  CSR:Bool
  Rs1:Bool
  Rs2:Bool
  Low:Int
  High:Int
  Step:Int
abbrev GInsn_Fields.sv (t:GInsn_Fields):SV:=.agg [.bool t.Rd,.bool t.CSR,.bool t.Rs1,.bool t.Rs2,.int .i64 t.Low,.int .i64 t.High,.int .i64 t.Step]
def GInsn_Fields.dec {α:Type} (v:SV) (k:GInsn_Fields→R α):R α:=match v with
  | .agg [a0,a1,a2,a3,a4,a5,a6]=>decB a0 fun x0=>decB a1 fun x1=>decB a2 fun x2=>decB a3 fun x3=>decI .i64 a4 fun x4=>decI .i64 a5 fun x5=>decI .i64 a6 fun x6=>k ⟨x0,x1,x2,x3,x4,x5,x6⟩
  | _=>none
theorem GInsn_Fields.dec_spec {α:Type} {v:SV} {k:GInsn_Fields→R α} {r:α} (h:GInsn_Fields.dec v k=some r):∃t:GInsn_Fields,v=t.sv∧k t=some r:=by
  unfold GInsn_Fields.dec at h
  split at h<;>try (cases h; done)
  obtain ⟨x0,rfl,h0⟩:=decB_spec h
  obtain ⟨x1,rfl,h1⟩:=decB_spec h0
  obtain ⟨x2,rfl,h2⟩:=decB_spec h1
  obtain ⟨x3,rfl,h3⟩:=decB_spec h2
  obtain ⟨x4,rfl,h4⟩:=decI_spec h3
  obtain ⟨x5,rfl,h5⟩:=decI_spec h4
  obtain ⟨x6,rfl,h6⟩:=decI_spec h5
  exact ⟨⟨x0,x1,x2,x3,x4,x5,x6⟩,rfl,h6⟩
theorem GInsn_Fields.ids (t:GInsn_Fields) {p:Nat→Prop}:Ids p t.sv:=by simp [Ids,Idss]
structure GMachine where
  s:GState
  b:GBus
  steps:Int
structure GRBus where
  m:(Nat→Int)
  time:Int
  alarm:Int
  inp:(Nat→ByteArray)
  typed:(Nat→Int)
  outp:(Nat→ByteArray)
  bare:Bool
abbrev Sg_z1i (α:Type):=GState→Bool→Bool→(Int→R α)→R α
def ad_z1i {α:Type} (F:Sg_z1i α):FP α:=fun args k=>match args with
  | [a0,a1,a2]=>GState.dec a0 fun x0=>decB a1 fun x1=>decB a2 fun x2=>F x0 x1 x2 (fun r0=>k (.int .u64 r0))
  | _=>none
def dR_csr_Pending {α:Type} (a0:SV) (k:Int→R α):R α:=decI .u64 a0 fun x0=>k x0
theorem dR_csr_Pending_spec {α:Type} {v:SV} {k:Int→R α} {r:α} (h:dR_csr_Pending v k=some r):∃x0,v=(.int .u64 x0)∧k x0=some r:=by
  unfold dR_csr_Pending at h
  obtain ⟨x0,rfl,h0⟩:=decI_spec h
  exact ⟨x0,rfl,h0⟩
def p_z1i {α:Type}  (x0:GState) (x1:Bool) (x2:Bool) (k:Int→R α):R α:=
  cond x1 (
  let t1:Int:=(bitop .or .u64 (x0.C 19) 32)
  cond x2 (
  let t2:Int:=(bitop .or .u64 t1 512)
  k t2) (
  k t1)) (
  cond x2 (
  let t3:Int:=(bitop .or .u64 (x0.C 19) 512)
  k t3) (
  k (x0.C 19)))
abbrev Sg_z12 (α:Type):=GState→Bool→Bool→(Int→R α)→R α
def ad_z12 {α:Type} (F:Sg_z12 α):FP α:=fun args k=>match args with
  | [a0,a1,a2]=>GState.dec a0 fun x0=>decB a1 fun x1=>decB a2 fun x2=>F x0 x1 x2 (fun r0=>k (.int .u64 r0))
  | _=>none
def dR_route_Enabled {α:Type} (a0:SV) (k:Int→R α):R α:=decI .u64 a0 fun x0=>k x0
theorem dR_route_Enabled_spec {α:Type} {v:SV} {k:Int→R α} {r:α} (h:dR_route_Enabled v k=some r):∃x0,v=(.int .u64 x0)∧k x0=some r:=by
  unfold dR_route_Enabled at h
  obtain ⟨x0,rfl,h0⟩:=decI_spec h
  exact ⟨x0,rfl,h0⟩
def p_z12 {α:Type} (F_z1i:Sg_z1i α) (x0:GState) (x1:Bool) (x2:Bool) (k:Int→R α):R α:=
  F_z1i x0 x1 x2 (fun r1=>
  let t2:Int:=(bitop .and .u64 r1 (x0.C 3))
  k t2)
abbrev Sg_zr (α:Type):=Int→Int→(Int→Int→R α)→R α
def ad_zr {α:Type} (F:Sg_zr α):FP α:=fun args k=>match args with
  | [a0,a1]=>decI .i64 a0 fun x0=>decI .i64 a1 fun x1=>F x0 x1 (fun r0 r1=>k (.tuple [(.int .i64 r0),(.int .i64 r1)]))
  | _=>none
def dR_word_part {α:Type} (v:SV) (k:Int→Int→R α):R α:=match v with
  | .tuple [a0,a1]=>decI .i64 a0 fun x0=>decI .i64 a1 fun x1=>k x0 x1
  | _=>none
theorem dR_word_part_spec {α:Type} {v:SV} {k:Int→Int→R α} {r:α} (h:dR_word_part v k=some r):∃x0 x1,v=(.tuple [(.int .i64 x0),(.int .i64 x1)])∧k x0 x1=some r:=by
  unfold dR_word_part at h
  split at h<;>try (cases h; done)
  obtain ⟨x0,rfl,h0⟩:=decI_spec h
  obtain ⟨x1,rfl,h1⟩:=decI_spec h0
  exact ⟨x0,x1,rfl,h1⟩
def p_zr {α:Type}  (x0:Int) (x1:Int) (k:Int→Int→R α):R α:=
  let t1:Int:=(pickmx true x0 0)
  let t2:Int:=(pickmx false t1 63)
  let t3:Int:=(pickmx true x1 0)
  let t4:Int:=(IntKind.i64.wrap (64 - t2))
  let t5:Int:=(pickmx false t3 t4)
  k t2 t5
abbrev Sg_zg (α:Type):=Int→(Int→R α)→R α
def ad_zg {α:Type} (F:Sg_zg α):FP α:=fun args k=>match args with
  | [a0]=>decI .i64 a0 fun x0=>F x0 (fun r0=>k (.int .u64 r0))
  | _=>none
def dR_word_mask {α:Type} (a0:SV) (k:Int→R α):R α:=decI .u64 a0 fun x0=>k x0
theorem dR_word_mask_spec {α:Type} {v:SV} {k:Int→R α} {r:α} (h:dR_word_mask v k=some r):∃x0,v=(.int .u64 x0)∧k x0=some r:=by
  unfold dR_word_mask at h
  obtain ⟨x0,rfl,h0⟩:=decI_spec h
  exact ⟨x0,rfl,h0⟩
def p_zg {α:Type}  (x0:Int) (k:Int→R α):R α:=
  let b1:Bool:=(leB 64 x0)
  cond b1 (
  k 18446744073709551615) (
  cond (decide (x0 < 0)) none (
  let t2:Int:=(gshl .u64 1 x0)
  let t3:Int:=(IntKind.u64.wrap (t2 - 1))
  k t3))
abbrev Sg_z1 (α:Type):=Int→Int→Int→(Int→R α)→R α
def ad_z1 {α:Type} (F:Sg_z1 α):FP α:=fun args k=>match args with
  | [a0,a1,a2]=>decI .u64 a0 fun x0=>decI .i64 a1 fun x1=>decI .i64 a2 fun x2=>F x0 x1 x2 (fun r0=>k (.int .u64 r0))
  | _=>none
def dR_word_Bits {α:Type} (a0:SV) (k:Int→R α):R α:=decI .u64 a0 fun x0=>k x0
theorem dR_word_Bits_spec {α:Type} {v:SV} {k:Int→R α} {r:α} (h:dR_word_Bits v k=some r):∃x0,v=(.int .u64 x0)∧k x0=some r:=by
  unfold dR_word_Bits at h
  obtain ⟨x0,rfl,h0⟩:=decI_spec h
  exact ⟨x0,rfl,h0⟩
def p_z1 {α:Type} (F_zr:Sg_zr α) (F_zg:Sg_zg α) (x0:Int) (x1:Int) (x2:Int) (k:Int→R α):R α:=
  F_zr x1 x2 (fun r1 r2=>
  cond (decide (r1 < 0)) none (
  let t3:Int:=(gshr .u64 x0 r1)
  F_zg r2 (fun r4=>
  let t5:Int:=(bitop .and .u64 t3 r4)
  k t5)))
abbrev Sg_z3 (α:Type):=GState→Int→Int→(Bool→R α)→R α
def ad_z3 {α:Type} (F:Sg_z3 α):FP α:=fun args k=>match args with
  | [a0,a1,a2]=>GState.dec a0 fun x0=>decI .i64 a1 fun x1=>decI .i64 a2 fun x2=>F x0 x1 x2 (fun r0=>k (.bool r0))
  | _=>none
def dR_csr_Bit {α:Type} (a0:SV) (k:Bool→R α):R α:=decB a0 fun x0=>k x0
theorem dR_csr_Bit_spec {α:Type} {v:SV} {k:Bool→R α} {r:α} (h:dR_csr_Bit v k=some r):∃x0,v=(.bool x0)∧k x0=some r:=by
  unfold dR_csr_Bit at h
  obtain ⟨x0,rfl,h0⟩:=decB_spec h
  exact ⟨x0,rfl,h0⟩
def p_z3 {α:Type} (F_z1:Sg_z1 α) (x0:GState) (x1:Int) (x2:Int) (k:Bool→R α):R α:=
  cond (decide (0≤x1) && decide (x1 < 29)) (
  cond (decide ((Int.toNat x1) < 29)) (
  F_z1 (x0.C (Int.toNat x1)) x2 1 (fun r1=>
  let b2:Bool:=(r1==1)
  k b2)) none) none
abbrev Sg_zh (α:Type):=GState→GRoute_turn→(Bool→R α)→R α
def ad_zh {α:Type} (F:Sg_zh α):FP α:=fun args k=>match args with
  | [a0,a1]=>GState.dec a0 fun x0=>GRoute_turn.dec a1 fun x1=>F x0 x1 (fun r0=>k (.bool r0))
  | _=>none
def dR_route_open {α:Type} (a0:SV) (k:Bool→R α):R α:=decB a0 fun x0=>k x0
theorem dR_route_open_spec {α:Type} {v:SV} {k:Bool→R α} {r:α} (h:dR_route_open v k=some r):∃x0,v=(.bool x0)∧k x0=some r:=by
  unfold dR_route_open at h
  obtain ⟨x0,rfl,h0⟩:=decB_spec h
  exact ⟨x0,rfl,h0⟩
def p_zh {α:Type} (F_z3:Sg_z3 α) (x0:GState) (x1:GRoute_turn) (k:Bool→R α):R α:=
  let b1:Bool:=(x1.level==3)
  cond b1 (
  let b2:Bool:=(x0.Level !=3)
  cond b2 (
  k true) (
  F_z3 x0 0 3 (fun r3=>
  k r3))) (
  let b4:Bool:=(x0.Level==3)
  cond b4 (
  k false) (
  cond x1.v (
  let b5:Bool:=(!x0.V)
  cond b5 (
  k false) (
  cond x1.v (
  let b6:Bool:=(x0.Level==0)
  cond b6 (
  k true) (
  F_z3 x0 22 1 (fun r7=>
  k r7))) (
  cond x0.V (
  k true) (
  let b8:Bool:=(x0.Level==0)
  cond b8 (
  k true) (
  F_z3 x0 0 1 (fun r9=>
  k r9)))))) (
  cond x1.v (
  let b10:Bool:=(x0.Level==0)
  cond b10 (
  k true) (
  F_z3 x0 22 1 (fun r11=>
  k r11))) (
  cond x0.V (
  k true) (
  let b12:Bool:=(x0.Level==0)
  cond b12 (
  k true) (
  F_z3 x0 0 1 (fun r13=>
  k r13)))))))
abbrev Sg_z24 (α:Type):=GState→Bool→Bool→(Int→Int→Bool→Bool→R α)→R α
def ad_z24 {α:Type} (F:Sg_z24 α):FP α:=fun args k=>match args with
  | [a0,a1,a2]=>GState.dec a0 fun x0=>decB a1 fun x1=>decB a2 fun x2=>F x0 x1 x2 (fun r0 r1 r2 r3=>k (.tuple [(.int .u64 r0),(.int .i64 r1),(.bool r2),(.bool r3)]))
  | _=>none
def dR_route_Interrupt {α:Type} (v:SV) (k:Int→Int→Bool→Bool→R α):R α:=match v with
  | .tuple [a0,a1,a2,a3]=>decI .u64 a0 fun x0=>decI .i64 a1 fun x1=>decB a2 fun x2=>decB a3 fun x3=>k x0 x1 x2 x3
  | _=>none
theorem dR_route_Interrupt_spec {α:Type} {v:SV} {k:Int→Int→Bool→Bool→R α} {r:α} (h:dR_route_Interrupt v k=some r):∃x0 x1 x2 x3,v=(.tuple [(.int .u64 x0),(.int .i64 x1),(.bool x2),(.bool x3)])∧k x0 x1 x2 x3=some r:=by
  unfold dR_route_Interrupt at h
  split at h<;>try (cases h; done)
  obtain ⟨x0,rfl,h0⟩:=decI_spec h
  obtain ⟨x1,rfl,h1⟩:=decI_spec h0
  obtain ⟨x2,rfl,h2⟩:=decB_spec h1
  obtain ⟨x3,rfl,h3⟩:=decB_spec h2
  exact ⟨x0,x1,x2,x3,rfl,h3⟩
def q_route_Interrupt_1 {α:Type} (F_z1:Sg_z1 α) (F_z3:Sg_z3 α) (F_zh:Sg_zh α) (x0:GState) (k:Int→Int→Bool→Bool→R α) (r1:Int):R α:=
  F_z1 r1 6 1 (fun r16=>
  let b17:Bool:=(r16==0)
  cond b17 (
  k 0 0 false false) (
  F_z3 x0 18 6 (fun r18=>
  let b19:Bool:=(!(r18==true))
  cond b19 (
  k 0 0 false false) (
  F_zh x0 (GRoute_turn.mk 6 18 true 1 true) (fun r20=>
  let b21:Bool:=(!r20)
  cond b21 (
  k 0 0 false false) (
  k 9223372036854775813 1 true true))))))
def q_route_Interrupt_2 {α:Type} (F_z1:Sg_z1 α) (F_z3:Sg_z3 α) (F_zh:Sg_zh α) (x0:GState) (k:Int→Int→Bool→Bool→R α) (r1:Int):R α:=
  F_z1 r1 10 1 (fun r14=>
  let b15:Bool:=(r14==0)
  cond b15 (
  q_route_Interrupt_1 F_z1 F_z3 F_zh x0 k r1) (
  F_z3 x0 18 10 (fun r22=>
  let b23:Bool:=(!(r22==true))
  cond b23 (
  q_route_Interrupt_1 F_z1 F_z3 F_zh x0 k r1) (
  F_zh x0 (GRoute_turn.mk 10 18 true 1 true) (fun r30=>
  let b31:Bool:=(!r30)
  cond b31 (
  q_route_Interrupt_1 F_z1 F_z3 F_zh x0 k r1) (
  k 9223372036854775817 1 true true))))))
def q_route_Interrupt_3 {α:Type} (F_z1:Sg_z1 α) (F_z3:Sg_z3 α) (F_zh:Sg_zh α) (x0:GState) (k:Int→Int→Bool→Bool→R α) (r1:Int):R α:=
  F_z1 r1 6 1 (fun r12=>
  let b13:Bool:=(r12==0)
  cond b13 (
  q_route_Interrupt_2 F_z1 F_z3 F_zh x0 k r1) (
  F_z3 x0 18 6 (fun r38=>
  let b39:Bool:=(!(r38==false))
  cond b39 (
  q_route_Interrupt_2 F_z1 F_z3 F_zh x0 k r1) (
  F_zh x0 (GRoute_turn.mk 6 18 false 1 false) (fun r64=>
  let b65:Bool:=(!r64)
  cond b65 (
  q_route_Interrupt_2 F_z1 F_z3 F_zh x0 k r1) (
  k 9223372036854775814 1 false true))))))
def q_route_Interrupt_4 {α:Type} (F_z1:Sg_z1 α) (F_z3:Sg_z3 α) (F_zh:Sg_zh α) (x0:GState) (k:Int→Int→Bool→Bool→R α) (r1:Int):R α:=
  F_z1 r1 10 1 (fun r10=>
  let b11:Bool:=(r10==0)
  cond b11 (
  q_route_Interrupt_3 F_z1 F_z3 F_zh x0 k r1) (
  F_z3 x0 18 10 (fun r90=>
  let b91:Bool:=(!(r90==false))
  cond b91 (
  q_route_Interrupt_3 F_z1 F_z3 F_zh x0 k r1) (
  F_zh x0 (GRoute_turn.mk 10 18 false 1 false) (fun r170=>
  let b171:Bool:=(!r170)
  cond b171 (
  q_route_Interrupt_3 F_z1 F_z3 F_zh x0 k r1) (
  k 9223372036854775818 1 false true))))))
def q_route_Interrupt_5 {α:Type} (F_z1:Sg_z1 α) (F_z3:Sg_z3 α) (F_zh:Sg_zh α) (x0:GState) (k:Int→Int→Bool→Bool→R α) (r1:Int):R α:=
  F_z1 r1 5 1 (fun r8=>
  let b9:Bool:=(r8==0)
  cond b9 (
  q_route_Interrupt_4 F_z1 F_z3 F_zh x0 k r1) (
  F_z3 x0 2 5 (fun r250=>
  let b251:Bool:=(!(r250==true))
  cond b251 (
  q_route_Interrupt_4 F_z1 F_z3 F_zh x0 k r1) (
  F_zh x0 (GRoute_turn.mk 5 2 true 1 false) (fun r492=>
  let b493:Bool:=(!r492)
  cond b493 (
  q_route_Interrupt_4 F_z1 F_z3 F_zh x0 k r1) (
  k 9223372036854775813 1 false true))))))
def q_route_Interrupt_6 {α:Type} (F_z1:Sg_z1 α) (F_z3:Sg_z3 α) (F_zh:Sg_zh α) (x0:GState) (k:Int→Int→Bool→Bool→R α) (r1:Int):R α:=
  F_z1 r1 9 1 (fun r6=>
  let b7:Bool:=(r6==0)
  cond b7 (
  q_route_Interrupt_5 F_z1 F_z3 F_zh x0 k r1) (
  F_z3 x0 2 9 (fun r734=>
  let b735:Bool:=(!(r734==true))
  cond b735 (
  q_route_Interrupt_5 F_z1 F_z3 F_zh x0 k r1) (
  F_zh x0 (GRoute_turn.mk 9 2 true 1 false) (fun r1462=>
  let b1463:Bool:=(!r1462)
  cond b1463 (
  q_route_Interrupt_5 F_z1 F_z3 F_zh x0 k r1) (
  k 9223372036854775817 1 false true))))))
def q_route_Interrupt_7 {α:Type} (F_z1:Sg_z1 α) (F_z3:Sg_z3 α) (F_zh:Sg_zh α) (x0:GState) (k:Int→Int→Bool→Bool→R α) (r1:Int):R α:=
  F_z1 r1 5 1 (fun r4=>
  let b5:Bool:=(r4==0)
  cond b5 (
  q_route_Interrupt_6 F_z1 F_z3 F_zh x0 k r1) (
  F_z3 x0 2 5 (fun r2190=>
  let b2191:Bool:=(!(r2190==false))
  cond b2191 (
  q_route_Interrupt_6 F_z1 F_z3 F_zh x0 k r1) (
  F_zh x0 (GRoute_turn.mk 5 2 false 3 false) (fun r4376=>
  let b4377:Bool:=(!r4376)
  cond b4377 (
  q_route_Interrupt_6 F_z1 F_z3 F_zh x0 k r1) (
  k 9223372036854775813 3 false true))))))
def p_z24 {α:Type} (F_z12:Sg_z12 α) (F_z1:Sg_z1 α) (F_z3:Sg_z3 α) (F_zh:Sg_zh α) (x0:GState) (x1:Bool) (x2:Bool) (k:Int→Int→Bool→Bool→R α):R α:=
  F_z12 x0 x1 x2 (fun r1=>
  F_z1 r1 9 1 (fun r2=>
  let b3:Bool:=(r2==0)
  cond b3 (
  q_route_Interrupt_7 F_z1 F_z3 F_zh x0 k r1) (
  F_z3 x0 2 9 (fun r6562=>
  let b6563:Bool:=(!(r6562==false))
  cond b6563 (
  q_route_Interrupt_7 F_z1 F_z3 F_zh x0 k r1) (
  F_zh x0 (GRoute_turn.mk 9 2 false 3 false) (fun r13122=>
  let b13123:Bool:=(!r13122)
  cond b13123 (
  q_route_Interrupt_7 F_z1 F_z3 F_zh x0 k r1) (
  k 9223372036854775817 3 false true)))))))
abbrev Sg_z1b (α:Type):=GTrap_told→GState→GFault→(GState→R α)→R α
def ad_z1b {α:Type} (F:Sg_z1b α):FP α:=fun args k=>match args with
  | [a0,a1,a2]=>GTrap_told.dec a0 fun x0=>GState.dec a1 fun x1=>GFault.dec a2 fun x2=>F x0 x1 x2 (fun r0=>k (GState.sv r0))
  | _=>none
def dR_trap_told_enter {α:Type} (a0:SV) (k:GState→R α):R α:=GState.dec a0 fun x0=>k x0
theorem dR_trap_told_enter_spec {α:Type} {v:SV} {k:GState→R α} {r:α} (h:dR_trap_told_enter v k=some r):∃x0,v=(GState.sv x0)∧k x0=some r:=by
  unfold dR_trap_told_enter at h
  obtain ⟨x0,rfl,h0⟩:=GState.dec_spec h
  exact ⟨x0,rfl,h0⟩
def p_z1b {α:Type}  (x0:GTrap_told) (x1:GState) (x2:GFault) (k:GState→R α):R α:=
  cond (decide (0≤x0.pc) && decide (x0.pc < 29)) (
  cond (decide ((Int.toNat x0.pc) < 29)) (
  cond (decide (0≤x0.cause) && decide (x0.cause < 29)) (
  cond (decide ((Int.toNat x0.cause) < 29)) (
  cond (decide (0≤x0.value) && decide (x0.value < 29)) (
  cond (decide ((Int.toNat x0.value) < 29)) (
  let b1:Bool:=(leB 0 x0.place)
  cond b1 (
  cond (decide (0≤x0.place) && decide (x0.place < 29)) (
  cond (decide ((Int.toNat x0.place) < 29)) (
  cond (decide (0≤x0.at_) && decide (x0.at_ < 29)) (
  cond (decide ((Int.toNat x0.at_) < 29)) (
  k (GState.mk x1.X ((upd (upd (upd (upd x1.C (Int.toNat x0.pc) x1.PC) (Int.toNat x0.cause) x2.Cause) (Int.toNat x0.value) x2.Value) (Int.toNat x0.place) x2.Place) (Int.toNat x0.at_)) x1.Level x1.V (upd (upd (upd (upd x1.C (Int.toNat x0.pc) x1.PC) (Int.toNat x0.cause) x2.Cause) (Int.toNat x0.value) x2.Value) (Int.toNat x0.place) x2.Place) x1.Done)) none) none) none) none) (
  cond (decide (0≤x0.at_) && decide (x0.at_ < 29)) (
  cond (decide ((Int.toNat x0.at_) < 29)) (
  k (GState.mk x1.X ((upd (upd (upd x1.C (Int.toNat x0.pc) x1.PC) (Int.toNat x0.cause) x2.Cause) (Int.toNat x0.value) x2.Value) (Int.toNat x0.at_)) x1.Level x1.V (upd (upd (upd x1.C (Int.toNat x0.pc) x1.PC) (Int.toNat x0.cause) x2.Cause) (Int.toNat x0.value) x2.Value) x1.Done)) none) none)) none) none) none) none) none) none
abbrev Sg_zb (α:Type):=Int→Int→Int→Int→(Int→R α)→R α
def ad_zb {α:Type} (F:Sg_zb α):FP α:=fun args k=>match args with
  | [a0,a1,a2,a3]=>decI .u64 a0 fun x0=>decI .i64 a1 fun x1=>decI .i64 a2 fun x2=>decI .u64 a3 fun x3=>F x0 x1 x2 x3 (fun r0=>k (.int .u64 r0))
  | _=>none
def dR_word_Set {α:Type} (a0:SV) (k:Int→R α):R α:=decI .u64 a0 fun x0=>k x0
theorem dR_word_Set_spec {α:Type} {v:SV} {k:Int→R α} {r:α} (h:dR_word_Set v k=some r):∃x0,v=(.int .u64 x0)∧k x0=some r:=by
  unfold dR_word_Set at h
  obtain ⟨x0,rfl,h0⟩:=decI_spec h
  exact ⟨x0,rfl,h0⟩
def p_zb {α:Type} (F_zr:Sg_zr α) (F_zg:Sg_zg α) (x0:Int) (x1:Int) (x2:Int) (x3:Int) (k:Int→R α):R α:=
  F_zr x1 x2 (fun r1 r2=>
  F_zg r2 (fun r3=>
  cond (decide (r1 < 0)) none (
  let t4:Int:=(gshl .u64 r3 r1)
  let t5:Int:=(bitop .andNot .u64 x0 t4)
  F_zg r2 (fun r6=>
  let t7:Int:=(bitop .and .u64 x3 r6)
  cond (decide (r1 < 0)) none (
  let t8:Int:=(gshl .u64 t7 r1)
  let t9:Int:=(bitop .or .u64 t5 t8)
  k t9)))))
abbrev Sg_z7 (α:Type):=GState→Int→Int→Bool→(GState→R α)→R α
def ad_z7 {α:Type} (F:Sg_z7 α):FP α:=fun args k=>match args with
  | [a0,a1,a2,a3]=>GState.dec a0 fun x0=>decI .i64 a1 fun x1=>decI .i64 a2 fun x2=>decB a3 fun x3=>F x0 x1 x2 x3 (fun r0=>k (GState.sv r0))
  | _=>none
def dR_csr_Put {α:Type} (a0:SV) (k:GState→R α):R α:=GState.dec a0 fun x0=>k x0
theorem dR_csr_Put_spec {α:Type} {v:SV} {k:GState→R α} {r:α} (h:dR_csr_Put v k=some r):∃x0,v=(GState.sv x0)∧k x0=some r:=by
  unfold dR_csr_Put at h
  obtain ⟨x0,rfl,h0⟩:=GState.dec_spec h
  exact ⟨x0,rfl,h0⟩
def p_z7 {α:Type} (F_zb:Sg_zb α) (x0:GState) (x1:Int) (x2:Int) (x3:Bool) (k:GState→R α):R α:=
  cond x3 (
  cond (decide (0≤x1) && decide (x1 < 29)) (
  cond (decide ((Int.toNat x1) < 29)) (
  F_zb (x0.C (Int.toNat x1)) x2 1 1 (fun r1=>
  cond (decide (0≤x1) && decide (x1 < 29)) (
  cond (decide ((Int.toNat x1) < 29)) (
  k (GState.mk x0.X x0.PC x0.Level x0.V (upd x0.C (Int.toNat x1) r1) x0.Done)) none) none)) none) none) (
  cond (decide (0≤x1) && decide (x1 < 29)) (
  cond (decide ((Int.toNat x1) < 29)) (
  F_zb (x0.C (Int.toNat x1)) x2 1 0 (fun r2=>
  cond (decide (0≤x1) && decide (x1 < 29)) (
  cond (decide ((Int.toNat x1) < 29)) (
  k (GState.mk x0.X x0.PC x0.Level x0.V (upd x0.C (Int.toNat x1) r2) x0.Done)) none) none)) none) none)
abbrev Sg_zx (α:Type):=GTrap_kept→GState→(GState→R α)→R α
def ad_zx {α:Type} (F:Sg_zx α):FP α:=fun args k=>match args with
  | [a0,a1]=>GTrap_kept.dec a0 fun x0=>GState.dec a1 fun x1=>F x0 x1 (fun r0=>k (GState.sv r0))
  | _=>none
def dR_trap_kept_enter {α:Type} (a0:SV) (k:GState→R α):R α:=GState.dec a0 fun x0=>k x0
theorem dR_trap_kept_enter_spec {α:Type} {v:SV} {k:GState→R α} {r:α} (h:dR_trap_kept_enter v k=some r):∃x0,v=(GState.sv x0)∧k x0=some r:=by
  unfold dR_trap_kept_enter at h
  obtain ⟨x0,rfl,h0⟩:=GState.dec_spec h
  exact ⟨x0,rfl,h0⟩
def p_zx {α:Type} (F_z3:Sg_z3 α) (F_z7:Sg_z7 α) (x0:GTrap_kept) (x1:GState) (k:GState→R α):R α:=
  F_z3 x1 x0.index x0.now (fun r1=>
  F_z7 x1 x0.index x0.was r1 (fun r2=>
  F_z7 r2 x0.index x0.now false (fun r3=>
  k r3)))
abbrev Sg_z1d (α:Type):=GState→Int→Int→(GState→R α)→R α
def ad_z1d {α:Type} (F:Sg_z1d α):FP α:=fun args k=>match args with
  | [a0,a1,a2]=>GState.dec a0 fun x0=>decI .i64 a1 fun x1=>decI .i64 a2 fun x2=>F x0 x1 x2 (fun r0=>k (GState.sv r0))
  | _=>none
def dR_trap_lower {α:Type} (a0:SV) (k:GState→R α):R α:=GState.dec a0 fun x0=>k x0
theorem dR_trap_lower_spec {α:Type} {v:SV} {k:GState→R α} {r:α} (h:dR_trap_lower v k=some r):∃x0,v=(GState.sv x0)∧k x0=some r:=by
  unfold dR_trap_lower at h
  obtain ⟨x0,rfl,h0⟩:=GState.dec_spec h
  exact ⟨x0,rfl,h0⟩
def p_z1d {α:Type} (F_z7:Sg_z7 α) (F_zx:Sg_zx α) (x0:GState) (x1:Int) (x2:Int) (k:GState→R α):R α:=
  let t1:Int:=(bitop .and .i64 x2 1)
  let b2:Bool:=(t1==1)
  F_z7 x0 x1 8 b2 (fun r3=>
  F_zx (GTrap_kept.mk x1 1 5) r3 (fun r4=>
  k r4))
abbrev Sg_zs (α:Type):=GState→GFault→Int→Bool→(GState→R α)→R α
def ad_zs {α:Type} (F:Sg_zs α):FP α:=fun args k=>match args with
  | [a0,a1,a2,a3]=>GState.dec a0 fun x0=>GFault.dec a1 fun x1=>decI .i64 a2 fun x2=>decB a3 fun x3=>F x0 x1 x2 x3 (fun r0=>k (GState.sv r0))
  | _=>none
def dR_trap_Enter {α:Type} (a0:SV) (k:GState→R α):R α:=GState.dec a0 fun x0=>k x0
theorem dR_trap_Enter_spec {α:Type} {v:SV} {k:GState→R α} {r:α} (h:dR_trap_Enter v k=some r):∃x0,v=(GState.sv x0)∧k x0=some r:=by
  unfold dR_trap_Enter at h
  obtain ⟨x0,rfl,h0⟩:=GState.dec_spec h
  exact ⟨x0,rfl,h0⟩
def p_zs {α:Type} (F_z1b:Sg_z1b α) (F_zb:Sg_zb α) (F_z7:Sg_z7 α) (F_zx:Sg_zx α) (F_z1d:Sg_z1d α) (x0:GState) (x1:GFault) (x2:Int) (x3:Bool) (k:GState→R α):R α:=
  let b1:Bool:=((x2==3) && ((x3==false) && true))
  cond b1 (
  F_z1b (GTrap_told.mk 6 7 8 9 4) x0 x1 (fun r2=>
  let t3:Int:=(IntKind.u64.wrap x0.Level)
  F_zb (r2.C 0) 11 2 t3 (fun r4=>
  F_z7 (GState.mk r2.X r2.PC r2.Level r2.V (upd r2.C 0 r4) r2.Done) 0 39 x0.V (fun r5=>
  F_z7 r5 0 38 x1.GVA (fun r6=>
  F_zx (GTrap_kept.mk 0 3 7) r6 (fun r7=>
  k (GState.mk r7.X r7.PC x2 x3 r7.C r7.Done))))))) (
  let b8:Bool:=((x2==1) && ((x3==false) && true))
  cond b8 (
  F_z1b (GTrap_told.mk 12 13 14 20 10) x0 x1 (fun r9=>
  F_z1d r9 0 x0.Level (fun r10=>
  F_z7 r10 16 7 x0.V (fun r11=>
  F_z7 r11 16 6 x1.GVA (fun r12=>
  cond x0.V (
  let t13:Int:=(bitop .and .i64 x0.Level 1)
  let b14:Bool:=(t13==1)
  F_z7 r12 16 8 b14 (fun r15=>
  k (GState.mk r15.X r15.PC x2 x3 r15.C r15.Done))) (
  k (GState.mk r12.X r12.PC x2 x3 r12.C r12.Done))))))) (
  let b16:Bool:=((x2==1) && ((x3==true) && true))
  cond b16 (
  cond x0.V (
  F_z1b (GTrap_told.mk 25 26 27 (-1) 23) x0 x1 (fun r17=>
  F_z1d r17 22 x0.Level (fun r18=>
  k (GState.mk r18.X r18.PC x2 x3 r18.C r18.Done)))) (
  k x0)) (
  k x0)))
abbrev Sg_z25 (α:Type):=GState→Int→Int→Bool→(GState→GRetire→R α)→R α
def ad_z25 {α:Type} (F:Sg_z25 α):FP α:=fun args k=>match args with
  | [a0,a1,a2,a3]=>GState.dec a0 fun x0=>decI .u64 a1 fun x1=>decI .i64 a2 fun x2=>decB a3 fun x3=>F x0 x1 x2 x3 (fun r0 r1=>k (.tuple [(GState.sv r0),(GRetire.sv r1)]))
  | _=>none
def dR_exec_Interrupt {α:Type} (v:SV) (k:GState→GRetire→R α):R α:=match v with
  | .tuple [a0,a1]=>GState.dec a0 fun x0=>GRetire.dec a1 fun x1=>k x0 x1
  | _=>none
theorem dR_exec_Interrupt_spec {α:Type} {v:SV} {k:GState→GRetire→R α} {r:α} (h:dR_exec_Interrupt v k=some r):∃x0 x1,v=(.tuple [(GState.sv x0),(GRetire.sv x1)])∧k x0 x1=some r:=by
  unfold dR_exec_Interrupt at h
  split at h<;>try (cases h; done)
  obtain ⟨x0,rfl,h0⟩:=GState.dec_spec h
  obtain ⟨x1,rfl,h1⟩:=GRetire.dec_spec h0
  exact ⟨x0,x1,rfl,h1⟩
def p_z25 {α:Type} (F_zs:Sg_zs α) (x0:GState) (x1:Int) (x2:Int) (x3:Bool) (k:GState→GRetire→R α):R α:=
  F_zs x0 (GFault.mk x1 0 0 false) x2 x3 (fun r1=>
  k r1 (GRetire.mk x0.PC 0 0 0 true (GFault.mk x1 0 0 false) x2 x3 false))
abbrev Sg_z1e (α:Type):=GState→Int→Int→(Bool→R α)→R α
def ad_z1e {α:Type} (F:Sg_z1e α):FP α:=fun args k=>match args with
  | [a0,a1,a2]=>GState.dec a0 fun x0=>decI .i64 a1 fun x1=>decI .u64 a2 fun x2=>F x0 x1 x2 (fun r0=>k (.bool r0))
  | _=>none
def dR_route_has {α:Type} (a0:SV) (k:Bool→R α):R α:=decB a0 fun x0=>k x0
theorem dR_route_has_spec {α:Type} {v:SV} {k:Bool→R α} {r:α} (h:dR_route_has v k=some r):∃x0,v=(.bool x0)∧k x0=some r:=by
  unfold dR_route_has at h
  obtain ⟨x0,rfl,h0⟩:=decB_spec h
  exact ⟨x0,rfl,h0⟩
def p_z1e {α:Type} (F_z1:Sg_z1 α) (x0:GState) (x1:Int) (x2:Int) (k:Bool→R α):R α:=
  let b1:Bool:=(leB x2 63)
  cond b1 (
  cond (decide (0≤x1) && decide (x1 < 29)) (
  cond (decide ((Int.toNat x1) < 29)) (
  let t2:Int:=(IntKind.i64.wrap x2)
  F_z1 (x0.C (Int.toNat x1)) t2 1 (fun r3=>
  let b4:Bool:=(r3==1)
  k b4)) none) none) (
  k false)
abbrev Sg_z1j (α:Type):=GState→Int→(Int→Bool→R α)→R α
def ad_z1j {α:Type} (F:Sg_z1j α):FP α:=fun args k=>match args with
  | [a0,a1]=>GState.dec a0 fun x0=>decI .u64 a1 fun x1=>F x0 x1 (fun r0 r1=>k (.tuple [(.int .i64 r0),(.bool r1)]))
  | _=>none
def dR_route_Exception {α:Type} (v:SV) (k:Int→Bool→R α):R α:=match v with
  | .tuple [a0,a1]=>decI .i64 a0 fun x0=>decB a1 fun x1=>k x0 x1
  | _=>none
theorem dR_route_Exception_spec {α:Type} {v:SV} {k:Int→Bool→R α} {r:α} (h:dR_route_Exception v k=some r):∃x0 x1,v=(.tuple [(.int .i64 x0),(.bool x1)])∧k x0 x1=some r:=by
  unfold dR_route_Exception at h
  split at h<;>try (cases h; done)
  obtain ⟨x0,rfl,h0⟩:=decI_spec h
  obtain ⟨x1,rfl,h1⟩:=decB_spec h0
  exact ⟨x0,x1,rfl,h1⟩
def p_z1j {α:Type} (F_z1e:Sg_z1e α) (x0:GState) (x1:Int) (k:Int→Bool→R α):R α:=
  let b1:Bool:=(x0.Level==3)
  cond b1 (
  k 3 false) (
  F_z1e x0 1 x1 (fun r2=>
  let b3:Bool:=(!r2)
  cond b3 (
  k 3 false) (
  cond x0.V (
  F_z1e x0 17 x1 (fun r4=>
  cond r4 (
  k 1 true) (
  k 1 false))) (
  k 1 false))))
abbrev Sg_z20 (α:Type):=GState→GFault→Int→(GState→GRetire→R α)→R α
def ad_z20 {α:Type} (F:Sg_z20 α):FP α:=fun args k=>match args with
  | [a0,a1,a2]=>GState.dec a0 fun x0=>GFault.dec a1 fun x1=>decI .u32 a2 fun x2=>F x0 x1 x2 (fun r0 r1=>k (.tuple [(GState.sv r0),(GRetire.sv r1)]))
  | _=>none
def dR_exec_Fault {α:Type} (v:SV) (k:GState→GRetire→R α):R α:=match v with
  | .tuple [a0,a1]=>GState.dec a0 fun x0=>GRetire.dec a1 fun x1=>k x0 x1
  | _=>none
theorem dR_exec_Fault_spec {α:Type} {v:SV} {k:GState→GRetire→R α} {r:α} (h:dR_exec_Fault v k=some r):∃x0 x1,v=(.tuple [(GState.sv x0),(GRetire.sv x1)])∧k x0 x1=some r:=by
  unfold dR_exec_Fault at h
  split at h<;>try (cases h; done)
  obtain ⟨x0,rfl,h0⟩:=GState.dec_spec h
  obtain ⟨x1,rfl,h1⟩:=GRetire.dec_spec h0
  exact ⟨x0,x1,rfl,h1⟩
def p_z20 {α:Type} (F_z1j:Sg_z1j α) (F_zs:Sg_zs α) (x0:GState) (x1:GFault) (x2:Int) (k:GState→GRetire→R α):R α:=
  F_z1j x0 x1.Cause (fun r1 r2=>
  F_zs x0 x1 r1 r2 (fun r3=>
  k r3 (GRetire.mk x0.PC x2 0 0 true x1 r1 r2 false)))
abbrev Sg_z1k (α:Type):=Int→(GDecode_parts→R α)→R α
def ad_z1k {α:Type} (F:Sg_z1k α):FP α:=fun args k=>match args with
  | [a0]=>decI .u32 a0 fun x0=>F x0 (fun r0=>k (GDecode_parts.sv r0))
  | _=>none
def dR_decode_of {α:Type} (a0:SV) (k:GDecode_parts→R α):R α:=GDecode_parts.dec a0 fun x0=>k x0
theorem dR_decode_of_spec {α:Type} {v:SV} {k:GDecode_parts→R α} {r:α} (h:dR_decode_of v k=some r):∃x0,v=(GDecode_parts.sv x0)∧k x0=some r:=by
  unfold dR_decode_of at h
  obtain ⟨x0,rfl,h0⟩:=GDecode_parts.dec_spec h
  exact ⟨x0,rfl,h0⟩
def p_z1k {α:Type} (F_z1:Sg_z1 α) (x0:Int) (k:GDecode_parts→R α):R α:=
  let t1:Int:=(IntKind.u64.wrap x0)
  F_z1 t1 7 5 (fun r2=>
  let t3:Int:=(IntKind.i64.wrap r2)
  let t4:Int:=(IntKind.u64.wrap x0)
  F_z1 t4 12 3 (fun r5=>
  let t6:Int:=(IntKind.i64.wrap r5)
  let t7:Int:=(IntKind.u64.wrap x0)
  F_z1 t7 15 5 (fun r8=>
  let t9:Int:=(IntKind.i64.wrap r8)
  let t10:Int:=(IntKind.u64.wrap x0)
  F_z1 t10 20 5 (fun r11=>
  let t12:Int:=(IntKind.i64.wrap r11)
  let t13:Int:=(IntKind.u64.wrap x0)
  F_z1 t13 25 7 (fun r14=>
  let t15:Int:=(IntKind.i64.wrap r14)
  k (GDecode_parts.mk x0 t3 t6 t9 t12 t15))))))
abbrev Sg_za (α:Type):=Int→(Int→R α)→R α
def ad_za {α:Type} (F:Sg_za α):FP α:=fun args k=>match args with
  | [a0]=>decI .u32 a0 fun x0=>F x0 (fun r0=>k (.int .i64 r0))
  | _=>none
def dR_decode_Opcode {α:Type} (a0:SV) (k:Int→R α):R α:=decI .i64 a0 fun x0=>k x0
theorem dR_decode_Opcode_spec {α:Type} {v:SV} {k:Int→R α} {r:α} (h:dR_decode_Opcode v k=some r):∃x0,v=(.int .i64 x0)∧k x0=some r:=by
  unfold dR_decode_Opcode at h
  obtain ⟨x0,rfl,h0⟩:=decI_spec h
  exact ⟨x0,rfl,h0⟩
def p_za {α:Type} (F_z1:Sg_z1 α) (x0:Int) (k:Int→R α):R α:=
  let t1:Int:=(IntKind.u64.wrap x0)
  F_z1 t1 0 7 (fun r2=>
  let t3:Int:=(IntKind.i64.wrap r2)
  k t3)
abbrev Sg_z5 (α:Type):=Int→Int→(Int→R α)→R α
def ad_z5 {α:Type} (F:Sg_z5 α):FP α:=fun args k=>match args with
  | [a0,a1]=>decI .u64 a0 fun x0=>decI .i64 a1 fun x1=>F x0 x1 (fun r0=>k (.int .u64 r0))
  | _=>none
def dR_word_Sext {α:Type} (a0:SV) (k:Int→R α):R α:=decI .u64 a0 fun x0=>k x0
theorem dR_word_Sext_spec {α:Type} {v:SV} {k:Int→R α} {r:α} (h:dR_word_Sext v k=some r):∃x0,v=(.int .u64 x0)∧k x0=some r:=by
  unfold dR_word_Sext at h
  obtain ⟨x0,rfl,h0⟩:=decI_spec h
  exact ⟨x0,rfl,h0⟩
def p_z5 {α:Type}  (x0:Int) (x1:Int) (k:Int→R α):R α:=
  let t1:Int:=(pickmx true x1 1)
  let t2:Int:=(pickmx false t1 64)
  let t3:Int:=(IntKind.i64.wrap (64 - t2))
  cond (decide (t3 < 0)) none (
  let t4:Int:=(gshl .u64 x0 t3)
  let t5:Int:=(IntKind.i64.wrap t4)
  cond (decide (t3 < 0)) none (
  let t6:Int:=(gshr .i64 t5 t3)
  let t7:Int:=(IntKind.u64.wrap t6)
  k t7))
abbrev Sg_zc (α:Type):=GDecode_parts→Int→(GInsn→R α)→R α
def ad_zc {α:Type} (F:Sg_zc α):FP α:=fun args k=>match args with
  | [a0,a1]=>GDecode_parts.dec a0 fun x0=>decI .i64 a1 fun x1=>F x0 x1 (fun r0=>k (GInsn.sv r0))
  | _=>none
def dR_decode_parts_immediate {α:Type} (a0:SV) (k:GInsn→R α):R α:=GInsn.dec a0 fun x0=>k x0
theorem dR_decode_parts_immediate_spec {α:Type} {v:SV} {k:GInsn→R α} {r:α} (h:dR_decode_parts_immediate v k=some r):∃x0,v=(GInsn.sv x0)∧k x0=some r:=by
  unfold dR_decode_parts_immediate at h
  obtain ⟨x0,rfl,h0⟩:=GInsn.dec_spec h
  exact ⟨x0,rfl,h0⟩
def p_zc {α:Type} (F_z1:Sg_z1 α) (F_z5:Sg_z5 α) (x0:GDecode_parts) (x1:Int) (k:GInsn→R α):R α:=
  let t1:Int:=(IntKind.u64.wrap x0.w)
  F_z1 t1 20 12 (fun r2=>
  let t3:Int:=(bitop .or .u64 0 r2)
  let t4:Int:=(gshl .u64 t3 0)
  F_z5 t4 12 (fun r5=>
  let t6:Int:=(IntKind.i64.wrap r5)
  k (GInsn.mk x1 x0.rd x0.rs1 0 t6 0)))
abbrev Sg_zl (α:Type):=GDecode_parts→(GInsn→Bool→R α)→R α
def ad_zl {α:Type} (F:Sg_zl α):FP α:=fun args k=>match args with
  | [a0]=>GDecode_parts.dec a0 fun x0=>F x0 (fun r0 r1=>k (.tuple [(GInsn.sv r0),(.bool r1)]))
  | _=>none
def dR_decode_parts_reckons {α:Type} (v:SV) (k:GInsn→Bool→R α):R α:=match v with
  | .tuple [a0,a1]=>GInsn.dec a0 fun x0=>decB a1 fun x1=>k x0 x1
  | _=>none
theorem dR_decode_parts_reckons_spec {α:Type} {v:SV} {k:GInsn→Bool→R α} {r:α} (h:dR_decode_parts_reckons v k=some r):∃x0 x1,v=(.tuple [(GInsn.sv x0),(.bool x1)])∧k x0 x1=some r:=by
  unfold dR_decode_parts_reckons at h
  split at h<;>try (cases h; done)
  obtain ⟨x0,rfl,h0⟩:=GInsn.dec_spec h
  obtain ⟨x1,rfl,h1⟩:=decB_spec h0
  exact ⟨x0,x1,rfl,h1⟩
def q_decode_parts_reckons_1 {α:Type} (x0:GDecode_parts) (k:GInsn→Bool→R α) (t13:Int) (t16:Int):R α:=
  let b18:Bool:=(x0.f3==5)
  cond b18 (
  cond (decide ((((upd (upd (upd (fun _=>0) 0 31) 1 32) 5 33):Nat→Int) (Int.toNat x0.f3))=29)) (
  k (GInsn.mk 30 x0.rd x0.rs1 0 t13 0) true) (
  cond (decide ((((upd (upd (upd (fun _=>0) 0 31) 1 32) 5 33):Nat→Int) (Int.toNat x0.f3))=33)) (
  k (GInsn.mk 34 x0.rd x0.rs1 0 t13 0) true) (
  k (GInsn.mk 0 x0.rd x0.rs1 0 t13 0) true))) (
  let b19:Bool:=(t16 !=0)
  cond b19 (
  k (GInsn.mk 0 0 0 0 0 0) false) (
  k (GInsn.mk (((upd (upd (upd (fun _=>0) 0 31) 1 32) 5 33):Nat→Int) (Int.toNat x0.f3)) x0.rd x0.rs1 0 t13 0) true))
def q_decode_parts_reckons_2 {α:Type} (F_z1:Sg_z1 α) (x0:GDecode_parts) (k:GInsn→Bool→R α) (b2:Bool):R α:=
  cond b2 (
  let t11:Int:=(IntKind.u64.wrap x0.w)
  F_z1 t11 20 6 (fun r12=>
  let t13:Int:=(IntKind.i64.wrap r12)
  let t14:Int:=(IntKind.u64.wrap x0.w)
  F_z1 t14 26 6 (fun r15=>
  let t16:Int:=(gshl .u64 r15 6)
  let b17:Bool:=(t16==1024)
  cond b17 (
  q_decode_parts_reckons_1 x0 k t13 t16) (
  let b20:Bool:=(t16 !=0)
  cond b20 (
  k (GInsn.mk 0 0 0 0 0 0) false) (
  k (GInsn.mk (((upd (upd (upd (fun _=>0) 0 31) 1 32) 5 33):Nat→Int) (Int.toNat x0.f3)) x0.rd x0.rs1 0 t13 0) true))))) (
  let t21:Int:=(IntKind.u64.wrap x0.w)
  F_z1 t21 20 5 (fun r22=>
  let t23:Int:=(IntKind.i64.wrap r22)
  let t24:Int:=(IntKind.u64.wrap x0.w)
  F_z1 t24 25 7 (fun r25=>
  let t26:Int:=(gshl .u64 r25 5)
  let b27:Bool:=(t26==1024)
  cond b27 (
  q_decode_parts_reckons_1 x0 k t23 t26) (
  let b30:Bool:=(t26 !=0)
  cond b30 (
  k (GInsn.mk 0 0 0 0 0 0) false) (
  k (GInsn.mk (((upd (upd (upd (fun _=>0) 0 31) 1 32) 5 33):Nat→Int) (Int.toNat x0.f3)) x0.rd x0.rs1 0 t23 0) true)))))
def q_decode_parts_reckons_3 {α:Type} (F_zc:Sg_zc α) (x0:GDecode_parts) (k:GInsn→Bool→R α):R α:=
  F_zc x0 (((upd (upd (upd (upd (upd (upd (upd (upd (fun _=>0) 0 22) 1 28) 2 23) 3 24) 4 25) 5 29) 6 26) 7 27):Nat→Int) (Int.toNat x0.f3)) (fun r52=>
  let b53:Bool:=((((upd (upd (upd (upd (upd (upd (upd (upd (fun _=>0) 0 22) 1 28) 2 23) 3 24) 4 25) 5 29) 6 26) 7 27):Nat→Int) (Int.toNat x0.f3)) !=0)
  k r52 b53)
def q_decode_parts_reckons_4 {α:Type} (x0:GDecode_parts) (k:GInsn→Bool→R α) (t60:Int) (t63:Int):R α:=
  let b65:Bool:=(x0.f3==5)
  cond b65 (
  cond (decide ((((upd (upd (upd (upd (upd (upd (upd (upd (fun _=>0) 0 22) 1 28) 2 23) 3 24) 4 25) 5 29) 6 26) 7 27):Nat→Int) (Int.toNat x0.f3))=29)) (
  k (GInsn.mk 30 x0.rd x0.rs1 0 t60 0) true) (
  cond (decide ((((upd (upd (upd (upd (upd (upd (upd (upd (fun _=>0) 0 22) 1 28) 2 23) 3 24) 4 25) 5 29) 6 26) 7 27):Nat→Int) (Int.toNat x0.f3))=33)) (
  k (GInsn.mk 34 x0.rd x0.rs1 0 t60 0) true) (
  k (GInsn.mk 0 x0.rd x0.rs1 0 t60 0) true))) (
  let b66:Bool:=(t63 !=0)
  cond b66 (
  k (GInsn.mk 0 0 0 0 0 0) false) (
  k (GInsn.mk (((upd (upd (upd (upd (upd (upd (upd (upd (fun _=>0) 0 22) 1 28) 2 23) 3 24) 4 25) 5 29) 6 26) 7 27):Nat→Int) (Int.toNat x0.f3)) x0.rd x0.rs1 0 t60 0) true))
def q_decode_parts_reckons_5 {α:Type} (F_z1:Sg_z1 α) (x0:GDecode_parts) (k:GInsn→Bool→R α) (b2:Bool):R α:=
  cond b2 (
  let t58:Int:=(IntKind.u64.wrap x0.w)
  F_z1 t58 20 6 (fun r59=>
  let t60:Int:=(IntKind.i64.wrap r59)
  let t61:Int:=(IntKind.u64.wrap x0.w)
  F_z1 t61 26 6 (fun r62=>
  let t63:Int:=(gshl .u64 r62 6)
  let b64:Bool:=(t63==1024)
  cond b64 (
  q_decode_parts_reckons_4 x0 k t60 t63) (
  let b67:Bool:=(t63 !=0)
  cond b67 (
  k (GInsn.mk 0 0 0 0 0 0) false) (
  k (GInsn.mk (((upd (upd (upd (upd (upd (upd (upd (upd (fun _=>0) 0 22) 1 28) 2 23) 3 24) 4 25) 5 29) 6 26) 7 27):Nat→Int) (Int.toNat x0.f3)) x0.rd x0.rs1 0 t60 0) true))))) (
  let t68:Int:=(IntKind.u64.wrap x0.w)
  F_z1 t68 20 5 (fun r69=>
  let t70:Int:=(IntKind.i64.wrap r69)
  let t71:Int:=(IntKind.u64.wrap x0.w)
  F_z1 t71 25 7 (fun r72=>
  let t73:Int:=(gshl .u64 r72 5)
  let b74:Bool:=(t73==1024)
  cond b74 (
  q_decode_parts_reckons_4 x0 k t70 t73) (
  let b77:Bool:=(t73 !=0)
  cond b77 (
  k (GInsn.mk 0 0 0 0 0 0) false) (
  k (GInsn.mk (((upd (upd (upd (upd (upd (upd (upd (upd (fun _=>0) 0 22) 1 28) 2 23) 3 24) 4 25) 5 29) 6 26) 7 27):Nat→Int) (Int.toNat x0.f3)) x0.rd x0.rs1 0 t70 0) true)))))
def p_zl {α:Type} (F_za:Sg_za α) (F_zc:Sg_zc α) (F_z1:Sg_z1 α) (x0:GDecode_parts) (k:GInsn→Bool→R α):R α:=
  F_za x0.w (fun r1=>
  let b2:Bool:=(r1==19)
  cond (decide (0≤x0.f3) && decide (x0.f3 < 8)) (
  cond (decide ((Int.toNat x0.f3) < 8)) (
  let b3:Bool:=(!b2)
  cond b3 (
  cond (decide (0≤x0.f3) && decide (x0.f3 < 8)) (
  cond (decide ((Int.toNat x0.f3) < 8)) (
  let b4:Bool:=((((upd (upd (upd (fun _=>0) 0 31) 1 32) 5 33):Nat→Int) (Int.toNat x0.f3))==0)
  cond b4 (
  F_zc x0 (((upd (upd (upd (fun _=>0) 0 31) 1 32) 5 33):Nat→Int) (Int.toNat x0.f3)) (fun r5=>
  let b6:Bool:=((((upd (upd (upd (fun _=>0) 0 31) 1 32) 5 33):Nat→Int) (Int.toNat x0.f3)) !=0)
  k r5 b6)) (
  let b7:Bool:=(x0.f3 !=1)
  cond b7 (
  let b8:Bool:=(x0.f3 !=5)
  cond b8 (
  F_zc x0 (((upd (upd (upd (fun _=>0) 0 31) 1 32) 5 33):Nat→Int) (Int.toNat x0.f3)) (fun r9=>
  let b10:Bool:=((((upd (upd (upd (fun _=>0) 0 31) 1 32) 5 33):Nat→Int) (Int.toNat x0.f3)) !=0)
  k r9 b10)) (
  q_decode_parts_reckons_2 F_z1 x0 k b2)) (
  q_decode_parts_reckons_2 F_z1 x0 k b2))) none) none) (
  let b51:Bool:=((((upd (upd (upd (upd (upd (upd (upd (upd (fun _=>0) 0 22) 1 28) 2 23) 3 24) 4 25) 5 29) 6 26) 7 27):Nat→Int) (Int.toNat x0.f3))==0)
  cond b51 (
  q_decode_parts_reckons_3 F_zc x0 k) (
  let b54:Bool:=(x0.f3 !=1)
  cond b54 (
  let b55:Bool:=(x0.f3 !=5)
  cond b55 (
  q_decode_parts_reckons_3 F_zc x0 k) (
  q_decode_parts_reckons_5 F_z1 x0 k b2)) (
  q_decode_parts_reckons_5 F_z1 x0 k b2)))) none) none)
abbrev Sg_zm (α:Type):=GDecode_parts→(GInsn→Bool→R α)→R α
def ad_zm {α:Type} (F:Sg_zm α):FP α:=fun args k=>match args with
  | [a0]=>GDecode_parts.dec a0 fun x0=>F x0 (fun r0 r1=>k (.tuple [(GInsn.sv r0),(.bool r1)]))
  | _=>none
def dR_decode_parts_registers {α:Type} (v:SV) (k:GInsn→Bool→R α):R α:=match v with
  | .tuple [a0,a1]=>GInsn.dec a0 fun x0=>decB a1 fun x1=>k x0 x1
  | _=>none
theorem dR_decode_parts_registers_spec {α:Type} {v:SV} {k:GInsn→Bool→R α} {r:α} (h:dR_decode_parts_registers v k=some r):∃x0 x1,v=(.tuple [(GInsn.sv x0),(.bool x1)])∧k x0 x1=some r:=by
  unfold dR_decode_parts_registers at h
  split at h<;>try (cases h; done)
  obtain ⟨x0,rfl,h0⟩:=GInsn.dec_spec h
  obtain ⟨x1,rfl,h1⟩:=decB_spec h0
  exact ⟨x0,x1,rfl,h1⟩
def q_decode_parts_registers_1 {α:Type} (x0:GDecode_parts) (k:GInsn→Bool→R α):R α:=
  let b9:Bool:=(x0.f7==32)
  cond b9 (
  cond (decide (0≤x0.f3) && decide (x0.f3 < 8)) (
  cond (decide ((Int.toNat x0.f3) < 8)) (
  let b10:Bool:=((((upd (upd (fun _=>0) 0 46) 5 49):Nat→Int) (Int.toNat x0.f3)) !=0)
  k (GInsn.mk (((upd (upd (fun _=>0) 0 46) 5 49):Nat→Int) (Int.toNat x0.f3)) x0.rd x0.rs1 x0.rs2 0 0) b10) none) none) (
  k (GInsn.mk 0 x0.rd x0.rs1 x0.rs2 0 0) false)
def q_decode_parts_registers_2 {α:Type} (x0:GDecode_parts) (k:GInsn→Bool→R α) (b2:Bool):R α:=
  let b5:Bool:=(x0.f7==0)
  cond b5 (
  cond (decide (0≤x0.f3) && decide (x0.f3 < 8)) (
  cond (decide ((Int.toNat x0.f3) < 8)) (
  let b6:Bool:=((((upd (upd (upd (fun _=>0) 0 45) 1 47) 5 48):Nat→Int) (Int.toNat x0.f3)) !=0)
  k (GInsn.mk (((upd (upd (upd (fun _=>0) 0 45) 1 47) 5 48):Nat→Int) (Int.toNat x0.f3)) x0.rd x0.rs1 x0.rs2 0 0) b6) none) none) (
  let b7:Bool:=(x0.f7==32)
  cond b7 (
  cond b2 (
  cond (decide (0≤x0.f3) && decide (x0.f3 < 8)) (
  cond (decide ((Int.toNat x0.f3) < 8)) (
  let b8:Bool:=((((upd (upd (fun _=>0) 0 36) 5 42):Nat→Int) (Int.toNat x0.f3)) !=0)
  k (GInsn.mk (((upd (upd (fun _=>0) 0 36) 5 42):Nat→Int) (Int.toNat x0.f3)) x0.rd x0.rs1 x0.rs2 0 0) b8) none) none) (
  q_decode_parts_registers_1 x0 k)) (
  q_decode_parts_registers_1 x0 k))
def p_zm {α:Type} (F_za:Sg_za α) (x0:GDecode_parts) (k:GInsn→Bool→R α):R α:=
  F_za x0.w (fun r1=>
  let b2:Bool:=(r1==51)
  let b3:Bool:=(x0.f7==0)
  cond b3 (
  cond b2 (
  cond (decide (0≤x0.f3) && decide (x0.f3 < 8)) (
  cond (decide ((Int.toNat x0.f3) < 8)) (
  let b4:Bool:=((((upd (upd (upd (upd (upd (upd (upd (upd (fun _=>0) 0 35) 1 37) 2 38) 3 39) 4 40) 5 41) 6 43) 7 44):Nat→Int) (Int.toNat x0.f3)) !=0)
  k (GInsn.mk (((upd (upd (upd (upd (upd (upd (upd (upd (fun _=>0) 0 35) 1 37) 2 38) 3 39) 4 40) 5 41) 6 43) 7 44):Nat→Int) (Int.toNat x0.f3)) x0.rd x0.rs1 x0.rs2 0 0) b4) none) none) (
  q_decode_parts_registers_2 x0 k b2)) (
  q_decode_parts_registers_2 x0 k b2))
abbrev Sg_zp (α:Type):=Int→(Int→R α)→R α
def ad_zp {α:Type} (F:Sg_zp α):FP α:=fun args k=>match args with
  | [a0]=>decI .i64 a0 fun x0=>F x0 (fun r0=>k (.int .i64 r0))
  | _=>none
def dR_decode_fence {α:Type} (a0:SV) (k:Int→R α):R α:=decI .i64 a0 fun x0=>k x0
theorem dR_decode_fence_spec {α:Type} {v:SV} {k:Int→R α} {r:α} (h:dR_decode_fence v k=some r):∃x0,v=(.int .i64 x0)∧k x0=some r:=by
  unfold dR_decode_fence at h
  obtain ⟨x0,rfl,h0⟩:=decI_spec h
  exact ⟨x0,rfl,h0⟩
def p_zp {α:Type}  (x0:Int) (k:Int→R α):R α:=
  let b1:Bool:=(x0==9)
  cond b1 (
  k 63) (
  let b2:Bool:=(x0==17)
  cond b2 (
  k 64) (
  let b3:Bool:=(x0==49)
  cond b3 (
  k 65) (
  k 0)))
abbrev Sg_zq (α:Type):=GDecode_parts→(GInsn→Bool→R α)→R α
def ad_zq {α:Type} (F:Sg_zq α):FP α:=fun args k=>match args with
  | [a0]=>GDecode_parts.dec a0 fun x0=>F x0 (fun r0 r1=>k (.tuple [(GInsn.sv r0),(.bool r1)]))
  | _=>none
def dR_decode_parts_guests {α:Type} (v:SV) (k:GInsn→Bool→R α):R α:=match v with
  | .tuple [a0,a1]=>GInsn.dec a0 fun x0=>decB a1 fun x1=>k x0 x1
  | _=>none
theorem dR_decode_parts_guests_spec {α:Type} {v:SV} {k:GInsn→Bool→R α} {r:α} (h:dR_decode_parts_guests v k=some r):∃x0 x1,v=(.tuple [(GInsn.sv x0),(.bool x1)])∧k x0 x1=some r:=by
  unfold dR_decode_parts_guests at h
  split at h<;>try (cases h; done)
  obtain ⟨x0,rfl,h0⟩:=GInsn.dec_spec h
  obtain ⟨x1,rfl,h1⟩:=decB_spec h0
  exact ⟨x0,x1,rfl,h1⟩
def q_decode_parts_guests_1 {α:Type} (x0:GDecode_parts) (k:GInsn→Bool→R α):R α:=
  let b5:Bool:=(x0.f7==54)
  cond b5 (
  let b6:Bool:=(x0.rs2==0)
  cond b6 (
  k (GInsn.mk 67 x0.rd x0.rs1 0 0 0) true) (
  let b7:Bool:=(x0.f7==55)
  cond b7 (
  let b8:Bool:=(x0.rd==0)
  cond b8 (
  k (GInsn.mk 69 0 x0.rs1 x0.rs2 0 0) true) (
  k (GInsn.mk 0 x0.rd x0.rs1 0 0 0) false)) (
  k (GInsn.mk 0 x0.rd x0.rs1 0 0 0) false))) (
  let b9:Bool:=(x0.f7==55)
  cond b9 (
  let b10:Bool:=(x0.rd==0)
  cond b10 (
  k (GInsn.mk 69 0 x0.rs1 x0.rs2 0 0) true) (
  k (GInsn.mk 0 x0.rd x0.rs1 0 0 0) false)) (
  k (GInsn.mk 0 x0.rd x0.rs1 0 0 0) false))
def q_decode_parts_guests_2 {α:Type} (x0:GDecode_parts) (k:GInsn→Bool→R α):R α:=
  let b3:Bool:=(x0.f7==52)
  cond b3 (
  let b4:Bool:=(x0.rs2==3)
  cond b4 (
  k (GInsn.mk 68 x0.rd x0.rs1 0 0 0) true) (
  q_decode_parts_guests_1 x0 k)) (
  q_decode_parts_guests_1 x0 k)
def p_zq {α:Type}  (x0:GDecode_parts) (k:GInsn→Bool→R α):R α:=
  let b1:Bool:=(x0.f7==52)
  cond b1 (
  let b2:Bool:=(x0.rs2==0)
  cond b2 (
  k (GInsn.mk 66 x0.rd x0.rs1 0 0 0) true) (
  q_decode_parts_guests_2 x0 k)) (
  q_decode_parts_guests_2 x0 k)
abbrev Sg_zn (α:Type):=GDecode_parts→(GInsn→Bool→R α)→R α
def ad_zn {α:Type} (F:Sg_zn α):FP α:=fun args k=>match args with
  | [a0]=>GDecode_parts.dec a0 fun x0=>F x0 (fun r0 r1=>k (.tuple [(GInsn.sv r0),(.bool r1)]))
  | _=>none
def dR_decode_parts_system {α:Type} (v:SV) (k:GInsn→Bool→R α):R α:=match v with
  | .tuple [a0,a1]=>GInsn.dec a0 fun x0=>decB a1 fun x1=>k x0 x1
  | _=>none
theorem dR_decode_parts_system_spec {α:Type} {v:SV} {k:GInsn→Bool→R α} {r:α} (h:dR_decode_parts_system v k=some r):∃x0 x1,v=(.tuple [(GInsn.sv x0),(.bool x1)])∧k x0 x1=some r:=by
  unfold dR_decode_parts_system at h
  split at h<;>try (cases h; done)
  obtain ⟨x0,rfl,h0⟩:=GInsn.dec_spec h
  obtain ⟨x1,rfl,h1⟩:=decB_spec h0
  exact ⟨x0,x1,rfl,h1⟩
def q_decode_parts_system_1 {α:Type} (x0:GDecode_parts) (k:GInsn→Bool→R α):R α:=
  cond (decide (x0.w=267386895)) (
  k (GInsn.mk 50 0 0 0 0 0) true) (
  cond (decide (x0.w=4111)) (
  k (GInsn.mk 51 0 0 0 0 0) true) (
  cond (decide (x0.w=115)) (
  k (GInsn.mk 52 0 0 0 0 0) true) (
  cond (decide (x0.w=1048691)) (
  k (GInsn.mk 53 0 0 0 0 0) true) (
  cond (decide (x0.w=807403635)) (
  k (GInsn.mk 60 0 0 0 0 0) true) (
  cond (decide (x0.w=270532723)) (
  k (GInsn.mk 61 0 0 0 0 0) true) (
  cond (decide (x0.w=273678451)) (
  k (GInsn.mk 62 0 0 0 0 0) true) (
  k (GInsn.mk 0 0 0 0 0 0) false)))))))
def p_zn {α:Type} (F_zp:Sg_zp α) (F_zq:Sg_zq α) (F_z1:Sg_z1 α) (x0:GDecode_parts) (k:GInsn→Bool→R α):R α:=
  let b1:Bool:=(x0.f3==0)
  cond b1 (
  F_zp x0.f7 (fun r2=>
  let b3:Bool:=(r2==0)
  cond b3 (
  q_decode_parts_system_1 x0 k) (
  let b4:Bool:=(x0.rd !=0)
  cond b4 (
  q_decode_parts_system_1 x0 k) (
  k (GInsn.mk r2 0 x0.rs1 x0.rs2 0 0) true)))) (
  let b5:Bool:=(x0.f3==4)
  cond b5 (
  F_zq x0 (fun r6 r7=>
  k r6 r7)) (
  cond (decide (0≤x0.f3) && decide (x0.f3 < 8)) (
  cond (decide ((Int.toNat x0.f3) < 8)) (
  let t8:Int:=(IntKind.u64.wrap x0.w)
  F_z1 t8 20 12 (fun r9=>
  let t10:Int:=(IntKind.i64.wrap r9)
  let b11:Bool:=(ltB 4 x0.f3)
  cond b11 (
  k (GInsn.mk (((upd (upd (upd (upd (upd (upd (upd (upd (fun _=>0) 0 0) 1 54) 2 55) 3 56) 4 0) 5 57) 6 58) 7 59):Nat→Int) (Int.toNat x0.f3)) x0.rd 0 0 x0.rs1 t10) true) (
  k (GInsn.mk (((upd (upd (upd (upd (upd (upd (upd (upd (fun _=>0) 0 0) 1 54) 2 55) 3 56) 4 0) 5 57) 6 58) 7 59):Nat→Int) (Int.toNat x0.f3)) x0.rd x0.rs1 0 0 t10) true))) none) none))
abbrev Sg_z1l (α:Type):=GDecode_parts→(GInsn→Bool→R α)→R α
def ad_z1l {α:Type} (F:Sg_z1l α):FP α:=fun args k=>match args with
  | [a0]=>GDecode_parts.dec a0 fun x0=>F x0 (fun r0 r1=>k (.tuple [(GInsn.sv r0),(.bool r1)]))
  | _=>none
def dR_decode_parts_insn {α:Type} (v:SV) (k:GInsn→Bool→R α):R α:=match v with
  | .tuple [a0,a1]=>GInsn.dec a0 fun x0=>decB a1 fun x1=>k x0 x1
  | _=>none
theorem dR_decode_parts_insn_spec {α:Type} {v:SV} {k:GInsn→Bool→R α} {r:α} (h:dR_decode_parts_insn v k=some r):∃x0 x1,v=(.tuple [(GInsn.sv x0),(.bool x1)])∧k x0 x1=some r:=by
  unfold dR_decode_parts_insn at h
  split at h<;>try (cases h; done)
  obtain ⟨x0,rfl,h0⟩:=GInsn.dec_spec h
  obtain ⟨x1,rfl,h1⟩:=decB_spec h0
  exact ⟨x0,x1,rfl,h1⟩
def p_z1l {α:Type} (F_za:Sg_za α) (F_z1:Sg_z1 α) (F_z5:Sg_z5 α) (F_zc:Sg_zc α) (F_zl:Sg_zl α) (F_zm:Sg_zm α) (F_zn:Sg_zn α) (x0:GDecode_parts) (k:GInsn→Bool→R α):R α:=
  F_za x0.w (fun r1=>
  let b2:Bool:=(r1==55)
  cond b2 (
  let t3:Int:=(IntKind.u64.wrap x0.w)
  F_z1 t3 12 20 (fun r4=>
  let t5:Int:=(bitop .or .u64 0 r4)
  let t6:Int:=(gshl .u64 t5 12)
  F_z5 t6 32 (fun r7=>
  let t8:Int:=(IntKind.i64.wrap r7)
  k (GInsn.mk 1 x0.rd 0 0 t8 0) true))) (
  let b9:Bool:=(r1==23)
  cond b9 (
  let t10:Int:=(IntKind.u64.wrap x0.w)
  F_z1 t10 12 20 (fun r11=>
  let t12:Int:=(bitop .or .u64 0 r11)
  let t13:Int:=(gshl .u64 t12 12)
  F_z5 t13 32 (fun r14=>
  let t15:Int:=(IntKind.i64.wrap r14)
  k (GInsn.mk 2 x0.rd 0 0 t15 0) true))) (
  let b16:Bool:=(r1==111)
  cond b16 (
  let t17:Int:=(IntKind.u64.wrap x0.w)
  F_z1 t17 31 1 (fun r18=>
  let t19:Int:=(bitop .or .u64 0 r18)
  let t20:Int:=(gshl .u64 t19 8)
  let t21:Int:=(IntKind.u64.wrap x0.w)
  F_z1 t21 12 8 (fun r22=>
  let t23:Int:=(bitop .or .u64 t20 r22)
  let t24:Int:=(gshl .u64 t23 1)
  let t25:Int:=(IntKind.u64.wrap x0.w)
  F_z1 t25 20 1 (fun r26=>
  let t27:Int:=(bitop .or .u64 t24 r26)
  let t28:Int:=(gshl .u64 t27 10)
  let t29:Int:=(IntKind.u64.wrap x0.w)
  F_z1 t29 21 10 (fun r30=>
  let t31:Int:=(bitop .or .u64 t28 r30)
  let t32:Int:=(gshl .u64 t31 1)
  F_z5 t32 21 (fun r33=>
  let t34:Int:=(IntKind.i64.wrap r33)
  k (GInsn.mk 3 x0.rd 0 0 t34 0) true)))))) (
  let b35:Bool:=(r1==103)
  cond b35 (
  F_zc x0 4 (fun r36=>
  let b37:Bool:=(x0.f3==0)
  k r36 b37)) (
  let b38:Bool:=(r1==99)
  cond b38 (
  cond (decide (0≤x0.f3) && decide (x0.f3 < 8)) (
  cond (decide ((Int.toNat x0.f3) < 8)) (
  let t39:Int:=(IntKind.u64.wrap x0.w)
  F_z1 t39 31 1 (fun r40=>
  let t41:Int:=(bitop .or .u64 0 r40)
  let t42:Int:=(gshl .u64 t41 1)
  let t43:Int:=(IntKind.u64.wrap x0.w)
  F_z1 t43 7 1 (fun r44=>
  let t45:Int:=(bitop .or .u64 t42 r44)
  let t46:Int:=(gshl .u64 t45 6)
  let t47:Int:=(IntKind.u64.wrap x0.w)
  F_z1 t47 25 6 (fun r48=>
  let t49:Int:=(bitop .or .u64 t46 r48)
  let t50:Int:=(gshl .u64 t49 4)
  let t51:Int:=(IntKind.u64.wrap x0.w)
  F_z1 t51 8 4 (fun r52=>
  let t53:Int:=(bitop .or .u64 t50 r52)
  let t54:Int:=(gshl .u64 t53 1)
  F_z5 t54 13 (fun r55=>
  let t56:Int:=(IntKind.i64.wrap r55)
  let b57:Bool:=((((upd (upd (upd (upd (upd (upd (upd (upd (fun _=>0) 0 5) 1 6) 2 0) 3 0) 4 7) 5 8) 6 9) 7 10):Nat→Int) (Int.toNat x0.f3)) !=0)
  k (GInsn.mk (((upd (upd (upd (upd (upd (upd (upd (upd (fun _=>0) 0 5) 1 6) 2 0) 3 0) 4 7) 5 8) 6 9) 7 10):Nat→Int) (Int.toNat x0.f3)) 0 x0.rs1 x0.rs2 t56 0) b57)))))) none) none) (
  let b58:Bool:=(r1==3)
  cond b58 (
  cond (decide (0≤x0.f3) && decide (x0.f3 < 8)) (
  cond (decide ((Int.toNat x0.f3) < 8)) (
  F_zc x0 (((upd (upd (upd (upd (upd (upd (upd (fun _=>0) 0 11) 1 12) 2 13) 3 14) 4 15) 5 16) 6 17):Nat→Int) (Int.toNat x0.f3)) (fun r59=>
  let b60:Bool:=((((upd (upd (upd (upd (upd (upd (upd (fun _=>0) 0 11) 1 12) 2 13) 3 14) 4 15) 5 16) 6 17):Nat→Int) (Int.toNat x0.f3)) !=0)
  k r59 b60)) none) none) (
  let b61:Bool:=(r1==35)
  cond b61 (
  cond (decide (0≤x0.f3) && decide (x0.f3 < 8)) (
  cond (decide ((Int.toNat x0.f3) < 8)) (
  let t62:Int:=(IntKind.u64.wrap x0.w)
  F_z1 t62 25 7 (fun r63=>
  let t64:Int:=(bitop .or .u64 0 r63)
  let t65:Int:=(gshl .u64 t64 5)
  let t66:Int:=(IntKind.u64.wrap x0.w)
  F_z1 t66 7 5 (fun r67=>
  let t68:Int:=(bitop .or .u64 t65 r67)
  let t69:Int:=(gshl .u64 t68 0)
  F_z5 t69 12 (fun r70=>
  let t71:Int:=(IntKind.i64.wrap r70)
  let b72:Bool:=((((upd (upd (upd (upd (fun _=>0) 0 18) 1 19) 2 20) 3 21):Nat→Int) (Int.toNat x0.f3)) !=0)
  k (GInsn.mk (((upd (upd (upd (upd (fun _=>0) 0 18) 1 19) 2 20) 3 21):Nat→Int) (Int.toNat x0.f3)) 0 x0.rs1 x0.rs2 t71 0) b72)))) none) none) (
  let b73:Bool:=(r1==19)
  cond b73 (
  F_zl x0 (fun r74 r75=>
  k r74 r75)) (
  let b76:Bool:=(r1==27)
  cond b76 (
  F_zl x0 (fun r77 r78=>
  k r77 r78)) (
  let b79:Bool:=(r1==51)
  cond b79 (
  F_zm x0 (fun r80 r81=>
  k r80 r81)) (
  let b82:Bool:=(r1==59)
  cond b82 (
  F_zm x0 (fun r83 r84=>
  k r83 r84)) (
  let b85:Bool:=(r1==15)
  cond b85 (
  cond (decide (x0.w=267386895)) (
  k (GInsn.mk 50 0 0 0 0 0) true) (
  cond (decide (x0.w=4111)) (
  k (GInsn.mk 51 0 0 0 0 0) true) (
  cond (decide (x0.w=115)) (
  k (GInsn.mk 52 0 0 0 0 0) true) (
  cond (decide (x0.w=1048691)) (
  k (GInsn.mk 53 0 0 0 0 0) true) (
  cond (decide (x0.w=807403635)) (
  k (GInsn.mk 60 0 0 0 0 0) true) (
  cond (decide (x0.w=270532723)) (
  k (GInsn.mk 61 0 0 0 0 0) true) (
  cond (decide (x0.w=273678451)) (
  k (GInsn.mk 62 0 0 0 0 0) true) (
  k (GInsn.mk 0 0 0 0 0 0) false)))))))) (
  let b86:Bool:=(r1==115)
  cond b86 (
  F_zn x0 (fun r87 r88=>
  k r87 r88)) (
  k (GInsn.mk 0 0 0 0 0 0) false))))))))))))))
abbrev Sg_z4 (α:Type):=Int→(Int→R α)→R α
def ad_z4 {α:Type} (F:Sg_z4 α):FP α:=fun args k=>match args with
  | [a0]=>decI .i64 a0 fun x0=>F x0 (fun r0=>k (.int .i64 r0))
  | _=>none
def dR_insn_Class {α:Type} (a0:SV) (k:Int→R α):R α:=decI .i64 a0 fun x0=>k x0
theorem dR_insn_Class_spec {α:Type} {v:SV} {k:Int→R α} {r:α} (h:dR_insn_Class v k=some r):∃x0,v=(.int .i64 x0)∧k x0=some r:=by
  unfold dR_insn_Class at h
  obtain ⟨x0,rfl,h0⟩:=decI_spec h
  exact ⟨x0,rfl,h0⟩
def p_z4 {α:Type}  (x0:Int) (k:Int→R α):R α:=
  let b1:Bool:=(ltB x0 1)
  cond b1 (
  k 0) (
  let b2:Bool:=(leB 70 x0)
  cond b2 (
  k 0) (
  let b3:Bool:=(leB x0 4)
  cond b3 (
  k 1) (
  let b4:Bool:=(leB x0 10)
  cond b4 (
  k 2) (
  let b5:Bool:=(leB x0 17)
  cond b5 (
  k 3) (
  let b6:Bool:=(leB x0 21)
  cond b6 (
  k 4) (
  let b7:Bool:=(leB x0 34)
  cond b7 (
  k 5) (
  let b8:Bool:=(leB x0 49)
  cond b8 (
  k 6) (
  let b9:Bool:=(leB x0 51)
  cond b9 (
  k 7) (
  let b10:Bool:=(leB x0 53)
  cond b10 (
  k 8) (
  let b11:Bool:=(leB x0 59)
  cond b11 (
  k 9) (
  let b12:Bool:=(leB x0 62)
  cond b12 (
  k 10) (
  let b13:Bool:=(leB x0 65)
  cond b13 (
  k 11) (
  let b14:Bool:=(leB x0 69)
  cond b14 (
  k 12) (
  k 0))))))))))))))
abbrev Sg_z1m (α:Type):=Int→(GInsn_Fields→R α)→R α
def ad_z1m {α:Type} (F:Sg_z1m α):FP α:=fun args k=>match args with
  | [a0]=>decI .i64 a0 fun x0=>F x0 (fun r0=>k (GInsn_Fields.sv r0))
  | _=>none
def dR_insn_jumps {α:Type} (a0:SV) (k:GInsn_Fields→R α):R α:=GInsn_Fields.dec a0 fun x0=>k x0
theorem dR_insn_jumps_spec {α:Type} {v:SV} {k:GInsn_Fields→R α} {r:α} (h:dR_insn_jumps v k=some r):∃x0,v=(GInsn_Fields.sv x0)∧k x0=some r:=by
  unfold dR_insn_jumps at h
  obtain ⟨x0,rfl,h0⟩:=GInsn_Fields.dec_spec h
  exact ⟨x0,rfl,h0⟩
def p_z1m {α:Type}  (x0:Int) (k:GInsn_Fields→R α):R α:=
  let b1:Bool:=(x0==3)
  cond b1 (
  k (GInsn_Fields.mk true false false false (-1048576) 1048574 2)) (
  let b2:Bool:=(x0==4)
  cond b2 (
  k (GInsn_Fields.mk true false true false (-2048) 2047 1)) (
  k (GInsn_Fields.mk true false false false (-2147483648) 2147479552 4096)))
abbrev Sg_z1n (α:Type):=Int→(GInsn_Fields→R α)→R α
def ad_z1n {α:Type} (F:Sg_z1n α):FP α:=fun args k=>match args with
  | [a0]=>decI .i64 a0 fun x0=>F x0 (fun r0=>k (GInsn_Fields.sv r0))
  | _=>none
def dR_insn_withNumber {α:Type} (a0:SV) (k:GInsn_Fields→R α):R α:=GInsn_Fields.dec a0 fun x0=>k x0
theorem dR_insn_withNumber_spec {α:Type} {v:SV} {k:GInsn_Fields→R α} {r:α} (h:dR_insn_withNumber v k=some r):∃x0,v=(GInsn_Fields.sv x0)∧k x0=some r:=by
  unfold dR_insn_withNumber at h
  obtain ⟨x0,rfl,h0⟩:=GInsn_Fields.dec_spec h
  exact ⟨x0,rfl,h0⟩
def p_z1n {α:Type}  (x0:Int) (k:GInsn_Fields→R α):R α:=
  let b1:Bool:=(x0==28)
  cond b1 (
  k (GInsn_Fields.mk true false true false 0 63 1)) (
  let b2:Bool:=(x0==29)
  cond b2 (
  k (GInsn_Fields.mk true false true false 0 63 1)) (
  let b3:Bool:=(x0==30)
  cond b3 (
  k (GInsn_Fields.mk true false true false 0 63 1)) (
  let b4:Bool:=(x0==32)
  cond b4 (
  k (GInsn_Fields.mk true false true false 0 31 1)) (
  let b5:Bool:=(x0==33)
  cond b5 (
  k (GInsn_Fields.mk true false true false 0 31 1)) (
  let b6:Bool:=(x0==34)
  cond b6 (
  k (GInsn_Fields.mk true false true false 0 31 1)) (
  k (GInsn_Fields.mk true false true false (-2048) 2047 1)))))))
abbrev Sg_z1o (α:Type):=Int→(GInsn_Fields→R α)→R α
def ad_z1o {α:Type} (F:Sg_z1o α):FP α:=fun args k=>match args with
  | [a0]=>decI .i64 a0 fun x0=>F x0 (fun r0=>k (GInsn_Fields.sv r0))
  | _=>none
def dR_insn_Of {α:Type} (a0:SV) (k:GInsn_Fields→R α):R α:=GInsn_Fields.dec a0 fun x0=>k x0
theorem dR_insn_Of_spec {α:Type} {v:SV} {k:GInsn_Fields→R α} {r:α} (h:dR_insn_Of v k=some r):∃x0,v=(GInsn_Fields.sv x0)∧k x0=some r:=by
  unfold dR_insn_Of at h
  obtain ⟨x0,rfl,h0⟩:=GInsn_Fields.dec_spec h
  exact ⟨x0,rfl,h0⟩
def p_z1o {α:Type} (F_z4:Sg_z4 α) (F_z1m:Sg_z1m α) (F_z1n:Sg_z1n α) (x0:Int) (k:GInsn_Fields→R α):R α:=
  F_z4 x0 (fun r1=>
  let b2:Bool:=(r1==1)
  cond b2 (
  F_z1m x0 (fun r3=>
  k r3)) (
  let b4:Bool:=(r1==2)
  cond b4 (
  k (GInsn_Fields.mk false false true true (-4096) 4094 2)) (
  let b5:Bool:=(r1==3)
  cond b5 (
  k (GInsn_Fields.mk true false true false (-2048) 2047 1)) (
  let b6:Bool:=(r1==4)
  cond b6 (
  k (GInsn_Fields.mk false false true true (-2048) 2047 1)) (
  let b7:Bool:=(r1==5)
  cond b7 (
  F_z1n x0 (fun r8=>
  k r8)) (
  let b9:Bool:=(r1==6)
  cond b9 (
  k (GInsn_Fields.mk true false true true 0 0 0)) (
  let b10:Bool:=(r1==9)
  cond b10 (
  let b11:Bool:=(leB 57 x0)
  cond b11 (
  k (GInsn_Fields.mk true true false false 0 31 1)) (
  k (GInsn_Fields.mk true true true false 0 0 0))) (
  let b12:Bool:=(r1==11)
  cond b12 (
  k (GInsn_Fields.mk false false true true 0 0 0)) (
  let b13:Bool:=(r1==12)
  cond b13 (
  let b14:Bool:=(x0==69)
  cond b14 (
  k (GInsn_Fields.mk false false true true 0 0 0)) (
  k (GInsn_Fields.mk true false true false 0 0 0))) (
  k (GInsn_Fields.mk false false false false 0 0 0)))))))))))
abbrev Sg_z11 (α:Type):=Bool→Int→Int→(Bool→R α)→R α
def ad_z11 {α:Type} (F:Sg_z11 α):FP α:=fun args k=>match args with
  | [a0,a1,a2]=>decB a0 fun x0=>decI .i64 a1 fun x1=>decI .i64 a2 fun x2=>F x0 x1 x2 (fun r0=>k (.bool r0))
  | _=>none
def dR_insn_field {α:Type} (a0:SV) (k:Bool→R α):R α:=decB a0 fun x0=>k x0
theorem dR_insn_field_spec {α:Type} {v:SV} {k:Bool→R α} {r:α} (h:dR_insn_field v k=some r):∃x0,v=(.bool x0)∧k x0=some r:=by
  unfold dR_insn_field at h
  obtain ⟨x0,rfl,h0⟩:=decB_spec h
  exact ⟨x0,rfl,h0⟩
def p_z11 {α:Type}  (x0:Bool) (x1:Int) (x2:Int) (k:Bool→R α):R α:=
  let b1:Bool:=(x1==0)
  cond b1 (
  k true) (
  cond x0 (
  let b2:Bool:=(ltB 0 x1)
  cond b2 (
  let b3:Bool:=(ltB x1 x2)
  k b3) (
  k false)) (
  k false))
abbrev Sg_zd (α:Type):=GInsn→(Bool→R α)→R α
def ad_zd {α:Type} (F:Sg_zd α):FP α:=fun args k=>match args with
  | [a0]=>GInsn.dec a0 fun x0=>F x0 (fun r0=>k (.bool r0))
  | _=>none
def dR_insn_Is {α:Type} (a0:SV) (k:Bool→R α):R α:=decB a0 fun x0=>k x0
theorem dR_insn_Is_spec {α:Type} {v:SV} {k:Bool→R α} {r:α} (h:dR_insn_Is v k=some r):∃x0,v=(.bool x0)∧k x0=some r:=by
  unfold dR_insn_Is at h
  obtain ⟨x0,rfl,h0⟩:=decB_spec h
  exact ⟨x0,rfl,h0⟩
def q_insn_Is_1 {α:Type} (F_z11:Sg_z11 α) (x0:GInsn) (k:Bool→R α) (r3:GInsn_Fields):R α:=
  F_z11 r3.Rd x0.Rd 32 (fun r11=>
  cond r11 (
  F_z11 r3.Rs1 x0.Rs1 32 (fun r12=>
  cond r12 (
  F_z11 r3.Rs2 x0.Rs2 32 (fun r13=>
  cond r13 (
  F_z11 r3.CSR x0.CSR 4096 (fun r14=>
  k r14)) (
  k false))) (
  k false))) (
  k false))
def q_insn_Is_2 {α:Type} (F_z11:Sg_z11 α) (x0:GInsn) (k:Bool→R α) (r3:GInsn_Fields):R α:=
  let b6:Bool:=(ltB 0 r3.Step)
  cond b6 (
  let b7:Bool:=(ltB x0.Imm r3.Low)
  cond b7 (
  k false) (
  let b8:Bool:=(ltB r3.High x0.Imm)
  cond b8 (
  k false) (
  cond (decide (r3.Step=0)) none (
  let t9:Int:=(Int.tmod x0.Imm r3.Step)
  let b10:Bool:=(t9 !=0)
  cond b10 (
  k false) (
  q_insn_Is_1 F_z11 x0 k r3))))) (
  q_insn_Is_1 F_z11 x0 k r3)
def p_zd {α:Type} (F_z4:Sg_z4 α) (F_z1o:Sg_z1o α) (F_z11:Sg_z11 α) (x0:GInsn) (k:Bool→R α):R α:=
  F_z4 x0.Op (fun r1=>
  let b2:Bool:=(r1==0)
  cond b2 (
  k false) (
  F_z1o x0.Op (fun r3=>
  let b4:Bool:=(r3.Step==0)
  cond b4 (
  let b5:Bool:=(x0.Imm !=0)
  cond b5 (
  k false) (
  q_insn_Is_2 F_z11 x0 k r3)) (
  q_insn_Is_2 F_z11 x0 k r3))))
abbrev Sg_z26 (α:Type):=Int→(GInsn→Int→R α)→R α
def ad_z26 {α:Type} (F:Sg_z26 α):FP α:=fun args k=>match args with
  | [a0]=>decI .u32 a0 fun x0=>F x0 (fun r0 r1=>k (.tuple [(GInsn.sv r0),(.int .i64 r1)]))
  | _=>none
def dR_decode_Decode {α:Type} (v:SV) (k:GInsn→Int→R α):R α:=match v with
  | .tuple [a0,a1]=>GInsn.dec a0 fun x0=>decI .i64 a1 fun x1=>k x0 x1
  | _=>none
theorem dR_decode_Decode_spec {α:Type} {v:SV} {k:GInsn→Int→R α} {r:α} (h:dR_decode_Decode v k=some r):∃x0 x1,v=(.tuple [(GInsn.sv x0),(.int .i64 x1)])∧k x0 x1=some r:=by
  unfold dR_decode_Decode at h
  split at h<;>try (cases h; done)
  obtain ⟨x0,rfl,h0⟩:=GInsn.dec_spec h
  obtain ⟨x1,rfl,h1⟩:=decI_spec h0
  exact ⟨x0,x1,rfl,h1⟩
def p_z26 {α:Type} (F_z1k:Sg_z1k α) (F_z1l:Sg_z1l α) (F_zd:Sg_zd α) (x0:Int) (k:GInsn→Int→R α):R α:=
  F_z1k x0 (fun r1=>
  F_z1l r1 (fun r2 r3=>
  let b4:Bool:=(!r3)
  cond b4 (
  k (GInsn.mk 0 0 0 0 0 0) 40) (
  F_zd r2 (fun r5=>
  let b6:Bool:=(!r5)
  cond b6 (
  k (GInsn.mk 0 0 0 0 0 0) 40) (
  k r2 0)))))
abbrev Sg_zj (α:Type):=GState→(Int→R α)→R α
def ad_zj {α:Type} (F:Sg_zj α):FP α:=fun args k=>match args with
  | [a0]=>GState.dec a0 fun x0=>F x0 (fun r0=>k (.int .i64 r0))
  | _=>none
def dR_legal_Level {α:Type} (a0:SV) (k:Int→R α):R α:=decI .i64 a0 fun x0=>k x0
theorem dR_legal_Level_spec {α:Type} {v:SV} {k:Int→R α} {r:α} (h:dR_legal_Level v k=some r):∃x0,v=(.int .i64 x0)∧k x0=some r:=by
  unfold dR_legal_Level at h
  obtain ⟨x0,rfl,h0⟩:=decI_spec h
  exact ⟨x0,rfl,h0⟩
def q_legal_Level_1 {α:Type} (x0:GState) (k:Int→R α):R α:=
  cond x0.V (
  cond (decide (0≤x0.Level) && decide (x0.Level < 2)) (
  cond (decide ((Int.toNat x0.Level) < 2)) (
  k (((upd (upd (fun _=>0) 0 4) 1 5):Nat→Int) (Int.toNat x0.Level))) none) none) (
  cond (decide (0≤x0.Level) && decide (x0.Level < 2)) (
  cond (decide ((Int.toNat x0.Level) < 2)) (
  k (((upd (upd (fun _=>0) 0 0) 1 1):Nat→Int) (Int.toNat x0.Level))) none) none)
def p_zj {α:Type}  (x0:GState) (k:Int→R α):R α:=
  let b1:Bool:=(x0.Level !=0)
  cond b1 (
  let b2:Bool:=(x0.Level !=1)
  cond b2 (
  k 3) (
  q_legal_Level_1 x0 k)) (
  q_legal_Level_1 x0 k)
abbrev Sg_zu (α:Type):=GInsn→(Bool→R α)→R α
def ad_zu {α:Type} (F:Sg_zu α):FP α:=fun args k=>match args with
  | [a0]=>GInsn.dec a0 fun x0=>F x0 (fun r0=>k (.bool r0))
  | _=>none
def dR_legal_Writes {α:Type} (a0:SV) (k:Bool→R α):R α:=decB a0 fun x0=>k x0
theorem dR_legal_Writes_spec {α:Type} {v:SV} {k:Bool→R α} {r:α} (h:dR_legal_Writes v k=some r):∃x0,v=(.bool x0)∧k x0=some r:=by
  unfold dR_legal_Writes at h
  obtain ⟨x0,rfl,h0⟩:=decB_spec h
  exact ⟨x0,rfl,h0⟩
def p_zu {α:Type}  (x0:GInsn) (k:Bool→R α):R α:=
  let b1:Bool:=(x0.Op==54)
  cond b1 (
  k true) (
  let b2:Bool:=(x0.Op==57)
  cond b2 (
  k true) (
  let b3:Bool:=(x0.Rs1 !=0)
  cond b3 (
  k true) (
  let b4:Bool:=(x0.Imm !=0)
  k b4)))
abbrev Sg_z2 (α:Type):=(Int→R α)→R α
def ad_z2 {α:Type} (F:Sg_z2 α):FP α:=fun args k=>match args with
  | []=>F  (fun r0=>k (.int .u64 r0))
  | _=>none
def dR_csr_guests {α:Type} (a0:SV) (k:Int→R α):R α:=decI .u64 a0 fun x0=>k x0
theorem dR_csr_guests_spec {α:Type} {v:SV} {k:Int→R α} {r:α} (h:dR_csr_guests v k=some r):∃x0,v=(.int .u64 x0)∧k x0=some r:=by
  unfold dR_csr_guests at h
  obtain ⟨x0,rfl,h0⟩:=decI_spec h
  exact ⟨x0,rfl,h0⟩
def p_z2 {α:Type}   (k:Int→R α):R α:=
  k 786722
abbrev Sg_ze (α:Type):=Int→(Int→R α)→R α
def ad_ze {α:Type} (F:Sg_ze α):FP α:=fun args k=>match args with
  | [a0]=>decI .i64 a0 fun x0=>F x0 (fun r0=>k (.int .i64 r0))
  | _=>none
def dR_csr_Index {α:Type} (a0:SV) (k:Int→R α):R α:=decI .i64 a0 fun x0=>k x0
theorem dR_csr_Index_spec {α:Type} {v:SV} {k:Int→R α} {r:α} (h:dR_csr_Index v k=some r):∃x0,v=(.int .i64 x0)∧k x0=some r:=by
  unfold dR_csr_Index at h
  obtain ⟨x0,rfl,h0⟩:=decI_spec h
  exact ⟨x0,rfl,h0⟩
def p_ze {α:Type} (F_z2:Sg_z2 α) (x0:Int) (k:Int→R α):R α:=
  F_z2  (fun r1=>
  let b2:Bool:=(768==x0)
  cond b2 (
  k 0) (
  let b3:Bool:=(770==x0)
  cond b3 (
  k 1) (
  let b4:Bool:=(771==x0)
  cond b4 (
  k 2) (
  let b5:Bool:=(772==x0)
  cond b5 (
  k 3) (
  let b6:Bool:=(773==x0)
  cond b6 (
  k 4) (
  let b7:Bool:=(832==x0)
  cond b7 (
  k 5) (
  let b8:Bool:=(833==x0)
  cond b8 (
  k 6) (
  let b9:Bool:=(834==x0)
  cond b9 (
  k 7) (
  let b10:Bool:=(835==x0)
  cond b10 (
  k 8) (
  let b11:Bool:=(843==x0)
  cond b11 (
  k 9) (
  let b12:Bool:=(261==x0)
  cond b12 (
  k 10) (
  let b13:Bool:=(320==x0)
  cond b13 (
  k 11) (
  let b14:Bool:=(321==x0)
  cond b14 (
  k 12) (
  let b15:Bool:=(322==x0)
  cond b15 (
  k 13) (
  let b16:Bool:=(323==x0)
  cond b16 (
  k 14) (
  let b17:Bool:=(384==x0)
  cond b17 (
  k 15) (
  let b18:Bool:=(1536==x0)
  cond b18 (
  k 16) (
  let b19:Bool:=(1538==x0)
  cond b19 (
  k 17) (
  let b20:Bool:=(1539==x0)
  cond b20 (
  k 18) (
  let b21:Bool:=(1605==x0)
  cond b21 (
  k 19) (
  let b22:Bool:=(1603==x0)
  cond b22 (
  k 20) (
  let b23:Bool:=(1664==x0)
  cond b23 (
  k 21) (
  let b24:Bool:=(512==x0)
  cond b24 (
  k 22) (
  let b25:Bool:=(517==x0)
  cond b25 (
  k 23) (
  let b26:Bool:=(576==x0)
  cond b26 (
  k 24) (
  let b27:Bool:=(577==x0)
  cond b27 (
  k 25) (
  let b28:Bool:=(578==x0)
  cond b28 (
  k 26) (
  let b29:Bool:=(579==x0)
  cond b29 (
  k 27) (
  let b30:Bool:=(640==x0)
  cond b30 (
  k 28) (
  k (-1)))))))))))))))))))))))))))))))
abbrev Sg_z1p (α:Type):=Int→(Bool→R α)→R α
def ad_z1p {α:Type} (F:Sg_z1p α):FP α:=fun args k=>match args with
  | [a0]=>decI .i64 a0 fun x0=>F x0 (fun r0=>k (.bool r0))
  | _=>none
def dR_csr_Is {α:Type} (a0:SV) (k:Bool→R α):R α:=decB a0 fun x0=>k x0
theorem dR_csr_Is_spec {α:Type} {v:SV} {k:Bool→R α} {r:α} (h:dR_csr_Is v k=some r):∃x0,v=(.bool x0)∧k x0=some r:=by
  unfold dR_csr_Is at h
  obtain ⟨x0,rfl,h0⟩:=decB_spec h
  exact ⟨x0,rfl,h0⟩
def p_z1p {α:Type} (F_ze:Sg_ze α) (x0:Int) (k:Bool→R α):R α:=
  let b1:Bool:=(x0==256)
  cond b1 (
  k true) (
  let b2:Bool:=(x0==260)
  cond b2 (
  k true) (
  let b3:Bool:=(x0==516)
  cond b3 (
  k true) (
  let b4:Bool:=(x0==3074)
  cond b4 (
  k true) (
  F_ze x0 (fun r5=>
  let b6:Bool:=(leB 0 r5)
  k b6)))))
abbrev Sg_zo (α:Type):=Int→(Int→R α)→R α
def ad_zo {α:Type} (F:Sg_zo α):FP α:=fun args k=>match args with
  | [a0]=>decI .i64 a0 fun x0=>F x0 (fun r0=>k (.int .i64 r0))
  | _=>none
def dR_legal_ask {α:Type} (a0:SV) (k:Int→R α):R α:=decI .i64 a0 fun x0=>k x0
theorem dR_legal_ask_spec {α:Type} {v:SV} {k:Int→R α} {r:α} (h:dR_legal_ask v k=some r):∃x0,v=(.int .i64 x0)∧k x0=some r:=by
  unfold dR_legal_ask at h
  obtain ⟨x0,rfl,h0⟩:=decI_spec h
  exact ⟨x0,rfl,h0⟩
def p_zo {α:Type}  (x0:Int) (k:Int→R α):R α:=
  let t1:Int:=(gshr .i64 x0 8)
  let t2:Int:=(bitop .and .i64 t1 3)
  k t2
abbrev Sg_z8 (α:Type):=Bool→Int→(Int→Bool→R α)→R α
def ad_z8 {α:Type} (F:Sg_z8 α):FP α:=fun args k=>match args with
  | [a0,a1]=>decB a0 fun x0=>decI .u64 a1 fun x1=>F x0 x1 (fun r0 r1=>k (.tuple [(.int .u64 r0),(.bool r1)]))
  | _=>none
def dR_legal_because {α:Type} (v:SV) (k:Int→Bool→R α):R α:=match v with
  | .tuple [a0,a1]=>decI .u64 a0 fun x0=>decB a1 fun x1=>k x0 x1
  | _=>none
theorem dR_legal_because_spec {α:Type} {v:SV} {k:Int→Bool→R α} {r:α} (h:dR_legal_because v k=some r):∃x0 x1,v=(.tuple [(.int .u64 x0),(.bool x1)])∧k x0 x1=some r:=by
  unfold dR_legal_because at h
  split at h<;>try (cases h; done)
  obtain ⟨x0,rfl,h0⟩:=decI_spec h
  obtain ⟨x1,rfl,h1⟩:=decB_spec h0
  exact ⟨x0,x1,rfl,h1⟩
def p_z8 {α:Type}  (x0:Bool) (x1:Int) (k:Int→Bool→R α):R α:=
  cond x0 (
  k 0 true) (
  k x1 false)
abbrev Sg_z17 (α:Type):=GState→Int→Int→(Int→Bool→R α)→R α
def ad_z17 {α:Type} (F:Sg_z17 α):FP α:=fun args k=>match args with
  | [a0,a1,a2]=>GState.dec a0 fun x0=>decI .i64 a1 fun x1=>decI .i64 a2 fun x2=>F x0 x1 x2 (fun r0 r1=>k (.tuple [(.int .u64 r0),(.bool r1)]))
  | _=>none
def dR_legal_guestCsr {α:Type} (v:SV) (k:Int→Bool→R α):R α:=match v with
  | .tuple [a0,a1]=>decI .u64 a0 fun x0=>decB a1 fun x1=>k x0 x1
  | _=>none
theorem dR_legal_guestCsr_spec {α:Type} {v:SV} {k:Int→Bool→R α} {r:α} (h:dR_legal_guestCsr v k=some r):∃x0 x1,v=(.tuple [(.int .u64 x0),(.bool x1)])∧k x0 x1=some r:=by
  unfold dR_legal_guestCsr at h
  split at h<;>try (cases h; done)
  obtain ⟨x0,rfl,h0⟩:=decI_spec h
  obtain ⟨x1,rfl,h1⟩:=decB_spec h0
  exact ⟨x0,x1,rfl,h1⟩
def p_z17 {α:Type} (F_zo:Sg_zo α) (F_z8:Sg_z8 α) (F_z3:Sg_z3 α) (x0:GState) (x1:Int) (x2:Int) (k:Int→Bool→R α):R α:=
  let b1:Bool:=(x2==3074)
  cond b1 (
  k 22 false) (
  F_zo x2 (fun r2=>
  let b3:Bool:=(r2==3)
  cond b3 (
  k 2 false) (
  F_zo x2 (fun r4=>
  let b5:Bool:=(r4==2)
  cond b5 (
  k 22 false) (
  let b6:Bool:=(x1==4)
  cond b6 (
  k 22 false) (
  let b7:Bool:=(x2 !=384)
  cond b7 (
  F_z8 true 22 (fun r8 r9=>
  k r8 r9)) (
  F_z3 x0 16 20 (fun r10=>
  let b11:Bool:=(!r10)
  F_z8 b11 22 (fun r12 r13=>
  k r12 r13)))))))))
abbrev Sg_z1q (α:Type):=GState→Int→Bool→(Int→Bool→R α)→R α
def ad_z1q {α:Type} (F:Sg_z1q α):FP α:=fun args k=>match args with
  | [a0,a1,a2]=>GState.dec a0 fun x0=>decI .i64 a1 fun x1=>decB a2 fun x2=>F x0 x1 x2 (fun r0 r1=>k (.tuple [(.int .u64 r0),(.bool r1)]))
  | _=>none
def dR_legal_Csr {α:Type} (v:SV) (k:Int→Bool→R α):R α:=match v with
  | .tuple [a0,a1]=>decI .u64 a0 fun x0=>decB a1 fun x1=>k x0 x1
  | _=>none
theorem dR_legal_Csr_spec {α:Type} {v:SV} {k:Int→Bool→R α} {r:α} (h:dR_legal_Csr v k=some r):∃x0 x1,v=(.tuple [(.int .u64 x0),(.bool x1)])∧k x0 x1=some r:=by
  unfold dR_legal_Csr at h
  split at h<;>try (cases h; done)
  obtain ⟨x0,rfl,h0⟩:=decI_spec h
  obtain ⟨x1,rfl,h1⟩:=decB_spec h0
  exact ⟨x0,x1,rfl,h1⟩
def q_legal_Csr_1 {α:Type} (F_z8:Sg_z8 α) (F_zo:Sg_zo α) (x1:Int) (k:Int→Bool→R α) (r1:Int):R α:=
  F_zo x1 (fun r15=>
  cond (decide (0≤r15) && decide (r15 < 4)) (
  cond (decide ((Int.toNat r15) < 4)) (
  let b16:Bool:=(leB (((upd (upd (upd (upd (fun _=>0) 0 0) 1 1) 2 1) 3 3):Nat→Int) (Int.toNat r15)) r1)
  F_z8 b16 2 (fun r17 r18=>
  k r17 r18)) none) none)
def q_legal_Csr_2 {α:Type} (F_z17:Sg_z17 α) (F_z8:Sg_z8 α) (F_z3:Sg_z3 α) (F_zo:Sg_zo α) (x0:GState) (x1:Int) (k:Int→Bool→R α) (r1:Int):R α:=
  let b5:Bool:=(leB 4 r1)
  cond b5 (
  F_z17 x0 r1 x1 (fun r6 r7=>
  k r6 r7)) (
  let b8:Bool:=(x1==3074)
  cond b8 (
  let b9:Bool:=(leB 1 r1)
  F_z8 b9 2 (fun r10 r11=>
  k r10 r11)) (
  let b12:Bool:=(x1==384)
  cond b12 (
  let b13:Bool:=(r1==1)
  cond b13 (
  F_z3 x0 0 20 (fun r14=>
  cond r14 (
  k 2 false) (
  q_legal_Csr_1 F_z8 F_zo x1 k r1))) (
  q_legal_Csr_1 F_z8 F_zo x1 k r1)) (
  q_legal_Csr_1 F_z8 F_zo x1 k r1)))
def p_z1q {α:Type} (F_zj:Sg_zj α) (F_z1p:Sg_z1p α) (F_z17:Sg_z17 α) (F_z8:Sg_z8 α) (F_z3:Sg_z3 α) (F_zo:Sg_zo α) (x0:GState) (x1:Int) (x2:Bool) (k:Int→Bool→R α):R α:=
  F_zj x0 (fun r1=>
  F_z1p x1 (fun r2=>
  let b3:Bool:=(!r2)
  cond b3 (
  k 2 false) (
  cond x2 (
  let b4:Bool:=(leB 3072 x1)
  cond b4 (
  k 2 false) (
  q_legal_Csr_2 F_z17 F_z8 F_z3 F_zo x0 x1 k r1)) (
  q_legal_Csr_2 F_z17 F_z8 F_z3 F_zo x0 x1 k r1))))
abbrev Sg_z1f (α:Type):=GState→Int→Int→Int→(Int→Bool→R α)→R α
def ad_z1f {α:Type} (F:Sg_z1f α):FP α:=fun args k=>match args with
  | [a0,a1,a2,a3]=>GState.dec a0 fun x0=>decI .i64 a1 fun x1=>decI .i64 a2 fun x2=>decI .i64 a3 fun x3=>F x0 x1 x2 x3 (fun r0 r1=>k (.tuple [(.int .u64 r0),(.bool r1)]))
  | _=>none
def dR_legal_plain {α:Type} (v:SV) (k:Int→Bool→R α):R α:=match v with
  | .tuple [a0,a1]=>decI .u64 a0 fun x0=>decB a1 fun x1=>k x0 x1
  | _=>none
theorem dR_legal_plain_spec {α:Type} {v:SV} {k:Int→Bool→R α} {r:α} (h:dR_legal_plain v k=some r):∃x0 x1,v=(.tuple [(.int .u64 x0),(.bool x1)])∧k x0 x1=some r:=by
  unfold dR_legal_plain at h
  split at h<;>try (cases h; done)
  obtain ⟨x0,rfl,h0⟩:=decI_spec h
  obtain ⟨x1,rfl,h1⟩:=decB_spec h0
  exact ⟨x0,x1,rfl,h1⟩
def p_z1f {α:Type} (F_z3:Sg_z3 α) (F_z8:Sg_z8 α) (x0:GState) (x1:Int) (x2:Int) (x3:Int) (k:Int→Bool→R α):R α:=
  let b1:Bool:=(x1==0)
  cond b1 (
  k 2 false) (
  let b2:Bool:=(x1==4)
  cond b2 (
  k 22 false) (
  let b3:Bool:=(x1==1)
  cond b3 (
  F_z3 x0 0 x2 (fun r4=>
  let b5:Bool:=(!r4)
  F_z8 b5 2 (fun r6 r7=>
  k r6 r7))) (
  let b8:Bool:=(x1==5)
  cond b8 (
  F_z3 x0 16 x3 (fun r9=>
  let b10:Bool:=(!r9)
  F_z8 b10 22 (fun r11 r12=>
  k r11 r12))) (
  k 0 true))))
abbrev Sg_z1r (α:Type):=GState→Int→(Int→Bool→R α)→R α
def ad_z1r {α:Type} (F:Sg_z1r α):FP α:=fun args k=>match args with
  | [a0,a1]=>GState.dec a0 fun x0=>decI .i64 a1 fun x1=>F x0 x1 (fun r0 r1=>k (.tuple [(.int .u64 r0),(.bool r1)]))
  | _=>none
def dR_legal_wfi {α:Type} (v:SV) (k:Int→Bool→R α):R α:=match v with
  | .tuple [a0,a1]=>decI .u64 a0 fun x0=>decB a1 fun x1=>k x0 x1
  | _=>none
theorem dR_legal_wfi_spec {α:Type} {v:SV} {k:Int→Bool→R α} {r:α} (h:dR_legal_wfi v k=some r):∃x0 x1,v=(.tuple [(.int .u64 x0),(.bool x1)])∧k x0 x1=some r:=by
  unfold dR_legal_wfi at h
  split at h<;>try (cases h; done)
  obtain ⟨x0,rfl,h0⟩:=decI_spec h
  obtain ⟨x1,rfl,h1⟩:=decB_spec h0
  exact ⟨x0,x1,rfl,h1⟩
def p_z1r {α:Type} (F_z3:Sg_z3 α) (x0:GState) (x1:Int) (k:Int→Bool→R α):R α:=
  let b1:Bool:=(x1==0)
  cond b1 (
  k 2 false) (
  let b2:Bool:=(x1 !=3)
  cond b2 (
  F_z3 x0 0 21 (fun r3=>
  cond r3 (
  k 2 false) (
  let b4:Bool:=(x1==4)
  cond b4 (
  k 22 false) (
  let b5:Bool:=(x1==5)
  cond b5 (
  F_z3 x0 16 21 (fun r6=>
  cond r6 (
  k 22 false) (
  k 0 true))) (
  k 0 true))))) (
  let b7:Bool:=(x1==4)
  cond b7 (
  k 22 false) (
  let b8:Bool:=(x1==5)
  cond b8 (
  F_z3 x0 16 21 (fun r9=>
  cond r9 (
  k 22 false) (
  k 0 true))) (
  k 0 true))))
abbrev Sg_z1c (α:Type):=GState→Int→Int→(Int→Bool→R α)→R α
def ad_z1c {α:Type} (F:Sg_z1c α):FP α:=fun args k=>match args with
  | [a0,a1,a2]=>GState.dec a0 fun x0=>decI .i64 a1 fun x1=>decI .i64 a2 fun x2=>F x0 x1 x2 (fun r0 r1=>k (.tuple [(.int .u64 r0),(.bool r1)]))
  | _=>none
def dR_legal_guests {α:Type} (v:SV) (k:Int→Bool→R α):R α:=match v with
  | .tuple [a0,a1]=>decI .u64 a0 fun x0=>decB a1 fun x1=>k x0 x1
  | _=>none
theorem dR_legal_guests_spec {α:Type} {v:SV} {k:Int→Bool→R α} {r:α} (h:dR_legal_guests v k=some r):∃x0 x1,v=(.tuple [(.int .u64 x0),(.bool x1)])∧k x0 x1=some r:=by
  unfold dR_legal_guests at h
  split at h<;>try (cases h; done)
  obtain ⟨x0,rfl,h0⟩:=decI_spec h
  obtain ⟨x1,rfl,h1⟩:=decB_spec h0
  exact ⟨x0,x1,rfl,h1⟩
def p_z1c {α:Type} (F_z4:Sg_z4 α) (F_z3:Sg_z3 α) (F_z8:Sg_z8 α) (x0:GState) (x1:Int) (x2:Int) (k:Int→Bool→R α):R α:=
  let b1:Bool:=(leB 4 x1)
  cond b1 (
  k 22 false) (
  let b2:Bool:=(x1==0)
  cond b2 (
  F_z4 x2 (fun r3=>
  let b4:Bool:=(r3==12)
  cond b4 (
  F_z3 x0 16 9 (fun r5=>
  F_z8 r5 2 (fun r6 r7=>
  k r6 r7))) (
  F_z8 false 2 (fun r8 r9=>
  k r8 r9)))) (
  let b10:Bool:=(x1==1)
  cond b10 (
  let b11:Bool:=(x2==65)
  cond b11 (
  F_z3 x0 0 20 (fun r12=>
  let b13:Bool:=(!r12)
  F_z8 b13 2 (fun r14 r15=>
  k r14 r15))) (
  k 0 true)) (
  k 0 true)))
abbrev Sg_zt (α:Type):=GState→GInsn→(Int→Bool→R α)→R α
def ad_zt {α:Type} (F:Sg_zt α):FP α:=fun args k=>match args with
  | [a0,a1]=>GState.dec a0 fun x0=>GInsn.dec a1 fun x1=>F x0 x1 (fun r0 r1=>k (.tuple [(.int .u64 r0),(.bool r1)]))
  | _=>none
def dR_legal_Insn {α:Type} (v:SV) (k:Int→Bool→R α):R α:=match v with
  | .tuple [a0,a1]=>decI .u64 a0 fun x0=>decB a1 fun x1=>k x0 x1
  | _=>none
theorem dR_legal_Insn_spec {α:Type} {v:SV} {k:Int→Bool→R α} {r:α} (h:dR_legal_Insn v k=some r):∃x0 x1,v=(.tuple [(.int .u64 x0),(.bool x1)])∧k x0 x1=some r:=by
  unfold dR_legal_Insn at h
  split at h<;>try (cases h; done)
  obtain ⟨x0,rfl,h0⟩:=decI_spec h
  obtain ⟨x1,rfl,h1⟩:=decB_spec h0
  exact ⟨x0,x1,rfl,h1⟩
def p_zt {α:Type} (F_zd:Sg_zd α) (F_zj:Sg_zj α) (F_z4:Sg_z4 α) (F_zu:Sg_zu α) (F_z1q:Sg_z1q α) (F_z8:Sg_z8 α) (F_z1f:Sg_z1f α) (F_z1r:Sg_z1r α) (F_z1c:Sg_z1c α) (x0:GState) (x1:GInsn) (k:Int→Bool→R α):R α:=
  F_zd x1 (fun r1=>
  let b2:Bool:=(!r1)
  cond b2 (
  k 2 false) (
  F_zj x0 (fun r3=>
  F_z4 x1.Op (fun r4=>
  let b5:Bool:=(r4==9)
  cond b5 (
  F_zu x1 (fun r6=>
  F_z1q x0 x1.CSR r6 (fun r7 r8=>
  k r7 r8))) (
  let b9:Bool:=(x1.Op==60)
  cond b9 (
  let b10:Bool:=(r3==3)
  F_z8 b10 2 (fun r11 r12=>
  k r11 r12)) (
  let b13:Bool:=(x1.Op==61)
  cond b13 (
  F_z1f x0 r3 22 22 (fun r14 r15=>
  k r14 r15)) (
  let b16:Bool:=(x1.Op==63)
  cond b16 (
  F_z1f x0 r3 20 20 (fun r17 r18=>
  k r17 r18)) (
  let b19:Bool:=(x1.Op==62)
  cond b19 (
  F_z1r x0 r3 (fun r20 r21=>
  k r20 r21)) (
  let b22:Bool:=(x1.Op==64)
  cond b22 (
  F_z1c x0 r3 x1.Op (fun r23 r24=>
  k r23 r24)) (
  let b25:Bool:=(x1.Op==65)
  cond b25 (
  F_z1c x0 r3 x1.Op (fun r26 r27=>
  k r26 r27)) (
  F_z4 x1.Op (fun r28=>
  let b29:Bool:=(r28==12)
  cond b29 (
  F_z1c x0 r3 x1.Op (fun r30 r31=>
  k r30 r31)) (
  k 0 true)))))))))))))
abbrev Sg_zi (α:Type):=GState→Int→(GExec_result→R α)→R α
def ad_zi {α:Type} (F:Sg_zi α):FP α:=fun args k=>match args with
  | [a0,a1]=>GState.dec a0 fun x0=>decI .u64 a1 fun x1=>F x0 x1 (fun r0=>k (GExec_result.sv r0))
  | _=>none
def dR_exec_done {α:Type} (a0:SV) (k:GExec_result→R α):R α:=GExec_result.dec a0 fun x0=>k x0
theorem dR_exec_done_spec {α:Type} {v:SV} {k:GExec_result→R α} {r:α} (h:dR_exec_done v k=some r):∃x0,v=(GExec_result.sv x0)∧k x0=some r:=by
  unfold dR_exec_done at h
  obtain ⟨x0,rfl,h0⟩:=GExec_result.dec_spec h
  exact ⟨x0,rfl,h0⟩
def p_zi {α:Type}  (x0:GState) (x1:Int) (k:GExec_result→R α):R α:=
  k (GExec_result.mk x0 x1 (GFault.mk 0 0 0 false) true)
abbrev Sg_zf (α:Type):=GState→Int→(GExec_result→R α)→R α
def ad_zf {α:Type} (F:Sg_zf α):FP α:=fun args k=>match args with
  | [a0,a1]=>GState.dec a0 fun x0=>decI .u64 a1 fun x1=>F x0 x1 (fun r0=>k (GExec_result.sv r0))
  | _=>none
def dR_exec_next {α:Type} (a0:SV) (k:GExec_result→R α):R α:=GExec_result.dec a0 fun x0=>k x0
theorem dR_exec_next_spec {α:Type} {v:SV} {k:GExec_result→R α} {r:α} (h:dR_exec_next v k=some r):∃x0,v=(GExec_result.sv x0)∧k x0=some r:=by
  unfold dR_exec_next at h
  obtain ⟨x0,rfl,h0⟩:=GExec_result.dec_spec h
  exact ⟨x0,rfl,h0⟩
def p_zf {α:Type} (F_zi:Sg_zi α) (x0:GState) (x1:Int) (k:GExec_result→R α):R α:=
  let t1:Int:=(IntKind.u64.wrap (x0.PC+ 4))
  F_zi (GState.mk x0.X t1 x0.Level x0.V x0.C x0.Done) x1 (fun r2=>
  k r2)
abbrev Sg_zw (α:Type):=Int→Int→(Bool→R α)→R α
def ad_zw {α:Type} (F:Sg_zw α):FP α:=fun args k=>match args with
  | [a0,a1]=>decI .u64 a0 fun x0=>decI .u64 a1 fun x1=>F x0 x1 (fun r0=>k (.bool r0))
  | _=>none
def dR_word_High {α:Type} (a0:SV) (k:Bool→R α):R α:=decB a0 fun x0=>k x0
theorem dR_word_High_spec {α:Type} {v:SV} {k:Bool→R α} {r:α} (h:dR_word_High v k=some r):∃x0,v=(.bool x0)∧k x0=some r:=by
  unfold dR_word_High at h
  obtain ⟨x0,rfl,h0⟩:=decB_spec h
  exact ⟨x0,rfl,h0⟩
def p_zw {α:Type}  (x0:Int) (x1:Int) (k:Bool→R α):R α:=
  let t1:Int:=(IntKind.i64.wrap x0)
  let t2:Int:=(IntKind.i64.wrap x1)
  let b3:Bool:=(ltB t1 t2)
  k b3
abbrev Sg_zy (α:Type):=Int→Int→Int→(Bool→R α)→R α
def ad_zy {α:Type} (F:Sg_zy α):FP α:=fun args k=>match args with
  | [a0,a1,a2]=>decI .i64 a0 fun x0=>decI .u64 a1 fun x1=>decI .u64 a2 fun x2=>F x0 x1 x2 (fun r0=>k (.bool r0))
  | _=>none
def dR_alu_Taken {α:Type} (a0:SV) (k:Bool→R α):R α:=decB a0 fun x0=>k x0
theorem dR_alu_Taken_spec {α:Type} {v:SV} {k:Bool→R α} {r:α} (h:dR_alu_Taken v k=some r):∃x0,v=(.bool x0)∧k x0=some r:=by
  unfold dR_alu_Taken at h
  obtain ⟨x0,rfl,h0⟩:=decB_spec h
  exact ⟨x0,rfl,h0⟩
def p_zy {α:Type} (F_zw:Sg_zw α) (x0:Int) (x1:Int) (x2:Int) (k:Bool→R α):R α:=
  let b1:Bool:=(x0==5)
  cond b1 (
  let b2:Bool:=(x1==x2)
  k b2) (
  let b3:Bool:=(x0==6)
  cond b3 (
  let b4:Bool:=(x1 !=x2)
  k b4) (
  let b5:Bool:=(x0==7)
  cond b5 (
  F_zw x1 x2 (fun r6=>
  k r6)) (
  let b7:Bool:=(x0==8)
  cond b7 (
  F_zw x1 x2 (fun r8=>
  let b9:Bool:=(!r8)
  k b9)) (
  let b10:Bool:=(x0==9)
  cond b10 (
  let b11:Bool:=(ltB x1 x2)
  k b11) (
  let b12:Bool:=(x0==10)
  cond b12 (
  let b13:Bool:=(leB x2 x1)
  k b13) (
  k false))))))
abbrev Sg_z1s (α:Type):=GState→GInsn→(Int→R α)→R α
def ad_z1s {α:Type} (F:Sg_z1s α):FP α:=fun args k=>match args with
  | [a0,a1]=>GState.dec a0 fun x0=>GInsn.dec a1 fun x1=>F x0 x1 (fun r0=>k (.int .u64 r0))
  | _=>none
def dR_exec_Goes {α:Type} (a0:SV) (k:Int→R α):R α:=decI .u64 a0 fun x0=>k x0
theorem dR_exec_Goes_spec {α:Type} {v:SV} {k:Int→R α} {r:α} (h:dR_exec_Goes v k=some r):∃x0,v=(.int .u64 x0)∧k x0=some r:=by
  unfold dR_exec_Goes at h
  obtain ⟨x0,rfl,h0⟩:=decI_spec h
  exact ⟨x0,rfl,h0⟩
def q_exec_Goes_1 {α:Type} (x0:GState) (x1:GInsn) (k:Int→R α):R α:=
  let b12:Bool:=(x1.Op==4)
  cond b12 (
  cond (decide (0≤x1.Rs1) && decide (x1.Rs1 < 32)) (
  cond (decide ((Int.toNat x1.Rs1) < 32)) (
  let t13:Int:=(IntKind.u64.wrap x1.Imm)
  let t14:Int:=(IntKind.u64.wrap ((x0.X (Int.toNat x1.Rs1))+ t13))
  let t15:Int:=(bitop .andNot .u64 t14 1)
  k t15) none) none) (
  let t16:Int:=(IntKind.u64.wrap (x0.PC+ 4))
  k t16)
def p_z1s {α:Type} (F_zd:Sg_zd α) (F_z4:Sg_z4 α) (F_zy:Sg_zy α) (x0:GState) (x1:GInsn) (k:Int→R α):R α:=
  F_zd x1 (fun r1=>
  let b2:Bool:=(!r1)
  cond b2 (
  let t3:Int:=(IntKind.u64.wrap (x0.PC+ 4))
  k t3) (
  let b4:Bool:=(x1.Op==3)
  cond b4 (
  let t5:Int:=(IntKind.u64.wrap x1.Imm)
  let t6:Int:=(IntKind.u64.wrap (x0.PC+ t5))
  k t6) (
  F_z4 x1.Op (fun r7=>
  let b8:Bool:=(r7==2)
  cond b8 (
  cond (decide (0≤x1.Rs1) && decide (x1.Rs1 < 32)) (
  cond (decide ((Int.toNat x1.Rs1) < 32)) (
  cond (decide (0≤x1.Rs2) && decide (x1.Rs2 < 32)) (
  cond (decide ((Int.toNat x1.Rs2) < 32)) (
  F_zy x1.Op (x0.X (Int.toNat x1.Rs1)) (x0.X (Int.toNat x1.Rs2)) (fun r9=>
  cond r9 (
  let t10:Int:=(IntKind.u64.wrap x1.Imm)
  let t11:Int:=(IntKind.u64.wrap (x0.PC+ t10))
  k t11) (
  q_exec_Goes_1 x0 x1 k))) none) none) none) none) (
  q_exec_Goes_1 x0 x1 k)))))
abbrev Sg_z13 (α:Type):=GFault→(GExec_result→R α)→R α
def ad_z13 {α:Type} (F:Sg_z13 α):FP α:=fun args k=>match args with
  | [a0]=>GFault.dec a0 fun x0=>F x0 (fun r0=>k (GExec_result.sv r0))
  | _=>none
def dR_exec_failed {α:Type} (a0:SV) (k:GExec_result→R α):R α:=GExec_result.dec a0 fun x0=>k x0
theorem dR_exec_failed_spec {α:Type} {v:SV} {k:GExec_result→R α} {r:α} (h:dR_exec_failed v k=some r):∃x0,v=(GExec_result.sv x0)∧k x0=some r:=by
  unfold dR_exec_failed at h
  obtain ⟨x0,rfl,h0⟩:=GExec_result.dec_spec h
  exact ⟨x0,rfl,h0⟩
def p_z13 {α:Type}  (x0:GFault) (k:GExec_result→R α):R α:=
  k (GExec_result.mk (GState.mk (fun _=>0) 0 0 false (fun _=>0) 0) 0 x0 false)
abbrev Sg_z27 (α:Type):=GState→GInsn→(GExec_result→R α)→R α
def ad_z27 {α:Type} (F:Sg_z27 α):FP α:=fun args k=>match args with
  | [a0,a1]=>GState.dec a0 fun x0=>GInsn.dec a1 fun x1=>F x0 x1 (fun r0=>k (GExec_result.sv r0))
  | _=>none
def dR_exec_jumps {α:Type} (a0:SV) (k:GExec_result→R α):R α:=GExec_result.dec a0 fun x0=>k x0
theorem dR_exec_jumps_spec {α:Type} {v:SV} {k:GExec_result→R α} {r:α} (h:dR_exec_jumps v k=some r):∃x0,v=(GExec_result.sv x0)∧k x0=some r:=by
  unfold dR_exec_jumps at h
  obtain ⟨x0,rfl,h0⟩:=GExec_result.dec_spec h
  exact ⟨x0,rfl,h0⟩
def q_exec_jumps_1 {α:Type} (F_z13:Sg_z13 α) (F_zi:Sg_zi α) (x0:GState) (k:GExec_result→R α) (r8:Int):R α:=
  let t14:Int:=(Int.tmod r8 4)
  let b15:Bool:=(t14 !=0)
  cond b15 (
  F_z13 (GFault.mk 0 r8 0 x0.V) (fun r16=>
  k r16)) (
  let t17:Int:=(IntKind.u64.wrap (x0.PC+ 4))
  F_zi (GState.mk x0.X r8 x0.Level x0.V x0.C x0.Done) t17 (fun r18=>
  k r18))
def p_z27 {α:Type} (F_zf:Sg_zf α) (F_z1s:Sg_z1s α) (F_z4:Sg_z4 α) (F_zy:Sg_zy α) (F_z13:Sg_z13 α) (F_zi:Sg_zi α) (x0:GState) (x1:GInsn) (k:GExec_result→R α):R α:=
  let b1:Bool:=(x1.Op==1)
  cond b1 (
  let t2:Int:=(IntKind.u64.wrap x1.Imm)
  F_zf x0 t2 (fun r3=>
  k r3)) (
  let b4:Bool:=(x1.Op==2)
  cond b4 (
  let t5:Int:=(IntKind.u64.wrap x1.Imm)
  let t6:Int:=(IntKind.u64.wrap (x0.PC+ t5))
  F_zf x0 t6 (fun r7=>
  k r7)) (
  F_z1s x0 x1 (fun r8=>
  F_z4 x1.Op (fun r9=>
  let b10:Bool:=(r9==2)
  cond b10 (
  cond (decide (0≤x1.Rs1) && decide (x1.Rs1 < 32)) (
  cond (decide ((Int.toNat x1.Rs1) < 32)) (
  cond (decide (0≤x1.Rs2) && decide (x1.Rs2 < 32)) (
  cond (decide ((Int.toNat x1.Rs2) < 32)) (
  F_zy x1.Op (x0.X (Int.toNat x1.Rs1)) (x0.X (Int.toNat x1.Rs2)) (fun r11=>
  let b12:Bool:=(!r11)
  cond b12 (
  F_zf x0 0 (fun r13=>
  k r13)) (
  q_exec_jumps_1 F_z13 F_zi x0 k r8))) none) none) none) none) (
  q_exec_jumps_1 F_z13 F_zi x0 k r8)))))
abbrev Sg_z28 (α:Type):=Int→(Int→R α)→R α
def ad_z28 {α:Type} (F:Sg_z28 α):FP α:=fun args k=>match args with
  | [a0]=>decI .u64 a0 fun x0=>F x0 (fun r0=>k (.int .i64 r0))
  | _=>none
def dR_access_sort {α:Type} (a0:SV) (k:Int→R α):R α:=decI .i64 a0 fun x0=>k x0
theorem dR_access_sort_spec {α:Type} {v:SV} {k:Int→R α} {r:α} (h:dR_access_sort v k=some r):∃x0,v=(.int .i64 x0)∧k x0=some r:=by
  unfold dR_access_sort at h
  obtain ⟨x0,rfl,h0⟩:=decI_spec h
  exact ⟨x0,rfl,h0⟩
def p_z28 {α:Type}  (x0:Int) (k:Int→R α):R α:=
  let b1:Bool:=(x0==12)
  cond b1 (
  k 1) (
  let b2:Bool:=(x0==20)
  cond b2 (
  k 2) (
  k 0))
abbrev Sg_z16 (α:Type):=Int→(Int→R α)→R α
def ad_z16 {α:Type} (F:Sg_z16 α):FP α:=fun args k=>match args with
  | [a0]=>decI .i64 a0 fun x0=>F x0 (fun r0=>k (.int .i64 r0))
  | _=>none
def dR_insn_Size {α:Type} (a0:SV) (k:Int→R α):R α:=decI .i64 a0 fun x0=>k x0
theorem dR_insn_Size_spec {α:Type} {v:SV} {k:Int→R α} {r:α} (h:dR_insn_Size v k=some r):∃x0,v=(.int .i64 x0)∧k x0=some r:=by
  unfold dR_insn_Size at h
  obtain ⟨x0,rfl,h0⟩:=decI_spec h
  exact ⟨x0,rfl,h0⟩
def p_z16 {α:Type}  (x0:Int) (k:Int→R α):R α:=
  let b1:Bool:=(x0==11)
  cond b1 (
  k 1) (
  let b2:Bool:=(x0==15)
  cond b2 (
  k 1) (
  let b3:Bool:=(x0==18)
  cond b3 (
  k 1) (
  let b4:Bool:=(x0==12)
  cond b4 (
  k 2) (
  let b5:Bool:=(x0==16)
  cond b5 (
  k 2) (
  let b6:Bool:=(x0==19)
  cond b6 (
  k 2) (
  let b7:Bool:=(x0==13)
  cond b7 (
  k 4) (
  let b8:Bool:=(x0==17)
  cond b8 (
  k 4) (
  let b9:Bool:=(x0==20)
  cond b9 (
  k 4) (
  let b10:Bool:=(x0==66)
  cond b10 (
  k 4) (
  let b11:Bool:=(x0==68)
  cond b11 (
  k 4) (
  let b12:Bool:=(x0==14)
  cond b12 (
  k 8) (
  let b13:Bool:=(x0==21)
  cond b13 (
  k 8) (
  let b14:Bool:=(x0==67)
  cond b14 (
  k 8) (
  let b15:Bool:=(x0==69)
  cond b15 (
  k 8) (
  k 0)))))))))))))))
abbrev Sg_zk (α:Type):=Int→Int→(Int→R α)→R α
def ad_zk {α:Type} (F:Sg_zk α):FP α:=fun args k=>match args with
  | [a0,a1]=>decI .u64 a0 fun x0=>decI .i64 a1 fun x1=>F x0 x1 (fun r0=>k (.int .u64 r0))
  | _=>none
def dR_word_Zext {α:Type} (a0:SV) (k:Int→R α):R α:=decI .u64 a0 fun x0=>k x0
theorem dR_word_Zext_spec {α:Type} {v:SV} {k:Int→R α} {r:α} (h:dR_word_Zext v k=some r):∃x0,v=(.int .u64 x0)∧k x0=some r:=by
  unfold dR_word_Zext at h
  obtain ⟨x0,rfl,h0⟩:=decI_spec h
  exact ⟨x0,rfl,h0⟩
def p_zk {α:Type} (F_zg:Sg_zg α) (x0:Int) (x1:Int) (k:Int→R α):R α:=
  let t1:Int:=(pickmx true x1 1)
  let t2:Int:=(pickmx false t1 64)
  F_zg t2 (fun r3=>
  let t4:Int:=(bitop .and .u64 x0 r3)
  k t4)
abbrev Sg_z21 (α:Type):=Int→Int→(Int→R α)→R α
def ad_z21 {α:Type} (F:Sg_z21 α):FP α:=fun args k=>match args with
  | [a0,a1]=>decI .i64 a0 fun x0=>decI .u64 a1 fun x1=>F x0 x1 (fun r0=>k (.int .u64 r0))
  | _=>none
def dR_alu_Extend {α:Type} (a0:SV) (k:Int→R α):R α:=decI .u64 a0 fun x0=>k x0
theorem dR_alu_Extend_spec {α:Type} {v:SV} {k:Int→R α} {r:α} (h:dR_alu_Extend v k=some r):∃x0,v=(.int .u64 x0)∧k x0=some r:=by
  unfold dR_alu_Extend at h
  obtain ⟨x0,rfl,h0⟩:=decI_spec h
  exact ⟨x0,rfl,h0⟩
def p_z21 {α:Type} (F_z16:Sg_z16 α) (F_zk:Sg_zk α) (F_z5:Sg_z5 α) (x0:Int) (x1:Int) (k:Int→R α):R α:=
  F_z16 x0 (fun r1=>
  let t2:Int:=(IntKind.i64.wrap (8 * r1))
  let b3:Bool:=(x0==15)
  cond b3 (
  F_zk x1 t2 (fun r4=>
  k r4)) (
  let b5:Bool:=(x0==16)
  cond b5 (
  F_zk x1 t2 (fun r6=>
  k r6)) (
  let b7:Bool:=(x0==17)
  cond b7 (
  F_zk x1 t2 (fun r8=>
  k r8)) (
  let b9:Bool:=(x0==68)
  cond b9 (
  F_zk x1 t2 (fun r10=>
  k r10)) (
  let b11:Bool:=(x0==11)
  cond b11 (
  F_z5 x1 t2 (fun r12=>
  k r12)) (
  let b13:Bool:=(x0==12)
  cond b13 (
  F_z5 x1 t2 (fun r14=>
  k r14)) (
  let b15:Bool:=(x0==13)
  cond b15 (
  F_z5 x1 t2 (fun r16=>
  k r16)) (
  let b17:Bool:=(x0==14)
  cond b17 (
  F_z5 x1 t2 (fun r18=>
  k r18)) (
  let b19:Bool:=(x0==66)
  cond b19 (
  F_z5 x1 t2 (fun r20=>
  k r20)) (
  let b21:Bool:=(x0==67)
  cond b21 (
  F_z5 x1 t2 (fun r22=>
  k r22)) (
  k 0)))))))))))
abbrev Sg_z18 (α:Type):=Int→(Bool→R α)→R α
def ad_z18 {α:Type} (F:Sg_z18 α):FP α:=fun args k=>match args with
  | [a0]=>decI .i64 a0 fun x0=>F x0 (fun r0=>k (.bool r0))
  | _=>none
def dR_alu_narrow {α:Type} (a0:SV) (k:Bool→R α):R α:=decB a0 fun x0=>k x0
theorem dR_alu_narrow_spec {α:Type} {v:SV} {k:Bool→R α} {r:α} (h:dR_alu_narrow v k=some r):∃x0,v=(.bool x0)∧k x0=some r:=by
  unfold dR_alu_narrow at h
  obtain ⟨x0,rfl,h0⟩:=decB_spec h
  exact ⟨x0,rfl,h0⟩
def p_z18 {α:Type}  (x0:Int) (k:Bool→R α):R α:=
  let b1:Bool:=(leB 31 x0)
  cond b1 (
  let b2:Bool:=(leB x0 34)
  cond b2 (
  k true) (
  let b3:Bool:=(leB 45 x0)
  cond b3 (
  let b4:Bool:=(leB x0 49)
  k b4) (
  k false))) (
  let b5:Bool:=(leB 45 x0)
  cond b5 (
  let b6:Bool:=(leB x0 49)
  k b6) (
  k false))
abbrev Sg_z14 (α:Type):=Int→(Int→R α)→R α
def ad_z14 {α:Type} (F:Sg_z14 α):FP α:=fun args k=>match args with
  | [a0]=>decI .i64 a0 fun x0=>F x0 (fun r0=>k (.int .i64 r0))
  | _=>none
def dR_alu_plain {α:Type} (a0:SV) (k:Int→R α):R α:=decI .i64 a0 fun x0=>k x0
theorem dR_alu_plain_spec {α:Type} {v:SV} {k:Int→R α} {r:α} (h:dR_alu_plain v k=some r):∃x0,v=(.int .i64 x0)∧k x0=some r:=by
  unfold dR_alu_plain at h
  obtain ⟨x0,rfl,h0⟩:=decI_spec h
  exact ⟨x0,rfl,h0⟩
def q_alu_plain_1 {α:Type} (x0:Int) (k:Int→R α):R α:=
  cond (decide (0≤x0) && decide (x0 < 70)) (
  cond (decide ((Int.toNat x0) < 70)) (
  k (((upd (upd (upd (upd (upd (upd (upd (upd (upd (upd (upd (upd (upd (upd (upd (upd (upd (upd (fun _=>0) 22 35) 23 38) 24 39) 25 40) 26 43) 27 44) 28 37) 29 41) 30 42) 31 35) 32 37) 33 41) 34 42) 45 35) 46 36) 47 37) 48 41) 49 42):Nat→Int) (Int.toNat x0))) none) none
def p_z14 {α:Type} (F_z4:Sg_z4 α) (x0:Int) (k:Int→R α):R α:=
  F_z4 x0 (fun r1=>
  let b2:Bool:=(r1==6)
  cond b2 (
  let b3:Bool:=(ltB x0 45)
  cond b3 (
  k x0) (
  q_alu_plain_1 x0 k)) (
  q_alu_plain_1 x0 k))
abbrev Sg_z1g (α:Type):=Bool→(Int→R α)→R α
def ad_z1g {α:Type} (F:Sg_z1g α):FP α:=fun args k=>match args with
  | [a0]=>decB a0 fun x0=>F x0 (fun r0=>k (.int .u64 r0))
  | _=>none
def dR_alu_one {α:Type} (a0:SV) (k:Int→R α):R α:=decI .u64 a0 fun x0=>k x0
theorem dR_alu_one_spec {α:Type} {v:SV} {k:Int→R α} {r:α} (h:dR_alu_one v k=some r):∃x0,v=(.int .u64 x0)∧k x0=some r:=by
  unfold dR_alu_one at h
  obtain ⟨x0,rfl,h0⟩:=decI_spec h
  exact ⟨x0,rfl,h0⟩
def p_z1g {α:Type}  (x0:Bool) (k:Int→R α):R α:=
  cond x0 (
  k 1) (
  k 0)
abbrev Sg_z15 (α:Type):=Int→Int→Int→Int→(Int→R α)→R α
def ad_z15 {α:Type} (F:Sg_z15 α):FP α:=fun args k=>match args with
  | [a0,a1,a2,a3]=>decI .i64 a0 fun x0=>decI .u64 a1 fun x1=>decI .u64 a2 fun x2=>decI .i64 a3 fun x3=>F x0 x1 x2 x3 (fun r0=>k (.int .u64 r0))
  | _=>none
def dR_alu_does {α:Type} (a0:SV) (k:Int→R α):R α:=decI .u64 a0 fun x0=>k x0
theorem dR_alu_does_spec {α:Type} {v:SV} {k:Int→R α} {r:α} (h:dR_alu_does v k=some r):∃x0,v=(.int .u64 x0)∧k x0=some r:=by
  unfold dR_alu_does at h
  obtain ⟨x0,rfl,h0⟩:=decI_spec h
  exact ⟨x0,rfl,h0⟩
def p_z15 {α:Type} (F_zw:Sg_zw α) (F_z1g:Sg_z1g α) (x0:Int) (x1:Int) (x2:Int) (x3:Int) (k:Int→R α):R α:=
  let t1:Int:=(IntKind.i64.wrap (x3 - 1))
  let t2:Int:=(IntKind.u64.wrap t1)
  let t3:Int:=(bitop .and .u64 x2 t2)
  let b4:Bool:=(x0==35)
  cond b4 (
  let t5:Int:=(IntKind.u64.wrap (x1+ x2))
  k t5) (
  let b6:Bool:=(x0==36)
  cond b6 (
  let t7:Int:=(IntKind.u64.wrap (x1 - x2))
  k t7) (
  let b8:Bool:=(x0==37)
  cond b8 (
  cond (decide (t3 < 0)) none (
  let t9:Int:=(gshl .u64 x1 t3)
  k t9)) (
  let b10:Bool:=(x0==38)
  cond b10 (
  F_zw x1 x2 (fun r11=>
  F_z1g r11 (fun r12=>
  k r12))) (
  let b13:Bool:=(x0==39)
  cond b13 (
  let b14:Bool:=(ltB x1 x2)
  F_z1g b14 (fun r15=>
  k r15)) (
  let b16:Bool:=(x0==40)
  cond b16 (
  let t17:Int:=(bitop .xor .u64 x1 x2)
  k t17) (
  let b18:Bool:=(x0==41)
  cond b18 (
  cond (decide (t3 < 0)) none (
  let t19:Int:=(gshr .u64 x1 t3)
  k t19)) (
  let b20:Bool:=(x0==42)
  cond b20 (
  let t21:Int:=(IntKind.i64.wrap x1)
  cond (decide (t3 < 0)) none (
  let t22:Int:=(gshr .i64 t21 t3)
  let t23:Int:=(IntKind.u64.wrap t22)
  k t23)) (
  let b24:Bool:=(x0==43)
  cond b24 (
  let t25:Int:=(bitop .or .u64 x1 x2)
  k t25) (
  let t26:Int:=(bitop .and .u64 x1 x2)
  k t26)))))))))
abbrev Sg_z29 (α:Type):=Int→Int→Int→(Int→R α)→R α
def ad_z29 {α:Type} (F:Sg_z29 α):FP α:=fun args k=>match args with
  | [a0,a1,a2]=>decI .i64 a0 fun x0=>decI .u64 a1 fun x1=>decI .u64 a2 fun x2=>F x0 x1 x2 (fun r0=>k (.int .u64 r0))
  | _=>none
def dR_alu_Do {α:Type} (a0:SV) (k:Int→R α):R α:=decI .u64 a0 fun x0=>k x0
theorem dR_alu_Do_spec {α:Type} {v:SV} {k:Int→R α} {r:α} (h:dR_alu_Do v k=some r):∃x0,v=(.int .u64 x0)∧k x0=some r:=by
  unfold dR_alu_Do at h
  obtain ⟨x0,rfl,h0⟩:=decI_spec h
  exact ⟨x0,rfl,h0⟩
def q_alu_Do_1 {α:Type} (F_z18:Sg_z18 α) (F_z14:Sg_z14 α) (F_z15:Sg_z15 α) (F_zk:Sg_zk α) (F_z5:Sg_z5 α) (x0:Int) (x1:Int) (x2:Int) (k:Int→R α):R α:=
  F_z18 x0 (fun r4=>
  let b5:Bool:=(!r4)
  cond b5 (
  F_z14 x0 (fun r6=>
  F_z15 r6 x1 x2 64 (fun r7=>
  k r7))) (
  let b8:Bool:=(x0==33)
  cond b8 (
  F_zk x1 32 (fun r9=>
  F_z14 x0 (fun r10=>
  F_z15 r10 r9 x2 32 (fun r11=>
  F_z5 r11 32 (fun r12=>
  k r12))))) (
  let b13:Bool:=(x0==48)
  cond b13 (
  F_zk x1 32 (fun r14=>
  F_z14 x0 (fun r15=>
  F_z15 r15 r14 x2 32 (fun r16=>
  F_z5 r16 32 (fun r17=>
  k r17))))) (
  F_z5 x1 32 (fun r18=>
  F_z14 x0 (fun r19=>
  F_z15 r19 r18 x2 32 (fun r20=>
  F_z5 r20 32 (fun r21=>
  k r21))))))))
def p_z29 {α:Type} (F_z4:Sg_z4 α) (F_z18:Sg_z18 α) (F_z14:Sg_z14 α) (F_z15:Sg_z15 α) (F_zk:Sg_zk α) (F_z5:Sg_z5 α) (x0:Int) (x1:Int) (x2:Int) (k:Int→R α):R α:=
  F_z4 x0 (fun r1=>
  let b2:Bool:=(r1 !=5)
  cond b2 (
  let b3:Bool:=(r1 !=6)
  cond b3 (
  k 0) (
  q_alu_Do_1 F_z18 F_z14 F_z15 F_zk F_z5 x0 x1 x2 k)) (
  q_alu_Do_1 F_z18 F_z14 F_z15 F_zk F_z5 x0 x1 x2 k))
abbrev Sg_z2a (α:Type):=GState→GInsn→(GFault→R α)→R α
def ad_z2a {α:Type} (F:Sg_z2a α):FP α:=fun args k=>match args with
  | [a0,a1]=>GState.dec a0 fun x0=>GInsn.dec a1 fun x1=>F x0 x1 (fun r0=>k (GFault.sv r0))
  | _=>none
def dR_exec_calls {α:Type} (a0:SV) (k:GFault→R α):R α:=GFault.dec a0 fun x0=>k x0
theorem dR_exec_calls_spec {α:Type} {v:SV} {k:GFault→R α} {r:α} (h:dR_exec_calls v k=some r):∃x0,v=(GFault.sv x0)∧k x0=some r:=by
  unfold dR_exec_calls at h
  obtain ⟨x0,rfl,h0⟩:=GFault.dec_spec h
  exact ⟨x0,rfl,h0⟩
def p_z2a {α:Type} (F_zj:Sg_zj α) (x0:GState) (x1:GInsn) (k:GFault→R α):R α:=
  let b1:Bool:=(x1.Op==53)
  cond b1 (
  k (GFault.mk 3 x0.PC 0 false)) (
  F_zj x0 (fun r2=>
  cond (decide (0≤r2) && decide (r2 < 6)) (
  cond (decide ((Int.toNat r2) < 6)) (
  k (GFault.mk (((upd (upd (upd (upd (upd (upd (fun _=>0) 0 8) 1 9) 2 0) 3 11) 4 8) 5 10):Nat→Int) (Int.toNat r2)) 0 0 false)) none) none))
abbrev Sg_z1t (α:Type):=Int→(Int→R α)→R α
def ad_z1t {α:Type} (F:Sg_z1t α):FP α:=fun args k=>match args with
  | [a0]=>decI .i64 a0 fun x0=>F x0 (fun r0=>k (.int .i64 r0))
  | _=>none
def dR_csr_Redirect {α:Type} (a0:SV) (k:Int→R α):R α:=decI .i64 a0 fun x0=>k x0
theorem dR_csr_Redirect_spec {α:Type} {v:SV} {k:Int→R α} {r:α} (h:dR_csr_Redirect v k=some r):∃x0,v=(.int .i64 x0)∧k x0=some r:=by
  unfold dR_csr_Redirect at h
  obtain ⟨x0,rfl,h0⟩:=decI_spec h
  exact ⟨x0,rfl,h0⟩
def p_z1t {α:Type}  (x0:Int) (k:Int→R α):R α:=
  let b1:Bool:=(x0==256)
  cond b1 (
  let t2:Int:=(IntKind.i64.wrap (x0+ 256))
  k t2) (
  let b3:Bool:=(x0==260)
  cond b3 (
  let t4:Int:=(IntKind.i64.wrap (x0+ 256))
  k t4) (
  let b5:Bool:=(x0==261)
  cond b5 (
  let t6:Int:=(IntKind.i64.wrap (x0+ 256))
  k t6) (
  let b7:Bool:=(x0==320)
  cond b7 (
  let t8:Int:=(IntKind.i64.wrap (x0+ 256))
  k t8) (
  let b9:Bool:=(x0==321)
  cond b9 (
  let t10:Int:=(IntKind.i64.wrap (x0+ 256))
  k t10) (
  let b11:Bool:=(x0==322)
  cond b11 (
  let t12:Int:=(IntKind.i64.wrap (x0+ 256))
  k t12) (
  let b13:Bool:=(x0==323)
  cond b13 (
  let t14:Int:=(IntKind.i64.wrap (x0+ 256))
  k t14) (
  let b15:Bool:=(x0==384)
  cond b15 (
  let t16:Int:=(IntKind.i64.wrap (x0+ 256))
  k t16) (
  k x0))))))))
abbrev Sg_z1h (α:Type):=GState→Int→(Int→Bool→R α)→R α
def ad_z1h {α:Type} (F:Sg_z1h α):FP α:=fun args k=>match args with
  | [a0,a1]=>GState.dec a0 fun x0=>decI .i64 a1 fun x1=>F x0 x1 (fun r0 r1=>k (.tuple [(.int .u64 r0),(.bool r1)]))
  | _=>none
def dR_csr_Read {α:Type} (v:SV) (k:Int→Bool→R α):R α:=match v with
  | .tuple [a0,a1]=>decI .u64 a0 fun x0=>decB a1 fun x1=>k x0 x1
  | _=>none
theorem dR_csr_Read_spec {α:Type} {v:SV} {k:Int→Bool→R α} {r:α} (h:dR_csr_Read v k=some r):∃x0 x1,v=(.tuple [(.int .u64 x0),(.bool x1)])∧k x0 x1=some r:=by
  unfold dR_csr_Read at h
  split at h<;>try (cases h; done)
  obtain ⟨x0,rfl,h0⟩:=decI_spec h
  obtain ⟨x1,rfl,h1⟩:=decB_spec h0
  exact ⟨x0,x1,rfl,h1⟩
def p_z1h {α:Type} (F_z2:Sg_z2 α) (F_ze:Sg_ze α) (x0:GState) (x1:Int) (k:Int→Bool→R α):R α:=
  let b1:Bool:=(x1==256)
  cond b1 (
  F_z2  (fun r2=>
  let t3:Int:=(bitop .and .u64 (x0.C 0) r2)
  k t3 true)) (
  let b4:Bool:=(x1==260)
  cond b4 (
  let t5:Int:=(bitop .and .u64 (x0.C 3) 544)
  k t5 true) (
  let b6:Bool:=(x1==516)
  cond b6 (
  let t7:Int:=(bitop .and .u64 (x0.C 3) 1088)
  let t8:Int:=(gshr .u64 t7 1)
  k t8 true) (
  let b9:Bool:=(x1==3074)
  cond b9 (
  k x0.Done true) (
  F_ze x1 (fun r10=>
  let b11:Bool:=(leB 0 r10)
  cond b11 (
  cond (decide (0≤r10) && decide (r10 < 29)) (
  cond (decide ((Int.toNat r10) < 29)) (
  k (x0.C (Int.toNat r10)) true) none) none) (
  k 0 false))))))
abbrev Sg_z19 (α:Type):=Int→Int→Int→(Int→R α)→R α
def ad_z19 {α:Type} (F:Sg_z19 α):FP α:=fun args k=>match args with
  | [a0,a1,a2]=>decI .i64 a0 fun x0=>decI .u64 a1 fun x1=>decI .u64 a2 fun x2=>F x0 x1 x2 (fun r0=>k (.int .u64 r0))
  | _=>none
def dR_alu_Csr {α:Type} (a0:SV) (k:Int→R α):R α:=decI .u64 a0 fun x0=>k x0
theorem dR_alu_Csr_spec {α:Type} {v:SV} {k:Int→R α} {r:α} (h:dR_alu_Csr v k=some r):∃x0,v=(.int .u64 x0)∧k x0=some r:=by
  unfold dR_alu_Csr at h
  obtain ⟨x0,rfl,h0⟩:=decI_spec h
  exact ⟨x0,rfl,h0⟩
def p_z19 {α:Type}  (x0:Int) (x1:Int) (x2:Int) (k:Int→R α):R α:=
  let b1:Bool:=(x0==54)
  cond b1 (
  k x2) (
  let b2:Bool:=(x0==57)
  cond b2 (
  k x2) (
  let b3:Bool:=(x0==55)
  cond b3 (
  let t4:Int:=(bitop .or .u64 x1 x2)
  k t4) (
  let b5:Bool:=(x0==58)
  cond b5 (
  let t6:Int:=(bitop .or .u64 x1 x2)
  k t6) (
  let b7:Bool:=(x0==56)
  cond b7 (
  let t8:Int:=(bitop .andNot .u64 x1 x2)
  k t8) (
  let b9:Bool:=(x0==59)
  cond b9 (
  let t10:Int:=(bitop .andNot .u64 x1 x2)
  k t10) (
  k x1))))))
abbrev Sg_z9 (α:Type):=GState→Int→Int→Int→(GState→R α)→R α
def ad_z9 {α:Type} (F:Sg_z9 α):FP α:=fun args k=>match args with
  | [a0,a1,a2,a3]=>GState.dec a0 fun x0=>decI .i64 a1 fun x1=>decI .u64 a2 fun x2=>decI .u64 a3 fun x3=>F x0 x1 x2 x3 (fun r0=>k (GState.sv r0))
  | _=>none
def dR_csr_With {α:Type} (a0:SV) (k:GState→R α):R α:=GState.dec a0 fun x0=>k x0
theorem dR_csr_With_spec {α:Type} {v:SV} {k:GState→R α} {r:α} (h:dR_csr_With v k=some r):∃x0,v=(GState.sv x0)∧k x0=some r:=by
  unfold dR_csr_With at h
  obtain ⟨x0,rfl,h0⟩:=GState.dec_spec h
  exact ⟨x0,rfl,h0⟩
def q_csr_With_1 {α:Type} (x0:GState) (x1:Int) (x2:Int) (k:GState→R α) (r5:Int):R α:=
  cond (decide ((Int.toNat x1) < 29)) (
  let t6:Int:=(bitop .andNot .u64 (x0.C (Int.toNat x1)) x2)
  let t7:Int:=(bitop .or .u64 t6 r5)
  cond (decide (0≤x1) && decide (x1 < 29)) (
  cond (decide ((Int.toNat x1) < 29)) (
  k (GState.mk x0.X x0.PC x0.Level x0.V (upd x0.C (Int.toNat x1) t7) x0.Done)) none) none) none
def q_csr_With_2 {α:Type} (x0:GState) (x1:Int) (x2:Int) (k:GState→R α) (t1:Int):R α:=
  cond (decide (0≤x1) && decide (x1 < 29)) (
  q_csr_With_1 x0 x1 x2 k t1) none
def p_z9 {α:Type} (F_z1:Sg_z1 α) (F_zb:Sg_zb α) (x0:GState) (x1:Int) (x2:Int) (x3:Int) (k:GState→R α):R α:=
  let t1:Int:=(bitop .and .u64 x3 x2)
  let b2:Bool:=(x1==0)
  cond b2 (
  F_z1 t1 11 2 (fun r3=>
  let b4:Bool:=(r3==2)
  cond b4 (
  F_zb t1 11 2 0 (fun r5=>
  cond (decide (0≤x1) && decide (x1 < 29)) (
  q_csr_With_1 x0 x1 x2 k r5) none)) (
  q_csr_With_2 x0 x1 x2 k t1))) (
  q_csr_With_2 x0 x1 x2 k t1)
abbrev Sg_z6 (α:Type):=Int→(Int→R α)→R α
def ad_z6 {α:Type} (F:Sg_z6 α):FP α:=fun args k=>match args with
  | [a0]=>decI .i64 a0 fun x0=>F x0 (fun r0=>k (.int .u64 r0))
  | _=>none
def dR_csr_Mask {α:Type} (a0:SV) (k:Int→R α):R α:=decI .u64 a0 fun x0=>k x0
theorem dR_csr_Mask_spec {α:Type} {v:SV} {k:Int→R α} {r:α} (h:dR_csr_Mask v k=some r):∃x0,v=(.int .u64 x0)∧k x0=some r:=by
  unfold dR_csr_Mask at h
  obtain ⟨x0,rfl,h0⟩:=decI_spec h
  exact ⟨x0,rfl,h0⟩
def p_z49 {α:Type} (F_z2:Sg_z2 α)  (k:Int→R α):R α:=
  F_z2  (fun r1=>
  k 824641853866)
def p_z4a {α:Type} (F_z2:Sg_z2 α)  (k:Int→R α):R α:=
  F_z2  (fun r1=>
  k 15775231)
def p_z4b {α:Type} (F_z2:Sg_z2 α)  (k:Int→R α):R α:=
  F_z2  (fun r1=>
  k 544)
def p_z4c {α:Type} (F_z2:Sg_z2 α)  (k:Int→R α):R α:=
  F_z2  (fun r1=>
  k 1632)
def p_z4d {α:Type} (F_z2:Sg_z2 α)  (k:Int→R α):R α:=
  F_z2  (fun r1=>
  k 18446744073709551612)
def p_z4e {α:Type} (F_z2:Sg_z2 α)  (k:Int→R α):R α:=
  F_z2  (fun r1=>
  k 18446744073709551615)
def p_z4f {α:Type} (F_z2:Sg_z2 α)  (k:Int→R α):R α:=
  F_z2  (fun r1=>
  k 18446744073709551612)
def p_z4g {α:Type} (F_z2:Sg_z2 α)  (k:Int→R α):R α:=
  F_z2  (fun r1=>
  k 18446744073709551615)
def p_z4h {α:Type} (F_z2:Sg_z2 α)  (k:Int→R α):R α:=
  F_z2  (fun r1=>
  k 18446744073709551615)
def p_z4i {α:Type} (F_z2:Sg_z2 α)  (k:Int→R α):R α:=
  F_z2  (fun r1=>
  k 18446744073709551615)
def p_z4j {α:Type} (F_z2:Sg_z2 α)  (k:Int→R α):R α:=
  F_z2  (fun r1=>
  k 18446744073709551612)
def p_z4k {α:Type} (F_z2:Sg_z2 α)  (k:Int→R α):R α:=
  F_z2  (fun r1=>
  k 18446744073709551615)
def p_z4l {α:Type} (F_z2:Sg_z2 α)  (k:Int→R α):R α:=
  F_z2  (fun r1=>
  k 18446744073709551612)
def p_z4m {α:Type} (F_z2:Sg_z2 α)  (k:Int→R α):R α:=
  F_z2  (fun r1=>
  k 18446744073709551615)
def p_z4n {α:Type} (F_z2:Sg_z2 α)  (k:Int→R α):R α:=
  F_z2  (fun r1=>
  k 18446744073709551615)
def p_z4o {α:Type} (F_z2:Sg_z2 α)  (k:Int→R α):R α:=
  F_z2  (fun r1=>
  k 9223372036871487743)
def p_z4p {α:Type} (F_z2:Sg_z2 α)  (k:Int→R α):R α:=
  F_z2  (fun r1=>
  k 7340992)
def p_z4q {α:Type} (F_z2:Sg_z2 α)  (k:Int→R α):R α:=
  F_z2  (fun r1=>
  k 45567)
def p_z4r {α:Type} (F_z2:Sg_z2 α)  (k:Int→R α):R α:=
  F_z2  (fun r1=>
  k 1088)
def p_z4s {α:Type} (F_z2:Sg_z2 α)  (k:Int→R α):R α:=
  F_z2  (fun r1=>
  k 1088)
def p_z4t {α:Type} (F_z2:Sg_z2 α)  (k:Int→R α):R α:=
  F_z2  (fun r1=>
  k 18446744073709551615)
def p_z4u {α:Type} (F_z2:Sg_z2 α)  (k:Int→R α):R α:=
  F_z2  (fun r1=>
  k 9223372036871487743)
def p_z4v {α:Type} (F_z2:Sg_z2 α)  (k:Int→R α):R α:=
  F_z2  (fun r1=>
  k r1)
def p_z4w {α:Type} (F_z2:Sg_z2 α)  (k:Int→R α):R α:=
  F_z2  (fun r1=>
  k 18446744073709551612)
def p_z4x {α:Type} (F_z2:Sg_z2 α)  (k:Int→R α):R α:=
  F_z2  (fun r1=>
  k 18446744073709551615)
def p_z4y {α:Type} (F_z2:Sg_z2 α)  (k:Int→R α):R α:=
  F_z2  (fun r1=>
  k 18446744073709551612)
def p_z4z {α:Type} (F_z2:Sg_z2 α)  (k:Int→R α):R α:=
  F_z2  (fun r1=>
  k 18446744073709551615)
def p_z50 {α:Type} (F_z2:Sg_z2 α)  (k:Int→R α):R α:=
  F_z2  (fun r1=>
  k 18446744073709551615)
def p_z51 {α:Type} (F_z2:Sg_z2 α)  (k:Int→R α):R α:=
  F_z2  (fun r1=>
  k 9223372036871487743)
def p_z6 {α:Type} (F_z2:Sg_z2 α) (x0:Int) (k:Int→R α):R α:=
  cond (x0==0) (p_z49 F_z2  k) ( cond (x0==1) (p_z4a F_z2  k) ( cond (x0==2) (p_z4b F_z2  k) ( cond (x0==3) (p_z4c F_z2  k) ( cond (x0==4) (p_z4d F_z2  k) ( cond (x0==5) (p_z4e F_z2  k) ( cond (x0==6) (p_z4f F_z2  k) ( cond (x0==7) (p_z4g F_z2  k) ( cond (x0==8) (p_z4h F_z2  k) ( cond (x0==9) (p_z4i F_z2  k) ( cond (x0==10) (p_z4j F_z2  k) ( cond (x0==11) (p_z4k F_z2  k) ( cond (x0==12) (p_z4l F_z2  k) ( cond (x0==13) (p_z4m F_z2  k) ( cond (x0==14) (p_z4n F_z2  k) ( cond (x0==15) (p_z4o F_z2  k) ( cond (x0==16) (p_z4p F_z2  k) ( cond (x0==17) (p_z4q F_z2  k) ( cond (x0==18) (p_z4r F_z2  k) ( cond (x0==19) (p_z4s F_z2  k) ( cond (x0==20) (p_z4t F_z2  k) ( cond (x0==21) (p_z4u F_z2  k) ( cond (x0==22) (p_z4v F_z2  k) ( cond (x0==23) (p_z4w F_z2  k) ( cond (x0==24) (p_z4x F_z2  k) ( cond (x0==25) (p_z4y F_z2  k) ( cond (x0==26) (p_z4z F_z2  k) ( cond (x0==27) (p_z50 F_z2  k) ( cond (x0==28) (p_z51 F_z2  k) ( none)))))))))))))))))))))))))))))
abbrev Sg_z1a (α:Type):=GState→Int→Int→(GState→Bool→R α)→R α
def ad_z1a {α:Type} (F:Sg_z1a α):FP α:=fun args k=>match args with
  | [a0,a1,a2]=>GState.dec a0 fun x0=>decI .i64 a1 fun x1=>decI .u64 a2 fun x2=>F x0 x1 x2 (fun r0 r1=>k (.tuple [(GState.sv r0),(.bool r1)]))
  | _=>none
def dR_csr_Write {α:Type} (v:SV) (k:GState→Bool→R α):R α:=match v with
  | .tuple [a0,a1]=>GState.dec a0 fun x0=>decB a1 fun x1=>k x0 x1
  | _=>none
theorem dR_csr_Write_spec {α:Type} {v:SV} {k:GState→Bool→R α} {r:α} (h:dR_csr_Write v k=some r):∃x0 x1,v=(.tuple [(GState.sv x0),(.bool x1)])∧k x0 x1=some r:=by
  unfold dR_csr_Write at h
  split at h<;>try (cases h; done)
  obtain ⟨x0,rfl,h0⟩:=GState.dec_spec h
  obtain ⟨x1,rfl,h1⟩:=decB_spec h0
  exact ⟨x0,x1,rfl,h1⟩
def p_z1a {α:Type} (F_z2:Sg_z2 α) (F_z9:Sg_z9 α) (F_ze:Sg_ze α) (F_z6:Sg_z6 α) (x0:GState) (x1:Int) (x2:Int) (k:GState→Bool→R α):R α:=
  let b1:Bool:=(x1==256)
  cond b1 (
  F_z2  (fun r2=>
  F_z9 x0 0 r2 x2 (fun r3=>
  k r3 true))) (
  let b4:Bool:=(x1==260)
  cond b4 (
  F_z9 x0 3 544 x2 (fun r5=>
  k r5 true)) (
  let b6:Bool:=(x1==516)
  cond b6 (
  let t7:Int:=(gshl .u64 x2 1)
  F_z9 x0 3 1088 t7 (fun r8=>
  k r8 true)) (
  let b9:Bool:=(x1==3074)
  cond b9 (
  k x0 true) (
  F_ze x1 (fun r10=>
  let b11:Bool:=(ltB r10 0)
  cond b11 (
  k x0 false) (
  F_z6 r10 (fun r12=>
  F_z9 x0 r10 r12 x2 (fun r13=>
  k r13 true))))))))
abbrev Sg_z2b (α:Type):=GState→GInsn→(GExec_result→R α)→R α
def ad_z2b {α:Type} (F:Sg_z2b α):FP α:=fun args k=>match args with
  | [a0,a1]=>GState.dec a0 fun x0=>GInsn.dec a1 fun x1=>F x0 x1 (fun r0=>k (GExec_result.sv r0))
  | _=>none
def dR_exec_control {α:Type} (a0:SV) (k:GExec_result→R α):R α:=GExec_result.dec a0 fun x0=>k x0
theorem dR_exec_control_spec {α:Type} {v:SV} {k:GExec_result→R α} {r:α} (h:dR_exec_control v k=some r):∃x0,v=(GExec_result.sv x0)∧k x0=some r:=by
  unfold dR_exec_control at h
  obtain ⟨x0,rfl,h0⟩:=GExec_result.dec_spec h
  exact ⟨x0,rfl,h0⟩
def p_z2b {α:Type} (F_z1t:Sg_z1t α) (F_z1h:Sg_z1h α) (F_zu:Sg_zu α) (F_z19:Sg_z19 α) (F_z1a:Sg_z1a α) (F_zf:Sg_zf α) (x0:GState) (x1:GInsn) (k:GExec_result→R α):R α:=
  cond x0.V (
  F_z1t x1.CSR (fun r1=>
  F_z1h x0 r1 (fun r2 r3=>
  let t4:Int:=(IntKind.u64.wrap x1.Imm)
  let b5:Bool:=(ltB x1.Op 57)
  cond b5 (
  cond (decide (0≤x1.Rs1) && decide (x1.Rs1 < 32)) (
  cond (decide ((Int.toNat x1.Rs1) < 32)) (
  F_zu x1 (fun r6=>
  cond r6 (
  F_z19 x1.Op r2 (x0.X (Int.toNat x1.Rs1)) (fun r7=>
  F_z1a x0 r1 r7 (fun r8 r9=>
  F_zf r8 r2 (fun r10=>
  k r10)))) (
  F_zf x0 r2 (fun r11=>
  k r11)))) none) none) (
  F_zu x1 (fun r12=>
  cond r12 (
  F_z19 x1.Op r2 t4 (fun r13=>
  F_z1a x0 r1 r13 (fun r14 r15=>
  F_zf r14 r2 (fun r16=>
  k r16)))) (
  F_zf x0 r2 (fun r17=>
  k r17))))))) (
  F_z1h x0 x1.CSR (fun r18 r19=>
  let t20:Int:=(IntKind.u64.wrap x1.Imm)
  let b21:Bool:=(ltB x1.Op 57)
  cond b21 (
  cond (decide (0≤x1.Rs1) && decide (x1.Rs1 < 32)) (
  cond (decide ((Int.toNat x1.Rs1) < 32)) (
  F_zu x1 (fun r22=>
  cond r22 (
  F_z19 x1.Op r18 (x0.X (Int.toNat x1.Rs1)) (fun r23=>
  F_z1a x0 x1.CSR r23 (fun r24 r25=>
  F_zf r24 r18 (fun r26=>
  k r26)))) (
  F_zf x0 r18 (fun r27=>
  k r27)))) none) none) (
  F_zu x1 (fun r28=>
  cond r28 (
  F_z19 x1.Op r18 t20 (fun r29=>
  F_z1a x0 x1.CSR r29 (fun r30 r31=>
  F_zf r30 r18 (fun r32=>
  k r32)))) (
  F_zf x0 r18 (fun r33=>
  k r33))))))
abbrev Sg_zv (α:Type):=GTrap_kept→GState→(GState→R α)→R α
def ad_zv {α:Type} (F:Sg_zv α):FP α:=fun args k=>match args with
  | [a0,a1]=>GTrap_kept.dec a0 fun x0=>GState.dec a1 fun x1=>F x0 x1 (fun r0=>k (GState.sv r0))
  | _=>none
def dR_trap_kept_back {α:Type} (a0:SV) (k:GState→R α):R α:=GState.dec a0 fun x0=>k x0
theorem dR_trap_kept_back_spec {α:Type} {v:SV} {k:GState→R α} {r:α} (h:dR_trap_kept_back v k=some r):∃x0,v=(GState.sv x0)∧k x0=some r:=by
  unfold dR_trap_kept_back at h
  obtain ⟨x0,rfl,h0⟩:=GState.dec_spec h
  exact ⟨x0,rfl,h0⟩
def p_zv {α:Type} (F_z3:Sg_z3 α) (F_z7:Sg_z7 α) (x0:GTrap_kept) (x1:GState) (k:GState→R α):R α:=
  F_z3 x1 x0.index x0.was (fun r1=>
  F_z7 x1 x0.index x0.now r1 (fun r2=>
  F_z7 r2 x0.index x0.was true (fun r3=>
  k r3)))
abbrev Sg_z1u (α:Type):=GState→(GState→Int→Bool→R α)→R α
def ad_z1u {α:Type} (F:Sg_z1u α):FP α:=fun args k=>match args with
  | [a0]=>GState.dec a0 fun x0=>F x0 (fun r0 r1 r2=>k (.tuple [(GState.sv r0),(.int .u64 r1),(.bool r2)]))
  | _=>none
def dR_trap_Mret {α:Type} (v:SV) (k:GState→Int→Bool→R α):R α:=match v with
  | .tuple [a0,a1,a2]=>GState.dec a0 fun x0=>decI .u64 a1 fun x1=>decB a2 fun x2=>k x0 x1 x2
  | _=>none
theorem dR_trap_Mret_spec {α:Type} {v:SV} {k:GState→Int→Bool→R α} {r:α} (h:dR_trap_Mret v k=some r):∃x0 x1 x2,v=(.tuple [(GState.sv x0),(.int .u64 x1),(.bool x2)])∧k x0 x1 x2=some r:=by
  unfold dR_trap_Mret at h
  split at h<;>try (cases h; done)
  obtain ⟨x0,rfl,h0⟩:=GState.dec_spec h
  obtain ⟨x1,rfl,h1⟩:=decI_spec h0
  obtain ⟨x2,rfl,h2⟩:=decB_spec h1
  exact ⟨x0,x1,x2,rfl,h2⟩
def p_z1u {α:Type} (F_zt:Sg_zt α) (F_z1:Sg_z1 α) (F_z3:Sg_z3 α) (F_zv:Sg_zv α) (F_zb:Sg_zb α) (F_z7:Sg_z7 α) (x0:GState) (k:GState→Int→Bool→R α):R α:=
  F_zt x0 (GInsn.mk 60 0 0 0 0 0) (fun r1 r2=>
  let b3:Bool:=(!r2)
  cond b3 (
  k x0 r1 false) (
  F_z1 (x0.C 0) 11 2 (fun r4=>
  let t5:Int:=(IntKind.i64.wrap r4)
  F_z3 (GState.mk x0.X x0.PC t5 x0.V x0.C x0.Done) 0 39 (fun r6=>
  cond r6 (
  let b7:Bool:=(t5 !=3)
  F_zv (GTrap_kept.mk 0 3 7) (GState.mk x0.X x0.PC t5 b7 x0.C x0.Done) (fun r8=>
  F_zb (r8.C 0) 11 2 0 (fun r9=>
  F_z7 (GState.mk r8.X r8.PC r8.Level r8.V (upd r8.C 0 r9) r8.Done) 0 39 false (fun r10=>
  k (GState.mk r10.X (r10.C 6) r10.Level r10.V r10.C r10.Done) 0 true)))) (
  F_zv (GTrap_kept.mk 0 3 7) (GState.mk x0.X x0.PC t5 false x0.C x0.Done) (fun r11=>
  F_zb (r11.C 0) 11 2 0 (fun r12=>
  F_z7 (GState.mk r11.X r11.PC r11.Level r11.V (upd r11.C 0 r12) r11.Done) 0 39 false (fun r13=>
  k (GState.mk r13.X (r13.C 6) r13.Level r13.V r13.C r13.Done) 0 true))))))))
abbrev Sg_z1v (α:Type):=GState→(GState→Int→Bool→R α)→R α
def ad_z1v {α:Type} (F:Sg_z1v α):FP α:=fun args k=>match args with
  | [a0]=>GState.dec a0 fun x0=>F x0 (fun r0 r1 r2=>k (.tuple [(GState.sv r0),(.int .u64 r1),(.bool r2)]))
  | _=>none
def dR_trap_Sret {α:Type} (v:SV) (k:GState→Int→Bool→R α):R α:=match v with
  | .tuple [a0,a1,a2]=>GState.dec a0 fun x0=>decI .u64 a1 fun x1=>decB a2 fun x2=>k x0 x1 x2
  | _=>none
theorem dR_trap_Sret_spec {α:Type} {v:SV} {k:GState→Int→Bool→R α} {r:α} (h:dR_trap_Sret v k=some r):∃x0 x1 x2,v=(.tuple [(GState.sv x0),(.int .u64 x1),(.bool x2)])∧k x0 x1 x2=some r:=by
  unfold dR_trap_Sret at h
  split at h<;>try (cases h; done)
  obtain ⟨x0,rfl,h0⟩:=GState.dec_spec h
  obtain ⟨x1,rfl,h1⟩:=decI_spec h0
  obtain ⟨x2,rfl,h2⟩:=decB_spec h1
  exact ⟨x0,x1,x2,rfl,h2⟩
def p_z1v {α:Type} (F_zt:Sg_zt α) (F_z1:Sg_z1 α) (F_zv:Sg_zv α) (F_z7:Sg_z7 α) (F_z3:Sg_z3 α) (x0:GState) (k:GState→Int→Bool→R α):R α:=
  F_zt x0 (GInsn.mk 61 0 0 0 0 0) (fun r1 r2=>
  let b3:Bool:=(!r2)
  cond b3 (
  k x0 r1 false) (
  cond x0.V (
  F_z1 (x0.C 22) 8 1 (fun r4=>
  let t5:Int:=(IntKind.i64.wrap r4)
  F_zv (GTrap_kept.mk 22 1 5) (GState.mk x0.X x0.PC t5 x0.V x0.C x0.Done) (fun r6=>
  F_z7 r6 22 8 false (fun r7=>
  k (GState.mk r7.X (r7.C 25) r7.Level r7.V r7.C r7.Done) 0 true)))) (
  F_z3 x0 16 7 (fun r8=>
  F_z7 (GState.mk x0.X x0.PC x0.Level r8 x0.C x0.Done) 16 7 false (fun r9=>
  F_z1 (r9.C 0) 8 1 (fun r10=>
  let t11:Int:=(IntKind.i64.wrap r10)
  F_zv (GTrap_kept.mk 0 1 5) (GState.mk r9.X r9.PC t11 r9.V r9.C r9.Done) (fun r12=>
  F_z7 r12 0 8 false (fun r13=>
  k (GState.mk r13.X (r13.C 12) r13.Level r13.V r13.C r13.Done) 0 true))))))))
abbrev Sg_z2c (α:Type):=GState→GInsn→(GExec_result→R α)→R α
def ad_z2c {α:Type} (F:Sg_z2c α):FP α:=fun args k=>match args with
  | [a0,a1]=>GState.dec a0 fun x0=>GInsn.dec a1 fun x1=>F x0 x1 (fun r0=>k (GExec_result.sv r0))
  | _=>none
def dR_exec_returns {α:Type} (a0:SV) (k:GExec_result→R α):R α:=GExec_result.dec a0 fun x0=>k x0
theorem dR_exec_returns_spec {α:Type} {v:SV} {k:GExec_result→R α} {r:α} (h:dR_exec_returns v k=some r):∃x0,v=(GExec_result.sv x0)∧k x0=some r:=by
  unfold dR_exec_returns at h
  obtain ⟨x0,rfl,h0⟩:=GExec_result.dec_spec h
  exact ⟨x0,rfl,h0⟩
def p_z2c {α:Type} (F_z1u:Sg_z1u α) (F_zi:Sg_zi α) (F_z1v:Sg_z1v α) (F_zf:Sg_zf α) (x0:GState) (x1:GInsn) (k:GExec_result→R α):R α:=
  let b1:Bool:=(x1.Op==60)
  cond b1 (
  F_z1u x0 (fun r2 r3 r4=>
  let b5:Bool:=(((List.range 32).all fun i=>r2.X i==x0.X i) && ((r2.PC==x0.PC) && ((r2.Level==x0.Level) && ((r2.V==x0.V) && (((List.range 29).all fun i=>r2.C i==x0.C i) && ((r2.Done==x0.Done) && true))))))
  cond b5 (
  F_zi x0 0 (fun r6=>
  k r6)) (
  F_zi r2 0 (fun r7=>
  k r7)))) (
  let b8:Bool:=(x1.Op==61)
  cond b8 (
  F_z1v x0 (fun r9 r10 r11=>
  let b12:Bool:=(((List.range 32).all fun i=>r9.X i==x0.X i) && ((r9.PC==x0.PC) && ((r9.Level==x0.Level) && ((r9.V==x0.V) && (((List.range 29).all fun i=>r9.C i==x0.C i) && ((r9.Done==x0.Done) && true))))))
  cond b12 (
  F_zi x0 0 (fun r13=>
  k r13)) (
  F_zi r9 0 (fun r14=>
  k r14)))) (
  F_zf x0 0 (fun r15=>
  k r15)))
abbrev Sg_z2d (α:Type):=GInsn→(Int→R α)→R α
def ad_z2d {α:Type} (F:Sg_z2d α):FP α:=fun args k=>match args with
  | [a0]=>GInsn.dec a0 fun x0=>F x0 (fun r0=>k (.int .i64 r0))
  | _=>none
def dR_insn_Writes {α:Type} (a0:SV) (k:Int→R α):R α:=decI .i64 a0 fun x0=>k x0
theorem dR_insn_Writes_spec {α:Type} {v:SV} {k:Int→R α} {r:α} (h:dR_insn_Writes v k=some r):∃x0,v=(.int .i64 x0)∧k x0=some r:=by
  unfold dR_insn_Writes at h
  obtain ⟨x0,rfl,h0⟩:=decI_spec h
  exact ⟨x0,rfl,h0⟩
def p_z2d {α:Type} (F_zd:Sg_zd α) (x0:GInsn) (k:Int→R α):R α:=
  F_zd x0 (fun r1=>
  let b2:Bool:=(!r1)
  cond b2 (
  k 0) (
  k x0.Rd))
abbrev Sg_z22 (α:Type):=GState→(GState→R α)→R α
def ad_z22 {α:Type} (F:Sg_z22 α):FP α:=fun args k=>match args with
  | [a0]=>GState.dec a0 fun x0=>F x0 (fun r0=>k (GState.sv r0))
  | _=>none
def dR_isa_Clean {α:Type} (a0:SV) (k:GState→R α):R α:=GState.dec a0 fun x0=>k x0
theorem dR_isa_Clean_spec {α:Type} {v:SV} {k:GState→R α} {r:α} (h:dR_isa_Clean v k=some r):∃x0,v=(GState.sv x0)∧k x0=some r:=by
  unfold dR_isa_Clean at h
  obtain ⟨x0,rfl,h0⟩:=GState.dec_spec h
  exact ⟨x0,rfl,h0⟩
def q_isa_Clean_1 {α:Type} (F_z6:Sg_z6 α) (F_z9:Sg_z9 α) (x0:GState) (k:GState→R α):R α:=
  let t62:Int:=(bitop .andNot .u64 x0.PC 3)
  F_z6 0 (fun r63=>
  F_z9 (GState.mk (upd x0.X 0 0) t62 x0.Level x0.V (fun _=>0) x0.Done) 0 r63 (x0.C 0) (fun r64=>
  F_z6 1 (fun r65=>
  F_z9 r64 1 r65 (x0.C 1) (fun r66=>
  F_z6 2 (fun r67=>
  F_z9 r66 2 r67 (x0.C 2) (fun r68=>
  F_z6 3 (fun r69=>
  F_z9 r68 3 r69 (x0.C 3) (fun r70=>
  F_z6 4 (fun r71=>
  F_z9 r70 4 r71 (x0.C 4) (fun r72=>
  F_z6 5 (fun r73=>
  F_z9 r72 5 r73 (x0.C 5) (fun r74=>
  F_z6 6 (fun r75=>
  F_z9 r74 6 r75 (x0.C 6) (fun r76=>
  F_z6 7 (fun r77=>
  F_z9 r76 7 r77 (x0.C 7) (fun r78=>
  F_z6 8 (fun r79=>
  F_z9 r78 8 r79 (x0.C 8) (fun r80=>
  F_z6 9 (fun r81=>
  F_z9 r80 9 r81 (x0.C 9) (fun r82=>
  F_z6 10 (fun r83=>
  F_z9 r82 10 r83 (x0.C 10) (fun r84=>
  F_z6 11 (fun r85=>
  F_z9 r84 11 r85 (x0.C 11) (fun r86=>
  F_z6 12 (fun r87=>
  F_z9 r86 12 r87 (x0.C 12) (fun r88=>
  F_z6 13 (fun r89=>
  F_z9 r88 13 r89 (x0.C 13) (fun r90=>
  F_z6 14 (fun r91=>
  F_z9 r90 14 r91 (x0.C 14) (fun r92=>
  F_z6 15 (fun r93=>
  F_z9 r92 15 r93 (x0.C 15) (fun r94=>
  F_z6 16 (fun r95=>
  F_z9 r94 16 r95 (x0.C 16) (fun r96=>
  F_z6 17 (fun r97=>
  F_z9 r96 17 r97 (x0.C 17) (fun r98=>
  F_z6 18 (fun r99=>
  F_z9 r98 18 r99 (x0.C 18) (fun r100=>
  F_z6 19 (fun r101=>
  F_z9 r100 19 r101 (x0.C 19) (fun r102=>
  F_z6 20 (fun r103=>
  F_z9 r102 20 r103 (x0.C 20) (fun r104=>
  F_z6 21 (fun r105=>
  F_z9 r104 21 r105 (x0.C 21) (fun r106=>
  F_z6 22 (fun r107=>
  F_z9 r106 22 r107 (x0.C 22) (fun r108=>
  F_z6 23 (fun r109=>
  F_z9 r108 23 r109 (x0.C 23) (fun r110=>
  F_z6 24 (fun r111=>
  F_z9 r110 24 r111 (x0.C 24) (fun r112=>
  F_z6 25 (fun r113=>
  F_z9 r112 25 r113 (x0.C 25) (fun r114=>
  F_z6 26 (fun r115=>
  F_z9 r114 26 r115 (x0.C 26) (fun r116=>
  F_z6 27 (fun r117=>
  F_z9 r116 27 r117 (x0.C 27) (fun r118=>
  F_z6 28 (fun r119=>
  F_z9 r118 28 r119 (x0.C 28) (fun r120=>
  k r120))))))))))))))))))))))))))))))))))))))))))))))))))))))))))
def p_z22 {α:Type} (F_z6:Sg_z6 α) (F_z9:Sg_z9 α) (x0:GState) (k:GState→R α):R α:=
  let b1:Bool:=(x0.Level !=0)
  cond b1 (
  let b2:Bool:=(x0.Level !=1)
  cond b2 (
  let t3:Int:=(bitop .andNot .u64 x0.PC 3)
  F_z6 0 (fun r4=>
  F_z9 (GState.mk (upd x0.X 0 0) t3 3 false (fun _=>0) x0.Done) 0 r4 (x0.C 0) (fun r5=>
  F_z6 1 (fun r6=>
  F_z9 r5 1 r6 (x0.C 1) (fun r7=>
  F_z6 2 (fun r8=>
  F_z9 r7 2 r8 (x0.C 2) (fun r9=>
  F_z6 3 (fun r10=>
  F_z9 r9 3 r10 (x0.C 3) (fun r11=>
  F_z6 4 (fun r12=>
  F_z9 r11 4 r12 (x0.C 4) (fun r13=>
  F_z6 5 (fun r14=>
  F_z9 r13 5 r14 (x0.C 5) (fun r15=>
  F_z6 6 (fun r16=>
  F_z9 r15 6 r16 (x0.C 6) (fun r17=>
  F_z6 7 (fun r18=>
  F_z9 r17 7 r18 (x0.C 7) (fun r19=>
  F_z6 8 (fun r20=>
  F_z9 r19 8 r20 (x0.C 8) (fun r21=>
  F_z6 9 (fun r22=>
  F_z9 r21 9 r22 (x0.C 9) (fun r23=>
  F_z6 10 (fun r24=>
  F_z9 r23 10 r24 (x0.C 10) (fun r25=>
  F_z6 11 (fun r26=>
  F_z9 r25 11 r26 (x0.C 11) (fun r27=>
  F_z6 12 (fun r28=>
  F_z9 r27 12 r28 (x0.C 12) (fun r29=>
  F_z6 13 (fun r30=>
  F_z9 r29 13 r30 (x0.C 13) (fun r31=>
  F_z6 14 (fun r32=>
  F_z9 r31 14 r32 (x0.C 14) (fun r33=>
  F_z6 15 (fun r34=>
  F_z9 r33 15 r34 (x0.C 15) (fun r35=>
  F_z6 16 (fun r36=>
  F_z9 r35 16 r36 (x0.C 16) (fun r37=>
  F_z6 17 (fun r38=>
  F_z9 r37 17 r38 (x0.C 17) (fun r39=>
  F_z6 18 (fun r40=>
  F_z9 r39 18 r40 (x0.C 18) (fun r41=>
  F_z6 19 (fun r42=>
  F_z9 r41 19 r42 (x0.C 19) (fun r43=>
  F_z6 20 (fun r44=>
  F_z9 r43 20 r44 (x0.C 20) (fun r45=>
  F_z6 21 (fun r46=>
  F_z9 r45 21 r46 (x0.C 21) (fun r47=>
  F_z6 22 (fun r48=>
  F_z9 r47 22 r48 (x0.C 22) (fun r49=>
  F_z6 23 (fun r50=>
  F_z9 r49 23 r50 (x0.C 23) (fun r51=>
  F_z6 24 (fun r52=>
  F_z9 r51 24 r52 (x0.C 24) (fun r53=>
  F_z6 25 (fun r54=>
  F_z9 r53 25 r54 (x0.C 25) (fun r55=>
  F_z6 26 (fun r56=>
  F_z9 r55 26 r56 (x0.C 26) (fun r57=>
  F_z6 27 (fun r58=>
  F_z9 r57 27 r58 (x0.C 27) (fun r59=>
  F_z6 28 (fun r60=>
  F_z9 r59 28 r60 (x0.C 28) (fun r61=>
  k r61))))))))))))))))))))))))))))))))))))))))))))))))))))))))))) (
  q_isa_Clean_1 F_z6 F_z9 x0 k)) (
  q_isa_Clean_1 F_z6 F_z9 x0 k)
end Go.Sh
