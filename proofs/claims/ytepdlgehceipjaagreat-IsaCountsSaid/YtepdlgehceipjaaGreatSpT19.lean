/-
  The law IsaTimes (printed by wip/pr/pr.py): what the functions come to, told without the program.
-/
import Derived.Test.YtepdlgehceipjaaGreatSpL19
import Derived.Test.YtepdlgehceipjaaGreatSkC
set_option linter.unusedSimpArgs false
set_option linter.unusedVariables false
namespace Go.Sh
open Go
set_option linter.unusedVariables false
abbrev Sg_z1o (α:Type):=Int→(Bool→Bool→Bool→Bool→Bool→R α)→R α
def ad_z1o {α:Type} (F:Sg_z1o α):FP α:=fun args k=>match args with
  | [a0]=>decI .i64 a0 fun x0=>F x0 (fun r0 r1 r2 r3 r4=>k (.tuple [(.bool r0),(.bool r1),(.bool r2),(.bool r3),(.bool r4)]))
  | _=>none
def dR_ref3_Parts {α:Type} (v:SV) (k:Bool→Bool→Bool→Bool→Bool→R α):R α:=match v with
  | .tuple [a0,a1,a2,a3,a4]=>decB a0 fun x0=>decB a1 fun x1=>decB a2 fun x2=>decB a3 fun x3=>decB a4 fun x4=>k x0 x1 x2 x3 x4
  | _=>none
theorem dR_ref3_Parts_spec {α:Type} {v:SV} {k:Bool→Bool→Bool→Bool→Bool→R α} {r:α} (h:dR_ref3_Parts v k=some r):∃x0 x1 x2 x3 x4,v=(.tuple [(.bool x0),(.bool x1),(.bool x2),(.bool x3),(.bool x4)])∧k x0 x1 x2 x3 x4=some r:=by
  unfold dR_ref3_Parts at h
  split at h<;>try (cases h; done)
  obtain ⟨x0,rfl,h0⟩:=decB_spec h
  obtain ⟨x1,rfl,h1⟩:=decB_spec h0
  obtain ⟨x2,rfl,h2⟩:=decB_spec h1
  obtain ⟨x3,rfl,h3⟩:=decB_spec h2
  obtain ⟨x4,rfl,h4⟩:=decB_spec h3
  exact ⟨x0,x1,x2,x3,x4,rfl,h4⟩
def p_z1o {α:Type}  (x0:Int) (k:Bool→Bool→Bool→Bool→Bool→R α):R α:=
  let b1:Bool:=(ltB x0 1)
  cond b1 (
  k false false false false false) (
  let b2:Bool:=(leB 70 x0)
  cond b2 (
  k false false false false false) (
  let b3:Bool:=(leB x0 4)
  cond b3 (
  let b4:Bool:=(x0==4)
  k true b4 false false true) (
  let b5:Bool:=(leB x0 10)
  cond b5 (
  k false true true false true) (
  let b6:Bool:=(leB x0 17)
  cond b6 (
  k true true false false true) (
  let b7:Bool:=(leB x0 21)
  cond b7 (
  k false true true false true) (
  let b8:Bool:=(leB x0 34)
  cond b8 (
  k true true false false true) (
  let b9:Bool:=(leB x0 49)
  cond b9 (
  k true true true false false) (
  let b10:Bool:=(leB x0 51)
  cond b10 (
  k false false false false false) (
  let b11:Bool:=(leB x0 53)
  cond b11 (
  k false false false false false) (
  let b12:Bool:=(leB x0 59)
  cond b12 (
  let b13:Bool:=(leB 57 x0)
  let b14:Bool:=(!b13)
  k true b14 false true b13) (
  let b15:Bool:=(leB x0 62)
  cond b15 (
  k false false false false false) (
  let b16:Bool:=(leB x0 65)
  cond b16 (
  k false true true false false) (
  let b17:Bool:=(x0 !=69)
  let b18:Bool:=(x0==69)
  k b17 true b18 false false)))))))))))))
abbrev Sg_z1l (α:Type):=Int→Bool→(Bool→R α)→R α
def ad_z1l {α:Type} (F:Sg_z1l α):FP α:=fun args k=>match args with
  | [a0,a1]=>decI .i64 a0 fun x0=>decB a1 fun x1=>F x0 x1 (fun r0=>k (.bool r0))
  | _=>none
def dR_ref3_reg {α:Type} (a0:SV) (k:Bool→R α):R α:=decB a0 fun x0=>k x0
theorem dR_ref3_reg_spec {α:Type} {v:SV} {k:Bool→R α} {r:α} (h:dR_ref3_reg v k=some r):∃x0,v=(.bool x0)∧k x0=some r:=by
  unfold dR_ref3_reg at h
  obtain ⟨x0,rfl,h0⟩:=decB_spec h
  exact ⟨x0,rfl,h0⟩
def p_z1l {α:Type}  (x0:Int) (x1:Bool) (k:Bool→R α):R α:=
  let b1:Bool:=(x0==0)
  cond b1 (
  k true) (
  cond x1 (
  let b2:Bool:=(ltB 0 x0)
  cond b2 (
  let b3:Bool:=(ltB x0 32)
  k b3) (
  k false)) (
  k false))
abbrev Sg_zy (α:Type):=Int→Int→Int→Int→(Bool→R α)→R α
def ad_zy {α:Type} (F:Sg_zy α):FP α:=fun args k=>match args with
  | [a0,a1,a2,a3]=>decI .i64 a0 fun x0=>decI .i64 a1 fun x1=>decI .i64 a2 fun x2=>decI .i64 a3 fun x3=>F x0 x1 x2 x3 (fun r0=>k (.bool r0))
  | _=>none
def dR_ref3_within {α:Type} (a0:SV) (k:Bool→R α):R α:=decB a0 fun x0=>k x0
theorem dR_ref3_within_spec {α:Type} {v:SV} {k:Bool→R α} {r:α} (h:dR_ref3_within v k=some r):∃x0,v=(.bool x0)∧k x0=some r:=by
  unfold dR_ref3_within at h
  obtain ⟨x0,rfl,h0⟩:=decB_spec h
  exact ⟨x0,rfl,h0⟩
def p_zy {α:Type}  (x0:Int) (x1:Int) (x2:Int) (x3:Int) (k:Bool→R α):R α:=
  let b1:Bool:=(leB x1 x0)
  cond b1 (
  let b2:Bool:=(leB x0 x2)
  cond b2 (
  cond (decide (x3=0)) none (
  let t3:Int:=(Int.tmod x0 x3)
  let b4:Bool:=(t3==0)
  k b4)) (
  k false)) (
  k false)
abbrev Sg_z1m (α:Type):=GInsn→(Bool→R α)→R α
def ad_z1m {α:Type} (F:Sg_z1m α):FP α:=fun args k=>match args with
  | [a0]=>GInsn.dec a0 fun x0=>F x0 (fun r0=>k (.bool r0))
  | _=>none
def dR_ref3_number {α:Type} (a0:SV) (k:Bool→R α):R α:=decB a0 fun x0=>k x0
theorem dR_ref3_number_spec {α:Type} {v:SV} {k:Bool→R α} {r:α} (h:dR_ref3_number v k=some r):∃x0,v=(.bool x0)∧k x0=some r:=by
  unfold dR_ref3_number at h
  obtain ⟨x0,rfl,h0⟩:=decB_spec h
  exact ⟨x0,rfl,h0⟩
def q_ref3_number_1 {α:Type} (F_zy:Sg_zy α) (x0:GInsn) (k:Bool→R α):R α:=
  let b12:Bool:=(ltB x0.Op 1)
  cond b12 (
  F_zy x0.Imm (-2048) 2047 1 (fun r13=>
  k r13)) (
  let b14:Bool:=(leB 70 x0.Op)
  cond b14 (
  F_zy x0.Imm (-2048) 2047 1 (fun r15=>
  k r15)) (
  let b16:Bool:=(leB x0.Op 4)
  cond b16 (
  F_zy x0.Imm (-2048) 2047 1 (fun r17=>
  k r17)) (
  let b18:Bool:=(leB x0.Op 10)
  cond b18 (
  F_zy x0.Imm (-2048) 2047 1 (fun r19=>
  k r19)) (
  let b20:Bool:=(leB x0.Op 17)
  cond b20 (
  F_zy x0.Imm (-2048) 2047 1 (fun r21=>
  k r21)) (
  let b22:Bool:=(leB x0.Op 21)
  cond b22 (
  F_zy x0.Imm (-2048) 2047 1 (fun r23=>
  k r23)) (
  let b24:Bool:=(leB x0.Op 34)
  cond b24 (
  F_zy x0.Imm (-2048) 2047 1 (fun r25=>
  k r25)) (
  let b26:Bool:=(leB x0.Op 49)
  cond b26 (
  F_zy x0.Imm (-2048) 2047 1 (fun r27=>
  k r27)) (
  let b28:Bool:=(leB x0.Op 51)
  cond b28 (
  F_zy x0.Imm (-2048) 2047 1 (fun r29=>
  k r29)) (
  let b30:Bool:=(leB x0.Op 53)
  cond b30 (
  F_zy x0.Imm (-2048) 2047 1 (fun r31=>
  k r31)) (
  let b32:Bool:=(leB x0.Op 59)
  cond b32 (
  F_zy x0.Imm 0 31 1 (fun r33=>
  k r33)) (
  let b34:Bool:=(leB x0.Op 62)
  cond b34 (
  F_zy x0.Imm (-2048) 2047 1 (fun r35=>
  k r35)) (
  let b36:Bool:=(leB x0.Op 65)
  cond b36 (
  F_zy x0.Imm (-2048) 2047 1 (fun r37=>
  k r37)) (
  F_zy x0.Imm (-2048) 2047 1 (fun r38=>
  k r38))))))))))))))
def q_ref3_number_2 {α:Type} (F_zy:Sg_zy α) (x0:GInsn) (k:Bool→R α):R α:=
  let b9:Bool:=(leB 32 x0.Op)
  cond b9 (
  let b10:Bool:=(leB x0.Op 34)
  cond b10 (
  F_zy x0.Imm 0 31 1 (fun r11=>
  k r11)) (
  q_ref3_number_1 F_zy x0 k)) (
  q_ref3_number_1 F_zy x0 k)
def q_ref3_number_3 {α:Type} (F_zy:Sg_zy α) (x0:GInsn) (k:Bool→R α):R α:=
  let b6:Bool:=(leB 28 x0.Op)
  cond b6 (
  let b7:Bool:=(leB x0.Op 30)
  cond b7 (
  F_zy x0.Imm 0 63 1 (fun r8=>
  k r8)) (
  q_ref3_number_2 F_zy x0 k)) (
  q_ref3_number_2 F_zy x0 k)
def p_z1m {α:Type} (F_zy:Sg_zy α) (x0:GInsn) (k:Bool→R α):R α:=
  let b1:Bool:=(leB x0.Op 2)
  cond b1 (
  F_zy x0.Imm (-2147483648) 2147479552 4096 (fun r2=>
  k r2)) (
  let b3:Bool:=(x0.Op==3)
  cond b3 (
  F_zy x0.Imm (-1048576) 1048574 2 (fun r4=>
  k r4)) (
  let b5:Bool:=(ltB x0.Op 1)
  cond b5 (
  q_ref3_number_3 F_zy x0 k) (
  let b123:Bool:=(leB 70 x0.Op)
  cond b123 (
  q_ref3_number_3 F_zy x0 k) (
  let b241:Bool:=(leB x0.Op 4)
  cond b241 (
  q_ref3_number_3 F_zy x0 k) (
  let b359:Bool:=(leB x0.Op 10)
  cond b359 (
  F_zy x0.Imm (-4096) 4094 2 (fun r360=>
  k r360)) (
  let b361:Bool:=(leB x0.Op 17)
  cond b361 (
  q_ref3_number_3 F_zy x0 k) (
  let b479:Bool:=(leB x0.Op 21)
  cond b479 (
  q_ref3_number_3 F_zy x0 k) (
  let b597:Bool:=(leB x0.Op 34)
  cond b597 (
  q_ref3_number_3 F_zy x0 k) (
  let b715:Bool:=(leB x0.Op 49)
  cond b715 (
  q_ref3_number_3 F_zy x0 k) (
  let b833:Bool:=(leB x0.Op 51)
  cond b833 (
  q_ref3_number_3 F_zy x0 k) (
  let b951:Bool:=(leB x0.Op 53)
  cond b951 (
  q_ref3_number_3 F_zy x0 k) (
  let b1069:Bool:=(leB x0.Op 59)
  cond b1069 (
  q_ref3_number_3 F_zy x0 k) (
  let b1187:Bool:=(leB x0.Op 62)
  cond b1187 (
  q_ref3_number_3 F_zy x0 k) (
  let b1305:Bool:=(leB x0.Op 65)
  cond b1305 (
  q_ref3_number_3 F_zy x0 k) (
  q_ref3_number_3 F_zy x0 k)))))))))))))))
abbrev Sg_z21 (α:Type):=GInsn→(Bool→R α)→R α
def ad_z21 {α:Type} (F:Sg_z21 α):FP α:=fun args k=>match args with
  | [a0]=>GInsn.dec a0 fun x0=>F x0 (fun r0=>k (.bool r0))
  | _=>none
def dR_ref3_Is {α:Type} (a0:SV) (k:Bool→R α):R α:=decB a0 fun x0=>k x0
theorem dR_ref3_Is_spec {α:Type} {v:SV} {k:Bool→R α} {r:α} (h:dR_ref3_Is v k=some r):∃x0,v=(.bool x0)∧k x0=some r:=by
  unfold dR_ref3_Is at h
  obtain ⟨x0,rfl,h0⟩:=decB_spec h
  exact ⟨x0,rfl,h0⟩
def q_ref3_Is_1 {α:Type} (F_z1o:Sg_z1o α) (F_z1l:Sg_z1l α) (F_z1m:Sg_z1m α) (x0:GInsn) (k:Bool→R α):R α:=
  F_z1o x0.Op (fun r4 r5 r6 r7 r8=>
  F_z1l x0.Rd r4 (fun r9=>
  let b10:Bool:=(!r9)
  cond b10 (
  k false) (
  F_z1l x0.Rs1 r5 (fun r11=>
  let b12:Bool:=(!r11)
  cond b12 (
  k false) (
  F_z1l x0.Rs2 r6 (fun r13=>
  let b14:Bool:=(!r13)
  cond b14 (
  k false) (
  let b15:Bool:=(x0.CSR !=0)
  cond b15 (
  let b16:Bool:=(!r7)
  cond b16 (
  k false) (
  let b17:Bool:=(ltB x0.CSR 0)
  cond b17 (
  k false) (
  let b18:Bool:=(ltB 4095 x0.CSR)
  cond b18 (
  k false) (
  let b19:Bool:=(!r8)
  cond b19 (
  let b20:Bool:=(x0.Imm==0)
  k b20) (
  F_z1m x0 (fun r21=>
  k r21)))))) (
  let b22:Bool:=(!r8)
  cond b22 (
  let b23:Bool:=(x0.Imm==0)
  k b23) (
  F_z1m x0 (fun r24=>
  k r24))))))))))
def p_z21 {α:Type} (F_z1o:Sg_z1o α) (F_z1l:Sg_z1l α) (F_z1m:Sg_z1m α) (x0:GInsn) (k:Bool→R α):R α:=
  let b1:Bool:=(ltB x0.Op 1)
  cond b1 (
  k false) (
  let b2:Bool:=(leB 70 x0.Op)
  cond b2 (
  k false) (
  let b3:Bool:=(leB x0.Op 4)
  cond b3 (
  q_ref3_Is_1 F_z1o F_z1l F_z1m x0 k) (
  let b25:Bool:=(leB x0.Op 10)
  cond b25 (
  q_ref3_Is_1 F_z1o F_z1l F_z1m x0 k) (
  let b47:Bool:=(leB x0.Op 17)
  cond b47 (
  q_ref3_Is_1 F_z1o F_z1l F_z1m x0 k) (
  let b69:Bool:=(leB x0.Op 21)
  cond b69 (
  q_ref3_Is_1 F_z1o F_z1l F_z1m x0 k) (
  let b91:Bool:=(leB x0.Op 34)
  cond b91 (
  q_ref3_Is_1 F_z1o F_z1l F_z1m x0 k) (
  let b113:Bool:=(leB x0.Op 49)
  cond b113 (
  q_ref3_Is_1 F_z1o F_z1l F_z1m x0 k) (
  let b135:Bool:=(leB x0.Op 51)
  cond b135 (
  q_ref3_Is_1 F_z1o F_z1l F_z1m x0 k) (
  let b157:Bool:=(leB x0.Op 53)
  cond b157 (
  q_ref3_Is_1 F_z1o F_z1l F_z1m x0 k) (
  let b179:Bool:=(leB x0.Op 59)
  cond b179 (
  q_ref3_Is_1 F_z1o F_z1l F_z1m x0 k) (
  let b201:Bool:=(leB x0.Op 62)
  cond b201 (
  q_ref3_Is_1 F_z1o F_z1l F_z1m x0 k) (
  let b223:Bool:=(leB x0.Op 65)
  cond b223 (
  q_ref3_Is_1 F_z1o F_z1l F_z1m x0 k) (
  q_ref3_Is_1 F_z1o F_z1l F_z1m x0 k)))))))))))))
abbrev Sg_z1y (α:Type):=Int→(Int→R α)→R α
def ad_z1y {α:Type} (F:Sg_z1y α):FP α:=fun args k=>match args with
  | [a0]=>decI .i64 a0 fun x0=>F x0 (fun r0=>k (.int .u32 r0))
  | _=>none
def dR_ref3_fixed {α:Type} (a0:SV) (k:Int→R α):R α:=decI .u32 a0 fun x0=>k x0
theorem dR_ref3_fixed_spec {α:Type} {v:SV} {k:Int→R α} {r:α} (h:dR_ref3_fixed v k=some r):∃x0,v=(.int .u32 x0)∧k x0=some r:=by
  unfold dR_ref3_fixed at h
  obtain ⟨x0,rfl,h0⟩:=decI_spec h
  exact ⟨x0,rfl,h0⟩
def p_z1y {α:Type}  (x0:Int) (k:Int→R α):R α:=
  let b1:Bool:=(x0==50)
  cond b1 (
  k 267386895) (
  let b2:Bool:=(x0==51)
  cond b2 (
  k 4111) (
  let b3:Bool:=(x0==52)
  cond b3 (
  k 115) (
  let b4:Bool:=(x0==53)
  cond b4 (
  k 1048691) (
  let b5:Bool:=(x0==60)
  cond b5 (
  k 807403635) (
  let b6:Bool:=(x0==61)
  cond b6 (
  k 270532723) (
  let b7:Bool:=(x0==62)
  cond b7 (
  k 273678451) (
  k 0)))))))
abbrev Sg_zl (α:Type):=Int→(Int→Int→Int→R α)→R α
def ad_zl {α:Type} (F:Sg_zl α):FP α:=fun args k=>match args with
  | [a0]=>decI .i64 a0 fun x0=>F x0 (fun r0 r1 r2=>k (.tuple [(.int .u32 r0),(.int .u32 r1),(.int .u32 r2)]))
  | _=>none
def dR_ref3_Code {α:Type} (v:SV) (k:Int→Int→Int→R α):R α:=match v with
  | .tuple [a0,a1,a2]=>decI .u32 a0 fun x0=>decI .u32 a1 fun x1=>decI .u32 a2 fun x2=>k x0 x1 x2
  | _=>none
theorem dR_ref3_Code_spec {α:Type} {v:SV} {k:Int→Int→Int→R α} {r:α} (h:dR_ref3_Code v k=some r):∃x0 x1 x2,v=(.tuple [(.int .u32 x0),(.int .u32 x1),(.int .u32 x2)])∧k x0 x1 x2=some r:=by
  unfold dR_ref3_Code at h
  split at h<;>try (cases h; done)
  obtain ⟨x0,rfl,h0⟩:=decI_spec h
  obtain ⟨x1,rfl,h1⟩:=decI_spec h0
  obtain ⟨x2,rfl,h2⟩:=decI_spec h1
  exact ⟨x0,x1,x2,rfl,h2⟩
def p_z5s {α:Type}   (k:Int→Int→Int→R α):R α:=
  k 55 0 0
def p_z5t {α:Type}   (k:Int→Int→Int→R α):R α:=
  k 23 0 0
def p_z5u {α:Type}   (k:Int→Int→Int→R α):R α:=
  k 111 0 0
def p_z5v {α:Type}   (k:Int→Int→Int→R α):R α:=
  k 103 0 0
def p_z5w {α:Type}   (k:Int→Int→Int→R α):R α:=
  k 99 0 0
def p_z5x {α:Type}   (k:Int→Int→Int→R α):R α:=
  k 99 1 0
def p_z5y {α:Type}   (k:Int→Int→Int→R α):R α:=
  k 99 4 0
def p_z5z {α:Type}   (k:Int→Int→Int→R α):R α:=
  k 99 5 0
def p_z60 {α:Type}   (k:Int→Int→Int→R α):R α:=
  k 99 6 0
def p_z61 {α:Type}   (k:Int→Int→Int→R α):R α:=
  k 99 7 0
def p_z62 {α:Type}   (k:Int→Int→Int→R α):R α:=
  k 3 0 0
def p_z63 {α:Type}   (k:Int→Int→Int→R α):R α:=
  k 3 1 0
def p_z64 {α:Type}   (k:Int→Int→Int→R α):R α:=
  k 3 2 0
def p_z65 {α:Type}   (k:Int→Int→Int→R α):R α:=
  k 3 3 0
def p_z66 {α:Type}   (k:Int→Int→Int→R α):R α:=
  k 3 4 0
def p_z67 {α:Type}   (k:Int→Int→Int→R α):R α:=
  k 3 5 0
def p_z68 {α:Type}   (k:Int→Int→Int→R α):R α:=
  k 3 6 0
def p_z69 {α:Type}   (k:Int→Int→Int→R α):R α:=
  k 35 0 0
def p_z6a {α:Type}   (k:Int→Int→Int→R α):R α:=
  k 35 1 0
def p_z6b {α:Type}   (k:Int→Int→Int→R α):R α:=
  k 35 2 0
def p_z6c {α:Type}   (k:Int→Int→Int→R α):R α:=
  k 35 3 0
def p_z6d {α:Type}   (k:Int→Int→Int→R α):R α:=
  k 19 0 0
def p_z6e {α:Type}   (k:Int→Int→Int→R α):R α:=
  k 19 2 0
def p_z6f {α:Type}   (k:Int→Int→Int→R α):R α:=
  k 19 3 0
def p_z6g {α:Type}   (k:Int→Int→Int→R α):R α:=
  k 19 4 0
def p_z6h {α:Type}   (k:Int→Int→Int→R α):R α:=
  k 19 6 0
def p_z6i {α:Type}   (k:Int→Int→Int→R α):R α:=
  k 19 7 0
def p_z6j {α:Type}   (k:Int→Int→Int→R α):R α:=
  k 19 1 0
def p_z6k {α:Type}   (k:Int→Int→Int→R α):R α:=
  k 19 5 0
def p_z6l {α:Type}   (k:Int→Int→Int→R α):R α:=
  k 19 5 32
def p_z6m {α:Type}   (k:Int→Int→Int→R α):R α:=
  k 27 0 0
def p_z6n {α:Type}   (k:Int→Int→Int→R α):R α:=
  k 27 1 0
def p_z6o {α:Type}   (k:Int→Int→Int→R α):R α:=
  k 27 5 0
def p_z6p {α:Type}   (k:Int→Int→Int→R α):R α:=
  k 27 5 32
def p_z6q {α:Type}   (k:Int→Int→Int→R α):R α:=
  k 51 0 0
def p_z6r {α:Type}   (k:Int→Int→Int→R α):R α:=
  k 51 0 32
def p_z6s {α:Type}   (k:Int→Int→Int→R α):R α:=
  k 51 1 0
def p_z6t {α:Type}   (k:Int→Int→Int→R α):R α:=
  k 51 2 0
def p_z6u {α:Type}   (k:Int→Int→Int→R α):R α:=
  k 51 3 0
def p_z6v {α:Type}   (k:Int→Int→Int→R α):R α:=
  k 51 4 0
def p_z6w {α:Type}   (k:Int→Int→Int→R α):R α:=
  k 51 5 0
def p_z6x {α:Type}   (k:Int→Int→Int→R α):R α:=
  k 51 5 32
def p_z6y {α:Type}   (k:Int→Int→Int→R α):R α:=
  k 51 6 0
def p_z6z {α:Type}   (k:Int→Int→Int→R α):R α:=
  k 51 7 0
def p_z70 {α:Type}   (k:Int→Int→Int→R α):R α:=
  k 59 0 0
def p_z71 {α:Type}   (k:Int→Int→Int→R α):R α:=
  k 59 0 32
def p_z72 {α:Type}   (k:Int→Int→Int→R α):R α:=
  k 59 1 0
def p_z73 {α:Type}   (k:Int→Int→Int→R α):R α:=
  k 59 5 0
def p_z74 {α:Type}   (k:Int→Int→Int→R α):R α:=
  k 59 5 32
def p_z75 {α:Type}   (k:Int→Int→Int→R α):R α:=
  k 0 0 0
def p_z76 {α:Type}   (k:Int→Int→Int→R α):R α:=
  k 0 0 0
def p_z77 {α:Type}   (k:Int→Int→Int→R α):R α:=
  k 0 0 0
def p_z78 {α:Type}   (k:Int→Int→Int→R α):R α:=
  k 0 0 0
def p_z79 {α:Type}   (k:Int→Int→Int→R α):R α:=
  k 115 1 0
def p_z7a {α:Type}   (k:Int→Int→Int→R α):R α:=
  k 115 2 0
def p_z7b {α:Type}   (k:Int→Int→Int→R α):R α:=
  k 115 3 0
def p_z7c {α:Type}   (k:Int→Int→Int→R α):R α:=
  k 115 5 0
def p_z7d {α:Type}   (k:Int→Int→Int→R α):R α:=
  k 115 6 0
def p_z7e {α:Type}   (k:Int→Int→Int→R α):R α:=
  k 115 7 0
def p_z7f {α:Type}   (k:Int→Int→Int→R α):R α:=
  k 0 0 0
def p_z7g {α:Type}   (k:Int→Int→Int→R α):R α:=
  k 0 0 0
def p_z7h {α:Type}   (k:Int→Int→Int→R α):R α:=
  k 0 0 0
def p_z7i {α:Type}   (k:Int→Int→Int→R α):R α:=
  k 115 0 9
def p_z7j {α:Type}   (k:Int→Int→Int→R α):R α:=
  k 115 0 17
def p_z7k {α:Type}   (k:Int→Int→Int→R α):R α:=
  k 115 0 49
def p_z7l {α:Type}   (k:Int→Int→Int→R α):R α:=
  k 115 4 52
def p_z7m {α:Type}   (k:Int→Int→Int→R α):R α:=
  k 115 4 54
def p_z7n {α:Type}   (k:Int→Int→Int→R α):R α:=
  k 115 4 52
def p_z7o {α:Type}   (k:Int→Int→Int→R α):R α:=
  k 115 4 55
def p_zl {α:Type}  (x0:Int) (k:Int→Int→Int→R α):R α:=
  cond (x0==1) (p_z5s   k) ( cond (x0==2) (p_z5t   k) ( cond (x0==3) (p_z5u   k) ( cond (x0==4) (p_z5v   k) ( cond (x0==5) (p_z5w   k) ( cond (x0==6) (p_z5x   k) ( cond (x0==7) (p_z5y   k) ( cond (x0==8) (p_z5z   k) ( cond (x0==9) (p_z60   k) ( cond (x0==10) (p_z61   k) ( cond (x0==11) (p_z62   k) ( cond (x0==12) (p_z63   k) ( cond (x0==13) (p_z64   k) ( cond (x0==14) (p_z65   k) ( cond (x0==15) (p_z66   k) ( cond (x0==16) (p_z67   k) ( cond (x0==17) (p_z68   k) ( cond (x0==18) (p_z69   k) ( cond (x0==19) (p_z6a   k) ( cond (x0==20) (p_z6b   k) ( cond (x0==21) (p_z6c   k) ( cond (x0==22) (p_z6d   k) ( cond (x0==23) (p_z6e   k) ( cond (x0==24) (p_z6f   k) ( cond (x0==25) (p_z6g   k) ( cond (x0==26) (p_z6h   k) ( cond (x0==27) (p_z6i   k) ( cond (x0==28) (p_z6j   k) ( cond (x0==29) (p_z6k   k) ( cond (x0==30) (p_z6l   k) ( cond (x0==31) (p_z6m   k) ( cond (x0==32) (p_z6n   k) ( cond (x0==33) (p_z6o   k) ( cond (x0==34) (p_z6p   k) ( cond (x0==35) (p_z6q   k) ( cond (x0==36) (p_z6r   k) ( cond (x0==37) (p_z6s   k) ( cond (x0==38) (p_z6t   k) ( cond (x0==39) (p_z6u   k) ( cond (x0==40) (p_z6v   k) ( cond (x0==41) (p_z6w   k) ( cond (x0==42) (p_z6x   k) ( cond (x0==43) (p_z6y   k) ( cond (x0==44) (p_z6z   k) ( cond (x0==45) (p_z70   k) ( cond (x0==46) (p_z71   k) ( cond (x0==47) (p_z72   k) ( cond (x0==48) (p_z73   k) ( cond (x0==49) (p_z74   k) ( cond (x0==50) (p_z75   k) ( cond (x0==51) (p_z76   k) ( cond (x0==52) (p_z77   k) ( cond (x0==53) (p_z78   k) ( cond (x0==54) (p_z79   k) ( cond (x0==55) (p_z7a   k) ( cond (x0==56) (p_z7b   k) ( cond (x0==57) (p_z7c   k) ( cond (x0==58) (p_z7d   k) ( cond (x0==59) (p_z7e   k) ( cond (x0==60) (p_z7f   k) ( cond (x0==61) (p_z7g   k) ( cond (x0==62) (p_z7h   k) ( cond (x0==63) (p_z7i   k) ( cond (x0==64) (p_z7j   k) ( cond (x0==65) (p_z7k   k) ( cond (x0==66) (p_z7l   k) ( cond (x0==67) (p_z7m   k) ( cond (x0==68) (p_z7n   k) ( cond (x0==69) (p_z7o   k) ( none)))))))))))))))))))))))))))))))))))))))))))))))))))))))))))))))))))))
abbrev Sg_zc (α:Type):=GInsn→(Int→Bool→R α)→R α
def ad_zc {α:Type} (F:Sg_zc α):FP α:=fun args k=>match args with
  | [a0]=>GInsn.dec a0 fun x0=>F x0 (fun r0 r1=>k (.tuple [(.int .u32 r0),(.bool r1)]))
  | _=>none
def dR_ref3_Encode {α:Type} (v:SV) (k:Int→Bool→R α):R α:=match v with
  | .tuple [a0,a1]=>decI .u32 a0 fun x0=>decB a1 fun x1=>k x0 x1
  | _=>none
theorem dR_ref3_Encode_spec {α:Type} {v:SV} {k:Int→Bool→R α} {r:α} (h:dR_ref3_Encode v k=some r):∃x0 x1,v=(.tuple [(.int .u32 x0),(.bool x1)])∧k x0 x1=some r:=by
  unfold dR_ref3_Encode at h
  split at h<;>try (cases h; done)
  obtain ⟨x0,rfl,h0⟩:=decI_spec h
  obtain ⟨x1,rfl,h1⟩:=decB_spec h0
  exact ⟨x0,x1,rfl,h1⟩
def q_ref3_Encode_1 {α:Type} (x0:GInsn) (k:Int→Bool→R α) (r6:Int) (t9:Int):R α:=
  let t23:Int:=(IntKind.u32.wrap x0.Rd)
  let t24:Int:=(gshl .u32 t23 7)
  let t25:Int:=(bitop .or .u32 r6 t24)
  let t26:Int:=(gshr .u32 t9 20)
  let t27:Int:=(bitop .and .u32 t26 1)
  let t28:Int:=(gshl .u32 t27 31)
  let t29:Int:=(bitop .or .u32 t25 t28)
  let t30:Int:=(gshr .u32 t9 12)
  let t31:Int:=(bitop .and .u32 t30 255)
  let t32:Int:=(gshl .u32 t31 12)
  let t33:Int:=(bitop .or .u32 t29 t32)
  let t34:Int:=(gshr .u32 t9 11)
  let t35:Int:=(bitop .and .u32 t34 1)
  let t36:Int:=(gshl .u32 t35 20)
  let t37:Int:=(bitop .or .u32 t33 t36)
  let t38:Int:=(gshr .u32 t9 1)
  let t39:Int:=(bitop .and .u32 t38 1023)
  let t40:Int:=(gshl .u32 t39 21)
  let t41:Int:=(bitop .or .u32 t37 t40)
  k t41 true
def q_ref3_Encode_2 {α:Type} (x0:GInsn) (k:Int→Bool→R α) (t14:Int) (r8:Int):R α:=
  let t43:Int:=(IntKind.u32.wrap x0.Rd)
  let t44:Int:=(gshl .u32 t43 7)
  let t45:Int:=(bitop .or .u32 t14 t44)
  let t46:Int:=(IntKind.u32.wrap x0.Rs2)
  let t47:Int:=(gshl .u32 t46 20)
  let t48:Int:=(bitop .or .u32 t45 t47)
  let t49:Int:=(gshl .u32 r8 25)
  let t50:Int:=(bitop .or .u32 t48 t49)
  k t50 true
def q_ref3_Encode_3 {α:Type} (x0:GInsn) (k:Int→Bool→R α) (t14:Int) (r8:Int):R α:=
  let t52:Int:=(IntKind.u32.wrap x0.Rd)
  let t53:Int:=(gshl .u32 t52 7)
  let t54:Int:=(bitop .or .u32 t14 t53)
  let t55:Int:=(bitop .or .u32 t54 3145728)
  let t56:Int:=(gshl .u32 r8 25)
  let t57:Int:=(bitop .or .u32 t55 t56)
  k t57 true
def q_ref3_Encode_4 {α:Type} (x0:GInsn) (k:Int→Bool→R α) (t14:Int) (t9:Int) (r8:Int):R α:=
  let t59:Int:=(IntKind.u32.wrap x0.Rd)
  let t60:Int:=(gshl .u32 t59 7)
  let t61:Int:=(bitop .or .u32 t14 t60)
  let t62:Int:=(bitop .and .u32 t9 63)
  let t63:Int:=(gshl .u32 t62 20)
  let t64:Int:=(bitop .or .u32 t61 t63)
  let t65:Int:=(gshl .u32 r8 25)
  let t66:Int:=(bitop .or .u32 t64 t65)
  k t66 true
def q_ref3_Encode_5 {α:Type} (x0:GInsn) (k:Int→Bool→R α) (t14:Int) (t9:Int):R α:=
  let t87:Int:=(IntKind.u32.wrap x0.Rd)
  let t88:Int:=(gshl .u32 t87 7)
  let t89:Int:=(bitop .or .u32 t14 t88)
  let t90:Int:=(bitop .and .u32 t9 4095)
  let t91:Int:=(gshl .u32 t90 20)
  let t92:Int:=(bitop .or .u32 t89 t91)
  k t92 true
def q_ref3_Encode_6 {α:Type} (x0:GInsn) (k:Int→Bool→R α) (t14:Int) (t9:Int) (r8:Int):R α:=
  let b77:Bool:=(leB 32 x0.Op)
  cond b77 (
  let b78:Bool:=(leB x0.Op 34)
  cond b78 (
  q_ref3_Encode_4 x0 k t14 t9 r8) (
  q_ref3_Encode_5 x0 k t14 t9)) (
  q_ref3_Encode_5 x0 k t14 t9)
def q_ref3_Encode_7 {α:Type} (x0:GInsn) (k:Int→Bool→R α) (r6:Int) (t9:Int) (t14:Int) (r8:Int):R α:=
  let b16:Bool:=(leB x0.Op 2)
  cond b16 (
  let t17:Int:=(IntKind.u32.wrap x0.Rd)
  let t18:Int:=(gshl .u32 t17 7)
  let t19:Int:=(bitop .or .u32 r6 t18)
  let t20:Int:=(bitop .and .u32 t9 4294963200)
  let t21:Int:=(bitop .or .u32 t19 t20)
  k t21 true) (
  let b22:Bool:=(x0.Op==3)
  cond b22 (
  q_ref3_Encode_1 x0 k r6 t9) (
  let b42:Bool:=(x0.Op==69)
  cond b42 (
  q_ref3_Encode_2 x0 k t14 r8) (
  let b51:Bool:=(x0.Op==68)
  cond b51 (
  q_ref3_Encode_3 x0 k t14 r8) (
  let b58:Bool:=(r8 !=0)
  cond b58 (
  q_ref3_Encode_4 x0 k t14 t9 r8) (
  let b67:Bool:=(leB 28 x0.Op)
  cond b67 (
  let b68:Bool:=(leB x0.Op 30)
  cond b68 (
  q_ref3_Encode_4 x0 k t14 t9 r8) (
  q_ref3_Encode_6 x0 k t14 t9 r8)) (
  q_ref3_Encode_6 x0 k t14 t9 r8))))))
def q_ref3_Encode_8 {α:Type} (x0:GInsn) (k:Int→Bool→R α) (r6:Int) (t9:Int) (t14:Int) (r8:Int):R α:=
  let b629:Bool:=(leB x0.Op 2)
  cond b629 (
  let t630:Int:=(IntKind.u32.wrap x0.Rd)
  let t631:Int:=(gshl .u32 t630 7)
  let t632:Int:=(bitop .or .u32 r6 t631)
  let t633:Int:=(bitop .and .u32 t9 4294963200)
  let t634:Int:=(bitop .or .u32 t632 t633)
  k t634 true) (
  let b635:Bool:=(x0.Op==3)
  cond b635 (
  q_ref3_Encode_1 x0 k r6 t9) (
  q_ref3_Encode_2 x0 k t14 r8))
def p_zc {α:Type} (F_z21:Sg_z21 α) (F_z1y:Sg_z1y α) (F_zl:Sg_zl α) (x0:GInsn) (k:Int→Bool→R α):R α:=
  F_z21 x0 (fun r1=>
  let b2:Bool:=(!r1)
  cond b2 (
  k 0 false) (
  F_z1y x0.Op (fun r3=>
  let b4:Bool:=(r3 !=0)
  cond b4 (
  F_z1y x0.Op (fun r5=>
  k r5 true)) (
  F_zl x0.Op (fun r6 r7 r8=>
  let t9:Int:=(IntKind.u32.wrap x0.Imm)
  let t10:Int:=(gshl .u32 r7 12)
  let t11:Int:=(bitop .or .u32 r6 t10)
  let t12:Int:=(IntKind.u32.wrap x0.Rs1)
  let t13:Int:=(gshl .u32 t12 15)
  let t14:Int:=(bitop .or .u32 t11 t13)
  let b15:Bool:=(ltB x0.Op 1)
  cond b15 (
  q_ref3_Encode_7 x0 k r6 t9 t14 r8) (
  let b121:Bool:=(leB 70 x0.Op)
  cond b121 (
  q_ref3_Encode_7 x0 k r6 t9 t14 r8) (
  let b227:Bool:=(leB x0.Op 4)
  cond b227 (
  q_ref3_Encode_7 x0 k r6 t9 t14 r8) (
  let b333:Bool:=(leB x0.Op 10)
  cond b333 (
  let b334:Bool:=(leB x0.Op 2)
  cond b334 (
  let t335:Int:=(IntKind.u32.wrap x0.Rd)
  let t336:Int:=(gshl .u32 t335 7)
  let t337:Int:=(bitop .or .u32 r6 t336)
  let t338:Int:=(bitop .and .u32 t9 4294963200)
  let t339:Int:=(bitop .or .u32 t337 t338)
  k t339 true) (
  let b340:Bool:=(x0.Op==3)
  cond b340 (
  q_ref3_Encode_1 x0 k r6 t9) (
  let t360:Int:=(IntKind.u32.wrap x0.Rs2)
  let t361:Int:=(gshl .u32 t360 20)
  let t362:Int:=(bitop .or .u32 t14 t361)
  let t363:Int:=(gshr .u32 t9 12)
  let t364:Int:=(bitop .and .u32 t363 1)
  let t365:Int:=(gshl .u32 t364 31)
  let t366:Int:=(bitop .or .u32 t362 t365)
  let t367:Int:=(gshr .u32 t9 11)
  let t368:Int:=(bitop .and .u32 t367 1)
  let t369:Int:=(gshl .u32 t368 7)
  let t370:Int:=(bitop .or .u32 t366 t369)
  let t371:Int:=(gshr .u32 t9 5)
  let t372:Int:=(bitop .and .u32 t371 63)
  let t373:Int:=(gshl .u32 t372 25)
  let t374:Int:=(bitop .or .u32 t370 t373)
  let t375:Int:=(gshr .u32 t9 1)
  let t376:Int:=(bitop .and .u32 t375 15)
  let t377:Int:=(gshl .u32 t376 8)
  let t378:Int:=(bitop .or .u32 t374 t377)
  k t378 true))) (
  let b379:Bool:=(leB x0.Op 17)
  cond b379 (
  q_ref3_Encode_7 x0 k r6 t9 t14 r8) (
  let b485:Bool:=(leB x0.Op 21)
  cond b485 (
  let b486:Bool:=(leB x0.Op 2)
  cond b486 (
  let t487:Int:=(IntKind.u32.wrap x0.Rd)
  let t488:Int:=(gshl .u32 t487 7)
  let t489:Int:=(bitop .or .u32 r6 t488)
  let t490:Int:=(bitop .and .u32 t9 4294963200)
  let t491:Int:=(bitop .or .u32 t489 t490)
  k t491 true) (
  let b492:Bool:=(x0.Op==3)
  cond b492 (
  q_ref3_Encode_1 x0 k r6 t9) (
  let t512:Int:=(IntKind.u32.wrap x0.Rs2)
  let t513:Int:=(gshl .u32 t512 20)
  let t514:Int:=(bitop .or .u32 t14 t513)
  let t515:Int:=(gshr .u32 t9 5)
  let t516:Int:=(bitop .and .u32 t515 127)
  let t517:Int:=(gshl .u32 t516 25)
  let t518:Int:=(bitop .or .u32 t514 t517)
  let t519:Int:=(bitop .and .u32 t9 31)
  let t520:Int:=(gshl .u32 t519 7)
  let t521:Int:=(bitop .or .u32 t518 t520)
  k t521 true))) (
  let b522:Bool:=(leB x0.Op 34)
  cond b522 (
  q_ref3_Encode_7 x0 k r6 t9 t14 r8) (
  let b628:Bool:=(leB x0.Op 49)
  cond b628 (
  q_ref3_Encode_8 x0 k r6 t9 t14 r8) (
  let b663:Bool:=(leB x0.Op 51)
  cond b663 (
  q_ref3_Encode_7 x0 k r6 t9 t14 r8) (
  let b769:Bool:=(leB x0.Op 53)
  cond b769 (
  q_ref3_Encode_7 x0 k r6 t9 t14 r8) (
  let b875:Bool:=(leB x0.Op 59)
  cond b875 (
  let b876:Bool:=(leB x0.Op 2)
  cond b876 (
  let t877:Int:=(IntKind.u32.wrap x0.Rd)
  let t878:Int:=(gshl .u32 t877 7)
  let t879:Int:=(bitop .or .u32 r6 t878)
  let t880:Int:=(bitop .and .u32 t9 4294963200)
  let t881:Int:=(bitop .or .u32 t879 t880)
  k t881 true) (
  let b882:Bool:=(x0.Op==3)
  cond b882 (
  q_ref3_Encode_1 x0 k r6 t9) (
  let b902:Bool:=(x0.Op==69)
  cond b902 (
  q_ref3_Encode_2 x0 k t14 r8) (
  let b911:Bool:=(leB 57 x0.Op)
  cond b911 (
  let t912:Int:=(gshl .u32 r7 12)
  let t913:Int:=(bitop .or .u32 r6 t912)
  let t914:Int:=(IntKind.u32.wrap x0.Rd)
  let t915:Int:=(gshl .u32 t914 7)
  let t916:Int:=(bitop .or .u32 t913 t915)
  let t917:Int:=(gshl .u32 t9 15)
  let t918:Int:=(bitop .or .u32 t916 t917)
  let t919:Int:=(IntKind.u32.wrap x0.CSR)
  let t920:Int:=(gshl .u32 t919 20)
  let t921:Int:=(bitop .or .u32 t918 t920)
  k t921 true) (
  let t922:Int:=(IntKind.u32.wrap x0.Rd)
  let t923:Int:=(gshl .u32 t922 7)
  let t924:Int:=(bitop .or .u32 t14 t923)
  let t925:Int:=(IntKind.u32.wrap x0.CSR)
  let t926:Int:=(gshl .u32 t925 20)
  let t927:Int:=(bitop .or .u32 t924 t926)
  k t927 true))))) (
  let b928:Bool:=(leB x0.Op 62)
  cond b928 (
  q_ref3_Encode_7 x0 k r6 t9 t14 r8) (
  let b1034:Bool:=(leB x0.Op 65)
  cond b1034 (
  q_ref3_Encode_8 x0 k r6 t9 t14 r8) (
  let b1069:Bool:=(leB x0.Op 2)
  cond b1069 (
  let t1070:Int:=(IntKind.u32.wrap x0.Rd)
  let t1071:Int:=(gshl .u32 t1070 7)
  let t1072:Int:=(bitop .or .u32 r6 t1071)
  let t1073:Int:=(bitop .and .u32 t9 4294963200)
  let t1074:Int:=(bitop .or .u32 t1072 t1073)
  k t1074 true) (
  let b1075:Bool:=(x0.Op==3)
  cond b1075 (
  q_ref3_Encode_1 x0 k r6 t9) (
  let b1095:Bool:=(x0.Op==69)
  cond b1095 (
  q_ref3_Encode_2 x0 k t14 r8) (
  let b1104:Bool:=(x0.Op==68)
  cond b1104 (
  q_ref3_Encode_3 x0 k t14 r8) (
  let t1111:Int:=(IntKind.u32.wrap x0.Rd)
  let t1112:Int:=(gshl .u32 t1111 7)
  let t1113:Int:=(bitop .or .u32 t14 t1112)
  let t1114:Int:=(gshl .u32 r8 25)
  let t1115:Int:=(bitop .or .u32 t1113 t1114)
  k t1115 true))))))))))))))))))))))
abbrev Sg_za (α:Type):=(Nat→Int)→Int→Int→Int→((Nat→Int)→R α)→R α
def ad_za {α:Type} (F:Sg_za α):FF α:=fun args σ k=>match args with
  | [a0,a1,a2,a3]=>withMem σ a0 fun _ b1 _ g1 x0=>decI .u64 a1 fun x1=>decI .i64 a2 fun x2=>decI .u64 a3 fun x3=>F x0 x1 x2 x3 (fun fm=>k (.tuple []) ⟨σ.next,[(b1,byO g1 fm)]++ σ.blocks⟩)
  | _=>none
def dR_ref1_Mem_Write {α:Type} (v:SV) (σ1:Heap) (k:Option Nat→(Nat→Int)→R α):R α:=bif keptX 2 1 σ1 then nowAt σ1 1 fun g fm=>(match v with | .tuple []=>k g fm | _=>none) else none
def p_z7p {α:Type}  (x0:(Nat→Int)) (x1:Int) (x3:Int) (k:(Nat→Int)→R α):R α:=
  let t1:Int:=(IntKind.i64.wrap x1)
  let t2:Int:=(IntKind.i64.wrap (t1+ 0))
  let t3:Int:=(gshr .u64 x3 0)
  let t4:Int:=(IntKind.u8.wrap t3)
  cond (decide (0≤t2) && decide (t2 < 32768)) (
  cond (decide ((0+ (Int.toNat t2)) < 32768)) (
  let t5:Int:=(IntKind.i64.wrap x1)
  let t6:Int:=(IntKind.i64.wrap (t5+ 1))
  let t7:Int:=(gshr .u64 x3 8)
  let t8:Int:=(IntKind.u8.wrap t7)
  cond (decide (0≤t6) && decide (t6 < 32768)) (
  cond (decide ((0+ (Int.toNat t6)) < 32768)) (
  let t9:Int:=(IntKind.i64.wrap x1)
  let t10:Int:=(IntKind.i64.wrap (t9+ 2))
  let t11:Int:=(gshr .u64 x3 16)
  let t12:Int:=(IntKind.u8.wrap t11)
  cond (decide (0≤t10) && decide (t10 < 32768)) (
  cond (decide ((0+ (Int.toNat t10)) < 32768)) (
  let t13:Int:=(IntKind.i64.wrap x1)
  let t14:Int:=(IntKind.i64.wrap (t13+ 3))
  let t15:Int:=(gshr .u64 x3 24)
  let t16:Int:=(IntKind.u8.wrap t15)
  cond (decide (0≤t14) && decide (t14 < 32768)) (
  cond (decide ((0+ (Int.toNat t14)) < 32768)) (
  let t17:Int:=(IntKind.i64.wrap x1)
  let t18:Int:=(IntKind.i64.wrap (t17+ 4))
  let t19:Int:=(gshr .u64 x3 32)
  let t20:Int:=(IntKind.u8.wrap t19)
  cond (decide (0≤t18) && decide (t18 < 32768)) (
  cond (decide ((0+ (Int.toNat t18)) < 32768)) (
  let t21:Int:=(IntKind.i64.wrap x1)
  let t22:Int:=(IntKind.i64.wrap (t21+ 5))
  let t23:Int:=(gshr .u64 x3 40)
  let t24:Int:=(IntKind.u8.wrap t23)
  cond (decide (0≤t22) && decide (t22 < 32768)) (
  cond (decide ((0+ (Int.toNat t22)) < 32768)) (
  let t25:Int:=(IntKind.i64.wrap x1)
  let t26:Int:=(IntKind.i64.wrap (t25+ 6))
  let t27:Int:=(gshr .u64 x3 48)
  let t28:Int:=(IntKind.u8.wrap t27)
  cond (decide (0≤t26) && decide (t26 < 32768)) (
  cond (decide ((0+ (Int.toNat t26)) < 32768)) (
  let t29:Int:=(IntKind.i64.wrap x1)
  let t30:Int:=(IntKind.i64.wrap (t29+ 7))
  let t31:Int:=(gshr .u64 x3 56)
  let t32:Int:=(IntKind.u8.wrap t31)
  cond (decide (0≤t30) && decide (t30 < 32768)) (
  cond (decide ((0+ (Int.toNat t30)) < 32768)) (
  k (upd (upd (upd (upd (upd (upd (upd (upd x0 (0+ (Int.toNat t2)) t4) (0+ (Int.toNat t6)) t8) (0+ (Int.toNat t10)) t12) (0+ (Int.toNat t14)) t16) (0+ (Int.toNat t18)) t20) (0+ (Int.toNat t22)) t24) (0+ (Int.toNat t26)) t28) (0+ (Int.toNat t30)) t32)) none) none) none) none) none) none) none) none) none) none) none) none) none) none) none) none
def p_z7q {α:Type}  (x0:(Nat→Int)) (x1:Int) (x3:Int) (k:(Nat→Int)→R α):R α:=
  let t1:Int:=(IntKind.i64.wrap x1)
  let t2:Int:=(IntKind.i64.wrap (t1+ 0))
  let t3:Int:=(gshr .u64 x3 0)
  let t4:Int:=(IntKind.u8.wrap t3)
  cond (decide (0≤t2) && decide (t2 < 32768)) (
  cond (decide ((0+ (Int.toNat t2)) < 32768)) (
  let t5:Int:=(IntKind.i64.wrap x1)
  let t6:Int:=(IntKind.i64.wrap (t5+ 1))
  let t7:Int:=(gshr .u64 x3 8)
  let t8:Int:=(IntKind.u8.wrap t7)
  cond (decide (0≤t6) && decide (t6 < 32768)) (
  cond (decide ((0+ (Int.toNat t6)) < 32768)) (
  let t9:Int:=(IntKind.i64.wrap x1)
  let t10:Int:=(IntKind.i64.wrap (t9+ 2))
  let t11:Int:=(gshr .u64 x3 16)
  let t12:Int:=(IntKind.u8.wrap t11)
  cond (decide (0≤t10) && decide (t10 < 32768)) (
  cond (decide ((0+ (Int.toNat t10)) < 32768)) (
  let t13:Int:=(IntKind.i64.wrap x1)
  let t14:Int:=(IntKind.i64.wrap (t13+ 3))
  let t15:Int:=(gshr .u64 x3 24)
  let t16:Int:=(IntKind.u8.wrap t15)
  cond (decide (0≤t14) && decide (t14 < 32768)) (
  cond (decide ((0+ (Int.toNat t14)) < 32768)) (
  k (upd (upd (upd (upd x0 (0+ (Int.toNat t2)) t4) (0+ (Int.toNat t6)) t8) (0+ (Int.toNat t10)) t12) (0+ (Int.toNat t14)) t16)) none) none) none) none) none) none) none) none
def p_z7r {α:Type}  (x0:(Nat→Int)) (x1:Int) (x3:Int) (k:(Nat→Int)→R α):R α:=
  let t1:Int:=(IntKind.i64.wrap x1)
  let t2:Int:=(IntKind.i64.wrap (t1+ 0))
  let t3:Int:=(gshr .u64 x3 0)
  let t4:Int:=(IntKind.u8.wrap t3)
  cond (decide (0≤t2) && decide (t2 < 32768)) (
  cond (decide ((0+ (Int.toNat t2)) < 32768)) (
  let t5:Int:=(IntKind.i64.wrap x1)
  let t6:Int:=(IntKind.i64.wrap (t5+ 1))
  let t7:Int:=(gshr .u64 x3 8)
  let t8:Int:=(IntKind.u8.wrap t7)
  cond (decide (0≤t6) && decide (t6 < 32768)) (
  cond (decide ((0+ (Int.toNat t6)) < 32768)) (
  k (upd (upd x0 (0+ (Int.toNat t2)) t4) (0+ (Int.toNat t6)) t8)) none) none) none) none
def p_z7s {α:Type}  (x0:(Nat→Int)) (x1:Int) (x3:Int) (k:(Nat→Int)→R α):R α:=
  let t1:Int:=(IntKind.i64.wrap x1)
  let t2:Int:=(IntKind.i64.wrap (t1+ 0))
  let t3:Int:=(gshr .u64 x3 0)
  let t4:Int:=(IntKind.u8.wrap t3)
  cond (decide (0≤t2) && decide (t2 < 32768)) (
  cond (decide ((0+ (Int.toNat t2)) < 32768)) (
  k (upd x0 (0+ (Int.toNat t2)) t4)) none) none
def p_za {α:Type}  (x0:(Nat→Int)) (x1:Int) (x2:Int) (x3:Int) (k:(Nat→Int)→R α):R α:=
  cond (x2==8) (p_z7p  x0 x1 x3 k) ( cond (x2==4) (p_z7q  x0 x1 x3 k) ( cond (x2==2) (p_z7r  x0 x1 x3 k) ( cond (x2==1) (p_z7s  x0 x1 x3 k) ( none))))
structure S_law19_IsaTimes_11 where
  v0:GMachine
  v1:Bool
  v2:Int
  v3:Int
structure X_law19_IsaTimes_11_0 where
  v0:GMachine
  v1:Bool
structure X_law19_IsaTimes_11_1 where
  v0:GMachine
  v1:Bool
  v2:Int
end Go.Sh
