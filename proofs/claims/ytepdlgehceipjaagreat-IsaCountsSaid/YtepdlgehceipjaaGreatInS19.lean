/-
  One instruction: the contracts.
-/
import Derived.Test.YtepdlgehceipjaaGreatInB18b
import Derived.Test.YtepdlgehceipjaaGreatInL19
import Derived.Test.YtepdlgehceipjaaGreatSpS19
set_option linter.unusedSimpArgs false
set_option linter.unusedVariables false
namespace Go.Proofs.YtepdlgehceipjaaGreat
open Go Go.Sh Go.Proofs
set_option linter.unusedVariables false
theorem d_z2o {α:Type} {I:Imm}:OrcOk (α:=α) Tryz.prog I 119 (.pure (ad_z2o s_csr_Pending)):=mk_z2o 
theorem d_z20 {α:Type} {I:Imm}:OrcOk (α:=α) Tryz.prog I 77 (.pure (ad_z20 s_route_Enabled)):=mk_z20 (h_z2o:=d_z2o)
theorem d_z1h {α:Type} {I:Imm}:OrcOk (α:=α) Tryz.prog I 120 (.pure (ad_z1h s_word_part)):=mk_z1h 
theorem d_zt {α:Type} {I:Imm}:OrcOk (α:=α) Tryz.prog I 121 (.pure (ad_zt s_word_mask)):=mk_zt 
theorem d_z2 {α:Type} {I:Imm}:OrcOk (α:=α) Tryz.prog I 79 (.pure (ad_z2 s_word_Bits)):=mk_z2 (h_z1h:=d_z1h) (h_zt:=d_zt)
theorem d_z4 {α:Type} {I:Imm}:OrcOk (α:=α) Tryz.prog I 80 (.pure (ad_z4 s_csr_Bit)):=mk_z4 (h_z2:=d_z2)
theorem d_zv {α:Type} {I:Imm}:OrcOk (α:=α) Tryz.prog I 81 (.pure (ad_zv s_route_open)):=mk_zv (h_z4:=d_z4)
theorem d_zw {α:Type} {I:Imm}:OrcOk (α:=α) Tryz.prog I 44 (.pure (ad_zw s_route_Interrupt)):=mk_zw (h_z20:=d_z20) (h_z2:=d_z2) (h_z4:=d_z4) (h_zv:=d_zv)
theorem d_z2a {α:Type} {I:Imm}:OrcOk (α:=α) Tryz.prog I 123 (.pure (ad_z2a s_trap_told_enter)):=mk_z2a 
theorem d_zn {α:Type} {I:Imm}:OrcOk (α:=α) Tryz.prog I 113 (.pure (ad_zn s_word_Set)):=mk_zn (h_z1h:=d_z1h) (h_zt:=d_zt)
theorem d_zb {α:Type} {I:Imm}:OrcOk (α:=α) Tryz.prog I 124 (.pure (ad_zb s_csr_Put)):=mk_zb (h_zn:=d_zn)
theorem d_z1r {α:Type} {I:Imm}:OrcOk (α:=α) Tryz.prog I 125 (.pure (ad_z1r s_trap_kept_enter)):=mk_z1r (h_z4:=d_z4) (h_zb:=d_zb)
theorem d_z2e {α:Type} {I:Imm}:OrcOk (α:=α) Tryz.prog I 126 (.pure (ad_z2e s_trap_lower)):=mk_z2e (h_zb:=d_zb) (h_z1r:=d_z1r)
theorem d_z1s {α:Type} {I:Imm}:OrcOk (α:=α) Tryz.prog I 83 (.pure (ad_z1s s_trap_Enter)):=mk_z1s (h_z2a:=d_z2a) (h_zn:=d_zn) (h_zb:=d_zb) (h_z1r:=d_z1r) (h_z2e:=d_z2e)
theorem d_zx {α:Type} {I:Imm}:OrcOk (α:=α) Tryz.prog I 46 (.pure (ad_zx s_exec_Interrupt)):=mk_zx (h_z1s:=d_z1s)
theorem d_zp {α:Type} {I:Imm}:OrcOk (α:=α) Tryz.prog I 47 (.full (ad_zp s_access_Word)):=mk_zp (h_zu:=d_zu) (fun x0 x1 k r h=>h)
theorem d_z2f {α:Type} {I:Imm}:OrcOk (α:=α) Tryz.prog I 130 (.pure (ad_z2f s_route_has)):=mk_z2f (h_z2:=d_z2)
theorem d_z2p {α:Type} {I:Imm}:OrcOk (α:=α) Tryz.prog I 85 (.pure (ad_z2p s_route_Exception)):=mk_z2p (h_z2f:=d_z2f)
theorem d_zm {α:Type} {I:Imm}:OrcOk (α:=α) Tryz.prog I 48 (.pure (ad_zm s_exec_Fault)):=mk_zm (h_z2p:=d_z2p) (h_z1s:=d_z1s)
theorem d_z2q {α:Type} {I:Imm}:OrcOk (α:=α) Tryz.prog I 131 (.pure (ad_z2q s_decode_of)):=mk_z2q (h_z2:=d_z2)
theorem d_zj {α:Type} {I:Imm}:OrcOk (α:=α) Tryz.prog I 190 (.pure (ad_zj s_decode_Opcode)):=mk_zj (h_z2:=d_z2)
theorem d_z8 {α:Type} {I:Imm}:OrcOk (α:=α) Tryz.prog I 212 (.pure (ad_z8 s_word_Sext)):=mk_z8 
theorem d_zo {α:Type} {I:Imm}:OrcOk (α:=α) Tryz.prog I 192 (.pure (ad_zo s_decode_parts_immediate)):=mk_zo (h_z2:=d_z2) (h_z8:=d_z8)
theorem d_z15 {α:Type} {I:Imm}:OrcOk (α:=α) Tryz.prog I 193 (.pure (ad_z15 s_decode_parts_reckons)):=mk_z15 (h_zj:=d_zj) (h_zo:=d_zo) (h_z2:=d_z2)
theorem d_z16 {α:Type} {I:Imm}:OrcOk (α:=α) Tryz.prog I 194 (.pure (ad_z16 s_decode_parts_registers)):=mk_z16 (h_zj:=d_zj)
theorem d_z1f {α:Type} {I:Imm}:OrcOk (α:=α) Tryz.prog I 237 (.pure (ad_z1f s_decode_fence)):=mk_z1f 
theorem d_z1g {α:Type} {I:Imm}:OrcOk (α:=α) Tryz.prog I 238 (.pure (ad_z1g s_decode_parts_guests)):=mk_z1g 
theorem d_z17 {α:Type} {I:Imm}:OrcOk (α:=α) Tryz.prog I 196 (.pure (ad_z17 s_decode_parts_system)):=mk_z17 (h_z1f:=d_z1f) (h_z1g:=d_z1g) (h_z2:=d_z2)
theorem d_z2r {α:Type} {I:Imm}:OrcOk (α:=α) Tryz.prog I 132 (.pure (ad_z2r s_decode_parts_insn)):=mk_z2r (h_zj:=d_zj) (h_z2:=d_z2) (h_z8:=d_z8) (h_zo:=d_zo) (h_z15:=d_z15) (h_z16:=d_z16) (h_z17:=d_z17)
theorem d_z5 {α:Type} {I:Imm}:OrcOk (α:=α) Tryz.prog I 135 (.pure (ad_z5 s_insn_Class)):=mk_z5 
theorem d_z2s {α:Type} {I:Imm}:OrcOk (α:=α) Tryz.prog I 239 (.pure (ad_z2s s_insn_jumps)):=mk_z2s 
theorem d_z2t {α:Type} {I:Imm}:OrcOk (α:=α) Tryz.prog I 240 (.pure (ad_z2t s_insn_withNumber)):=mk_z2t 
theorem d_z2u {α:Type} {I:Imm}:OrcOk (α:=α) Tryz.prog I 197 (.pure (ad_z2u s_insn_Of)):=mk_z2u (h_z5:=d_z5) (h_z2s:=d_z2s) (h_z2t:=d_z2t)
theorem d_z1w {α:Type} {I:Imm}:OrcOk (α:=α) Tryz.prog I 198 (.pure (ad_z1w s_insn_field)):=mk_z1w 
theorem d_zi {α:Type} {I:Imm}:OrcOk (α:=α) Tryz.prog I 133 (.pure (ad_zi s_insn_Is)):=mk_zi (h_z5:=d_z5) (h_z2u:=d_z2u) (h_z1w:=d_z1w)
theorem d_z2g {α:Type} {I:Imm}:OrcOk (α:=α) Tryz.prog I 86 (.pure (ad_z2g s_decode_Decode)):=mk_z2g (h_z2q:=d_z2q) (h_z2r:=d_z2r) (h_zi:=d_zi)
theorem d_z14 {α:Type} {I:Imm}:OrcOk (α:=α) Tryz.prog I 134 (.pure (ad_z14 s_legal_Level)):=mk_z14 
theorem d_z1n {α:Type} {I:Imm}:OrcOk (α:=α) Tryz.prog I 137 (.pure (ad_z1n s_legal_Writes)):=mk_z1n 
theorem d_z3 {α:Type} {I:Imm}:OrcOk (α:=α) Tryz.prog I 177 (.pure (ad_z3 s_csr_guests)):=mk_z3 
theorem d_zr {α:Type} {I:Imm}:OrcOk (α:=α) Tryz.prog I 241 (.pure (ad_zr s_csr_Index)):=mk_zr (h_z3:=d_z3)
theorem d_z2v {α:Type} {I:Imm}:OrcOk (α:=α) Tryz.prog I 199 (.pure (ad_z2v s_csr_Is)):=mk_z2v (h_zr:=d_zr)
theorem d_z1e {α:Type} {I:Imm}:OrcOk (α:=α) Tryz.prog I 201 (.pure (ad_z1e s_legal_ask)):=mk_z1e 
theorem d_zf {α:Type} {I:Imm}:OrcOk (α:=α) Tryz.prog I 138 (.pure (ad_zf s_legal_because)):=mk_zf 
theorem d_z26 {α:Type} {I:Imm}:OrcOk (α:=α) Tryz.prog I 200 (.pure (ad_z26 s_legal_guestCsr)):=mk_z26 (h_z1e:=d_z1e) (h_zf:=d_zf) (h_z4:=d_z4)
theorem d_z2w {α:Type} {I:Imm}:OrcOk (α:=α) Tryz.prog I 136 (.pure (ad_z2w s_legal_Csr)):=mk_z2w (h_z14:=d_z14) (h_z2v:=d_z2v) (h_z26:=d_z26) (h_zf:=d_zf) (h_z4:=d_z4) (h_z1e:=d_z1e)
theorem d_z2h {α:Type} {I:Imm}:OrcOk (α:=α) Tryz.prog I 139 (.pure (ad_z2h s_legal_plain)):=mk_z2h (h_z4:=d_z4) (h_zf:=d_zf)
theorem d_z2x {α:Type} {I:Imm}:OrcOk (α:=α) Tryz.prog I 140 (.pure (ad_z2x s_legal_wfi)):=mk_z2x (h_z4:=d_z4)
theorem d_z2b {α:Type} {I:Imm}:OrcOk (α:=α) Tryz.prog I 141 (.pure (ad_z2b s_legal_guests)):=mk_z2b (h_z5:=d_z5) (h_z4:=d_z4) (h_zf:=d_zf)
theorem d_z13 {α:Type} {I:Imm}:OrcOk (α:=α) Tryz.prog I 87 (.pure (ad_z13 s_legal_Insn)):=mk_z13 (h_zi:=d_zi) (h_z14:=d_z14) (h_z5:=d_z5) (h_z1n:=d_z1n) (h_z2w:=d_z2w) (h_zf:=d_zf) (h_z2h:=d_z2h) (h_z2x:=d_z2x) (h_z2b:=d_z2b)
theorem d_z10 {α:Type} {I:Imm}:OrcOk (α:=α) Tryz.prog I 204 (.pure (ad_z10 s_exec_done)):=mk_z10 
theorem d_zk {α:Type} {I:Imm}:OrcOk (α:=α) Tryz.prog I 145 (.pure (ad_zk s_exec_next)):=mk_zk (h_z10:=d_z10)
theorem d_z1q {α:Type} {I:Imm}:OrcOk (α:=α) Tryz.prog I 242 (.pure (ad_z1q s_word_High)):=mk_z1q 
theorem d_z1t {α:Type} {I:Imm}:OrcOk (α:=α) Tryz.prog I 203 (.pure (ad_z1t s_alu_Taken)):=mk_z1t (h_z1q:=d_z1q)
theorem d_z2y {α:Type} {I:Imm}:OrcOk (α:=α) Tryz.prog I 202 (.pure (ad_z2y s_exec_Goes)):=mk_z2y (h_zi:=d_zi) (h_z5:=d_z5) (h_z1t:=d_z1t)
theorem d_z1c {α:Type} {I:Imm}:OrcOk (α:=α) Tryz.prog I 144 (.pure (ad_z1c s_exec_failed)):=mk_z1c 
theorem d_z2c {α:Type} {I:Imm}:OrcOk (α:=α) Tryz.prog I 142 (.pure (ad_z2c s_exec_jumps)):=mk_z2c (h_zk:=d_zk) (h_z2y:=d_z2y) (h_z5:=d_z5) (h_z1t:=d_z1t) (h_z1c:=d_z1c) (h_z10:=d_z10)
theorem d_z1x {α:Type} {I:Imm}:OrcOk (α:=α) Tryz.prog I 243 (.pure (ad_z1x s_access_sort)):=mk_z1x 
theorem d_z1a {α:Type} {I:Imm}:OrcOk (α:=α) Tryz.prog I 206 (.pure (ad_z1a s_insn_Size)):=mk_z1a 
theorem d_z18 {α:Type} {I:Imm}:OrcOk (α:=α) Tryz.prog I 211 (.pure (ad_z18 s_word_Zext)):=mk_z18 (h_zt:=d_zt)
theorem d_z11 {α:Type} {I:Imm}:OrcOk (α:=α) Tryz.prog I 207 (.pure (ad_z11 s_alu_Extend)):=mk_z11 (h_z1a:=d_z1a) (h_z18:=d_z18) (h_z8:=d_z8)
theorem d_z1i {α:Type} {I:Imm}:OrcOk (α:=α) Tryz.prog I 205 (.full (ad_z1i s_access_runnable)):=mk_z1i (h_zz:=d_zz) (h_z19:=d_z19) (h_z1x:=d_z1x) (h_zs:=d_zs) (h_z11:=d_z11) (fun x0 x1 x2 x3 k r h=>h)
theorem d_z1u {α:Type} {I:Imm}:OrcOk (α:=α) Tryz.prog I 143 (.full (ad_z1u s_access_Insn)):=mk_z1u (h_z5:=d_z5) (h_zi:=d_zi) (h_z4:=d_z4) (h_z1i:=d_z1i) (h_z1a:=d_z1a) (h_zu:=d_zu) (h_z11:=d_z11) (fun x0 x1 x2 k r h=>h)
theorem d_z27 {α:Type} {I:Imm}:OrcOk (α:=α) Tryz.prog I 208 (.pure (ad_z27 s_alu_narrow)):=mk_z27 
theorem d_z22 {α:Type} {I:Imm}:OrcOk (α:=α) Tryz.prog I 210 (.pure (ad_z22 s_alu_plain)):=mk_z22 (h_z5:=d_z5)
theorem d_z2i {α:Type} {I:Imm}:OrcOk (α:=α) Tryz.prog I 244 (.pure (ad_z2i s_alu_one)):=mk_z2i 
theorem d_z23 {α:Type} {I:Imm}:OrcOk (α:=α) Tryz.prog I 209 (.pure (ad_z23 s_alu_does)):=mk_z23 (h_z1q:=d_z1q) (h_z2i:=d_z2i)
theorem d_z2d {α:Type} {I:Imm}:OrcOk (α:=α) Tryz.prog I 146 (.pure (ad_z2d s_alu_Do)):=mk_z2d (h_z5:=d_z5) (h_z27:=d_z27) (h_z22:=d_z22) (h_z23:=d_z23) (h_z18:=d_z18) (h_z8:=d_z8)
theorem d_z2j {α:Type} {I:Imm}:OrcOk (α:=α) Tryz.prog I 147 (.pure (ad_z2j s_exec_calls)):=mk_z2j (h_z14:=d_z14)
theorem d_z2z {α:Type} {I:Imm}:OrcOk (α:=α) Tryz.prog I 213 (.pure (ad_z2z s_csr_Redirect)):=mk_z2z 
theorem d_z2k {α:Type} {I:Imm}:OrcOk (α:=α) Tryz.prog I 214 (.pure (ad_z2k s_csr_Read)):=mk_z2k (h_z3:=d_z3) (h_zr:=d_zr)
theorem d_z28 {α:Type} {I:Imm}:OrcOk (α:=α) Tryz.prog I 216 (.pure (ad_z28 s_alu_Csr)):=mk_z28 
theorem d_zg {α:Type} {I:Imm}:OrcOk (α:=α) Tryz.prog I 66 (.pure (ad_zg s_csr_With)):=mk_zg (h_z2:=d_z2) (h_zn:=d_zn)
theorem d_z9 {α:Type} {I:Imm}:OrcOk (α:=α) Tryz.prog I 67 (.pure (ad_z9 s_csr_Mask)):=mk_z9 (h_z3:=d_z3)
theorem d_z29 {α:Type} {I:Imm}:OrcOk (α:=α) Tryz.prog I 215 (.pure (ad_z29 s_csr_Write)):=mk_z29 (h_z3:=d_z3) (h_zg:=d_zg) (h_zr:=d_zr) (h_z9:=d_z9)
theorem d_z2l {α:Type} {I:Imm}:OrcOk (α:=α) Tryz.prog I 148 (.pure (ad_z2l s_exec_control)):=mk_z2l (h_z2z:=d_z2z) (h_z2k:=d_z2k) (h_z1n:=d_z1n) (h_z28:=d_z28) (h_z29:=d_z29) (h_zk:=d_zk)
theorem d_z1p {α:Type} {I:Imm}:OrcOk (α:=α) Tryz.prog I 245 (.pure (ad_z1p s_trap_kept_back)):=mk_z1p (h_z4:=d_z4) (h_zb:=d_zb)
theorem d_z30 {α:Type} {I:Imm}:OrcOk (α:=α) Tryz.prog I 217 (.pure (ad_z30 s_trap_Mret)):=mk_z30 (h_z13:=d_z13) (h_z2:=d_z2) (h_z4:=d_z4) (h_z1p:=d_z1p) (h_zn:=d_zn) (h_zb:=d_zb)
theorem d_z31 {α:Type} {I:Imm}:OrcOk (α:=α) Tryz.prog I 218 (.pure (ad_z31 s_trap_Sret)):=mk_z31 (h_z13:=d_z13) (h_z2:=d_z2) (h_z1p:=d_z1p) (h_zb:=d_zb) (h_z4:=d_z4)
theorem d_z2m {α:Type} {I:Imm}:OrcOk (α:=α) Tryz.prog I 149 (.pure (ad_z2m s_exec_returns)):=mk_z2m (h_z30:=d_z30) (h_z10:=d_z10) (h_z31:=d_z31) (h_zk:=d_zk)
theorem d_z1v {α:Type} {I:Imm}:OrcOk (α:=α) Tryz.prog I 88 (.full (ad_z1v s_exec_does)):=mk_z1v (h_z5:=d_z5) (h_z2c:=d_z2c) (h_z1u:=d_z1u) (h_z1c:=d_z1c) (h_zk:=d_zk) (h_z2d:=d_z2d) (h_z2j:=d_z2j) (h_z2l:=d_z2l) (h_z2m:=d_z2m) (fun x0 x1 x2 k r h=>h)
theorem d_z2n {α:Type} {I:Imm}:OrcOk (α:=α) Tryz.prog I 89 (.pure (ad_z2n s_insn_Writes)):=mk_z2n (h_zi:=d_zi)
theorem d_zq {α:Type} {I:Imm}:OrcOk (α:=α) Tryz.prog I 49 (.full (ad_zq s_exec_Do)):=mk_zq (h_z2g:=d_z2g) (h_zm:=d_zm) (h_z13:=d_z13) (h_z1v:=d_z1v) (h_z2n:=d_z2n) (fun x0 x1 x2 k r h=>h)
theorem d_z1 {α:Type} {I:Imm}:OrcOk (α:=α) Tryz.prog I 16 (.full (ad_z1 s_isa_Machine_Step)):=mk_z1 (h_sync_atomic_AddInt64:=d_sync_atomic_AddInt64) (h_sync_atomic_StoreUint64:=d_sync_atomic_StoreUint64) (h_sync_atomic_LoadUint64:=d_sync_atomic_LoadUint64) (h_zw:=d_zw) (h_zx:=d_zx) (h_zp:=d_zp) (h_zm:=d_zm) (h_zq:=d_zq) (fun x0 x1 k r h=>h)
theorem d_z6 {α:Type} {I:Imm}:OrcOk (α:=α) Tryz.prog I 29 (.pure (ad_z6 s_isa_Clean)):=mk_z6 (h_z9:=d_z9) (h_zg:=d_zg)
theorem d_zh {α:Type} {I:Imm}:OrcOk (α:=α) Tryz.prog I 31 (.pure (ad_zh s_ref8_Mask)):=mk_zh 
theorem d_z24 {α:Type} {I:Imm}:OrcOk (α:=α) Tryz.prog I 32 (.pure (ad_z24 s_ref8_Mpp)):=mk_z24 
theorem d_zd {α:Type} {I:Imm}:OrcOk (α:=α) Tryz.prog I 13 (.pure (ad_zd s_ref18_Clean)):=mk_zd (h_zh:=d_zh) (h_z24:=d_z24)
theorem d_ze {α:Type} {I:Imm}:OrcOk (α:=α) Tryz.prog I 9 (.pure (ad_ze s_law19_known)):=mk_ze (h_z25:=c_z25) (h_z6:=d_z6) (h_z1:=d_z1)
end Go.Proofs.YtepdlgehceipjaaGreat
