/-
  One instruction: the contracts.
-/
import Derived.Test.YtepdlgehceipjaaGreatInB18b
import Derived.Test.YtepdlgehceipjaaGreatInL19
import Derived.Test.YtepdlgehceipjaaGreatSpS19
set_option linter.unusedSimpArgs false
set_option linter.unusedVariables false
namespace Go.Proofs.YtepdlgehceipjaaGreat
open Go Go.Sh Go.Proofs
set_option linter.unusedVariables false
theorem d_z2d {α:Type} {I:Imm}:OrcOk (α:=α) Tryz.prog I 119 (.pure (ad_z2d s_csr_Pending)):=mk_z2d 
theorem d_z1r {α:Type} {I:Imm}:OrcOk (α:=α) Tryz.prog I 77 (.pure (ad_z1r s_route_Enabled)):=mk_z1r (h_z2d:=d_z2d)
theorem d_z1c {α:Type} {I:Imm}:OrcOk (α:=α) Tryz.prog I 120 (.pure (ad_z1c s_word_part)):=mk_z1c 
theorem d_zn {α:Type} {I:Imm}:OrcOk (α:=α) Tryz.prog I 121 (.pure (ad_zn s_word_mask)):=mk_zn 
theorem d_z1 {α:Type} {I:Imm}:OrcOk (α:=α) Tryz.prog I 79 (.pure (ad_z1 s_word_Bits)):=mk_z1 (h_z1c:=d_z1c) (h_zn:=d_zn)
theorem d_z3 {α:Type} {I:Imm}:OrcOk (α:=α) Tryz.prog I 80 (.pure (ad_z3 s_csr_Bit)):=mk_z3 (h_z1:=d_z1)
theorem d_zp {α:Type} {I:Imm}:OrcOk (α:=α) Tryz.prog I 81 (.pure (ad_zp s_route_open)):=mk_zp (h_z3:=d_z3)
theorem d_zq {α:Type} {I:Imm}:OrcOk (α:=α) Tryz.prog I 44 (.pure (ad_zq s_route_Interrupt)):=mk_zq (h_z1r:=d_z1r) (h_z1:=d_z1) (h_z3:=d_z3) (h_zp:=d_zp)
theorem d_z1z {α:Type} {I:Imm}:OrcOk (α:=α) Tryz.prog I 123 (.pure (ad_z1z s_trap_told_enter)):=mk_z1z 
theorem d_zg {α:Type} {I:Imm}:OrcOk (α:=α) Tryz.prog I 113 (.pure (ad_zg s_word_Set)):=mk_zg (h_z1c:=d_z1c) (h_zn:=d_zn)
theorem d_z7 {α:Type} {I:Imm}:OrcOk (α:=α) Tryz.prog I 124 (.pure (ad_z7 s_csr_Put)):=mk_z7 (h_zg:=d_zg)
theorem d_z1j {α:Type} {I:Imm}:OrcOk (α:=α) Tryz.prog I 125 (.pure (ad_z1j s_trap_kept_enter)):=mk_z1j (h_z3:=d_z3) (h_z7:=d_z7)
theorem d_z23 {α:Type} {I:Imm}:OrcOk (α:=α) Tryz.prog I 126 (.pure (ad_z23 s_trap_lower)):=mk_z23 (h_z7:=d_z7) (h_z1j:=d_z1j)
theorem d_z1k {α:Type} {I:Imm}:OrcOk (α:=α) Tryz.prog I 83 (.pure (ad_z1k s_trap_Enter)):=mk_z1k (h_z1z:=d_z1z) (h_zg:=d_zg) (h_z7:=d_z7) (h_z1j:=d_z1j) (h_z23:=d_z23)
theorem d_zr {α:Type} {I:Imm}:OrcOk (α:=α) Tryz.prog I 46 (.pure (ad_zr s_exec_Interrupt)):=mk_zr (h_z1k:=d_z1k)
theorem d_zi {α:Type} {I:Imm}:OrcOk (α:=α) Tryz.prog I 47 (.full (ad_zi s_access_Word)):=mk_zi (h_zo:=d_zo) (fun x0 x1 k r h=>h)
theorem d_z24 {α:Type} {I:Imm}:OrcOk (α:=α) Tryz.prog I 130 (.pure (ad_z24 s_route_has)):=mk_z24 (h_z1:=d_z1)
theorem d_z2e {α:Type} {I:Imm}:OrcOk (α:=α) Tryz.prog I 85 (.pure (ad_z2e s_route_Exception)):=mk_z2e (h_z24:=d_z24)
theorem d_zf {α:Type} {I:Imm}:OrcOk (α:=α) Tryz.prog I 48 (.pure (ad_zf s_exec_Fault)):=mk_zf (h_z2e:=d_z2e) (h_z1k:=d_z1k)
theorem d_z2f {α:Type} {I:Imm}:OrcOk (α:=α) Tryz.prog I 131 (.pure (ad_z2f s_decode_of)):=mk_z2f (h_z1:=d_z1)
theorem d_zd {α:Type} {I:Imm}:OrcOk (α:=α) Tryz.prog I 190 (.pure (ad_zd s_decode_Opcode)):=mk_zd (h_z1:=d_z1)
theorem d_z5 {α:Type} {I:Imm}:OrcOk (α:=α) Tryz.prog I 212 (.pure (ad_z5 s_word_Sext)):=mk_z5 
theorem d_zh {α:Type} {I:Imm}:OrcOk (α:=α) Tryz.prog I 192 (.pure (ad_zh s_decode_parts_immediate)):=mk_zh (h_z1:=d_z1) (h_z5:=d_z5)
theorem d_zy {α:Type} {I:Imm}:OrcOk (α:=α) Tryz.prog I 193 (.pure (ad_zy s_decode_parts_reckons)):=mk_zy (h_zd:=d_zd) (h_zh:=d_zh) (h_z1:=d_z1)
theorem d_zz {α:Type} {I:Imm}:OrcOk (α:=α) Tryz.prog I 194 (.pure (ad_zz s_decode_parts_registers)):=mk_zz (h_zd:=d_zd)
theorem d_z1a {α:Type} {I:Imm}:OrcOk (α:=α) Tryz.prog I 237 (.pure (ad_z1a s_decode_fence)):=mk_z1a 
theorem d_z1b {α:Type} {I:Imm}:OrcOk (α:=α) Tryz.prog I 238 (.pure (ad_z1b s_decode_parts_guests)):=mk_z1b 
theorem d_z10 {α:Type} {I:Imm}:OrcOk (α:=α) Tryz.prog I 196 (.pure (ad_z10 s_decode_parts_system)):=mk_z10 (h_z1a:=d_z1a) (h_z1b:=d_z1b) (h_z1:=d_z1)
theorem d_z2g {α:Type} {I:Imm}:OrcOk (α:=α) Tryz.prog I 132 (.pure (ad_z2g s_decode_parts_insn)):=mk_z2g (h_zd:=d_zd) (h_z1:=d_z1) (h_z5:=d_z5) (h_zh:=d_zh) (h_zy:=d_zy) (h_zz:=d_zz) (h_z10:=d_z10)
theorem d_z4 {α:Type} {I:Imm}:OrcOk (α:=α) Tryz.prog I 135 (.pure (ad_z4 s_insn_Class)):=mk_z4 
theorem d_z2h {α:Type} {I:Imm}:OrcOk (α:=α) Tryz.prog I 239 (.pure (ad_z2h s_insn_jumps)):=mk_z2h 
theorem d_z2i {α:Type} {I:Imm}:OrcOk (α:=α) Tryz.prog I 240 (.pure (ad_z2i s_insn_withNumber)):=mk_z2i 
theorem d_z2j {α:Type} {I:Imm}:OrcOk (α:=α) Tryz.prog I 197 (.pure (ad_z2j s_insn_Of)):=mk_z2j (h_z4:=d_z4) (h_z2h:=d_z2h) (h_z2i:=d_z2i)
theorem d_z1o {α:Type} {I:Imm}:OrcOk (α:=α) Tryz.prog I 198 (.pure (ad_z1o s_insn_field)):=mk_z1o 
theorem d_zc {α:Type} {I:Imm}:OrcOk (α:=α) Tryz.prog I 133 (.pure (ad_zc s_insn_Is)):=mk_zc (h_z4:=d_z4) (h_z2j:=d_z2j) (h_z1o:=d_z1o)
theorem d_z25 {α:Type} {I:Imm}:OrcOk (α:=α) Tryz.prog I 86 (.pure (ad_z25 s_decode_Decode)):=mk_z25 (h_z2f:=d_z2f) (h_z2g:=d_z2g) (h_zc:=d_zc)
theorem d_zx {α:Type} {I:Imm}:OrcOk (α:=α) Tryz.prog I 134 (.pure (ad_zx s_legal_Level)):=mk_zx 
theorem d_z1g {α:Type} {I:Imm}:OrcOk (α:=α) Tryz.prog I 137 (.pure (ad_z1g s_legal_Writes)):=mk_z1g 
theorem d_z2 {α:Type} {I:Imm}:OrcOk (α:=α) Tryz.prog I 177 (.pure (ad_z2 s_csr_guests)):=mk_z2 
theorem d_zk {α:Type} {I:Imm}:OrcOk (α:=α) Tryz.prog I 241 (.pure (ad_zk s_csr_Index)):=mk_zk (h_z2:=d_z2)
theorem d_z2k {α:Type} {I:Imm}:OrcOk (α:=α) Tryz.prog I 199 (.pure (ad_z2k s_csr_Is)):=mk_z2k (h_zk:=d_zk)
theorem d_z19 {α:Type} {I:Imm}:OrcOk (α:=α) Tryz.prog I 201 (.pure (ad_z19 s_legal_ask)):=mk_z19 
theorem d_z8 {α:Type} {I:Imm}:OrcOk (α:=α) Tryz.prog I 138 (.pure (ad_z8 s_legal_because)):=mk_z8 
theorem d_z1v {α:Type} {I:Imm}:OrcOk (α:=α) Tryz.prog I 200 (.pure (ad_z1v s_legal_guestCsr)):=mk_z1v (h_z19:=d_z19) (h_z8:=d_z8) (h_z3:=d_z3)
theorem d_z2l {α:Type} {I:Imm}:OrcOk (α:=α) Tryz.prog I 136 (.pure (ad_z2l s_legal_Csr)):=mk_z2l (h_zx:=d_zx) (h_z2k:=d_z2k) (h_z1v:=d_z1v) (h_z8:=d_z8) (h_z3:=d_z3) (h_z19:=d_z19)
theorem d_z26 {α:Type} {I:Imm}:OrcOk (α:=α) Tryz.prog I 139 (.pure (ad_z26 s_legal_plain)):=mk_z26 (h_z3:=d_z3) (h_z8:=d_z8)
theorem d_z2m {α:Type} {I:Imm}:OrcOk (α:=α) Tryz.prog I 140 (.pure (ad_z2m s_legal_wfi)):=mk_z2m (h_z3:=d_z3)
theorem d_z20 {α:Type} {I:Imm}:OrcOk (α:=α) Tryz.prog I 141 (.pure (ad_z20 s_legal_guests)):=mk_z20 (h_z4:=d_z4) (h_z3:=d_z3) (h_z8:=d_z8)
theorem d_zw {α:Type} {I:Imm}:OrcOk (α:=α) Tryz.prog I 87 (.pure (ad_zw s_legal_Insn)):=mk_zw (h_zc:=d_zc) (h_zx:=d_zx) (h_z4:=d_z4) (h_z1g:=d_z1g) (h_z2l:=d_z2l) (h_z8:=d_z8) (h_z26:=d_z26) (h_z2m:=d_z2m) (h_z20:=d_z20)
theorem d_zt {α:Type} {I:Imm}:OrcOk (α:=α) Tryz.prog I 204 (.pure (ad_zt s_exec_done)):=mk_zt 
theorem d_ze {α:Type} {I:Imm}:OrcOk (α:=α) Tryz.prog I 145 (.pure (ad_ze s_exec_next)):=mk_ze (h_zt:=d_zt)
theorem d_z1i {α:Type} {I:Imm}:OrcOk (α:=α) Tryz.prog I 242 (.pure (ad_z1i s_word_High)):=mk_z1i 
theorem d_z1l {α:Type} {I:Imm}:OrcOk (α:=α) Tryz.prog I 203 (.pure (ad_z1l s_alu_Taken)):=mk_z1l (h_z1i:=d_z1i)
theorem d_z2n {α:Type} {I:Imm}:OrcOk (α:=α) Tryz.prog I 202 (.pure (ad_z2n s_exec_Goes)):=mk_z2n (h_zc:=d_zc) (h_z4:=d_z4) (h_z1l:=d_z1l)
theorem d_z17 {α:Type} {I:Imm}:OrcOk (α:=α) Tryz.prog I 144 (.pure (ad_z17 s_exec_failed)):=mk_z17 
theorem d_z21 {α:Type} {I:Imm}:OrcOk (α:=α) Tryz.prog I 142 (.pure (ad_z21 s_exec_jumps)):=mk_z21 (h_ze:=d_ze) (h_z2n:=d_z2n) (h_z4:=d_z4) (h_z1l:=d_z1l) (h_z17:=d_z17) (h_zt:=d_zt)
theorem d_z1p {α:Type} {I:Imm}:OrcOk (α:=α) Tryz.prog I 243 (.pure (ad_z1p s_access_sort)):=mk_z1p 
theorem d_z14 {α:Type} {I:Imm}:OrcOk (α:=α) Tryz.prog I 206 (.pure (ad_z14 s_insn_Size)):=mk_z14 
theorem d_z11 {α:Type} {I:Imm}:OrcOk (α:=α) Tryz.prog I 211 (.pure (ad_z11 s_word_Zext)):=mk_z11 (h_zn:=d_zn)
theorem d_zu {α:Type} {I:Imm}:OrcOk (α:=α) Tryz.prog I 207 (.pure (ad_zu s_alu_Extend)):=mk_zu (h_z14:=d_z14) (h_z11:=d_z11) (h_z5:=d_z5)
theorem d_z1d {α:Type} {I:Imm}:OrcOk (α:=α) Tryz.prog I 205 (.full (ad_z1d s_access_runnable)):=mk_z1d (h_zs:=d_zs) (h_z12:=d_z12) (h_z1p:=d_z1p) (h_zm:=d_zm) (h_zu:=d_zu) (fun x0 x1 x2 x3 k r h=>h)
theorem d_z1m {α:Type} {I:Imm}:OrcOk (α:=α) Tryz.prog I 143 (.full (ad_z1m s_access_Insn)):=mk_z1m (h_z4:=d_z4) (h_zc:=d_zc) (h_z3:=d_z3) (h_z1d:=d_z1d) (h_z14:=d_z14) (h_zo:=d_zo) (h_zu:=d_zu) (fun x0 x1 x2 k r h=>h)
theorem d_z1w {α:Type} {I:Imm}:OrcOk (α:=α) Tryz.prog I 208 (.pure (ad_z1w s_alu_narrow)):=mk_z1w 
theorem d_z1s {α:Type} {I:Imm}:OrcOk (α:=α) Tryz.prog I 210 (.pure (ad_z1s s_alu_plain)):=mk_z1s (h_z4:=d_z4)
theorem d_z27 {α:Type} {I:Imm}:OrcOk (α:=α) Tryz.prog I 244 (.pure (ad_z27 s_alu_one)):=mk_z27 
theorem d_z1t {α:Type} {I:Imm}:OrcOk (α:=α) Tryz.prog I 209 (.pure (ad_z1t s_alu_does)):=mk_z1t (h_z1i:=d_z1i) (h_z27:=d_z27)
theorem d_z22 {α:Type} {I:Imm}:OrcOk (α:=α) Tryz.prog I 146 (.pure (ad_z22 s_alu_Do)):=mk_z22 (h_z4:=d_z4) (h_z1w:=d_z1w) (h_z1s:=d_z1s) (h_z1t:=d_z1t) (h_z11:=d_z11) (h_z5:=d_z5)
theorem d_z28 {α:Type} {I:Imm}:OrcOk (α:=α) Tryz.prog I 147 (.pure (ad_z28 s_exec_calls)):=mk_z28 (h_zx:=d_zx)
theorem d_z2o {α:Type} {I:Imm}:OrcOk (α:=α) Tryz.prog I 213 (.pure (ad_z2o s_csr_Redirect)):=mk_z2o 
theorem d_z29 {α:Type} {I:Imm}:OrcOk (α:=α) Tryz.prog I 214 (.pure (ad_z29 s_csr_Read)):=mk_z29 (h_z2:=d_z2) (h_zk:=d_zk)
theorem d_z1x {α:Type} {I:Imm}:OrcOk (α:=α) Tryz.prog I 216 (.pure (ad_z1x s_alu_Csr)):=mk_z1x 
theorem d_z9 {α:Type} {I:Imm}:OrcOk (α:=α) Tryz.prog I 66 (.pure (ad_z9 s_csr_With)):=mk_z9 (h_z1:=d_z1) (h_zg:=d_zg)
theorem d_z6 {α:Type} {I:Imm}:OrcOk (α:=α) Tryz.prog I 67 (.pure (ad_z6 s_csr_Mask)):=mk_z6 (h_z2:=d_z2)
theorem d_z1y {α:Type} {I:Imm}:OrcOk (α:=α) Tryz.prog I 215 (.pure (ad_z1y s_csr_Write)):=mk_z1y (h_z2:=d_z2) (h_z9:=d_z9) (h_zk:=d_zk) (h_z6:=d_z6)
theorem d_z2a {α:Type} {I:Imm}:OrcOk (α:=α) Tryz.prog I 148 (.pure (ad_z2a s_exec_control)):=mk_z2a (h_z2o:=d_z2o) (h_z29:=d_z29) (h_z1g:=d_z1g) (h_z1x:=d_z1x) (h_z1y:=d_z1y) (h_ze:=d_ze)
theorem d_z1h {α:Type} {I:Imm}:OrcOk (α:=α) Tryz.prog I 245 (.pure (ad_z1h s_trap_kept_back)):=mk_z1h (h_z3:=d_z3) (h_z7:=d_z7)
theorem d_z2p {α:Type} {I:Imm}:OrcOk (α:=α) Tryz.prog I 217 (.pure (ad_z2p s_trap_Mret)):=mk_z2p (h_zw:=d_zw) (h_z1:=d_z1) (h_z3:=d_z3) (h_z1h:=d_z1h) (h_zg:=d_zg) (h_z7:=d_z7)
theorem d_z2q {α:Type} {I:Imm}:OrcOk (α:=α) Tryz.prog I 218 (.pure (ad_z2q s_trap_Sret)):=mk_z2q (h_zw:=d_zw) (h_z1:=d_z1) (h_z1h:=d_z1h) (h_z7:=d_z7) (h_z3:=d_z3)
theorem d_z2b {α:Type} {I:Imm}:OrcOk (α:=α) Tryz.prog I 149 (.pure (ad_z2b s_exec_returns)):=mk_z2b (h_z2p:=d_z2p) (h_zt:=d_zt) (h_z2q:=d_z2q) (h_ze:=d_ze)
theorem d_z1n {α:Type} {I:Imm}:OrcOk (α:=α) Tryz.prog I 88 (.full (ad_z1n s_exec_does)):=mk_z1n (h_z4:=d_z4) (h_z21:=d_z21) (h_z1m:=d_z1m) (h_z17:=d_z17) (h_ze:=d_ze) (h_z22:=d_z22) (h_z28:=d_z28) (h_z2a:=d_z2a) (h_z2b:=d_z2b) (fun x0 x1 x2 k r h=>h)
theorem d_z2c {α:Type} {I:Imm}:OrcOk (α:=α) Tryz.prog I 89 (.pure (ad_z2c s_insn_Writes)):=mk_z2c (h_zc:=d_zc)
theorem d_zj {α:Type} {I:Imm}:OrcOk (α:=α) Tryz.prog I 49 (.full (ad_zj s_exec_Do)):=mk_zj (h_z25:=d_z25) (h_zf:=d_zf) (h_zw:=d_zw) (h_z1n:=d_z1n) (h_z2c:=d_z2c) (fun x0 x1 x2 k r h=>h)
theorem d_zl {α:Type} {I:Imm}:OrcOk (α:=α) Tryz.prog I 16 (.full (ad_zl s_isa_Machine_Step)):=mk_zl (h_sync_atomic_AddInt64:=d_sync_atomic_AddInt64) (h_sync_atomic_StoreUint64:=d_sync_atomic_StoreUint64) (h_sync_atomic_LoadUint64:=d_sync_atomic_LoadUint64) (h_zq:=d_zq) (h_zr:=d_zr) (h_zi:=d_zi) (h_zf:=d_zf) (h_zj:=d_zj) (fun x0 x1 k r h=>h)
theorem d_za {α:Type} {I:Imm}:OrcOk (α:=α) Tryz.prog I 29 (.pure (ad_za s_isa_Clean)):=mk_za (h_z6:=d_z6) (h_z9:=d_z9)
theorem d_zb {α:Type} {I:Imm}:OrcOk (α:=α) Tryz.prog I 31 (.pure (ad_zb s_ref8_Mask)):=mk_zb 
theorem d_z1u {α:Type} {I:Imm}:OrcOk (α:=α) Tryz.prog I 32 (.pure (ad_z1u s_ref8_Mpp)):=mk_z1u 
theorem d_z13 {α:Type} {I:Imm}:OrcOk (α:=α) Tryz.prog I 13 (.pure (ad_z13 s_ref18_Clean)):=mk_z13 (h_zb:=d_zb) (h_z1u:=d_z1u)
theorem d_z16 {α:Type} {I:Imm}:OrcOk (α:=α) Tryz.prog I 9 (.pure (ad_z16 s_law19_known)):=mk_z16 (h_z2t:=c_z2t) (h_za:=d_za) (h_zl:=d_zl)
theorem d_z2s {α:Type} {I:Imm}:OrcOk (α:=α) Tryz.prog I 3 (.pure (ad_z2s s_law19_IsaBegins)):=mk_z2s (h_z16:=d_z16) (h_z2t:=c_z2t) (h_za:=d_za) (h_z13:=d_z13)
end Go.Proofs.YtepdlgehceipjaaGreat
