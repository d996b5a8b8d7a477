/-
  One instruction: the contracts.
-/
import Derived.Test.YtodnffhcbhlifaaGreatVnB18b
import Derived.Test.YtodnffhcbhlifaaGreatVnW27
import Derived.Test.YtodnffhcbhlifaaGreatSpS27
set_option linter.unusedSimpArgs false
set_option linter.unusedVariables false
namespace Go.Proofs.YtodnffhcbhlifaaGreat
open Go Go.Sh Go.Proofs
set_option linter.unusedVariables false
theorem d_z1i {α:Type} {I:Imm}:OrcOk (α:=α) Tryz.prog I 86 (.pure (ad_z1i s_csr_Pending)):=mk_z1i 
theorem d_z12 {α:Type} {I:Imm}:OrcOk (α:=α) Tryz.prog I 66 (.pure (ad_z12 s_route_Enabled)):=mk_z12 (h_z1i:=d_z1i)
theorem d_zr {α:Type} {I:Imm}:OrcOk (α:=α) Tryz.prog I 81 (.pure (ad_zr s_word_part)):=mk_zr 
theorem d_zg {α:Type} {I:Imm}:OrcOk (α:=α) Tryz.prog I 82 (.pure (ad_zg s_word_mask)):=mk_zg 
theorem d_z1 {α:Type} {I:Imm}:OrcOk (α:=α) Tryz.prog I 68 (.pure (ad_z1 s_word_Bits)):=mk_z1 (h_zr:=d_zr) (h_zg:=d_zg)
theorem d_z3 {α:Type} {I:Imm}:OrcOk (α:=α) Tryz.prog I 69 (.pure (ad_z3 s_csr_Bit)):=mk_z3 (h_z1:=d_z1)
theorem d_zh {α:Type} {I:Imm}:OrcOk (α:=α) Tryz.prog I 70 (.pure (ad_zh s_route_open)):=mk_zh (h_z3:=d_z3)
theorem d_z24 {α:Type} {I:Imm}:OrcOk (α:=α) Tryz.prog I 48 (.pure (ad_z24 s_route_Interrupt)):=mk_z24 (h_z12:=d_z12) (h_z1:=d_z1) (h_z3:=d_z3) (h_zh:=d_zh)
theorem d_z1b {α:Type} {I:Imm}:OrcOk (α:=α) Tryz.prog I 88 (.pure (ad_z1b s_trap_told_enter)):=mk_z1b 
theorem d_zb {α:Type} {I:Imm}:OrcOk (α:=α) Tryz.prog I 60 (.pure (ad_zb s_word_Set)):=mk_zb (h_zr:=d_zr) (h_zg:=d_zg)
theorem d_z7 {α:Type} {I:Imm}:OrcOk (α:=α) Tryz.prog I 44 (.pure (ad_z7 s_csr_Put)):=mk_z7 (h_zb:=d_zb)
theorem d_zx {α:Type} {I:Imm}:OrcOk (α:=α) Tryz.prog I 89 (.pure (ad_zx s_trap_kept_enter)):=mk_zx (h_z3:=d_z3) (h_z7:=d_z7)
theorem d_z1d {α:Type} {I:Imm}:OrcOk (α:=α) Tryz.prog I 90 (.pure (ad_z1d s_trap_lower)):=mk_z1d (h_z7:=d_z7) (h_zx:=d_zx)
theorem d_zs {α:Type} {I:Imm}:OrcOk (α:=α) Tryz.prog I 72 (.pure (ad_zs s_trap_Enter)):=mk_zs (h_z1b:=d_z1b) (h_zb:=d_zb) (h_z7:=d_z7) (h_zx:=d_zx) (h_z1d:=d_z1d)
theorem d_z25 {α:Type} {I:Imm}:OrcOk (α:=α) Tryz.prog I 50 (.pure (ad_z25 s_exec_Interrupt)):=mk_z25 (h_zs:=d_zs)
theorem d_z1e {α:Type} {I:Imm}:OrcOk (α:=α) Tryz.prog I 95 (.pure (ad_z1e s_route_has)):=mk_z1e (h_z1:=d_z1)
theorem d_z1j {α:Type} {I:Imm}:OrcOk (α:=α) Tryz.prog I 74 (.pure (ad_z1j s_route_Exception)):=mk_z1j (h_z1e:=d_z1e)
theorem d_z20 {α:Type} {I:Imm}:OrcOk (α:=α) Tryz.prog I 52 (.pure (ad_z20 s_exec_Fault)):=mk_z20 (h_z1j:=d_z1j) (h_zs:=d_zs)
theorem d_z1k {α:Type} {I:Imm}:OrcOk (α:=α) Tryz.prog I 96 (.pure (ad_z1k s_decode_of)):=mk_z1k (h_z1:=d_z1)
theorem d_za {α:Type} {I:Imm}:OrcOk (α:=α) Tryz.prog I 127 (.pure (ad_za s_decode_Opcode)):=mk_za (h_z1:=d_z1)
theorem d_z5 {α:Type} {I:Imm}:OrcOk (α:=α) Tryz.prog I 148 (.pure (ad_z5 s_word_Sext)):=mk_z5 
theorem d_zc {α:Type} {I:Imm}:OrcOk (α:=α) Tryz.prog I 129 (.pure (ad_zc s_decode_parts_immediate)):=mk_zc (h_z1:=d_z1) (h_z5:=d_z5)
theorem d_zl {α:Type} {I:Imm}:OrcOk (α:=α) Tryz.prog I 130 (.pure (ad_zl s_decode_parts_reckons)):=mk_zl (h_za:=d_za) (h_zc:=d_zc) (h_z1:=d_z1)
theorem d_zm {α:Type} {I:Imm}:OrcOk (α:=α) Tryz.prog I 131 (.pure (ad_zm s_decode_parts_registers)):=mk_zm (h_za:=d_za)
theorem d_zp {α:Type} {I:Imm}:OrcOk (α:=α) Tryz.prog I 167 (.pure (ad_zp s_decode_fence)):=mk_zp 
theorem d_zq {α:Type} {I:Imm}:OrcOk (α:=α) Tryz.prog I 168 (.pure (ad_zq s_decode_parts_guests)):=mk_zq 
theorem d_zn {α:Type} {I:Imm}:OrcOk (α:=α) Tryz.prog I 133 (.pure (ad_zn s_decode_parts_system)):=mk_zn (h_zp:=d_zp) (h_zq:=d_zq) (h_z1:=d_z1)
theorem d_z1l {α:Type} {I:Imm}:OrcOk (α:=α) Tryz.prog I 97 (.pure (ad_z1l s_decode_parts_insn)):=mk_z1l (h_za:=d_za) (h_z1:=d_z1) (h_z5:=d_z5) (h_zc:=d_zc) (h_zl:=d_zl) (h_zm:=d_zm) (h_zn:=d_zn)
theorem d_z4 {α:Type} {I:Imm}:OrcOk (α:=α) Tryz.prog I 100 (.pure (ad_z4 s_insn_Class)):=mk_z4 
theorem d_z1m {α:Type} {I:Imm}:OrcOk (α:=α) Tryz.prog I 169 (.pure (ad_z1m s_insn_jumps)):=mk_z1m 
theorem d_z1n {α:Type} {I:Imm}:OrcOk (α:=α) Tryz.prog I 170 (.pure (ad_z1n s_insn_withNumber)):=mk_z1n 
theorem d_z1o {α:Type} {I:Imm}:OrcOk (α:=α) Tryz.prog I 134 (.pure (ad_z1o s_insn_Of)):=mk_z1o (h_z4:=d_z4) (h_z1m:=d_z1m) (h_z1n:=d_z1n)
theorem d_z11 {α:Type} {I:Imm}:OrcOk (α:=α) Tryz.prog I 135 (.pure (ad_z11 s_insn_field)):=mk_z11 
theorem d_zd {α:Type} {I:Imm}:OrcOk (α:=α) Tryz.prog I 98 (.pure (ad_zd s_insn_Is)):=mk_zd (h_z4:=d_z4) (h_z1o:=d_z1o) (h_z11:=d_z11)
theorem d_z26 {α:Type} {I:Imm}:OrcOk (α:=α) Tryz.prog I 75 (.pure (ad_z26 s_decode_Decode)):=mk_z26 (h_z1k:=d_z1k) (h_z1l:=d_z1l) (h_zd:=d_zd)
theorem d_zj {α:Type} {I:Imm}:OrcOk (α:=α) Tryz.prog I 99 (.pure (ad_zj s_legal_Level)):=mk_zj 
theorem d_zu {α:Type} {I:Imm}:OrcOk (α:=α) Tryz.prog I 102 (.pure (ad_zu s_legal_Writes)):=mk_zu 
theorem d_z2 {α:Type} {I:Imm}:OrcOk (α:=α) Tryz.prog I 84 (.pure (ad_z2 s_csr_guests)):=mk_z2 
theorem d_ze {α:Type} {I:Imm}:OrcOk (α:=α) Tryz.prog I 171 (.pure (ad_ze s_csr_Index)):=mk_ze (h_z2:=d_z2)
theorem d_z1p {α:Type} {I:Imm}:OrcOk (α:=α) Tryz.prog I 136 (.pure (ad_z1p s_csr_Is)):=mk_z1p (h_ze:=d_ze)
theorem d_zo {α:Type} {I:Imm}:OrcOk (α:=α) Tryz.prog I 138 (.pure (ad_zo s_legal_ask)):=mk_zo 
theorem d_z8 {α:Type} {I:Imm}:OrcOk (α:=α) Tryz.prog I 103 (.pure (ad_z8 s_legal_because)):=mk_z8 
theorem d_z17 {α:Type} {I:Imm}:OrcOk (α:=α) Tryz.prog I 137 (.pure (ad_z17 s_legal_guestCsr)):=mk_z17 (h_zo:=d_zo) (h_z8:=d_z8) (h_z3:=d_z3)
theorem d_z1q {α:Type} {I:Imm}:OrcOk (α:=α) Tryz.prog I 101 (.pure (ad_z1q s_legal_Csr)):=mk_z1q (h_zj:=d_zj) (h_z1p:=d_z1p) (h_z17:=d_z17) (h_z8:=d_z8) (h_z3:=d_z3) (h_zo:=d_zo)
theorem d_z1f {α:Type} {I:Imm}:OrcOk (α:=α) Tryz.prog I 104 (.pure (ad_z1f s_legal_plain)):=mk_z1f (h_z3:=d_z3) (h_z8:=d_z8)
theorem d_z1r {α:Type} {I:Imm}:OrcOk (α:=α) Tryz.prog I 105 (.pure (ad_z1r s_legal_wfi)):=mk_z1r (h_z3:=d_z3)
theorem d_z1c {α:Type} {I:Imm}:OrcOk (α:=α) Tryz.prog I 106 (.pure (ad_z1c s_legal_guests)):=mk_z1c (h_z4:=d_z4) (h_z3:=d_z3) (h_z8:=d_z8)
theorem d_zt {α:Type} {I:Imm}:OrcOk (α:=α) Tryz.prog I 76 (.pure (ad_zt s_legal_Insn)):=mk_zt (h_zd:=d_zd) (h_zj:=d_zj) (h_z4:=d_z4) (h_zu:=d_zu) (h_z1q:=d_z1q) (h_z8:=d_z8) (h_z1f:=d_z1f) (h_z1r:=d_z1r) (h_z1c:=d_z1c)
theorem d_zi {α:Type} {I:Imm}:OrcOk (α:=α) Tryz.prog I 141 (.pure (ad_zi s_exec_done)):=mk_zi 
theorem d_zf {α:Type} {I:Imm}:OrcOk (α:=α) Tryz.prog I 110 (.pure (ad_zf s_exec_next)):=mk_zf (h_zi:=d_zi)
theorem d_zw {α:Type} {I:Imm}:OrcOk (α:=α) Tryz.prog I 172 (.pure (ad_zw s_word_High)):=mk_zw 
theorem d_zy {α:Type} {I:Imm}:OrcOk (α:=α) Tryz.prog I 140 (.pure (ad_zy s_alu_Taken)):=mk_zy (h_zw:=d_zw)
theorem d_z1s {α:Type} {I:Imm}:OrcOk (α:=α) Tryz.prog I 139 (.pure (ad_z1s s_exec_Goes)):=mk_z1s (h_zd:=d_zd) (h_z4:=d_z4) (h_zy:=d_zy)
theorem d_z13 {α:Type} {I:Imm}:OrcOk (α:=α) Tryz.prog I 109 (.pure (ad_z13 s_exec_failed)):=mk_z13 
theorem d_z27 {α:Type} {I:Imm}:OrcOk (α:=α) Tryz.prog I 107 (.pure (ad_z27 s_exec_jumps)):=mk_z27 (h_zf:=d_zf) (h_z1s:=d_z1s) (h_z4:=d_z4) (h_zy:=d_zy) (h_z13:=d_z13) (h_zi:=d_zi)
theorem d_z28 {α:Type} {I:Imm}:OrcOk (α:=α) Tryz.prog I 173 (.pure (ad_z28 s_access_sort)):=mk_z28 
theorem d_z16 {α:Type} {I:Imm}:OrcOk (α:=α) Tryz.prog I 143 (.pure (ad_z16 s_insn_Size)):=mk_z16 
theorem d_zk {α:Type} {I:Imm}:OrcOk (α:=α) Tryz.prog I 61 (.pure (ad_zk s_word_Zext)):=mk_zk (h_zg:=d_zg)
theorem d_z21 {α:Type} {I:Imm}:OrcOk (α:=α) Tryz.prog I 144 (.pure (ad_z21 s_alu_Extend)):=mk_z21 (h_z16:=d_z16) (h_zk:=d_zk) (h_z5:=d_z5)
theorem d_z18 {α:Type} {I:Imm}:OrcOk (α:=α) Tryz.prog I 145 (.pure (ad_z18 s_alu_narrow)):=mk_z18 
theorem d_z14 {α:Type} {I:Imm}:OrcOk (α:=α) Tryz.prog I 147 (.pure (ad_z14 s_alu_plain)):=mk_z14 (h_z4:=d_z4)
theorem d_z1g {α:Type} {I:Imm}:OrcOk (α:=α) Tryz.prog I 174 (.pure (ad_z1g s_alu_one)):=mk_z1g 
theorem d_z15 {α:Type} {I:Imm}:OrcOk (α:=α) Tryz.prog I 146 (.pure (ad_z15 s_alu_does)):=mk_z15 (h_zw:=d_zw) (h_z1g:=d_z1g)
theorem d_z29 {α:Type} {I:Imm}:OrcOk (α:=α) Tryz.prog I 111 (.pure (ad_z29 s_alu_Do)):=mk_z29 (h_z4:=d_z4) (h_z18:=d_z18) (h_z14:=d_z14) (h_z15:=d_z15) (h_zk:=d_zk) (h_z5:=d_z5)
theorem d_z2a {α:Type} {I:Imm}:OrcOk (α:=α) Tryz.prog I 112 (.pure (ad_z2a s_exec_calls)):=mk_z2a (h_zj:=d_zj)
theorem d_z1t {α:Type} {I:Imm}:OrcOk (α:=α) Tryz.prog I 149 (.pure (ad_z1t s_csr_Redirect)):=mk_z1t 
theorem d_z1h {α:Type} {I:Imm}:OrcOk (α:=α) Tryz.prog I 150 (.pure (ad_z1h s_csr_Read)):=mk_z1h (h_z2:=d_z2) (h_ze:=d_ze)
theorem d_z19 {α:Type} {I:Imm}:OrcOk (α:=α) Tryz.prog I 152 (.pure (ad_z19 s_alu_Csr)):=mk_z19 
theorem d_z9 {α:Type} {I:Imm}:OrcOk (α:=α) Tryz.prog I 63 (.pure (ad_z9 s_csr_With)):=mk_z9 (h_z1:=d_z1) (h_zb:=d_zb)
theorem d_z6 {α:Type} {I:Imm}:OrcOk (α:=α) Tryz.prog I 42 (.pure (ad_z6 s_csr_Mask)):=mk_z6 (h_z2:=d_z2)
theorem d_z1a {α:Type} {I:Imm}:OrcOk (α:=α) Tryz.prog I 151 (.pure (ad_z1a s_csr_Write)):=mk_z1a (h_z2:=d_z2) (h_z9:=d_z9) (h_ze:=d_ze) (h_z6:=d_z6)
theorem d_z2b {α:Type} {I:Imm}:OrcOk (α:=α) Tryz.prog I 113 (.pure (ad_z2b s_exec_control)):=mk_z2b (h_z1t:=d_z1t) (h_z1h:=d_z1h) (h_zu:=d_zu) (h_z19:=d_z19) (h_z1a:=d_z1a) (h_zf:=d_zf)
theorem d_zv {α:Type} {I:Imm}:OrcOk (α:=α) Tryz.prog I 175 (.pure (ad_zv s_trap_kept_back)):=mk_zv (h_z3:=d_z3) (h_z7:=d_z7)
theorem d_z1u {α:Type} {I:Imm}:OrcOk (α:=α) Tryz.prog I 153 (.pure (ad_z1u s_trap_Mret)):=mk_z1u (h_zt:=d_zt) (h_z1:=d_z1) (h_z3:=d_z3) (h_zv:=d_zv) (h_zb:=d_zb) (h_z7:=d_z7)
theorem d_z1v {α:Type} {I:Imm}:OrcOk (α:=α) Tryz.prog I 154 (.pure (ad_z1v s_trap_Sret)):=mk_z1v (h_zt:=d_zt) (h_z1:=d_z1) (h_zv:=d_zv) (h_z7:=d_z7) (h_z3:=d_z3)
theorem d_z2c {α:Type} {I:Imm}:OrcOk (α:=α) Tryz.prog I 114 (.pure (ad_z2c s_exec_returns)):=mk_z2c (h_z1u:=d_z1u) (h_zi:=d_zi) (h_z1v:=d_z1v) (h_zf:=d_zf)
theorem d_z2d {α:Type} {I:Imm}:OrcOk (α:=α) Tryz.prog I 78 (.pure (ad_z2d s_insn_Writes)):=mk_z2d (h_zd:=d_zd)
theorem d_z22 {α:Type} {I:Imm}:OrcOk (α:=α) Tryz.prog I 45 (.pure (ad_z22 s_isa_Clean)):=mk_z22 (h_z6:=d_z6) (h_z9:=d_z9)
end Go.Proofs.YtodnffhcbhlifaaGreat
