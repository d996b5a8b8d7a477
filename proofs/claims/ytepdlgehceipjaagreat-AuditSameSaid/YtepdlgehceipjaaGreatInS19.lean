/-
  One instruction: the contracts.
-/
import Derived.Test.YtepdlgehceipjaaGreatInB18b
import Derived.Test.YtepdlgehceipjaaGreatInL19
import Derived.Test.YtepdlgehceipjaaGreatSpS19
set_option linter.unusedSimpArgs false
set_option linter.unusedVariables false
namespace Go.Proofs.YtepdlgehceipjaaGreat
open Go Go.Sh Go.Proofs
set_option linter.unusedVariables false
theorem d_z12 {α:Type} {I:Imm}:OrcOk (α:=α) Tryz.prog I 119 (.pure (ad_z12 s_csr_Pending)):=mk_z12 
theorem d_zv {α:Type} {I:Imm}:OrcOk (α:=α) Tryz.prog I 77 (.pure (ad_zv s_route_Enabled)):=mk_zv (h_z12:=d_z12)
theorem d_zo {α:Type} {I:Imm}:OrcOk (α:=α) Tryz.prog I 120 (.pure (ad_zo s_word_part)):=mk_zo 
theorem d_zk {α:Type} {I:Imm}:OrcOk (α:=α) Tryz.prog I 121 (.pure (ad_zk s_word_mask)):=mk_zk 
theorem d_z1 {α:Type} {I:Imm}:OrcOk (α:=α) Tryz.prog I 79 (.pure (ad_z1 s_word_Bits)):=mk_z1 (h_zo:=d_zo) (h_zk:=d_zk)
theorem d_z3 {α:Type} {I:Imm}:OrcOk (α:=α) Tryz.prog I 80 (.pure (ad_z3 s_csr_Bit)):=mk_z3 (h_z1:=d_z1)
theorem d_zd {α:Type} {I:Imm}:OrcOk (α:=α) Tryz.prog I 81 (.pure (ad_zd s_route_open)):=mk_zd (h_z3:=d_z3)
theorem d_z1i {α:Type} {I:Imm}:OrcOk (α:=α) Tryz.prog I 44 (.pure (ad_z1i s_route_Interrupt)):=mk_z1i (h_zv:=d_zv) (h_z1:=d_z1) (h_z3:=d_z3) (h_zd:=d_zd)
theorem d_zx {α:Type} {I:Imm}:OrcOk (α:=α) Tryz.prog I 123 (.pure (ad_zx s_trap_told_enter)):=mk_zx 
theorem d_ze {α:Type} {I:Imm}:OrcOk (α:=α) Tryz.prog I 113 (.pure (ad_ze s_word_Set)):=mk_ze (h_zo:=d_zo) (h_zk:=d_zk)
theorem d_zf {α:Type} {I:Imm}:OrcOk (α:=α) Tryz.prog I 124 (.pure (ad_zf s_csr_Put)):=mk_zf (h_ze:=d_ze)
theorem d_zp {α:Type} {I:Imm}:OrcOk (α:=α) Tryz.prog I 125 (.pure (ad_zp s_trap_kept_enter)):=mk_zp (h_z3:=d_z3) (h_zf:=d_zf)
theorem d_zz {α:Type} {I:Imm}:OrcOk (α:=α) Tryz.prog I 126 (.pure (ad_zz s_trap_lower)):=mk_zz (h_zf:=d_zf) (h_zp:=d_zp)
theorem d_zq {α:Type} {I:Imm}:OrcOk (α:=α) Tryz.prog I 83 (.pure (ad_zq s_trap_Enter)):=mk_zq (h_zx:=d_zx) (h_ze:=d_ze) (h_zf:=d_zf) (h_zp:=d_zp) (h_zz:=d_zz)
theorem d_z1j {α:Type} {I:Imm}:OrcOk (α:=α) Tryz.prog I 46 (.pure (ad_z1j s_exec_Interrupt)):=mk_z1j (h_zq:=d_zq)
theorem d_z10 {α:Type} {I:Imm}:OrcOk (α:=α) Tryz.prog I 130 (.pure (ad_z10 s_route_has)):=mk_z10 (h_z1:=d_z1)
theorem d_z13 {α:Type} {I:Imm}:OrcOk (α:=α) Tryz.prog I 85 (.pure (ad_z13 s_route_Exception)):=mk_z13 (h_z10:=d_z10)
theorem d_z1h {α:Type} {I:Imm}:OrcOk (α:=α) Tryz.prog I 48 (.pure (ad_z1h s_exec_Fault)):=mk_z1h (h_z13:=d_z13) (h_zq:=d_zq)
theorem d_z14 {α:Type} {I:Imm}:OrcOk (α:=α) Tryz.prog I 131 (.pure (ad_z14 s_decode_of)):=mk_z14 (h_z1:=d_z1)
theorem d_z6 {α:Type} {I:Imm}:OrcOk (α:=α) Tryz.prog I 190 (.pure (ad_z6 s_decode_Opcode)):=mk_z6 (h_z1:=d_z1)
theorem d_z7 {α:Type} {I:Imm}:OrcOk (α:=α) Tryz.prog I 212 (.pure (ad_z7 s_word_Sext)):=mk_z7 
theorem d_z9 {α:Type} {I:Imm}:OrcOk (α:=α) Tryz.prog I 192 (.pure (ad_z9 s_decode_parts_immediate)):=mk_z9 (h_z1:=d_z1) (h_z7:=d_z7)
theorem d_zh {α:Type} {I:Imm}:OrcOk (α:=α) Tryz.prog I 193 (.pure (ad_zh s_decode_parts_reckons)):=mk_zh (h_z6:=d_z6) (h_z9:=d_z9) (h_z1:=d_z1)
theorem d_zi {α:Type} {I:Imm}:OrcOk (α:=α) Tryz.prog I 194 (.pure (ad_zi s_decode_parts_registers)):=mk_zi (h_z6:=d_z6)
theorem d_zm {α:Type} {I:Imm}:OrcOk (α:=α) Tryz.prog I 237 (.pure (ad_zm s_decode_fence)):=mk_zm 
theorem d_zn {α:Type} {I:Imm}:OrcOk (α:=α) Tryz.prog I 238 (.pure (ad_zn s_decode_parts_guests)):=mk_zn 
theorem d_zj {α:Type} {I:Imm}:OrcOk (α:=α) Tryz.prog I 196 (.pure (ad_zj s_decode_parts_system)):=mk_zj (h_zm:=d_zm) (h_zn:=d_zn) (h_z1:=d_z1)
theorem d_z15 {α:Type} {I:Imm}:OrcOk (α:=α) Tryz.prog I 132 (.pure (ad_z15 s_decode_parts_insn)):=mk_z15 (h_z6:=d_z6) (h_z1:=d_z1) (h_z7:=d_z7) (h_z9:=d_z9) (h_zh:=d_zh) (h_zi:=d_zi) (h_zj:=d_zj)
theorem d_zb {α:Type} {I:Imm}:OrcOk (α:=α) Tryz.prog I 135 (.pure (ad_zb s_insn_Class)):=mk_zb 
theorem d_z16 {α:Type} {I:Imm}:OrcOk (α:=α) Tryz.prog I 239 (.pure (ad_z16 s_insn_jumps)):=mk_z16 
theorem d_z17 {α:Type} {I:Imm}:OrcOk (α:=α) Tryz.prog I 240 (.pure (ad_z17 s_insn_withNumber)):=mk_z17 
theorem d_z18 {α:Type} {I:Imm}:OrcOk (α:=α) Tryz.prog I 197 (.pure (ad_z18 s_insn_Of)):=mk_z18 (h_zb:=d_zb) (h_z16:=d_z16) (h_z17:=d_z17)
theorem d_zu {α:Type} {I:Imm}:OrcOk (α:=α) Tryz.prog I 198 (.pure (ad_zu s_insn_field)):=mk_zu 
theorem d_zg {α:Type} {I:Imm}:OrcOk (α:=α) Tryz.prog I 133 (.pure (ad_zg s_insn_Is)):=mk_zg (h_zb:=d_zb) (h_z18:=d_z18) (h_zu:=d_zu)
theorem d_z1k {α:Type} {I:Imm}:OrcOk (α:=α) Tryz.prog I 86 (.pure (ad_z1k s_decode_Decode)):=mk_z1k (h_z14:=d_z14) (h_z15:=d_z15) (h_zg:=d_zg)
theorem d_zr {α:Type} {I:Imm}:OrcOk (α:=α) Tryz.prog I 134 (.pure (ad_zr s_legal_Level)):=mk_zr 
theorem d_z19 {α:Type} {I:Imm}:OrcOk (α:=α) Tryz.prog I 137 (.pure (ad_z19 s_legal_Writes)):=mk_z19 
theorem d_z2 {α:Type} {I:Imm}:OrcOk (α:=α) Tryz.prog I 177 (.pure (ad_z2 s_csr_guests)):=mk_z2 
theorem d_z1a {α:Type} {I:Imm}:OrcOk (α:=α) Tryz.prog I 241 (.pure (ad_z1a s_csr_Index)):=mk_z1a (h_z2:=d_z2)
theorem d_z1b {α:Type} {I:Imm}:OrcOk (α:=α) Tryz.prog I 199 (.pure (ad_z1b s_csr_Is)):=mk_z1b (h_z1a:=d_z1a)
theorem d_zl {α:Type} {I:Imm}:OrcOk (α:=α) Tryz.prog I 201 (.pure (ad_zl s_legal_ask)):=mk_zl 
theorem d_z4 {α:Type} {I:Imm}:OrcOk (α:=α) Tryz.prog I 138 (.pure (ad_z4 s_legal_because)):=mk_z4 
theorem d_zw {α:Type} {I:Imm}:OrcOk (α:=α) Tryz.prog I 200 (.pure (ad_zw s_legal_guestCsr)):=mk_zw (h_zl:=d_zl) (h_z4:=d_z4) (h_z3:=d_z3)
theorem d_z1c {α:Type} {I:Imm}:OrcOk (α:=α) Tryz.prog I 136 (.pure (ad_z1c s_legal_Csr)):=mk_z1c (h_zr:=d_zr) (h_z1b:=d_z1b) (h_zw:=d_zw) (h_z4:=d_z4) (h_z3:=d_z3) (h_zl:=d_zl)
theorem d_z11 {α:Type} {I:Imm}:OrcOk (α:=α) Tryz.prog I 139 (.pure (ad_z11 s_legal_plain)):=mk_z11 (h_z3:=d_z3) (h_z4:=d_z4)
theorem d_z1d {α:Type} {I:Imm}:OrcOk (α:=α) Tryz.prog I 140 (.pure (ad_z1d s_legal_wfi)):=mk_z1d (h_z3:=d_z3)
theorem d_zy {α:Type} {I:Imm}:OrcOk (α:=α) Tryz.prog I 141 (.pure (ad_zy s_legal_guests)):=mk_zy (h_zb:=d_zb) (h_z3:=d_z3) (h_z4:=d_z4)
theorem d_z1l {α:Type} {I:Imm}:OrcOk (α:=α) Tryz.prog I 87 (.pure (ad_z1l s_legal_Insn)):=mk_z1l (h_zg:=d_zg) (h_zr:=d_zr) (h_zb:=d_zb) (h_z19:=d_z19) (h_z1c:=d_z1c) (h_z4:=d_z4) (h_z11:=d_z11) (h_z1d:=d_z1d) (h_zy:=d_zy)
theorem d_zc {α:Type} {I:Imm}:OrcOk (α:=α) Tryz.prog I 66 (.pure (ad_zc s_csr_With)):=mk_zc (h_z1:=d_z1) (h_ze:=d_ze)
theorem d_z5 {α:Type} {I:Imm}:OrcOk (α:=α) Tryz.prog I 67 (.pure (ad_z5 s_csr_Mask)):=mk_z5 (h_z2:=d_z2)
theorem d_z1m {α:Type} {I:Imm}:OrcOk (α:=α) Tryz.prog I 89 (.pure (ad_z1m s_insn_Writes)):=mk_z1m (h_zg:=d_zg)
theorem d_z1n {α:Type} {I:Imm}:OrcOk (α:=α) Tryz.prog I 29 (.pure (ad_z1n s_isa_Clean)):=mk_z1n (h_z5:=d_z5) (h_zc:=d_zc)
end Go.Proofs.YtepdlgehceipjaaGreat
