/-
  One instruction: the contracts.
-/
import Derived.Test.YtlijlabaopiicaaGreatXnB18b
import Derived.Test.YtlijlabaopiicaaGreatXnWK18
import Derived.Test.YtlijlabaopiicaaGreatSpS18w
set_option linter.unusedSimpArgs false
set_option linter.unusedVariables false
namespace Go.Proofs.YtlijlabaopiicaaGreat
open Go Go.Sh Go.Proofs
set_option linter.unusedVariables false
theorem d_z19 {α : Type} {I : Imm} : OrcOk (α := α) Tryz.prog I 155 (.pure (ad_z19 s_word_part)) := mk_z19 
theorem d_zn {α : Type} {I : Imm} : OrcOk (α := α) Tryz.prog I 156 (.pure (ad_zn s_word_mask)) := mk_zn 
theorem d_z2 {α : Type} {I : Imm} : OrcOk (α := α) Tryz.prog I 118 (.pure (ad_z2 s_word_Bits)) := mk_z2 (h_z19 := d_z19) (h_zn := d_zn)
theorem d_z2w {α : Type} {I : Imm} : OrcOk (α := α) Tryz.prog I 66 (.pure (ad_z2w s_decode_of)) := mk_z2w (h_z2 := d_z2)
theorem d_ze {α : Type} {I : Imm} : OrcOk (α := α) Tryz.prog I 119 (.pure (ad_ze s_decode_Opcode)) := mk_ze (h_z2 := d_z2)
theorem d_z8 {α : Type} {I : Imm} : OrcOk (α := α) Tryz.prog I 139 (.pure (ad_z8 s_word_Sext)) := mk_z8 
theorem d_zh {α : Type} {I : Imm} : OrcOk (α := α) Tryz.prog I 121 (.pure (ad_zh s_decode_parts_immediate)) := mk_zh (h_z2 := d_z2) (h_z8 := d_z8)
theorem d_zu {α : Type} {I : Imm} : OrcOk (α := α) Tryz.prog I 122 (.pure (ad_zu s_decode_parts_reckons)) := mk_zu (h_ze := d_ze) (h_zh := d_zh) (h_z2 := d_z2)
theorem d_zv {α : Type} {I : Imm} : OrcOk (α := α) Tryz.prog I 123 (.pure (ad_zv s_decode_parts_registers)) := mk_zv (h_ze := d_ze)
theorem d_z13 {α : Type} {I : Imm} : OrcOk (α := α) Tryz.prog I 160 (.pure (ad_z13 s_decode_fence)) := mk_z13 
theorem d_z14 {α : Type} {I : Imm} : OrcOk (α := α) Tryz.prog I 161 (.pure (ad_z14 s_decode_parts_guests)) := mk_z14 
theorem d_zw {α : Type} {I : Imm} : OrcOk (α := α) Tryz.prog I 125 (.pure (ad_zw s_decode_parts_system)) := mk_zw (h_z13 := d_z13) (h_z14 := d_z14) (h_z2 := d_z2)
theorem d_z2h {α : Type} {I : Imm} : OrcOk (α := α) Tryz.prog I 67 (.pure (ad_z2h s_decode_parts_insn)) := mk_z2h (h_ze := d_ze) (h_z2 := d_z2) (h_z8 := d_z8) (h_zh := d_zh) (h_zu := d_zu) (h_zv := d_zv) (h_zw := d_zw)
theorem d_z4 {α : Type} {I : Imm} : OrcOk (α := α) Tryz.prog I 59 (.pure (ad_z4 s_insn_Class)) := mk_z4 
theorem d_z2i {α : Type} {I : Imm} : OrcOk (α := α) Tryz.prog I 157 (.pure (ad_z2i s_insn_jumps)) := mk_z2i 
theorem d_z2j {α : Type} {I : Imm} : OrcOk (α := α) Tryz.prog I 158 (.pure (ad_z2j s_insn_withNumber)) := mk_z2j 
theorem d_z2k {α : Type} {I : Imm} : OrcOk (α := α) Tryz.prog I 112 (.pure (ad_z2k s_insn_Of)) := mk_z2k (h_z4 := d_z4) (h_z2i := d_z2i) (h_z2j := d_z2j)
theorem d_z1o {α : Type} {I : Imm} : OrcOk (α := α) Tryz.prog I 113 (.pure (ad_z1o s_insn_field)) := mk_z1o 
theorem d_zc {α : Type} {I : Imm} : OrcOk (α := α) Tryz.prog I 58 (.pure (ad_zc s_insn_Is)) := mk_zc (h_z4 := d_z4) (h_z2k := d_z2k) (h_z1o := d_z1o)
theorem d_z29 {α : Type} {I : Imm} : OrcOk (α := α) Tryz.prog I 28 (.pure (ad_z29 s_decode_Decode)) := mk_z29 (h_z2w := d_z2w) (h_z2h := d_z2h) (h_zc := d_zc)
theorem d_z25 {α : Type} {I : Imm} : OrcOk (α := α) Tryz.prog I 106 (.pure (ad_z25 s_route_has)) := mk_z25 (h_z2 := d_z2)
theorem d_z2l {α : Type} {I : Imm} : OrcOk (α := α) Tryz.prog I 54 (.pure (ad_z2l s_route_Exception)) := mk_z2l (h_z25 := d_z25)
theorem d_z2m {α : Type} {I : Imm} : OrcOk (α := α) Tryz.prog I 107 (.pure (ad_z2m s_trap_told_enter)) := mk_z2m 
theorem d_zg {α : Type} {I : Imm} : OrcOk (α := α) Tryz.prog I 108 (.pure (ad_zg s_word_Set)) := mk_zg (h_z19 := d_z19) (h_zn := d_zn)
theorem d_za {α : Type} {I : Imm} : OrcOk (α := α) Tryz.prog I 109 (.pure (ad_za s_csr_Put)) := mk_za (h_zg := d_zg)
theorem d_z3 {α : Type} {I : Imm} : OrcOk (α := α) Tryz.prog I 128 (.pure (ad_z3 s_csr_Bit)) := mk_z3 (h_z2 := d_z2)
theorem d_z1i {α : Type} {I : Imm} : OrcOk (α := α) Tryz.prog I 110 (.pure (ad_z1i s_trap_kept_enter)) := mk_z1i (h_z3 := d_z3) (h_za := d_za)
theorem d_z2n {α : Type} {I : Imm} : OrcOk (α := α) Tryz.prog I 111 (.pure (ad_z2n s_trap_lower)) := mk_z2n (h_za := d_za) (h_z1i := d_z1i)
theorem d_z22 {α : Type} {I : Imm} : OrcOk (α := α) Tryz.prog I 55 (.pure (ad_z22 s_trap_Enter)) := mk_z22 (h_z2m := d_z2m) (h_zg := d_zg) (h_za := d_za) (h_z1i := d_z1i) (h_z2n := d_z2n)
theorem d_z1x {α : Type} {I : Imm} : OrcOk (α := α) Tryz.prog I 18 (.pure (ad_z1x s_exec_Fault)) := mk_z1x (h_z2l := d_z2l) (h_z22 := d_z22)
theorem d_zs {α : Type} {I : Imm} : OrcOk (α := α) Tryz.prog I 68 (.pure (ad_zs s_legal_Level)) := mk_zs 
theorem d_z1d {α : Type} {I : Imm} : OrcOk (α := α) Tryz.prog I 70 (.pure (ad_z1d s_legal_Writes)) := mk_z1d 
theorem d_z1 {α : Type} {I : Imm} : OrcOk (α := α) Tryz.prog I 168 (.pure (ad_z1 s_csr_guests)) := mk_z1 
theorem d_zk {α : Type} {I : Imm} : OrcOk (α := α) Tryz.prog I 162 (.pure (ad_zk s_csr_Index)) := mk_zk (h_z1 := d_z1)
theorem d_z2o {α : Type} {I : Imm} : OrcOk (α := α) Tryz.prog I 126 (.pure (ad_z2o s_csr_Is)) := mk_z2o (h_zk := d_zk)
theorem d_zz {α : Type} {I : Imm} : OrcOk (α := α) Tryz.prog I 129 (.pure (ad_zz s_legal_ask)) := mk_zz 
theorem d_zb {α : Type} {I : Imm} : OrcOk (α := α) Tryz.prog I 71 (.pure (ad_zb s_legal_because)) := mk_zb 
theorem d_z20 {α : Type} {I : Imm} : OrcOk (α := α) Tryz.prog I 127 (.pure (ad_z20 s_legal_guestCsr)) := mk_z20 (h_zz := d_zz) (h_zb := d_zb) (h_z3 := d_z3)
theorem d_z2p {α : Type} {I : Imm} : OrcOk (α := α) Tryz.prog I 69 (.pure (ad_z2p s_legal_Csr)) := mk_z2p (h_zs := d_zs) (h_z2o := d_z2o) (h_z20 := d_z20) (h_zb := d_zb) (h_z3 := d_z3) (h_zz := d_zz)
theorem d_z2a {α : Type} {I : Imm} : OrcOk (α := α) Tryz.prog I 72 (.pure (ad_z2a s_legal_plain)) := mk_z2a (h_z3 := d_z3) (h_zb := d_zb)
theorem d_z2q {α : Type} {I : Imm} : OrcOk (α := α) Tryz.prog I 73 (.pure (ad_z2q s_legal_wfi)) := mk_z2q (h_z3 := d_z3)
theorem d_z26 {α : Type} {I : Imm} : OrcOk (α := α) Tryz.prog I 74 (.pure (ad_z26 s_legal_guests)) := mk_z26 (h_z4 := d_z4) (h_z3 := d_z3) (h_zb := d_zb)
theorem d_zr {α : Type} {I : Imm} : OrcOk (α := α) Tryz.prog I 29 (.pure (ad_zr s_legal_Insn)) := mk_zr (h_zc := d_zc) (h_zs := d_zs) (h_z4 := d_z4) (h_z1d := d_z1d) (h_z2p := d_z2p) (h_zb := d_zb) (h_z2a := d_z2a) (h_z2q := d_z2q) (h_z26 := d_z26)
theorem d_zq {α : Type} {I : Imm} : OrcOk (α := α) Tryz.prog I 130 (.pure (ad_zq s_exec_done)) := mk_zq 
theorem d_zf {α : Type} {I : Imm} : OrcOk (α := α) Tryz.prog I 78 (.pure (ad_zf s_exec_next)) := mk_zf (h_zq := d_zq)
theorem d_z1f {α : Type} {I : Imm} : OrcOk (α := α) Tryz.prog I 114 (.pure (ad_z1f s_word_High)) := mk_z1f 
theorem d_z1g {α : Type} {I : Imm} : OrcOk (α := α) Tryz.prog I 60 (.pure (ad_z1g s_alu_Taken)) := mk_z1g (h_z1f := d_z1f)
theorem d_z6 {α : Type} {I : Imm} : OrcOk (α := α) Tryz.prog I 20 (.pure (ad_z6 s_exec_Goes)) := mk_z6 (h_zc := d_zc) (h_z4 := d_z4) (h_z1g := d_z1g)
theorem d_z16 {α : Type} {I : Imm} : OrcOk (α := α) Tryz.prog I 77 (.pure (ad_z16 s_exec_failed)) := mk_z16 
theorem d_z27 {α : Type} {I : Imm} : OrcOk (α := α) Tryz.prog I 75 (.pure (ad_z27 s_exec_jumps)) := mk_z27 (h_zf := d_zf) (h_z6 := d_z6) (h_z4 := d_z4) (h_z1g := d_z1g) (h_z16 := d_z16) (h_zq := d_zq)
theorem d_z1s {α : Type} {I : Imm} : OrcOk (α := α) Tryz.prog I 165 (.pure (ad_z1s s_access_sort)) := mk_z1s 
theorem d_zx {α : Type} {I : Imm} : OrcOk (α := α) Tryz.prog I 133 (.pure (ad_zx s_insn_Size)) := mk_zx 
theorem d_zy {α : Type} {I : Imm} : OrcOk (α := α) Tryz.prog I 138 (.pure (ad_zy s_word_Zext)) := mk_zy (h_zn := d_zn)
theorem d_zo {α : Type} {I : Imm} : OrcOk (α := α) Tryz.prog I 134 (.pure (ad_zo s_alu_Extend)) := mk_zo (h_zx := d_zx) (h_zy := d_zy) (h_z8 := d_z8)
theorem d_z15 {α : Type} {I : Imm} : OrcOk (α := α) Tryz.prog I 131 (.full (ad_z15 s_access_runnable)) := mk_z15 (h_zp := d_zp) (h_z10 := d_z10) (h_z1s := d_z1s) (h_zl := d_zl) (h_zo := d_zo) (fun x0 x1 x2 x3 k r h => h)
theorem d_z1j {α : Type} {I : Imm} : OrcOk (α := α) Tryz.prog I 76 (.full (ad_z1j s_access_Insn)) := mk_z1j (h_z4 := d_z4) (h_zc := d_zc) (h_z3 := d_z3) (h_z15 := d_z15) (h_zx := d_zx) (h_z12 := d_z12) (h_zo := d_zo) (fun x0 x1 x2 k r h => h)
theorem d_z21 {α : Type} {I : Imm} : OrcOk (α := α) Tryz.prog I 135 (.pure (ad_z21 s_alu_narrow)) := mk_z21 
theorem d_z1u {α : Type} {I : Imm} : OrcOk (α := α) Tryz.prog I 137 (.pure (ad_z1u s_alu_plain)) := mk_z1u (h_z4 := d_z4)
theorem d_z2b {α : Type} {I : Imm} : OrcOk (α := α) Tryz.prog I 167 (.pure (ad_z2b s_alu_one)) := mk_z2b 
theorem d_z1v {α : Type} {I : Imm} : OrcOk (α := α) Tryz.prog I 136 (.pure (ad_z1v s_alu_does)) := mk_z1v (h_z1f := d_z1f) (h_z2b := d_z2b)
theorem d_z28 {α : Type} {I : Imm} : OrcOk (α := α) Tryz.prog I 79 (.pure (ad_z28 s_alu_Do)) := mk_z28 (h_z4 := d_z4) (h_z21 := d_z21) (h_z1u := d_z1u) (h_z1v := d_z1v) (h_zy := d_zy) (h_z8 := d_z8)
theorem d_z2c {α : Type} {I : Imm} : OrcOk (α := α) Tryz.prog I 80 (.pure (ad_z2c s_exec_calls)) := mk_z2c (h_zs := d_zs)
theorem d_z2r {α : Type} {I : Imm} : OrcOk (α := α) Tryz.prog I 140 (.pure (ad_z2r s_csr_Redirect)) := mk_z2r 
theorem d_z2d {α : Type} {I : Imm} : OrcOk (α := α) Tryz.prog I 141 (.pure (ad_z2d s_csr_Read)) := mk_z2d (h_z1 := d_z1) (h_zk := d_zk)
theorem d_z23 {α : Type} {I : Imm} : OrcOk (α := α) Tryz.prog I 143 (.pure (ad_z23 s_alu_Csr)) := mk_z23 
theorem d_z1k {α : Type} {I : Imm} : OrcOk (α := α) Tryz.prog I 170 (.pure (ad_z1k s_csr_With)) := mk_z1k (h_z2 := d_z2) (h_zg := d_zg)
theorem d_zi {α : Type} {I : Imm} : OrcOk (α := α) Tryz.prog I 171 (.pure (ad_zi s_csr_Mask)) := mk_zi (h_z1 := d_z1)
theorem d_z24 {α : Type} {I : Imm} : OrcOk (α := α) Tryz.prog I 142 (.pure (ad_z24 s_csr_Write)) := mk_z24 (h_z1 := d_z1) (h_z1k := d_z1k) (h_zk := d_zk) (h_zi := d_zi)
theorem d_z2e {α : Type} {I : Imm} : OrcOk (α := α) Tryz.prog I 81 (.pure (ad_z2e s_exec_control)) := mk_z2e (h_z2r := d_z2r) (h_z2d := d_z2d) (h_z1d := d_z1d) (h_z23 := d_z23) (h_z24 := d_z24) (h_zf := d_zf)
theorem d_z1h {α : Type} {I : Imm} : OrcOk (α := α) Tryz.prog I 172 (.pure (ad_z1h s_trap_kept_back)) := mk_z1h (h_z3 := d_z3) (h_za := d_za)
theorem d_z2s {α : Type} {I : Imm} : OrcOk (α := α) Tryz.prog I 144 (.pure (ad_z2s s_trap_Mret)) := mk_z2s (h_zr := d_zr) (h_z2 := d_z2) (h_z3 := d_z3) (h_z1h := d_z1h) (h_zg := d_zg) (h_za := d_za)
theorem d_z2t {α : Type} {I : Imm} : OrcOk (α := α) Tryz.prog I 145 (.pure (ad_z2t s_trap_Sret)) := mk_z2t (h_zr := d_zr) (h_z2 := d_z2) (h_z1h := d_z1h) (h_za := d_za) (h_z3 := d_z3)
theorem d_z2f {α : Type} {I : Imm} : OrcOk (α := α) Tryz.prog I 82 (.pure (ad_z2f s_exec_returns)) := mk_z2f (h_z2s := d_z2s) (h_zq := d_zq) (h_z2t := d_z2t) (h_zf := d_zf)
theorem d_z1l {α : Type} {I : Imm} : OrcOk (α := α) Tryz.prog I 30 (.full (ad_z1l s_exec_does)) := mk_z1l (h_z4 := d_z4) (h_z27 := d_z27) (h_z1j := d_z1j) (h_z16 := d_z16) (h_zf := d_zf) (h_z28 := d_z28) (h_z2c := d_z2c) (h_z2e := d_z2e) (h_z2f := d_z2f) (fun x0 x1 x2 k r h => h)
theorem d_z2v {α : Type} {I : Imm} : OrcOk (α := α) Tryz.prog I 31 (.pure (ad_z2v s_insn_Writes)) := mk_z2v (h_zc := d_zc)
theorem d_z5 {α : Type} {I : Imm} : OrcOk (α := α) Tryz.prog I 12 (.full (ad_z5 s_exec_Do)) := mk_z5 (h_z29 := d_z29) (h_z1x := d_z1x) (h_zr := d_zr) (h_z1l := d_z1l) (h_z2v := d_z2v) (fun x0 x1 x2 k r h => h)
theorem d_zd {α : Type} {I : Imm} : OrcOk (α := α) Tryz.prog I 32 (.pure (ad_zd s_ref8_Mask)) := mk_zd 
theorem d_z1w {α : Type} {I : Imm} : OrcOk (α := α) Tryz.prog I 33 (.pure (ad_z1w s_ref8_Mpp)) := mk_z1w 
theorem d_z2u {α : Type} {I : Imm} : OrcOk (α := α) Tryz.prog I 13 (.pure (ad_z2u s_ref18_Clean)) := mk_z2u (h_zd := d_zd) (h_z1w := d_z1w)
theorem d_z1e {α : Type} {I : Imm} : OrcOk (α := α) Tryz.prog I 63 (.pure (ad_z1e s_ref3_Parts)) := mk_z1e 
theorem d_z18 {α : Type} {I : Imm} : OrcOk (α := α) Tryz.prog I 64 (.pure (ad_z18 s_ref3_reg)) := mk_z18 
theorem d_zm {α : Type} {I : Imm} : OrcOk (α := α) Tryz.prog I 116 (.pure (ad_zm s_ref3_within)) := mk_zm 
theorem d_z1a {α : Type} {I : Imm} : OrcOk (α := α) Tryz.prog I 65 (.pure (ad_z1a s_ref3_number)) := mk_z1a (h_zm := d_zm)
theorem d_z1t {α : Type} {I : Imm} : OrcOk (α := α) Tryz.prog I 24 (.pure (ad_z1t s_ref3_Is)) := mk_z1t (h_z1e := d_z1e) (h_z18 := d_z18) (h_z1a := d_z1a)
theorem d_z1r {α : Type} {I : Imm} : OrcOk (α := α) Tryz.prog I 25 (.pure (ad_z1r s_ref3_fixed)) := mk_z1r 
theorem d_z7 {α : Type} {I : Imm} : OrcOk (α := α) Tryz.prog I 26 (.pure (ad_z7 s_ref3_Code)) := mk_z7 
theorem d_z2g {α : Type} {I : Imm} : OrcOk (α := α) Tryz.prog I 11 (.pure (ad_z2g s_ref3_Encode)) := mk_z2g (h_z1t := d_z1t) (h_z1r := d_z1r) (h_z7 := d_z7)
theorem d_z2x {α : Type} {I : Imm} : OrcOk (α := α) Tryz.prog I 14 (.pure (ad_z2x s_law18_few)) := mk_z2x 
theorem d_z2y {α : Type} {I : Imm} : OrcOk (α := α) Tryz.prog I 9 (.pure (ad_z2y s_law18_known)) := mk_z2y (h_z1n := c_z1n) (h_z5 := d_z5) (h_z6 := d_z6)
end Go.Proofs.YtlijlabaopiicaaGreat
