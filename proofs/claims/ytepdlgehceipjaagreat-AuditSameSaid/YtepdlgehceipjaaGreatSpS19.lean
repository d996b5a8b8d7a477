/-
  One instruction: what they come to, by name.
-/
import Derived.Test.YtepdlgehceipjaaGreatSpL19
import Derived.Test.YtepdlgehceipjaaGreatSpAc18
set_option linter.unusedSimpArgs false
set_option linter.unusedVariables false
namespace Go.Sh
open Go
def s_csr_Pending {α:Type}:Sg_z12 α:=p_z12 
def s_route_Enabled {α:Type}:Sg_zv α:=p_zv s_csr_Pending
def s_word_part {α:Type}:Sg_zo α:=p_zo 
def s_word_mask {α:Type}:Sg_zk α:=p_zk 
def s_word_Bits {α:Type}:Sg_z1 α:=p_z1 s_word_part s_word_mask
def s_csr_Bit {α:Type}:Sg_z3 α:=p_z3 s_word_Bits
def s_route_open {α:Type}:Sg_zd α:=p_zd s_csr_Bit
def s_route_Interrupt {α:Type}:Sg_z1i α:=p_z1i s_route_Enabled s_word_Bits s_csr_Bit s_route_open
def s_trap_told_enter {α:Type}:Sg_zx α:=p_zx 
def s_word_Set {α:Type}:Sg_ze α:=p_ze s_word_part s_word_mask
def s_csr_Put {α:Type}:Sg_zf α:=p_zf s_word_Set
def s_trap_kept_enter {α:Type}:Sg_zp α:=p_zp s_csr_Bit s_csr_Put
def s_trap_lower {α:Type}:Sg_zz α:=p_zz s_csr_Put s_trap_kept_enter
def s_trap_Enter {α:Type}:Sg_zq α:=p_zq s_trap_told_enter s_word_Set s_csr_Put s_trap_kept_enter s_trap_lower
def s_exec_Interrupt {α:Type}:Sg_z1j α:=p_z1j s_trap_Enter
def s_route_has {α:Type}:Sg_z10 α:=p_z10 s_word_Bits
def s_route_Exception {α:Type}:Sg_z13 α:=p_z13 s_route_has
def s_exec_Fault {α:Type}:Sg_z1h α:=p_z1h s_route_Exception s_trap_Enter
def s_decode_of {α:Type}:Sg_z14 α:=p_z14 s_word_Bits
def s_decode_Opcode {α:Type}:Sg_z6 α:=p_z6 s_word_Bits
def s_word_Sext {α:Type}:Sg_z7 α:=p_z7 
def s_decode_parts_immediate {α:Type}:Sg_z9 α:=p_z9 s_word_Bits s_word_Sext
def s_decode_parts_reckons {α:Type}:Sg_zh α:=p_zh s_decode_Opcode s_decode_parts_immediate s_word_Bits
def s_decode_parts_registers {α:Type}:Sg_zi α:=p_zi s_decode_Opcode
def s_decode_fence {α:Type}:Sg_zm α:=p_zm 
def s_decode_parts_guests {α:Type}:Sg_zn α:=p_zn 
def s_decode_parts_system {α:Type}:Sg_zj α:=p_zj s_decode_fence s_decode_parts_guests s_word_Bits
def s_decode_parts_insn {α:Type}:Sg_z15 α:=p_z15 s_decode_Opcode s_word_Bits s_word_Sext s_decode_parts_immediate s_decode_parts_reckons s_decode_parts_registers s_decode_parts_system
def s_insn_Class {α:Type}:Sg_zb α:=p_zb 
def s_insn_jumps {α:Type}:Sg_z16 α:=p_z16 
def s_insn_withNumber {α:Type}:Sg_z17 α:=p_z17 
def s_insn_Of {α:Type}:Sg_z18 α:=p_z18 s_insn_Class s_insn_jumps s_insn_withNumber
def s_insn_field {α:Type}:Sg_zu α:=p_zu 
def s_insn_Is {α:Type}:Sg_zg α:=p_zg s_insn_Class s_insn_Of s_insn_field
def s_decode_Decode {α:Type}:Sg_z1k α:=p_z1k s_decode_of s_decode_parts_insn s_insn_Is
def s_legal_Level {α:Type}:Sg_zr α:=p_zr 
def s_legal_Writes {α:Type}:Sg_z19 α:=p_z19 
def s_csr_guests {α:Type}:Sg_z2 α:=p_z2 
def s_csr_Index {α:Type}:Sg_z1a α:=p_z1a s_csr_guests
def s_csr_Is {α:Type}:Sg_z1b α:=p_z1b s_csr_Index
def s_legal_ask {α:Type}:Sg_zl α:=p_zl 
def s_legal_because {α:Type}:Sg_z4 α:=p_z4 
def s_legal_guestCsr {α:Type}:Sg_zw α:=p_zw s_legal_ask s_legal_because s_csr_Bit
def s_legal_Csr {α:Type}:Sg_z1c α:=p_z1c s_legal_Level s_csr_Is s_legal_guestCsr s_legal_because s_csr_Bit s_legal_ask
def s_legal_plain {α:Type}:Sg_z11 α:=p_z11 s_csr_Bit s_legal_because
def s_legal_wfi {α:Type}:Sg_z1d α:=p_z1d s_csr_Bit
def s_legal_guests {α:Type}:Sg_zy α:=p_zy s_insn_Class s_csr_Bit s_legal_because
def s_legal_Insn {α:Type}:Sg_z1l α:=p_z1l s_insn_Is s_legal_Level s_insn_Class s_legal_Writes s_legal_Csr s_legal_because s_legal_plain s_legal_wfi s_legal_guests
def s_csr_With {α:Type}:Sg_zc α:=p_zc s_word_Bits s_word_Set
def s_csr_Mask {α:Type}:Sg_z5 α:=p_z5 s_csr_guests
def s_insn_Writes {α:Type}:Sg_z1m α:=p_z1m s_insn_Is
def s_isa_Clean {α:Type}:Sg_z1n α:=p_z1n s_csr_Mask s_csr_With
end Go.Sh
