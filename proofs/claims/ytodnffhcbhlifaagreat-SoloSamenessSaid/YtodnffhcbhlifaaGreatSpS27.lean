/-
  One instruction: what they come to, by name.
-/
import Derived.Test.YtodnffhcbhlifaaGreatSpW27
import Derived.Test.YtodnffhcbhlifaaGreatSpAc18
set_option linter.unusedSimpArgs false
set_option linter.unusedVariables false
namespace Go.Sh
open Go
def s_csr_Pending {α:Type}:Sg_z1i α:=p_z1i 
def s_route_Enabled {α:Type}:Sg_z12 α:=p_z12 s_csr_Pending
def s_word_part {α:Type}:Sg_zr α:=p_zr 
def s_word_mask {α:Type}:Sg_zg α:=p_zg 
def s_word_Bits {α:Type}:Sg_z1 α:=p_z1 s_word_part s_word_mask
def s_csr_Bit {α:Type}:Sg_z3 α:=p_z3 s_word_Bits
def s_route_open {α:Type}:Sg_zh α:=p_zh s_csr_Bit
def s_route_Interrupt {α:Type}:Sg_z24 α:=p_z24 s_route_Enabled s_word_Bits s_csr_Bit s_route_open
def s_trap_told_enter {α:Type}:Sg_z1b α:=p_z1b 
def s_word_Set {α:Type}:Sg_zb α:=p_zb s_word_part s_word_mask
def s_csr_Put {α:Type}:Sg_z7 α:=p_z7 s_word_Set
def s_trap_kept_enter {α:Type}:Sg_zx α:=p_zx s_csr_Bit s_csr_Put
def s_trap_lower {α:Type}:Sg_z1d α:=p_z1d s_csr_Put s_trap_kept_enter
def s_trap_Enter {α:Type}:Sg_zs α:=p_zs s_trap_told_enter s_word_Set s_csr_Put s_trap_kept_enter s_trap_lower
def s_exec_Interrupt {α:Type}:Sg_z25 α:=p_z25 s_trap_Enter
def s_route_has {α:Type}:Sg_z1e α:=p_z1e s_word_Bits
def s_route_Exception {α:Type}:Sg_z1j α:=p_z1j s_route_has
def s_exec_Fault {α:Type}:Sg_z20 α:=p_z20 s_route_Exception s_trap_Enter
def s_decode_of {α:Type}:Sg_z1k α:=p_z1k s_word_Bits
def s_decode_Opcode {α:Type}:Sg_za α:=p_za s_word_Bits
def s_word_Sext {α:Type}:Sg_z5 α:=p_z5 
def s_decode_parts_immediate {α:Type}:Sg_zc α:=p_zc s_word_Bits s_word_Sext
def s_decode_parts_reckons {α:Type}:Sg_zl α:=p_zl s_decode_Opcode s_decode_parts_immediate s_word_Bits
def s_decode_parts_registers {α:Type}:Sg_zm α:=p_zm s_decode_Opcode
def s_decode_fence {α:Type}:Sg_zp α:=p_zp 
def s_decode_parts_guests {α:Type}:Sg_zq α:=p_zq 
def s_decode_parts_system {α:Type}:Sg_zn α:=p_zn s_decode_fence s_decode_parts_guests s_word_Bits
def s_decode_parts_insn {α:Type}:Sg_z1l α:=p_z1l s_decode_Opcode s_word_Bits s_word_Sext s_decode_parts_immediate s_decode_parts_reckons s_decode_parts_registers s_decode_parts_system
def s_insn_Class {α:Type}:Sg_z4 α:=p_z4 
def s_insn_jumps {α:Type}:Sg_z1m α:=p_z1m 
def s_insn_withNumber {α:Type}:Sg_z1n α:=p_z1n 
def s_insn_Of {α:Type}:Sg_z1o α:=p_z1o s_insn_Class s_insn_jumps s_insn_withNumber
def s_insn_field {α:Type}:Sg_z11 α:=p_z11 
def s_insn_Is {α:Type}:Sg_zd α:=p_zd s_insn_Class s_insn_Of s_insn_field
def s_decode_Decode {α:Type}:Sg_z26 α:=p_z26 s_decode_of s_decode_parts_insn s_insn_Is
def s_legal_Level {α:Type}:Sg_zj α:=p_zj 
def s_legal_Writes {α:Type}:Sg_zu α:=p_zu 
def s_csr_guests {α:Type}:Sg_z2 α:=p_z2 
def s_csr_Index {α:Type}:Sg_ze α:=p_ze s_csr_guests
def s_csr_Is {α:Type}:Sg_z1p α:=p_z1p s_csr_Index
def s_legal_ask {α:Type}:Sg_zo α:=p_zo 
def s_legal_because {α:Type}:Sg_z8 α:=p_z8 
def s_legal_guestCsr {α:Type}:Sg_z17 α:=p_z17 s_legal_ask s_legal_because s_csr_Bit
def s_legal_Csr {α:Type}:Sg_z1q α:=p_z1q s_legal_Level s_csr_Is s_legal_guestCsr s_legal_because s_csr_Bit s_legal_ask
def s_legal_plain {α:Type}:Sg_z1f α:=p_z1f s_csr_Bit s_legal_because
def s_legal_wfi {α:Type}:Sg_z1r α:=p_z1r s_csr_Bit
def s_legal_guests {α:Type}:Sg_z1c α:=p_z1c s_insn_Class s_csr_Bit s_legal_because
def s_legal_Insn {α:Type}:Sg_zt α:=p_zt s_insn_Is s_legal_Level s_insn_Class s_legal_Writes s_legal_Csr s_legal_because s_legal_plain s_legal_wfi s_legal_guests
def s_exec_done {α:Type}:Sg_zi α:=p_zi 
def s_exec_next {α:Type}:Sg_zf α:=p_zf s_exec_done
def s_word_High {α:Type}:Sg_zw α:=p_zw 
def s_alu_Taken {α:Type}:Sg_zy α:=p_zy s_word_High
def s_exec_Goes {α:Type}:Sg_z1s α:=p_z1s s_insn_Is s_insn_Class s_alu_Taken
def s_exec_failed {α:Type}:Sg_z13 α:=p_z13 
def s_exec_jumps {α:Type}:Sg_z27 α:=p_z27 s_exec_next s_exec_Goes s_insn_Class s_alu_Taken s_exec_failed s_exec_done
def s_access_sort {α:Type}:Sg_z28 α:=p_z28 
def s_insn_Size {α:Type}:Sg_z16 α:=p_z16 
def s_word_Zext {α:Type}:Sg_zk α:=p_zk s_word_mask
def s_alu_Extend {α:Type}:Sg_z21 α:=p_z21 s_insn_Size s_word_Zext s_word_Sext
def s_alu_narrow {α:Type}:Sg_z18 α:=p_z18 
def s_alu_plain {α:Type}:Sg_z14 α:=p_z14 s_insn_Class
def s_alu_one {α:Type}:Sg_z1g α:=p_z1g 
def s_alu_does {α:Type}:Sg_z15 α:=p_z15 s_word_High s_alu_one
def s_alu_Do {α:Type}:Sg_z29 α:=p_z29 s_insn_Class s_alu_narrow s_alu_plain s_alu_does s_word_Zext s_word_Sext
def s_exec_calls {α:Type}:Sg_z2a α:=p_z2a s_legal_Level
def s_csr_Redirect {α:Type}:Sg_z1t α:=p_z1t 
def s_csr_Read {α:Type}:Sg_z1h α:=p_z1h s_csr_guests s_csr_Index
def s_alu_Csr {α:Type}:Sg_z19 α:=p_z19 
def s_csr_With {α:Type}:Sg_z9 α:=p_z9 s_word_Bits s_word_Set
def s_csr_Mask {α:Type}:Sg_z6 α:=p_z6 s_csr_guests
def s_csr_Write {α:Type}:Sg_z1a α:=p_z1a s_csr_guests s_csr_With s_csr_Index s_csr_Mask
def s_exec_control {α:Type}:Sg_z2b α:=p_z2b s_csr_Redirect s_csr_Read s_legal_Writes s_alu_Csr s_csr_Write s_exec_next
def s_trap_kept_back {α:Type}:Sg_zv α:=p_zv s_csr_Bit s_csr_Put
def s_trap_Mret {α:Type}:Sg_z1u α:=p_z1u s_legal_Insn s_word_Bits s_csr_Bit s_trap_kept_back s_word_Set s_csr_Put
def s_trap_Sret {α:Type}:Sg_z1v α:=p_z1v s_legal_Insn s_word_Bits s_trap_kept_back s_csr_Put s_csr_Bit
def s_exec_returns {α:Type}:Sg_z2c α:=p_z2c s_trap_Mret s_exec_done s_trap_Sret s_exec_next
def s_insn_Writes {α:Type}:Sg_z2d α:=p_z2d s_insn_Is
def s_isa_Clean {α:Type}:Sg_z22 α:=p_z22 s_csr_Mask s_csr_With
end Go.Sh
