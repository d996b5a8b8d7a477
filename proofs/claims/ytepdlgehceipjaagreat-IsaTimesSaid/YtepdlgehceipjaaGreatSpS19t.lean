/-
  The document's words: what they come to, by name.
-/
import Derived.Test.YtepdlgehceipjaaGreatSpS19
import Derived.Test.YtepdlgehceipjaaGreatSpT19
set_option linter.unusedSimpArgs false
set_option linter.unusedVariables false
namespace Go.Sh
open Go
def s_ref3_Parts {α:Type}:Sg_z1p α:=p_z1p 
def s_ref3_reg {α:Type}:Sg_z1m α:=p_z1m 
def s_ref3_within {α:Type}:Sg_z10 α:=p_z10 
def s_ref3_number {α:Type}:Sg_z1n α:=p_z1n s_ref3_within
def s_ref3_Is {α:Type}:Sg_z22 α:=p_z22 s_ref3_Parts s_ref3_reg s_ref3_number
def s_ref3_fixed {α:Type}:Sg_z1z α:=p_z1z 
def s_ref3_Code {α:Type}:Sg_zn α:=p_zn 
def s_ref3_Encode {α:Type}:Sg_zf α:=p_zf s_ref3_Is s_ref3_fixed s_ref3_Code
def s_ref1_Mem_Write {α:Type}:Sg_zc α:=p_zc 
end Go.Sh
