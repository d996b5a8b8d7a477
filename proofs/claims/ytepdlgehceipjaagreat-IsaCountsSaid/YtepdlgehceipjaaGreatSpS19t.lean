/-
  The document's words: what they come to, by name.
-/
import Derived.Test.YtepdlgehceipjaaGreatSpS19
import Derived.Test.YtepdlgehceipjaaGreatSpT19
set_option linter.unusedSimpArgs false
set_option linter.unusedVariables false
namespace Go.Sh
open Go
def s_ref3_Parts {α:Type}:Sg_z1o α:=p_z1o 
def s_ref3_reg {α:Type}:Sg_z1l α:=p_z1l 
def s_ref3_within {α:Type}:Sg_zy α:=p_zy 
def s_ref3_number {α:Type}:Sg_z1m α:=p_z1m s_ref3_within
def s_ref3_Is {α:Type}:Sg_z21 α:=p_z21 s_ref3_Parts s_ref3_reg s_ref3_number
def s_ref3_fixed {α:Type}:Sg_z1y α:=p_z1y 
def s_ref3_Code {α:Type}:Sg_zl α:=p_zl 
def s_ref3_Encode {α:Type}:Sg_zc α:=p_zc s_ref3_Is s_ref3_fixed s_ref3_Code
def s_ref1_Mem_Write {α:Type}:Sg_za α:=p_za 
end Go.Sh
