/-
  Words of 32 bits: or as a sum, shifts, parts.
-/
import Derived.Test.YtlijlabaopiicaaGreatSkB
set_option linter.unusedSimpArgs false
set_option linter.unusedVariables false
namespace Go.Sh
open Go
abbrev W32 (a : Int) : Prop := 0 ≤ a ∧ a < 4294967296
theorem w32_wrap {n : Int} (h : W32 n) : IntKind.u32.wrap n = n := by
  rw [wrap_u32_mod]; obtain ⟨h1, h2⟩ := h; omega
theorem w32_of (n : Int) : W32 (IntKind.u32.wrap n) := by rw [wrap_u32_mod]; exact ⟨by omega, by omega⟩
theorem w32_bit (op : BinOp) (x y : Int) : W32 (bitop op .u32 x y) := by unfold bitop; exact w32_of _
end Go.Sh
