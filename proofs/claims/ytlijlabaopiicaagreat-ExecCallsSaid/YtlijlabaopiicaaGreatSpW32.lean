/-
  Words of 32 bits: or as a sum, shifts, parts.
-/
import Derived.Test.YtlijlabaopiicaaGreatSkB
set_option linter.unusedSimpArgs false
set_option linter.unusedVariables false
namespace Go.Sh
open Go
abbrev W32 (a : Int) : Prop := 0 ≤ a ∧ a < 4294967296
theorem w32_wrap {n : Int} (h : W32 n) : IntKind.u32.wrap n = n := by
  rw [wrap_u32_mod]; obtain ⟨h1, h2⟩ := h; omega
end Go.Sh
