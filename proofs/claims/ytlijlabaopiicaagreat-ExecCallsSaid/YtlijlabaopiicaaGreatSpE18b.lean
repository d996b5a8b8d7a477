/-
  Words of instructions: written (by the document) and read (by the program).
-/
import Derived.Test.YtlijlabaopiicaaGreatSpE18a
namespace Go.Sh
open Go
set_option linter.unusedSimpArgs false
set_option linter.unusedVariables false
theorem r32 {x : Int} (h : 0 ≤ x ∧ x < 32) : x = 0 ∨ (true = true ∧ 0 < x ∧ x < 32) := by
  by_cases e : x = 0
  · exact .inl e
  · exact .inr ⟨rfl, by omega, h.2⟩
end Go.Sh
