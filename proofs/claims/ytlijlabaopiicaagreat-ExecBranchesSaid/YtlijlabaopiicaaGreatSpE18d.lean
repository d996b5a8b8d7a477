/-
  The law ExecSums, plainly.
-/
import Derived.Test.YtlijlabaopiicaaGreatSpE18c
import Derived.Test.YtlijlabaopiicaaGreatSpL18
namespace Go.Sh
open Go
set_option linter.unusedSimpArgs false
set_option linter.unusedVariables false
noncomputable def gX {α : Type} (p : Prop) (x : R α) : R α := @ite _ p (Classical.propDecidable p) x none
theorem gX_some {α : Type} {p : Prop} {x : R α} {r : α} (h : gX p x = some r) : p ∧ x = some r := by
  unfold gX at h
  split at h
  · exact ⟨by assumption, h⟩
  · cases h
theorem gX_pos {α : Type} {p : Prop} (h : p) (x : R α) : gX p x = x := by unfold gX; exact if_pos h
theorem beqS {x y : Int} (h : x = y) : (x == y) = true := by subst h; simp
end Go.Sh
