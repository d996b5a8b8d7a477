/-
  Loops by what is known of their ends.
-/
import Derived.Test.YtepdlgehceipjaaGreatSkC
set_option linter.unusedSimpArgs false
set_option linter.unusedVariables false
namespace Go.Sh
open Go
section
variable {S X:Type} {α:Type}
abbrev EndsL (stp:S→Option (S ⊕ X)) (s:S) (x:X):Prop:=∃n,lps stp n s=some x
theorem EndsL.next {stp:S→Option (S ⊕ X)} {s s':S} {x:X} (h:stp s=some (.inl s')) (h2:EndsL stp s' x):EndsL stp s x:=by
  obtain ⟨n,hn⟩:=h2
  exact ⟨n+ 1,by simp only [lps,h]; exact hn⟩
end
end Go.Sh
