/-
  What the functions of Mem come to, told without the program.
-/
import Derived.Test.YtlijlabaopiicaaGreatSpWord
set_option linter.unusedSimpArgs false
set_option linter.unusedVariables false
namespace Go.Sh
open Go
set_option linter.unusedSimpArgs false
def newF {α : Type} : FF α := fun args σ k => match args with
  | [] => k (.ptr (σ.next + 1) []) ⟨σ.next + 2, [(σ.next + 1, memO σ.next none), (σ.next, byO none fun _ => 0)] ++ σ.blocks⟩
  | _ => none
end Go.Sh
