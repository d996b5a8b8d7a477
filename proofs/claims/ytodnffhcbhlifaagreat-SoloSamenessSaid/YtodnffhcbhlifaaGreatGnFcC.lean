/-
  What a row asks of the program alone.
-/
import Derived.Test.YtodnffhcbhlifaaGreatRows
import Derived.JoinedOf
import Derived.KernelRfl
set_option linter.unusedSimpArgs false
set_option linter.unusedVariables false
namespace Go.Proofs.YtodnffhcbhlifaaGreat
open Go
theorem fc_27 : ((Tryz.prog.make==some Rows.soloSamenessRow.make):Bool)=true:=by kernel_rfl
end Go.Proofs.YtodnffhcbhlifaaGreat
