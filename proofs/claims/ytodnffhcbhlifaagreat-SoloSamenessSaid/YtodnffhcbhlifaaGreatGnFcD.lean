/-
  What a row asks of the program alone.
-/
import Derived.Test.YtodnffhcbhlifaaGreatRows
import Derived.JoinedOf
import Derived.KernelRfl
set_option linter.unusedSimpArgs false
set_option linter.unusedVariables false
namespace Go.Proofs.YtodnffhcbhlifaaGreat
open Go
theorem fc_1 : (laidOutB Tryz.prog:Bool)=true:=by kernel_rfl
theorem fc_2 : (mapsRowed Tryz.prog:Bool)=true:=by kernel_rfl
theorem fc_22 : ((Rows.soloSamenessRow.plainKeys==Tryz.prog.plainKeys):Bool)=true:=by kernel_rfl
theorem fc_24 : (Tryz.prog.stopsHeard:Bool)=true:=by kernel_rfl
end Go.Proofs.YtodnffhcbhlifaaGreat
