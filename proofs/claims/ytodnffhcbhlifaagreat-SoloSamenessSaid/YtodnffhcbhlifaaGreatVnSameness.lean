/-
  SoloSameness: the contract.
-/
import Derived.Test.YtodnffhcbhlifaaGreatVnL27
import Derived.Test.YtodnffhcbhlifaaGreatVnK27
import Derived.Test.YtodnffhcbhlifaaGreatSpL27b
import Derived.Test.YtodnffhcbhlifaaGreatSpAc18
set_option linter.unusedSimpArgs false
set_option linter.unusedVariables false
namespace Go.Proofs.YtodnffhcbhlifaaGreat
open Go Go.Sh Go.Proofs K27
theorem d_z1y {α:Type} {I:Imm}:OrcOk (α:=α) Tryz.prog I 4 (.pure (ad_z1y (fun k=>k true))):=orc_le c_z48 fun args k r hk=>by
  unfold ad_z1y at hk
  split at hk<;>try (cases hk; done)
  exact hk
theorem d_zz {α:Type} {I:Imm}:OrcOk (α:=α) Tryz.prog I 5 (.pure (ad_zz p_zz)):=mk_zz
theorem d_z1x {α:Type} {I:Imm}:OrcOk (α:=α) Tryz.prog I 3 (.pure (ad_z1x (p_z1x (fun k=>k true) p_zz))):=
  mk_z1x (h_z1y:=d_z1y) (h_zz:=d_zz)
noncomputable def sSame {α:Type}:Sg_z1x α:=fun _ n _ k=>grd (0≤n∧n≤255) (k true)
theorem c_z72 {α:Type} {I:Imm}:OrcOk (α:=α) Tryz.prog I 3 (.pure (ad_z1x sSame)):=orc_le d_z1x fun args k r hk=>le_z1x (fun x0 x1 x2 k r h=>by
  unfold sSame at h
  obtain ⟨h1,h2⟩:=grd_some h
  rw [sameness_eq x0 x1 x2 (by omega)]; exact h2) hk
end Go.Proofs.YtodnffhcbhlifaaGreat
