/-
  The program's accesses by their specs.
-/
import Derived.Test.YtepdlgehceipjaaGreatInB18
import Derived.Test.YtepdlgehceipjaaGreatInTwo
import Derived.Test.YtepdlgehceipjaaGreatSpAc18
set_option linter.unusedSimpArgs false
set_option linter.unusedVariables false
namespace Go.Proofs.YtepdlgehceipjaaGreat
open Go Go.Sh Go.Proofs
set_option linter.unusedVariables false
theorem d_sync_atomic_LoadUint64 {α:Type} {I:Imm}:OrcOk (α:=α) Tryz.prog I 122 (.ext (xLoad .u64)):=load_ext Tryz.func122 (by kernel_rfl) (by kernel_rfl) (by kernel_rfl) .u64 (by kernel_rfl)
theorem d_sync_atomic_AddInt64 {α:Type} {I:Imm}:OrcOk (α:=α) Tryz.prog I 75 (.ext (xAdd .i64)):=add_ext Tryz.func75 (by kernel_rfl) (by kernel_rfl) (by kernel_rfl) .i64 (by kernel_rfl)
theorem d_sync_atomic_StoreUint64 {α:Type} {I:Imm}:OrcOk (α:=α) Tryz.prog I 118 (.ext (xStore .u64)):=store_ext Tryz.func118 (by kernel_rfl) (by kernel_rfl) (by kernel_rfl) .u64 (by kernel_rfl)
theorem d_sync_atomic_LoadInt64 {α:Type} {I:Imm}:OrcOk (α:=α) Tryz.prog I 112 (.ext (xLoad .i64)):=load_ext Tryz.func112 (by kernel_rfl) (by kernel_rfl) (by kernel_rfl) .i64 (by kernel_rfl)
theorem d_sync_atomic_StoreInt64 {α:Type} {I:Imm}:OrcOk (α:=α) Tryz.prog I 111 (.ext (xStore .i64)):=store_ext Tryz.func111 (by kernel_rfl) (by kernel_rfl) (by kernel_rfl) .i64 (by kernel_rfl)
theorem d_zt {α:Type} {I:Imm}:OrcOk (α:=α) Tryz.prog I 180 (.pure (ad_zt sCause)):=by
  refine orc_le (mk_zt ) fun args k r hk=>le_zt (fun x0 x1 k r h=>?_) hk
  unfold sCause at h
  rw [cause_eq]
  exact h
theorem d_z1e {α:Type} {I:Imm}:OrcOk (α:=α) Tryz.prog I 179 (.pure (ad_z1e sBad)):=by
  refine orc_le (mk_z1e (h_zt:=d_zt)) fun args k r hk=>le_z1e (fun x0 x1 x2 k r h=>?_) hk
  unfold sBad at h
  rw [bad_eq]
  exact h
end Go.Proofs.YtepdlgehceipjaaGreat
