/-
  The program's accesses by their specs.
-/
import Derived.Test.YtodnffhcbhlifaaGreatVnB18
import Derived.Test.YtodnffhcbhlifaaGreatVnTwo
import Derived.Test.YtodnffhcbhlifaaGreatSpAc18
set_option linter.unusedSimpArgs false
set_option linter.unusedVariables false
namespace Go.Proofs.YtodnffhcbhlifaaGreat
open Go Go.Sh Go.Proofs
set_option linter.unusedVariables false
theorem d_sync_atomic_LoadUint64 {α:Type} {I:Imm}:OrcOk (α:=α) Tryz.prog I 87 (.ext (xLoad .u64)):=load_ext Tryz.func87 (by kernel_rfl) (by kernel_rfl) (by kernel_rfl) .u64 (by kernel_rfl)
theorem d_sync_atomic_AddInt64 {α:Type} {I:Imm}:OrcOk (α:=α) Tryz.prog I 64 (.ext (xAdd .i64)):=add_ext Tryz.func64 (by kernel_rfl) (by kernel_rfl) (by kernel_rfl) .i64 (by kernel_rfl)
theorem d_sync_atomic_StoreUint64 {α:Type} {I:Imm}:OrcOk (α:=α) Tryz.prog I 85 (.ext (xStore .u64)):=store_ext Tryz.func85 (by kernel_rfl) (by kernel_rfl) (by kernel_rfl) .u64 (by kernel_rfl)
theorem d_z10 {α:Type} {I:Imm}:OrcOk (α:=α) Tryz.prog I 116 (.pure (ad_z10 sCause)):=by
  refine orc_le (mk_z10 ) fun args k r hk=>le_z10 (fun x0 x1 k r h=>?_) hk
  unfold sCause at h
  rw [cause_eq]
  exact h
theorem d_z1w {α:Type} {I:Imm}:OrcOk (α:=α) Tryz.prog I 115 (.pure (ad_z1w sBad)):=by
  refine orc_le (mk_z1w (h_z10:=d_z10)) fun args k r hk=>le_z1w (fun x0 x1 x2 k r h=>?_) hk
  unfold sBad at h
  rw [bad_eq]
  exact h
end Go.Proofs.YtodnffhcbhlifaaGreat
