/-
  The program's accesses by their specs.
-/
import Derived.Test.YtepdlgehceipjaaGreatInB18
import Derived.Test.YtepdlgehceipjaaGreatInTwo
import Derived.Test.YtepdlgehceipjaaGreatSpAc18
set_option linter.unusedSimpArgs false
set_option linter.unusedVariables false
namespace Go.Proofs.YtepdlgehceipjaaGreat
open Go Go.Sh Go.Proofs
set_option linter.unusedVariables false
theorem d_sync_atomic_LoadUint64 {α:Type} {I:Imm}:OrcOk (α:=α) Tryz.prog I 122 (.ext (xLoad .u64)):=load_ext Tryz.func122 (by kernel_rfl) (by kernel_rfl) (by kernel_rfl) .u64 (by kernel_rfl)
theorem d_sync_atomic_AddInt64 {α:Type} {I:Imm}:OrcOk (α:=α) Tryz.prog I 75 (.ext (xAdd .i64)):=add_ext Tryz.func75 (by kernel_rfl) (by kernel_rfl) (by kernel_rfl) .i64 (by kernel_rfl)
theorem d_sync_atomic_StoreUint64 {α:Type} {I:Imm}:OrcOk (α:=α) Tryz.prog I 118 (.ext (xStore .u64)):=store_ext Tryz.func118 (by kernel_rfl) (by kernel_rfl) (by kernel_rfl) .u64 (by kernel_rfl)
theorem d_z15 {α:Type} {I:Imm}:OrcOk (α:=α) Tryz.prog I 50 (.full (ad_console sCon)):=by
  refine orc_leF mk_z15 fun args σ k r hk=>?_
  unfold ad_console at hk ⊢
  split at hk
  · unfold sCon at hk
    obtain ⟨h1,h2⟩:=grd_some hk
    dsimp only
    rw [con_le h1]
    exact h2
  · cases hk
theorem d_z12 {α:Type} {I:Imm}:OrcOk (α:=α) Tryz.prog I 128 (.full (ad_z12 sTrans)):=by
  refine orc_leF c_z12 fun args σ k r hk=>?_
  unfold ad_z12 at hk
  split at hk<;>try (cases hk; done)
  obtain ⟨b,b1,g0,g1,x0,rfl,h0,h1,hne,hk0⟩:=withMem_spec hk
  obtain ⟨x1,rfl,hk1⟩:=GState.dec_spec hk0
  obtain ⟨x2,rfl,hk2⟩:=decI_spec hk1
  obtain ⟨x3,rfl,hk3⟩:=decI_spec hk2
  obtain ⟨x4,rfl,hk4⟩:=decI_spec hk3
  obtain ⟨x5,rfl,hk5⟩:=decB_spec hk4
  unfold sTrans at hk5
  unfold transF
  refine (withMem_eq h0 h1 hne _).trans ?_
  exact hk5
theorem d_z1q {α:Type} {I:Imm}:OrcOk (α:=α) Tryz.prog I 235 (.full (ad_z1q sMRd)):=by
  refine orc_leF c_z1q fun args σ k r hk=>?_
  unfold ad_z1q at hk
  split at hk<;>try (cases hk; done)
  obtain ⟨b,b1,g0,g1,x0,rfl,h0,h1,hne,hk0⟩:=withMem_spec hk
  obtain ⟨x1,rfl,hk1⟩:=decI_spec hk0
  obtain ⟨x2,rfl,hk2⟩:=decI_spec hk1
  unfold sMRd at hk2
  unfold readF
  refine (withMem_eq h0 h1 hne _).trans ?_
  exact hk2
theorem d_z2r {α:Type} {I:Imm}:OrcOk (α:=α) Tryz.prog I 35 (.full (ad_z2r sMWr)):=by
  refine orc_leF c_z2r fun args σ k r hk=>?_
  unfold ad_z2r at hk
  split at hk<;>try (cases hk; done)
  obtain ⟨b,b1,g0,g1,x0,rfl,h0,h1,hne,hk0⟩:=withMem_spec hk
  obtain ⟨x1,rfl,hk1⟩:=decI_spec hk0
  obtain ⟨x2,rfl,hk2⟩:=decI_spec hk1
  obtain ⟨x3,rfl,hk3⟩:=decI_spec hk2
  unfold sMWr at hk3
  unfold writeF
  refine (withMem_eq h0 h1 hne _).trans ?_
  exact hk3
theorem d_z1e {α:Type} {I:Imm}:OrcOk (α:=α) Tryz.prog I 188 (.full (ad_z1e sBRd)):=by
  refine mk_z1e (h_sync_atomic_LoadUint64:=d_sync_atomic_LoadUint64) (h_z15:=d_z15) (h_z1q:=d_z1q) (F:=sBRd) fun x0 x1 x2 k r h=>?_
  unfold sBRd at h
  obtain ⟨h1,h2⟩:=grd_some h
  rw [readB_eq h1]
  exact h2
theorem d_z1f {α:Type} {I:Imm}:OrcOk (α:=α) Tryz.prog I 18 (.full (ad_z1f sBWr)):=by
  refine mk_z1f (h_z15:=d_z15) (h_z2r:=d_z2r) (F:=sBWr) fun x0 x1 x2 x3 k r h=>?_
  unfold sBWr at h
  obtain ⟨h1,h2⟩:=grd_some h
  rw [writeB_eq h1.1 h1.2]
  exact h2
theorem d_z18 {α:Type} {I:Imm}:OrcOk (α:=α) Tryz.prog I 180 (.pure (ad_z18 sCause)):=by
  refine orc_le (mk_z18 ) fun args k r hk=>le_z18 (fun x0 x1 k r h=>?_) hk
  unfold sCause at h
  rw [cause_eq]
  exact h
theorem d_zv {α:Type} {I:Imm}:OrcOk (α:=α) Tryz.prog I 179 (.pure (ad_zv sBad)):=by
  refine orc_le (mk_zv (h_z18:=d_z18)) fun args k r hk=>le_zv (fun x0 x1 x2 k r h=>?_) hk
  unfold sBad at h
  rw [bad_eq]
  exact h
theorem d_zm {α:Type} {I:Imm}:OrcOk (α:=α) Tryz.prog I 129 (.full (ad_zm sAt)):=by
  refine mk_zm (h_zv:=d_zv) (h_z1f:=d_z1f) (h_z1e:=d_z1e) (F:=sAt) fun x0 x1 x2 x3 x4 x5 x6 k r h=>?_
  unfold sAt at h
  obtain ⟨h1,h2⟩:=grd_some h
  rw [at_eq h1.1 h1.2]
  exact h2
theorem d_zs {α:Type} {I:Imm}:OrcOk (α:=α) Tryz.prog I 127 (.pure (ad_zs sAligned)):=by
  refine orc_le (mk_zs (h_zv:=d_zv) (h_z18:=d_z18)) fun args k r hk=>le_zs (fun x0 x1 x2 x3 k r h=>?_) hk
  unfold sAligned at h
  obtain ⟨h1,h2⟩:=grd_some h
  rw [aligned_eq h1]
  exact h2
theorem d_zo {α:Type} {I:Imm}:OrcOk (α:=α) Tryz.prog I 84 (.full (ad_zo sDoK)):=by
  refine mk_zo (h_zs:=d_zs) (h_z12:=d_z12) (h_zm:=d_zm) (F:=sDoK) fun x0 x1 x2 x3 x4 x5 x6 x7 k r h=>?_
  obtain ⟨⟨h1,h3⟩,h2⟩:=doK_some h
  rw [do_eq _ h1 h3]
  exact h2
end Go.Proofs.YtepdlgehceipjaaGreat
