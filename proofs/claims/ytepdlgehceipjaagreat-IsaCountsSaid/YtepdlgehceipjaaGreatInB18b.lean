/-
  The program's accesses by their specs.
-/
import Derived.Test.YtepdlgehceipjaaGreatInB18
import Derived.Test.YtepdlgehceipjaaGreatInTwo
import Derived.Test.YtepdlgehceipjaaGreatSpAc18
set_option linter.unusedSimpArgs false
set_option linter.unusedVariables false
namespace Go.Proofs.YtepdlgehceipjaaGreat
open Go Go.Sh Go.Proofs
set_option linter.unusedVariables false
theorem d_sync_atomic_LoadUint64 {α:Type} {I:Imm}:OrcOk (α:=α) Tryz.prog I 122 (.ext (xLoad .u64)):=load_ext Tryz.func122 (by kernel_rfl) (by kernel_rfl) (by kernel_rfl) .u64 (by kernel_rfl)
theorem d_sync_atomic_AddInt64 {α:Type} {I:Imm}:OrcOk (α:=α) Tryz.prog I 75 (.ext (xAdd .i64)):=add_ext Tryz.func75 (by kernel_rfl) (by kernel_rfl) (by kernel_rfl) .i64 (by kernel_rfl)
theorem d_sync_atomic_StoreUint64 {α:Type} {I:Imm}:OrcOk (α:=α) Tryz.prog I 118 (.ext (xStore .u64)):=store_ext Tryz.func118 (by kernel_rfl) (by kernel_rfl) (by kernel_rfl) .u64 (by kernel_rfl)
theorem d_z1b {α:Type} {I:Imm}:OrcOk (α:=α) Tryz.prog I 50 (.full (ad_console sCon)):=by
  refine orc_leF mk_z1b fun args σ k r hk=>?_
  unfold ad_console at hk ⊢
  split at hk
  · unfold sCon at hk
    obtain ⟨h1,h2⟩:=grd_some hk
    dsimp only
    rw [con_le h1]
    exact h2
  · cases hk
theorem d_z19 {α:Type} {I:Imm}:OrcOk (α:=α) Tryz.prog I 128 (.full (ad_z19 sTrans)):=by
  refine orc_leF c_z19 fun args σ k r hk=>?_
  unfold ad_z19 at hk
  split at hk<;>try (cases hk; done)
  obtain ⟨b,b1,g0,g1,x0,rfl,h0,h1,hne,hk0⟩:=withMem_spec hk
  obtain ⟨x1,rfl,hk1⟩:=GState.dec_spec hk0
  obtain ⟨x2,rfl,hk2⟩:=decI_spec hk1
  obtain ⟨x3,rfl,hk3⟩:=decI_spec hk2
  obtain ⟨x4,rfl,hk4⟩:=decI_spec hk3
  obtain ⟨x5,rfl,hk5⟩:=decB_spec hk4
  unfold sTrans at hk5
  unfold transF
  refine (withMem_eq h0 h1 hne _).trans ?_
  exact hk5
theorem d_z1z {α:Type} {I:Imm}:OrcOk (α:=α) Tryz.prog I 235 (.full (ad_z1z sMRd)):=by
  refine orc_leF c_z1z fun args σ k r hk=>?_
  unfold ad_z1z at hk
  split at hk<;>try (cases hk; done)
  obtain ⟨b,b1,g0,g1,x0,rfl,h0,h1,hne,hk0⟩:=withMem_spec hk
  obtain ⟨x1,rfl,hk1⟩:=decI_spec hk0
  obtain ⟨x2,rfl,hk2⟩:=decI_spec hk1
  unfold sMRd at hk2
  unfold readF
  refine (withMem_eq h0 h1 hne _).trans ?_
  exact hk2
theorem d_z7 {α:Type} {I:Imm}:OrcOk (α:=α) Tryz.prog I 35 (.full (ad_z7 sMWr)):=by
  refine orc_leF c_z7 fun args σ k r hk=>?_
  unfold ad_z7 at hk
  split at hk<;>try (cases hk; done)
  obtain ⟨b,b1,g0,g1,x0,rfl,h0,h1,hne,hk0⟩:=withMem_spec hk
  obtain ⟨x1,rfl,hk1⟩:=decI_spec hk0
  obtain ⟨x2,rfl,hk2⟩:=decI_spec hk1
  obtain ⟨x3,rfl,hk3⟩:=decI_spec hk2
  unfold sMWr at hk3
  unfold writeF
  refine (withMem_eq h0 h1 hne _).trans ?_
  exact hk3
theorem d_z1j {α:Type} {I:Imm}:OrcOk (α:=α) Tryz.prog I 188 (.full (ad_z1j sBRd)):=by
  refine mk_z1j (h_sync_atomic_LoadUint64:=d_sync_atomic_LoadUint64) (h_z1b:=d_z1b) (h_z1z:=d_z1z) (F:=sBRd) fun x0 x1 x2 k r h=>?_
  unfold sBRd at h
  obtain ⟨h1,h2⟩:=grd_some h
  rw [readB_eq h1]
  exact h2
theorem d_z1k {α:Type} {I:Imm}:OrcOk (α:=α) Tryz.prog I 18 (.full (ad_z1k sBWr)):=by
  refine mk_z1k (h_z1b:=d_z1b) (h_z7:=d_z7) (F:=sBWr) fun x0 x1 x2 x3 k r h=>?_
  unfold sBWr at h
  obtain ⟨h1,h2⟩:=grd_some h
  rw [writeB_eq h1.1 h1.2]
  exact h2
theorem d_z1d {α:Type} {I:Imm}:OrcOk (α:=α) Tryz.prog I 180 (.pure (ad_z1d sCause)):=by
  refine orc_le (mk_z1d ) fun args k r hk=>le_z1d (fun x0 x1 k r h=>?_) hk
  unfold sCause at h
  rw [cause_eq]
  exact h
theorem d_z12 {α:Type} {I:Imm}:OrcOk (α:=α) Tryz.prog I 179 (.pure (ad_z12 sBad)):=by
  refine orc_le (mk_z12 (h_z1d:=d_z1d)) fun args k r hk=>le_z12 (fun x0 x1 x2 k r h=>?_) hk
  unfold sBad at h
  rw [bad_eq]
  exact h
theorem d_zs {α:Type} {I:Imm}:OrcOk (α:=α) Tryz.prog I 129 (.full (ad_zs sAt)):=by
  refine mk_zs (h_z12:=d_z12) (h_z1k:=d_z1k) (h_z1j:=d_z1j) (F:=sAt) fun x0 x1 x2 x3 x4 x5 x6 k r h=>?_
  unfold sAt at h
  obtain ⟨h1,h2⟩:=grd_some h
  rw [at_eq h1.1 h1.2]
  exact h2
theorem d_zz {α:Type} {I:Imm}:OrcOk (α:=α) Tryz.prog I 127 (.pure (ad_zz sAligned)):=by
  refine orc_le (mk_zz (h_z12:=d_z12) (h_z1d:=d_z1d)) fun args k r hk=>le_zz (fun x0 x1 x2 x3 k r h=>?_) hk
  unfold sAligned at h
  obtain ⟨h1,h2⟩:=grd_some h
  rw [aligned_eq h1]
  exact h2
theorem d_zu {α:Type} {I:Imm}:OrcOk (α:=α) Tryz.prog I 84 (.full (ad_zu sDoK)):=by
  refine mk_zu (h_zz:=d_zz) (h_z19:=d_z19) (h_zs:=d_zs) (F:=sDoK) fun x0 x1 x2 x3 x4 x5 x6 x7 k r h=>?_
  obtain ⟨⟨h1,h3⟩,h2⟩:=doK_some h
  rw [do_eq _ h1 h3]
  exact h2
end Go.Proofs.YtepdlgehceipjaaGreat
