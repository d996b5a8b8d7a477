/-
  The program's accesses by their specs.
-/
import Derived.Test.YtepdlgehceipjaaGreatInB18
import Derived.Test.YtepdlgehceipjaaGreatInTwo
import Derived.Test.YtepdlgehceipjaaGreatSpAc18
set_option linter.unusedSimpArgs false
set_option linter.unusedVariables false
namespace Go.Proofs.YtepdlgehceipjaaGreat
open Go Go.Sh Go.Proofs
set_option linter.unusedVariables false
theorem d_sync_atomic_LoadUint64 {α:Type} {I:Imm}:OrcOk (α:=α) Tryz.prog I 122 (.ext (xLoad .u64)):=load_ext Tryz.func122 (by kernel_rfl) (by kernel_rfl) (by kernel_rfl) .u64 (by kernel_rfl)
theorem d_sync_atomic_AddInt64 {α:Type} {I:Imm}:OrcOk (α:=α) Tryz.prog I 75 (.ext (xAdd .i64)):=add_ext Tryz.func75 (by kernel_rfl) (by kernel_rfl) (by kernel_rfl) .i64 (by kernel_rfl)
theorem d_sync_atomic_StoreUint64 {α:Type} {I:Imm}:OrcOk (α:=α) Tryz.prog I 118 (.ext (xStore .u64)):=store_ext Tryz.func118 (by kernel_rfl) (by kernel_rfl) (by kernel_rfl) .u64 (by kernel_rfl)
theorem d_z1d {α:Type} {I:Imm}:OrcOk (α:=α) Tryz.prog I 50 (.full (ad_console sCon)):=by
  refine orc_leF mk_z1d fun args σ k r hk=>?_
  unfold ad_console at hk ⊢
  split at hk
  · unfold sCon at hk
    obtain ⟨h1,h2⟩:=grd_some hk
    dsimp only
    rw [con_le h1]
    exact h2
  · cases hk
theorem d_z1b {α:Type} {I:Imm}:OrcOk (α:=α) Tryz.prog I 128 (.full (ad_z1b sTrans)):=by
  refine orc_leF c_z1b fun args σ k r hk=>?_
  unfold ad_z1b at hk
  split at hk<;>try (cases hk; done)
  obtain ⟨b,b1,g0,g1,x0,rfl,h0,h1,hne,hk0⟩:=withMem_spec hk
  obtain ⟨x1,rfl,hk1⟩:=GState.dec_spec hk0
  obtain ⟨x2,rfl,hk2⟩:=decI_spec hk1
  obtain ⟨x3,rfl,hk3⟩:=decI_spec hk2
  obtain ⟨x4,rfl,hk4⟩:=decI_spec hk3
  obtain ⟨x5,rfl,hk5⟩:=decB_spec hk4
  unfold sTrans at hk5
  unfold transF
  refine (withMem_eq h0 h1 hne _).trans ?_
  exact hk5
theorem d_z20 {α:Type} {I:Imm}:OrcOk (α:=α) Tryz.prog I 235 (.full (ad_z20 sMRd)):=by
  refine orc_leF c_z20 fun args σ k r hk=>?_
  unfold ad_z20 at hk
  split at hk<;>try (cases hk; done)
  obtain ⟨b,b1,g0,g1,x0,rfl,h0,h1,hne,hk0⟩:=withMem_spec hk
  obtain ⟨x1,rfl,hk1⟩:=decI_spec hk0
  obtain ⟨x2,rfl,hk2⟩:=decI_spec hk1
  unfold sMRd at hk2
  unfold readF
  refine (withMem_eq h0 h1 hne _).trans ?_
  exact hk2
theorem d_z8 {α:Type} {I:Imm}:OrcOk (α:=α) Tryz.prog I 35 (.full (ad_z8 sMWr)):=by
  refine orc_leF c_z8 fun args σ k r hk=>?_
  unfold ad_z8 at hk
  split at hk<;>try (cases hk; done)
  obtain ⟨b,b1,g0,g1,x0,rfl,h0,h1,hne,hk0⟩:=withMem_spec hk
  obtain ⟨x1,rfl,hk1⟩:=decI_spec hk0
  obtain ⟨x2,rfl,hk2⟩:=decI_spec hk1
  obtain ⟨x3,rfl,hk3⟩:=decI_spec hk2
  unfold sMWr at hk3
  unfold writeF
  refine (withMem_eq h0 h1 hne _).trans ?_
  exact hk3
theorem d_z1l {α:Type} {I:Imm}:OrcOk (α:=α) Tryz.prog I 188 (.full (ad_z1l sBRd)):=by
  refine mk_z1l (h_sync_atomic_LoadUint64:=d_sync_atomic_LoadUint64) (h_z1d:=d_z1d) (h_z20:=d_z20) (F:=sBRd) fun x0 x1 x2 k r h=>?_
  unfold sBRd at h
  obtain ⟨h1,h2⟩:=grd_some h
  rw [readB_eq h1]
  exact h2
theorem d_z7 {α:Type} {I:Imm}:OrcOk (α:=α) Tryz.prog I 18 (.full (ad_z7 sBWr)):=by
  refine mk_z7 (h_z1d:=d_z1d) (h_z8:=d_z8) (F:=sBWr) fun x0 x1 x2 x3 k r h=>?_
  unfold sBWr at h
  obtain ⟨h1,h2⟩:=grd_some h
  rw [writeB_eq h1.1 h1.2]
  exact h2
theorem d_z1f {α:Type} {I:Imm}:OrcOk (α:=α) Tryz.prog I 180 (.pure (ad_z1f sCause)):=by
  refine orc_le (mk_z1f ) fun args k r hk=>le_z1f (fun x0 x1 k r h=>?_) hk
  unfold sCause at h
  rw [cause_eq]
  exact h
theorem d_z14 {α:Type} {I:Imm}:OrcOk (α:=α) Tryz.prog I 179 (.pure (ad_z14 sBad)):=by
  refine orc_le (mk_z14 (h_z1f:=d_z1f)) fun args k r hk=>le_z14 (fun x0 x1 x2 k r h=>?_) hk
  unfold sBad at h
  rw [bad_eq]
  exact h
theorem d_zu {α:Type} {I:Imm}:OrcOk (α:=α) Tryz.prog I 129 (.full (ad_zu sAt)):=by
  refine mk_zu (h_z14:=d_z14) (h_z7:=d_z7) (h_z1l:=d_z1l) (F:=sAt) fun x0 x1 x2 x3 x4 x5 x6 k r h=>?_
  unfold sAt at h
  obtain ⟨h1,h2⟩:=grd_some h
  rw [at_eq h1.1 h1.2]
  exact h2
theorem d_z11 {α:Type} {I:Imm}:OrcOk (α:=α) Tryz.prog I 127 (.pure (ad_z11 sAligned)):=by
  refine orc_le (mk_z11 (h_z14:=d_z14) (h_z1f:=d_z1f)) fun args k r hk=>le_z11 (fun x0 x1 x2 x3 k r h=>?_) hk
  unfold sAligned at h
  obtain ⟨h1,h2⟩:=grd_some h
  rw [aligned_eq h1]
  exact h2
theorem d_zw {α:Type} {I:Imm}:OrcOk (α:=α) Tryz.prog I 84 (.full (ad_zw sDoK)):=by
  refine mk_zw (h_z11:=d_z11) (h_z1b:=d_z1b) (h_zu:=d_zu) (F:=sDoK) fun x0 x1 x2 x3 x4 x5 x6 x7 k r h=>?_
  obtain ⟨⟨h1,h3⟩,h2⟩:=doK_some h
  rw [do_eq _ h1 h3]
  exact h2
end Go.Proofs.YtepdlgehceipjaaGreat
