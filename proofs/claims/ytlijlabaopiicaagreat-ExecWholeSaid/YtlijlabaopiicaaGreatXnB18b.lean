/-
  The program's accesses by their specs.
-/
import Derived.Test.YtlijlabaopiicaaGreatXnB18
import Derived.Test.YtlijlabaopiicaaGreatXnTwo
import Derived.Test.YtlijlabaopiicaaGreatSpAc18
set_option linter.unusedSimpArgs false
set_option linter.unusedVariables false
namespace Go.Proofs.YtlijlabaopiicaaGreat
open Go Go.Sh Go.Proofs
set_option linter.unusedVariables false
theorem d_sync_atomic_LoadUint64 {α : Type} {I : Imm} : OrcOk (α := α) Tryz.prog I 154 (.ext (xLoad .u64)) := load_ext Tryz.func154 (by kernel_rfl) (by kernel_rfl) (by kernel_rfl) .u64 (by kernel_rfl)
theorem d_z11 {α : Type} {I : Imm} : OrcOk (α := α) Tryz.prog I 213 (.full (ad_console sCon)) := by
  refine orc_leF mk_z11 fun args σ k r hk => ?_
  unfold ad_console at hk ⊢
  split at hk
  · unfold sCon at hk
    obtain ⟨h1, h2⟩ := grd_some hk
    dsimp only
    rw [con_le h1]
    exact h2
  · cases hk
theorem d_z10 {α : Type} {I : Imm} : OrcOk (α := α) Tryz.prog I 164 (.full (ad_z10 sTrans)) := by
  refine orc_leF c_z10 fun args σ k r hk => ?_
  unfold ad_z10 at hk
  split at hk <;> try (cases hk; done)
  obtain ⟨b, b1, g0, g1, x0, rfl, h0, h1, hne, hk0⟩ := withMem_spec hk
  obtain ⟨x1, rfl, hk1⟩ := GState.dec_spec hk0
  obtain ⟨x2, rfl, hk2⟩ := decI_spec hk1
  obtain ⟨x3, rfl, hk3⟩ := decI_spec hk2
  obtain ⟨x4, rfl, hk4⟩ := decI_spec hk3
  obtain ⟨x5, rfl, hk5⟩ := decB_spec hk4
  unfold sTrans at hk5
  unfold transF
  refine (withMem_eq h0 h1 hne _).trans ?_
  exact hk5
theorem d_z1z {α : Type} {I : Imm} : OrcOk (α := α) Tryz.prog I 214 (.full (ad_z1z sMRd)) := by
  refine orc_leF c_z1z fun args σ k r hk => ?_
  unfold ad_z1z at hk
  split at hk <;> try (cases hk; done)
  obtain ⟨b, b1, g0, g1, x0, rfl, h0, h1, hne, hk0⟩ := withMem_spec hk
  obtain ⟨x1, rfl, hk1⟩ := decI_spec hk0
  obtain ⟨x2, rfl, hk2⟩ := decI_spec hk1
  unfold sMRd at hk2
  unfold readF
  refine (withMem_eq h0 h1 hne _).trans ?_
  exact hk2
theorem d_z1m {α : Type} {I : Imm} : OrcOk (α := α) Tryz.prog I 36 (.full (ad_z1m sMWr)) := by
  refine orc_leF c_z1m fun args σ k r hk => ?_
  unfold ad_z1m at hk
  split at hk <;> try (cases hk; done)
  obtain ⟨b, b1, g0, g1, x0, rfl, h0, h1, hne, hk0⟩ := withMem_spec hk
  obtain ⟨x1, rfl, hk1⟩ := decI_spec hk0
  obtain ⟨x2, rfl, hk2⟩ := decI_spec hk1
  obtain ⟨x3, rfl, hk3⟩ := decI_spec hk2
  unfold sMWr at hk3
  unfold writeF
  refine (withMem_eq h0 h1 hne _).trans ?_
  exact hk3
theorem d_z1b {α : Type} {I : Imm} : OrcOk (α := α) Tryz.prog I 196 (.full (ad_z1b sBRd)) := by
  refine mk_z1b (h_sync_atomic_LoadUint64 := d_sync_atomic_LoadUint64) (h_z11 := d_z11) (h_z1z := d_z1z) (F := sBRd) fun x0 x1 x2 k r h => ?_
  unfold sBRd at h
  obtain ⟨h1, h2⟩ := grd_some h
  rw [readB_eq h1]
  exact h2
theorem d_z1c {α : Type} {I : Imm} : OrcOk (α := α) Tryz.prog I 195 (.full (ad_z1c sBWr)) := by
  refine mk_z1c (h_z11 := d_z11) (h_z1m := d_z1m) (F := sBWr) fun x0 x1 x2 x3 k r h => ?_
  unfold sBWr at h
  obtain ⟨h1, h2⟩ := grd_some h
  rw [writeB_eq h1.1 h1.2]
  exact h2
theorem d_z17 {α : Type} {I : Imm} : OrcOk (α := α) Tryz.prog I 187 (.pure (ad_z17 sCause)) := by
  refine orc_le (mk_z17 ) fun args k r hk => le_z17 (fun x0 x1 k r h => ?_) hk
  unfold sCause at h
  rw [cause_eq]
  exact h
theorem d_zt {α : Type} {I : Imm} : OrcOk (α := α) Tryz.prog I 186 (.pure (ad_zt sBad)) := by
  refine orc_le (mk_zt (h_z17 := d_z17)) fun args k r hk => le_zt (fun x0 x1 x2 k r h => ?_) hk
  unfold sBad at h
  rw [bad_eq]
  exact h
theorem d_zl {α : Type} {I : Imm} : OrcOk (α := α) Tryz.prog I 166 (.full (ad_zl sAt)) := by
  refine mk_zl (h_zt := d_zt) (h_z1c := d_z1c) (h_z1b := d_z1b) (F := sAt) fun x0 x1 x2 x3 x4 x5 x6 k r h => ?_
  unfold sAt at h
  obtain ⟨h1, h2⟩ := grd_some h
  rw [at_eq h1.1 h1.2]
  exact h2
theorem d_zp {α : Type} {I : Imm} : OrcOk (α := α) Tryz.prog I 163 (.pure (ad_zp sAligned)) := by
  refine orc_le (mk_zp (h_zt := d_zt) (h_z17 := d_z17)) fun args k r hk => le_zp (fun x0 x1 x2 x3 k r h => ?_) hk
  unfold sAligned at h
  obtain ⟨h1, h2⟩ := grd_some h
  rw [aligned_eq h1]
  exact h2
theorem d_z12 {α : Type} {I : Imm} : OrcOk (α := α) Tryz.prog I 132 (.full (ad_z12 sDoK)) := by
  refine mk_z12 (h_zp := d_zp) (h_z10 := d_z10) (h_zl := d_zl) (F := sDoK) fun x0 x1 x2 x3 x4 x5 x6 x7 k r h => ?_
  obtain ⟨⟨h1, h3⟩, h2⟩ := doK_some h
  rw [do_eq _ h1 h3]
  exact h2
end Go.Proofs.YtlijlabaopiicaaGreat
