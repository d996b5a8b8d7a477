/-
  AccessTells: the contracts by their specs.
-/
import Derived.Test.YtemkfjnmaljmeaaGreatGnA17
import Derived.Test.YtemkfjnmaljmeaaGreatGnTwo
import Derived.Test.YtemkfjnmaljmeaaGreatSpA17h
set_option linter.unusedSimpArgs false
set_option linter.unusedVariables false
namespace Go.Proofs.YtemkfjnmaljmeaaGreat
open Go Go.Sh Go.Proofs
set_option linter.unusedVariables false
theorem d_sync_atomic_LoadUint64 {α : Type} {I : Imm} : OrcOk (α := α) Tryz.prog I 252 (.ext (xLoad .u64)) := load_ext Tryz.func252 (by kernel_rfl) (by kernel_rfl) (by kernel_rfl) .u64 (by kernel_rfl)
theorem d_zr {α : Type} {I : Imm} : OrcOk (α := α) Tryz.prog I 118 (.full (ad_console sCon)) := by
  refine orc_leF mk_zr fun args σ k r hk => ?_
  unfold ad_console at hk ⊢
  split at hk
  · unfold sCon at hk
    obtain ⟨h1, h2⟩ := grd_some hk
    dsimp only
    rw [con_le h1]
    exact h2
  · cases hk
theorem d_z1c' {α : Type} {I : Imm} : OrcOk (α := α) Tryz.prog I 162 (.pure (ad_port sPort)) := by
  refine orc_le d_z1c fun args k r hk => ?_
  unfold ad_port at hk ⊢
  split at hk
  · unfold sPort at hk
    obtain ⟨h1, h2⟩ := grd_some hk
    dsimp only
    rw [port_eq h1]
    exact h2
  · cases hk
theorem d_z8 {α : Type} {I : Imm} : OrcOk (α := α) Tryz.prog I 164 (.full (ad_z8 sRRead)) := by
  refine orc_leF (mk_z8 ) fun args σ k r hk => le_z8 (fun x0 x1 x2 k r h => ?_) hk
  unfold sRRead at h
  obtain ⟨h1, h2⟩ := grd_some h
  rw [rRead_eq h1.1 h1.2.1 h1.2.2]
  exact h2
theorem d_z1f {α : Type} {I : Imm} : OrcOk (α := α) Tryz.prog I 303 (.full (ad_z1f sREntry)) := by
  refine orc_leF (mk_z1f (h_z8 := d_z8)) fun args σ k r hk => le_z1f (fun x0 x1 x2 k r h => ?_) hk
  unfold sREntry at h
  obtain ⟨h1, h2⟩ := grd_some h
  rw [rEntry_eq h1]
  exact h2
theorem d_zb {α : Type} {I : Imm} : OrcOk (α := α) Tryz.prog I 247 (.pure (ad_zb sRIsW)) := by
  refine orc_le (mk_zb ) fun args k r hk => le_zb (fun x0 k r h => ?_) hk
  unfold sRIsW at h
  obtain ⟨h1, h2⟩ := grd_some h
  rw [rIs_eq h1]
  exact h2
theorem d_z6 {α : Type} {I : Imm} : OrcOk (α := α) Tryz.prog I 248 (.pure (ad_z6 sRLeafW)) := by
  refine orc_le (mk_z6 (h_zb := d_zb)) fun args k r hk => le_z6 (fun x0 k r h => ?_) hk
  unfold sRLeafW at h
  obtain ⟨h1, h2⟩ := grd_some h
  rw [rLeafW_eq h1]
  exact h2
theorem d_z4 {α : Type} {I : Imm} : OrcOk (α := α) Tryz.prog I 249 (.pure (ad_z4 sRFrame)) := by
  refine orc_le (mk_z4 ) fun args k r hk => le_z4 (fun x0 k r h => ?_) hk
  unfold sRFrame at h
  rw [rFrame_eq]
  exact h
theorem d_z1d {α : Type} {I : Imm} : OrcOk (α := α) Tryz.prog I 251 (.full (ad_z1d sRWalk)) := by
  refine orc_leF (mk_z1d (h_z1f := d_z1f) (h_zb := d_zb) (h_z6 := d_z6) (h_z4 := d_z4)) fun args σ k r hk => le_z1d (fun x0 x1 x2 k r h => ?_) hk
  unfold sRWalk at h
  obtain ⟨⟨h1, h3⟩, h2⟩ := grd_some h
  rw [(wkR_spec h1 h3 x1).2.2]
  exact h2
theorem d_z1g {α : Type} {I : Imm} : OrcOk (α := α) Tryz.prog I 250 (.pure (ad_z1g sRMay)) := by
  refine orc_le (mk_z1g ) fun args k r hk => le_z1g (fun x0 x1 x2 x3 x4 k r h => ?_) hk
  unfold sRMay at h
  obtain ⟨h1, h2⟩ := grd_some h
  rw [rMay_eq h1.1.1 h1.1.2 h1.2]
  exact h2
theorem d_zs {α : Type} {I : Imm} : OrcOk (α := α) Tryz.prog I 160 (.pure (ad_zs sRmay)) := by
  refine orc_le (mk_zs (h_z1g := d_z1g)) fun args k r hk => le_zs (fun x0 x1 x2 x3 x4 x5 k r h => ?_) hk
  unfold sRmay at h
  obtain ⟨h1, h2⟩ := grd_some h
  rw [rmay_eq h1.1.1 h1.1.2 h1.2]
  exact h2
theorem d_zm {α : Type} {I : Imm} : OrcOk (α := α) Tryz.prog I 161 (.full (ad_zm sRGuest)) := by
  refine orc_leF (mk_zm (h_z1d := d_z1d) (h_zs := d_zs)) fun args σ k r hk => le_zm (fun x0 x1 x2 x3 x4 k r h => ?_) hk
  unfold sRGuest at h
  obtain ⟨⟨h1, h3, h4⟩, h2⟩ := grd_some h
  rw [(gkR_spec h1 h3 h4 x4).2]
  exact h2
theorem d_z1l {α : Type} {I : Imm} : OrcOk (α := α) Tryz.prog I 191 (.pure (ad_z1l p_z1l)) := mk_z1l 
theorem d_z1j {α : Type} {I : Imm} : OrcOk (α := α) Tryz.prog I 156 (.pure (ad_z1j sRAsk)) := by
  refine orc_le (mk_z1j (h_z1l := d_z1l)) fun args k r hk => le_z1j (fun x0 x1 x2 k r h => ?_) hk
  unfold sRAsk at h
  obtain ⟨h1, h2⟩ := grd_some h
  rw [rAsk_eq h1]
  exact h2
theorem d_za {α : Type} {I : Imm} : OrcOk (α := α) Tryz.prog I 157 (.pure (ad_za sRPage)) := by
  refine orc_le (mk_za ) fun args k r hk => le_za (fun x0 k r h => ?_) hk
  unfold sRPage at h
  obtain ⟨h1, h2⟩ := grd_some h
  rw [rPage_eq h1]
  exact h2
theorem d_z9 {α : Type} {I : Imm} : OrcOk (α := α) Tryz.prog I 158 (.pure (ad_z9 sRGF)) := by
  refine orc_le (mk_z9 ) fun args k r hk => le_z9 (fun x0 k r h => ?_) hk
  unfold sRGF at h
  obtain ⟨h1, h2⟩ := grd_some h
  rw [rGF_eq h1]
  exact h2
theorem d_z2 {α : Type} {I : Imm} : OrcOk (α := α) Tryz.prog I 80 (.pure (ad_z2 sRBad)) := by
  refine orc_le (mk_z2 ) fun args k r hk => le_z2 (fun x0 k r h => ?_) hk
  unfold sRBad at h
  obtain ⟨h1, h2⟩ := grd_some h
  rw [rBad_eq h1]
  exact h2
theorem d_z7 {α : Type} {I : Imm} : OrcOk (α := α) Tryz.prog I 69 (.full (ad_z7 sRCode)) := by
  refine orc_leF (mk_z7 ) fun args σ k r hk => le_z7 (fun x0 x1 x2 k r h => ?_) hk
  unfold sRCode at h
  obtain ⟨h1, h2⟩ := grd_some h
  rw [rCode_eq h1]
  exact h2
theorem d_z1e {α : Type} {I : Imm} : OrcOk (α := α) Tryz.prog I 159 (.full (ad_z1e sRFirst)) := by
  refine orc_leF (mk_z1e (h_zm := d_zm) (h_z9 := d_z9) (h_z2 := d_z2) (h_z7 := d_z7) (h_z8 := d_z8) (h_zb := d_zb) (h_za := d_za) (h_z6 := d_z6) (h_z4 := d_z4)) fun args σ k r hk => le_z1e (fun x0 x1 x2 x3 y0 y1 y2 y3 k r h => ?_) hk
  unfold sRFirst at h
  obtain ⟨⟨h1, h3, h4, h5, h6⟩, h2⟩ := grd_some h
  rw [(fkR_spec h1 h3 h4 h5 h6 y2).1]
  exact h2
theorem d_zy {α : Type} {I : Imm} : OrcOk (α := α) Tryz.prog I 82 (.full (ad_zy sRTrans)) := by
  refine orc_leF (mk_zy (h_z1j := d_z1j) (h_za := d_za) (h_z9 := d_z9) (h_z1e := d_z1e) (h_zs := d_zs) (h_zm := d_zm) (h_z2 := d_z2)) fun args σ k r hk => le_zy (fun x0 x1 x2 x3 x4 x5 x6 k r h => ?_) hk
  unfold sRTrans at h
  obtain ⟨⟨h1, h3, h4, h5⟩, h2⟩ := grd_some h
  rw [(tkR_spec h1 h3 h4 h5 x4 x5 x6).2]
  exact h2
theorem d_z1 {α : Type} {I : Imm} : OrcOk (α := α) Tryz.prog I 75 (.pure (ad_z1 sMask)) := by
  refine orc_le (mk_z1 ) fun args k r hk => le_z1 (fun x0 k r h => ?_) hk
  rw [mask_eq]
  exact h
theorem d_z17 {α : Type} {I : Imm} : OrcOk (α := α) Tryz.prog I 76 (.pure (ad_z17 sMpp)) := by
  refine orc_le (mk_z17 ) fun args k r hk => le_z17 (fun x0 k r h => ?_) hk
  unfold sMpp at h
  obtain ⟨h1, h2⟩ := grd_some h
  rw [mpp_eq h1]
  exact h2
theorem d_z1h {α : Type} {I : Imm} : OrcOk (α := α) Tryz.prog I 23 (.pure (ad_z1h sClean)) := by
  refine orc_le (mk_z1h (h_z1 := d_z1) (h_z17 := d_z17)) fun args k r hk => le_z1h (fun x0 k r h => ?_) hk
  rw [clean_eq]
  exact h
theorem d_zk {α : Type} {I : Imm} : OrcOk (α := α) Tryz.prog I 71 (.full (ad_zk sRWr)) := by
  refine orc_leF (mk_zk ) fun args σ k r hk => le_zk (fun x0 x1 x2 x3 k r h => ?_) hk
  unfold sRWr at h
  obtain ⟨h1, h2⟩ := grd_some h
  rw [rWrite_eq h1.1 h1.2.1 h1.2.2]
  exact h2
theorem d_ref1_CodeB {α : Type} {I : Imm} : OrcOk (α := α) Tryz.prog I 69 (.full (ad_z7 sRCodeB)) := by
  refine orc_leF mk_z7 fun args σ k r hk => le_z7 (fun f a n k r h => ?_) hk
  unfold sRCodeB at h
  obtain ⟨h1, h2⟩ := bif_some h
  simp only [Bool.and_eq_true, decide_eq_true_eq] at h1
  rw [rCode_eq h1]; exact h2
theorem d_ref1_WriteB {α : Type} {I : Imm} : OrcOk (α := α) Tryz.prog I 71 (.full (ad_zk sRWriteB)) := by
  refine orc_leF mk_zk fun args σ k r hk => le_zk (fun f a n v k r h => ?_) hk
  unfold sRWriteB at h
  obtain ⟨h1, h2⟩ := bif_some h
  simp only [Bool.and_eq_true, decide_eq_true_eq] at h1
  rw [rWrite_eq h1.1 ⟨h1.2.1, h1.2.2.1⟩ h1.2.2.2]; exact h2
theorem d_zq {α : Type} {I : Imm} : OrcOk (α := α) Tryz.prog I 78 (.full (ad_zq sTrans)) := by
  refine orc_leF c_zq fun args σ k r hk => ?_
  unfold ad_zq at hk
  split at hk <;> try (cases hk; done)
  obtain ⟨b, b1, g0, g1, x0, rfl, h0, h1, hne, hk0⟩ := withMem_spec hk
  obtain ⟨x1, rfl, hk1⟩ := GState.dec_spec hk0
  obtain ⟨x2, rfl, hk2⟩ := decI_spec hk1
  obtain ⟨x3, rfl, hk3⟩ := decI_spec hk2
  obtain ⟨x4, rfl, hk4⟩ := decI_spec hk3
  obtain ⟨x5, rfl, hk5⟩ := decB_spec hk4
  unfold sTrans at hk5
  unfold transF
  refine (withMem_eq h0 h1 hne _).trans ?_
  exact hk5
theorem d_z1k {α : Type} {I : Imm} : OrcOk (α := α) Tryz.prog I 246 (.full (ad_z1k sMRd)) := by
  refine orc_leF c_z1k fun args σ k r hk => ?_
  unfold ad_z1k at hk
  split at hk <;> try (cases hk; done)
  obtain ⟨b, b1, g0, g1, x0, rfl, h0, h1, hne, hk0⟩ := withMem_spec hk
  obtain ⟨x1, rfl, hk1⟩ := decI_spec hk0
  obtain ⟨x2, rfl, hk2⟩ := decI_spec hk1
  unfold sMRd at hk2
  unfold readF
  refine (withMem_eq h0 h1 hne _).trans ?_
  exact hk2
theorem d_z13 {α : Type} {I : Imm} : OrcOk (α := α) Tryz.prog I 70 (.full (ad_z13 sMWr)) := by
  refine orc_leF c_z13 fun args σ k r hk => ?_
  unfold ad_z13 at hk
  split at hk <;> try (cases hk; done)
  obtain ⟨b, b1, g0, g1, x0, rfl, h0, h1, hne, hk0⟩ := withMem_spec hk
  obtain ⟨x1, rfl, hk1⟩ := decI_spec hk0
  obtain ⟨x2, rfl, hk2⟩ := decI_spec hk1
  obtain ⟨x3, rfl, hk3⟩ := decI_spec hk2
  unfold sMWr at hk3
  unfold writeF
  refine (withMem_eq h0 h1 hne _).trans ?_
  exact hk3
theorem d_zu {α : Type} {I : Imm} : OrcOk (α := α) Tryz.prog I 155 (.full (ad_zu sBRd)) := by
  refine mk_zu (h_sync_atomic_LoadUint64 := d_sync_atomic_LoadUint64) (h_zr := d_zr) (h_z1k := d_z1k) (F := sBRd) fun x0 x1 x2 k r h => ?_
  unfold sBRd at h
  obtain ⟨h1, h2⟩ := grd_some h
  rw [readB_eq h1]
  exact h2
theorem d_zv {α : Type} {I : Imm} : OrcOk (α := α) Tryz.prog I 46 (.full (ad_zv sBWr)) := by
  refine mk_zv (h_zr := d_zr) (h_z13 := d_z13) (F := sBWr) fun x0 x1 x2 x3 k r h => ?_
  unfold sBWr at h
  obtain ⟨h1, h2⟩ := grd_some h
  rw [writeB_eq h1.1 h1.2]
  exact h2
theorem d_zt {α : Type} {I : Imm} : OrcOk (α := α) Tryz.prog I 147 (.pure (ad_zt sCause)) := by
  refine orc_le (mk_zt ) fun args k r hk => le_zt (fun x0 x1 k r h => ?_) hk
  unfold sCause at h
  rw [cause_eq]
  exact h
theorem d_zn {α : Type} {I : Imm} : OrcOk (α := α) Tryz.prog I 146 (.pure (ad_zn sBad)) := by
  refine orc_le (mk_zn (h_zt := d_zt)) fun args k r hk => le_zn (fun x0 x1 x2 k r h => ?_) hk
  unfold sBad at h
  rw [bad_eq]
  exact h
theorem d_zf {α : Type} {I : Imm} : OrcOk (α := α) Tryz.prog I 79 (.full (ad_zf sAt)) := by
  refine mk_zf (h_zn := d_zn) (h_zv := d_zv) (h_zu := d_zu) (F := sAt) fun x0 x1 x2 x3 x4 x5 x6 k r h => ?_
  unfold sAt at h
  obtain ⟨h1, h2⟩ := grd_some h
  rw [at_eq h1.1 h1.2]
  exact h2
theorem d_zl {α : Type} {I : Imm} : OrcOk (α := α) Tryz.prog I 77 (.pure (ad_zl sAligned)) := by
  refine orc_le (mk_zl (h_zn := d_zn) (h_zt := d_zt)) fun args k r hk => le_zl (fun x0 x1 x2 x3 k r h => ?_) hk
  unfold sAligned at h
  obtain ⟨h1, h2⟩ := grd_some h
  rw [aligned_eq h1]
  exact h2
theorem d_z5 {α : Type} {I : Imm} : OrcOk (α := α) Tryz.prog I 24 (.full (ad_z5 sDoK)) := by
  refine mk_z5 (h_zl := d_zl) (h_zq := d_zq) (h_zf := d_zf) (F := sDoK) fun x0 x1 x2 x3 x4 x5 x6 x7 k r h => ?_
  obtain ⟨⟨h1, h3⟩, h2⟩ := doK_some h
  rw [do_eq _ h1 h3]
  exact h2
theorem d_zh {α : Type} {I : Imm} : OrcOk (α := α) Tryz.prog I 85 (.full (ad_zh sRRd18)) := by
  refine mk_zh (h_z7 := d_z7) (h_z8 := d_z8) (h_z1c := d_z1c') (F := sRRd18) fun x0 x1 x2 k r h => ?_
  unfold sRRd18 at h
  obtain ⟨h1, h2⟩ := grd_some h
  rw [readR_eq h1.1 h1.2]
  exact h2
theorem d_zi {α : Type} {I : Imm} : OrcOk (α := α) Tryz.prog I 84 (.full (ad_zi sRWr18)) := by
  refine mk_zi (h_z7 := d_z7) (h_zk := d_zk) (h_z1c := d_z1c') (F := sRWr18) fun x0 x1 x2 x3 k r h => ?_
  unfold sRWr18 at h
  obtain ⟨h1, h2⟩ := grd_some h
  rw [writeR_eq h1.1 h1.2.1 h1.2.2]
  exact h2
theorem d_zz {α : Type} {I : Imm} : OrcOk (α := α) Tryz.prog I 81 (.pure (ad_zz sRMis)) := by
  refine orc_le (mk_zz ) fun args k r hk => le_zz (fun x0 k r h => ?_) hk
  unfold sRMis at h
  obtain ⟨h1, h2⟩ := grd_some h
  rw [rMis_eq h1]
  exact h2
theorem d_z14 {α : Type} {I : Imm} : OrcOk (α := α) Tryz.prog I 25 (.full (ad_z14 sRAcc)) := by
  refine mk_z14 (h_z2 := d_z2) (h_zz := d_zz) (h_zy := d_zy) (h_zi := d_zi) (h_zh := d_zh) (F := sRAcc) fun x0 x1 x2 x3 x4 x5 x6 x7 x8 k r h => ?_
  unfold sRAcc at h
  obtain ⟨h1, h2⟩ := grd_some h
  rw [acc_eq h1.1 h1.2.1 h1.2.2.1 h1.2.2.2.1 h1.2.2.2.2.1 h1.2.2.2.2.2.1 h1.2.2.2.2.2.2]
  exact h2
theorem d_z15 {α : Type} {I : Imm} : OrcOk (α := α) Tryz.prog I 22 (.full (ad_z15 sBoth17)) := by
  refine mk_z15 (h_z1s := c_z1s) (h_ref1_New := c_z2z) (h_L_law17_both_3 := (snd_z3 d_ref1_CodeB d_z13 d_ref1_WriteB loopOk_both)) (F := sBoth17) fun x0 k r h => ?_
  unfold sBoth17 at h
  obtain ⟨h1, h2⟩ := grd_some h
  rw [both17_eq h1.1 h1.2]
  exact h2
theorem d_zc {α : Type} {I : Imm} : OrcOk (α := α) Tryz.prog I 50 (.full (ad_zc sFrm)) := by
  refine orc_leF (mk_zc ) fun args σ k r hk => le_zc (fun x0 x1 k r h => ?_) hk
  unfold sFrm at h
  obtain ⟨h1, h2⟩ := fr_some h
  rw [frm_eq h1.1 h1.2]
  exact h2
theorem d_zd {α : Type} {I : Imm} : OrcOk (α := α) Tryz.prog I 51 (.full (ad_zd sRFrm)) := by
  refine orc_leF (mk_zd ) fun args σ k r hk => le_zd (fun x0 x1 k r h => ?_) hk
  unfold sRFrm at h
  obtain ⟨h1, h2⟩ := fr_some h
  rw [rfrm_eq h1.1 h1.2]
  exact h2
theorem d_z16 {α : Type} {I : Imm} : OrcOk (α := α) Tryz.prog I 26 (.full (ad_z16 sLike)) := by
  refine mk_z16 (h_sync_atomic_LoadUint64 := d_sync_atomic_LoadUint64) (h_zc := d_zc) (h_zd := d_zd) (F := sLike) fun x0 x1 x2 k r h => ?_
  unfold sLike at h
  obtain ⟨h1, h2⟩ := grd_some h
  rw [like_eq h1.1 h1.2]
  exact h2
theorem d_z1m {α : Type} {I : Imm} : OrcOk (α := α) Tryz.prog I 21 (.pure (ad_z1m sFew17)) := by
  refine orc_le (mk_z1m ) fun args k r hk => le_z1m (fun x0 k r h => ?_) hk
  exact h
theorem d_zj {α : Type} {I : Imm} : OrcOk (α := α) Tryz.prog I 109 (.pure (ad_zj p_zj)) := mk_zj 
theorem d_z1o {α : Type} {I : Imm} : OrcOk (α := α) Tryz.prog I 280 (.pure (ad_z1o p_z1o)) := mk_z1o 
theorem d_z1p {α : Type} {I : Imm} : OrcOk (α := α) Tryz.prog I 281 (.pure (ad_z1p p_z1p)) := mk_z1p 
theorem d_z1q {α : Type} {I : Imm} : OrcOk (α := α) Tryz.prog I 208 (.pure (ad_z1q (p_z1q p_zj p_z1o p_z1p))) := mk_z1q (h_zj := d_zj) (h_z1o := d_z1o) (h_z1p := d_z1p)
theorem d_z12 {α : Type} {I : Imm} : OrcOk (α := α) Tryz.prog I 209 (.pure (ad_z12 p_z12)) := mk_z12 
theorem d_z1n {α : Type} {I : Imm} : OrcOk (α := α) Tryz.prog I 108 (.pure (ad_z1n (p_z1n p_zj (p_z1q p_zj p_z1o p_z1p) p_z12))) := mk_z1n (h_zj := d_zj) (h_z1q := d_z1q) (h_z12 := d_z12)
theorem d_z1a {α : Type} {I : Imm} : OrcOk (α := α) Tryz.prog I 278 (.pure (ad_z1a p_z1a)) := mk_z1a 
theorem d_zo {α : Type} {I : Imm} : OrcOk (α := α) Tryz.prog I 279 (.pure (ad_zo p_zo)) := mk_zo 
theorem d_z18 {α : Type} {I : Imm} : OrcOk (α := α) Tryz.prog I 217 (.pure (ad_z18 (p_z18 p_z1a p_zo))) := mk_z18 (h_z1a := d_z1a) (h_zo := d_zo)
theorem d_z11 {α : Type} {I : Imm} : OrcOk (α := α) Tryz.prog I 138 (.pure (ad_z11 (p_z11 (p_z18 p_z1a p_zo)))) := mk_z11 (h_z18 := d_z18)
theorem d_z19 {α : Type} {I : Imm} : OrcOk (α := α) Tryz.prog I 234 (.pure (ad_z19 p_z19)) := mk_z19 
theorem d_zg {α : Type} {I : Imm} : OrcOk (α := α) Tryz.prog I 140 (.pure (ad_zg p_zg)) := mk_zg 
theorem d_z10 {α : Type} {I : Imm} : OrcOk (α := α) Tryz.prog I 235 (.pure (ad_z10 (p_z10 p_zo))) := mk_z10 (h_zo := d_zo)
theorem d_z1b {α : Type} {I : Imm} : OrcOk (α := α) Tryz.prog I 236 (.pure (ad_z1b p_z1b)) := mk_z1b 
theorem d_ze {α : Type} {I : Imm} : OrcOk (α := α) Tryz.prog I 141 (.pure (ad_ze (p_ze p_zg (p_z10 p_zo) p_z1b))) := mk_ze (h_zg := d_zg) (h_z10 := d_z10) (h_z1b := d_z1b)
theorem d_zp {α : Type} {I : Imm} : OrcOk (α := α) Tryz.prog I 139 (.full (ad_zp (p_zp sAligned sTrans p_z19 sAt (p_ze p_zg (p_z10 p_zo) p_z1b)))) := mk_zp (h_zl := d_zl) (h_zq := d_zq) (h_z19 := d_z19) (h_zf := d_zf) (h_ze := d_ze) (fun x0 x1 x2 x3 k r h => h)
theorem d_zw {α : Type} {I : Imm} : OrcOk (α := α) Tryz.prog I 65 (.full (ad_zw (p_zw p_zj (p_z1n p_zj (p_z1q p_zj p_z1o p_z1p) p_z12) (p_z11 (p_z18 p_z1a p_zo)) (p_zp sAligned sTrans p_z19 sAt (p_ze p_zg (p_z10 p_zo) p_z1b)) p_zg sDoK (p_ze p_zg (p_z10 p_zo) p_z1b)))) := mk_zw (h_zj := d_zj) (h_z1n := d_z1n) (h_z11 := d_z11) (h_zp := d_zp) (h_zg := d_zg) (h_z5 := d_z5) (h_ze := d_ze) (fun x0 x1 x2 k r h => h)
theorem d_zx {α : Type} {I : Imm} : OrcOk (α := α) Tryz.prog I 66 (.full (ad_zx (p_zx sDoK))) := mk_zx (h_z5 := d_z5) (fun x0 x1 k r h => h)
theorem d_z1i {α : Type} {I : Imm} : OrcOk (α := α) Tryz.prog I 20 (.pure (ad_z1i (p_z1i sDoK (p_zw p_zj (p_z1n p_zj (p_z1q p_zj p_z1o p_z1p) p_z12) (p_z11 (p_z18 p_z1a p_zo)) (p_zp sAligned sTrans p_z19 sAt (p_ze p_zg (p_z10 p_zo) p_z1b)) p_zg sDoK (p_ze p_zg (p_z10 p_zo) p_z1b)) (p_zx sDoK)))) := mk_z1i (h_z1s := c_z1s) (h_z5 := d_z5) (h_zw := d_zw) (h_zx := d_zx)
theorem known17_eq {α : Type} (k : Bool → R α) : (p_z1i sDoK (p_zw p_zj (p_z1n p_zj (p_z1q p_zj p_z1o p_z1p) p_z12) (p_z11 (p_z18 p_z1a p_zo)) (p_zp sAligned sTrans p_z19 sAt (p_ze p_zg (p_z10 p_zo) p_z1b)) p_zg sDoK (p_ze p_zg (p_z10 p_zo) p_z1b)) (p_zx sDoK)) k = k true := by kernel_rfl
theorem d_law17_knownS {α : Type} {I : Imm} : OrcOk (α := α) Tryz.prog I 20 (.pure (ad_z1i sKnown17)) :=
  orc_le d_z1i fun args k r hk => le_z1i (fun k r h => by rw [known17_eq]; exact h) hk
theorem d_z1r {α : Type} {I : Imm} : OrcOk (α := α) Tryz.prog I 3 (.pure (ad_z1r sTells17)) := by
  refine orc_le (mk_z1r (h_z1i := d_law17_knownS) (h_z1m := d_z1m) (h_z15 := d_z15) (h_z1h := d_z1h) (h_z5 := d_z5) (h_z14 := d_z14) (h_z16 := d_z16)) fun args k r hk => le_z1r (fun x0 x1 x2 x3 x4 x5 x6 x7 k r h => ?_) hk
  unfold sTells17 at h
  obtain ⟨h1, h2⟩ := grd_some h
  rw [tells17_eq h1.1 x1 h1.2.1 x3 h1.2.2.1 h1.2.2.2 x6 x7]
  exact h2
theorem c_z5w {α : Type} {I : Imm} : OrcOk (α := α) Tryz.prog I 3 (.pure (ad_z1r sTells17)) := d_z1r
end Go.Proofs.YtemkfjnmaljmeaaGreat
