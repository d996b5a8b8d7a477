/-
  AccessPlain: the contracts by their specs.
-/
import Derived.Test.YthcpbmgbehidlaaTnP17
import Derived.Test.YthcpbmgbehidlaaTnTwo
import Derived.Test.YthcpbmgbehidlaaSpPl17b
set_option linter.unusedSimpArgs false
set_option linter.unusedVariables false
namespace Go.Proofs.Ythcpbmgbehidlaa
open Go Go.Sh Go.Proofs
set_option linter.unusedVariables false
theorem d_sync_atomic_LoadUint64 {α : Type} {I : Imm} : OrcOk (α := α) Try.prog I 95 (.ext (xLoad .u64)) := load_ext Try.func95 (by kernel_rfl) (by kernel_rfl) (by kernel_rfl) .u64 (by kernel_rfl)
theorem d_zb {α : Type} {I : Imm} : OrcOk (α := α) Try.prog I 88 (.full (ad_console sCon)) := by
  refine orc_leF mk_zb fun args σ k r hk => ?_
  unfold ad_console at hk ⊢
  split at hk
  · unfold sCon at hk
    obtain ⟨h1, h2⟩ := grd_some hk
    dsimp only
    rw [con_le h1]
    exact h2
  · cases hk
theorem d_za {α : Type} {I : Imm} : OrcOk (α := α) Try.prog I 12 (.full (ad_za sTrans)) := by
  refine orc_leF c_za fun args σ k r hk => ?_
  unfold ad_za at hk
  split at hk <;> try (cases hk; done)
  obtain ⟨b, b1, g0, g1, x0, rfl, h0, h1, hne, hk0⟩ := withMem_spec hk
  obtain ⟨x1, rfl, hk1⟩ := GState.dec_spec hk0
  obtain ⟨x2, rfl, hk2⟩ := decI_spec hk1
  obtain ⟨x3, rfl, hk3⟩ := decI_spec hk2
  obtain ⟨x4, rfl, hk4⟩ := decI_spec hk3
  obtain ⟨x5, rfl, hk5⟩ := decB_spec hk4
  unfold sTrans at hk5
  unfold transF
  refine (withMem_eq h0 h1 hne _).trans ?_
  exact hk5
theorem d_zq {α : Type} {I : Imm} : OrcOk (α := α) Try.prog I 90 (.full (ad_zq sMRd)) := by
  refine orc_leF c_zq fun args σ k r hk => ?_
  unfold ad_zq at hk
  split at hk <;> try (cases hk; done)
  obtain ⟨b, b1, g0, g1, x0, rfl, h0, h1, hne, hk0⟩ := withMem_spec hk
  obtain ⟨x1, rfl, hk1⟩ := decI_spec hk0
  obtain ⟨x2, rfl, hk2⟩ := decI_spec hk1
  unfold sMRd at hk2
  unfold readF
  refine (withMem_eq h0 h1 hne _).trans ?_
  exact hk2
theorem d_zv {α : Type} {I : Imm} : OrcOk (α := α) Try.prog I 48 (.full (ad_zv sMWr)) := by
  refine orc_leF c_zv fun args σ k r hk => ?_
  unfold ad_zv at hk
  split at hk <;> try (cases hk; done)
  obtain ⟨b, b1, g0, g1, x0, rfl, h0, h1, hne, hk0⟩ := withMem_spec hk
  obtain ⟨x1, rfl, hk1⟩ := decI_spec hk0
  obtain ⟨x2, rfl, hk2⟩ := decI_spec hk1
  obtain ⟨x3, rfl, hk3⟩ := decI_spec hk2
  unfold sMWr at hk3
  unfold writeF
  refine (withMem_eq h0 h1 hne _).trans ?_
  exact hk3
theorem d_ze {α : Type} {I : Imm} : OrcOk (α := α) Try.prog I 69 (.full (ad_ze sBRd)) := by
  refine mk_ze (h_sync_atomic_LoadUint64 := d_sync_atomic_LoadUint64) (h_zb := d_zb) (h_zq := d_zq) (F := sBRd) fun x0 x1 x2 k r h => ?_
  unfold sBRd at h
  obtain ⟨h1, h2⟩ := grd_some h
  rw [readB_eq h1]
  exact h2
theorem d_zf {α : Type} {I : Imm} : OrcOk (α := α) Try.prog I 68 (.full (ad_zf sBWr)) := by
  refine mk_zf (h_zb := d_zb) (h_zv := d_zv) (F := sBWr) fun x0 x1 x2 x3 k r h => ?_
  unfold sBWr at h
  obtain ⟨h1, h2⟩ := grd_some h
  rw [writeB_eq h1.1 h1.2]
  exact h2
theorem d_zc {α : Type} {I : Imm} : OrcOk (α := α) Try.prog I 67 (.pure (ad_zc sCause)) := by
  refine orc_le (mk_zc ) fun args k r hk => le_zc (fun x0 x1 k r h => ?_) hk
  unfold sCause at h
  rw [cause_eq]
  exact h
theorem d_z7 {α : Type} {I : Imm} : OrcOk (α := α) Try.prog I 66 (.pure (ad_z7 sBad)) := by
  refine orc_le (mk_z7 (h_zc := d_zc)) fun args k r hk => le_z7 (fun x0 x1 x2 k r h => ?_) hk
  unfold sBad at h
  rw [bad_eq]
  exact h
theorem d_z3 {α : Type} {I : Imm} : OrcOk (α := α) Try.prog I 44 (.full (ad_z3 sAt)) := by
  refine mk_z3 (h_z7 := d_z7) (h_zf := d_zf) (h_ze := d_ze) (F := sAt) fun x0 x1 x2 x3 x4 x5 x6 k r h => ?_
  unfold sAt at h
  obtain ⟨h1, h2⟩ := grd_some h
  rw [at_eq h1.1 h1.2]
  exact h2
theorem d_z6 {α : Type} {I : Imm} : OrcOk (α := α) Try.prog I 42 (.pure (ad_z6 sAligned)) := by
  refine orc_le (mk_z6 (h_z7 := d_z7) (h_zc := d_zc)) fun args k r hk => le_z6 (fun x0 x1 x2 x3 k r h => ?_) hk
  unfold sAligned at h
  obtain ⟨h1, h2⟩ := grd_some h
  rw [aligned_eq h1]
  exact h2
theorem d_z1 {α : Type} {I : Imm} : OrcOk (α := α) Try.prog I 18 (.full (ad_z1 sDoK)) := by
  refine mk_z1 (h_z6 := d_z6) (h_za := d_za) (h_z3 := d_z3) (F := sDoK) fun x0 x1 x2 x3 x4 x5 x6 x7 k r h => ?_
  obtain ⟨⟨h1, h3⟩, h2⟩ := doK_some h
  rw [do_eq _ h1 h3]
  exact h2
theorem d_z5 {α : Type} {I : Imm} : OrcOk (α := α) Try.prog I 61 (.pure (ad_z5 p_z5)) := mk_z5 
theorem d_zs {α : Type} {I : Imm} : OrcOk (α := α) Try.prog I 92 (.pure (ad_zs p_zs)) := mk_zs 
theorem d_zt {α : Type} {I : Imm} : OrcOk (α := α) Try.prog I 93 (.pure (ad_zt p_zt)) := mk_zt 
theorem d_zu {α : Type} {I : Imm} : OrcOk (α := α) Try.prog I 84 (.pure (ad_zu (p_zu p_z5 p_zs p_zt))) := mk_zu (h_z5 := d_z5) (h_zs := d_zs) (h_zt := d_zt)
theorem d_zl {α : Type} {I : Imm} : OrcOk (α := α) Try.prog I 85 (.pure (ad_zl p_zl)) := mk_zl 
theorem d_zr {α : Type} {I : Imm} : OrcOk (α := α) Try.prog I 62 (.pure (ad_zr (p_zr p_z5 (p_zu p_z5 p_zs p_zt) p_zl))) := mk_zr (h_z5 := d_z5) (h_zu := d_zu) (h_zl := d_zl)
theorem d_zo {α : Type} {I : Imm} : OrcOk (α := α) Try.prog I 70 (.pure (ad_zo p_zo)) := mk_zo 
theorem d_z8 {α : Type} {I : Imm} : OrcOk (α := α) Try.prog I 71 (.pure (ad_z8 p_z8)) := mk_z8 
theorem d_zm {α : Type} {I : Imm} : OrcOk (α := α) Try.prog I 78 (.pure (ad_zm (p_zm p_zo p_z8))) := mk_zm (h_zo := d_zo) (h_z8 := d_z8)
theorem d_zk {α : Type} {I : Imm} : OrcOk (α := α) Try.prog I 52 (.pure (ad_zk (p_zk (p_zm p_zo p_z8)))) := mk_zk (h_zm := d_zm)
theorem d_zn {α : Type} {I : Imm} : OrcOk (α := α) Try.prog I 86 (.pure (ad_zn p_zn)) := mk_zn 
theorem d_z4 {α : Type} {I : Imm} : OrcOk (α := α) Try.prog I 64 (.pure (ad_z4 p_z4)) := mk_z4 
theorem d_zj {α : Type} {I : Imm} : OrcOk (α := α) Try.prog I 49 (.pure (ad_zj (p_zj p_z8))) := mk_zj (h_z8 := d_z8)
theorem d_zp {α : Type} {I : Imm} : OrcOk (α := α) Try.prog I 87 (.pure (ad_zp p_zp)) := mk_zp 
theorem d_z2 {α : Type} {I : Imm} : OrcOk (α := α) Try.prog I 65 (.pure (ad_z2 (p_z2 p_z4 (p_zj p_z8) p_zp))) := mk_z2 (h_z4 := d_z4) (h_zj := d_zj) (h_zp := d_zp)
theorem d_zg {α : Type} {I : Imm} : OrcOk (α := α) Try.prog I 19 (.pure (ad_zg p_zg)) := mk_zg 
theorem d_z9 {α : Type} {I : Imm} : OrcOk (α := α) Try.prog I 63 (.full (ad_z9 (p_z9 sAligned sTrans p_zn sAt (p_z2 p_z4 (p_zj p_z8) p_zp)))) := mk_z9 (h_z6 := d_z6) (h_za := d_za) (h_zn := d_zn) (h_z3 := d_z3) (h_z2 := d_z2) (fun x0 x1 x2 x3 k r h => h)
theorem d_zh {α : Type} {I : Imm} : OrcOk (α := α) Try.prog I 40 (.full (ad_zh (p_zh p_z5 (p_zr p_z5 (p_zu p_z5 p_zs p_zt) p_zl) (p_zk (p_zm p_zo p_z8)) (p_z9 sAligned sTrans p_zn sAt (p_z2 p_z4 (p_zj p_z8) p_zp)) p_z4 sDoK (p_z2 p_z4 (p_zj p_z8) p_zp)))) := mk_zh (h_z5 := d_z5) (h_zr := d_zr) (h_zk := d_zk) (h_z9 := d_z9) (h_z4 := d_z4) (h_z1 := d_z1) (h_z2 := d_z2) (fun x0 x1 x2 k r h => h)
theorem d_zi {α : Type} {I : Imm} : OrcOk (α := α) Try.prog I 41 (.full (ad_zi (p_zi sDoK))) := mk_zi (h_z1 := d_z1) (fun x0 x1 k r h => h)
theorem d_zd {α : Type} {I : Imm} : OrcOk (α := α) Try.prog I 16 (.pure (ad_zd (p_zd sDoK (p_zh p_z5 (p_zr p_z5 (p_zu p_z5 p_zs p_zt) p_zl) (p_zk (p_zm p_zo p_z8)) (p_z9 sAligned sTrans p_zn sAt (p_z2 p_z4 (p_zj p_z8) p_zp)) p_z4 sDoK (p_z2 p_z4 (p_zj p_z8) p_zp)) (p_zi sDoK)))) := mk_zd (h_zx := c_zx) (h_z1 := d_z1) (h_zh := d_zh) (h_zi := d_zi)
theorem known17_eq {α : Type} (k : Bool → R α) : (p_zd sDoK (p_zh p_z5 (p_zr p_z5 (p_zu p_z5 p_zs p_zt) p_zl) (p_zk (p_zm p_zo p_z8)) (p_z9 sAligned sTrans p_zn sAt (p_z2 p_z4 (p_zj p_z8) p_zp)) p_z4 sDoK (p_z2 p_z4 (p_zj p_z8) p_zp)) (p_zi sDoK)) k = k true := by kernel_rfl
theorem d_law17_knownS {α : Type} {I : Imm} : OrcOk (α := α) Try.prog I 16 (.pure (ad_zd sKnown17)) :=
  orc_le d_zd fun args k r hk => le_zd (fun k r h => by rw [known17_eq]; exact h) hk
theorem d_zw {α : Type} {I : Imm} : OrcOk (α := α) Try.prog I 5 (.pure (ad_zw sPlain17)) := by
  refine orc_le (mk_zw (h_zd := d_law17_knownS) (h_zx := c_zx) (h_z1 := d_z1) (h_zg := d_zg)) fun args k r hk => le_zw (fun x0 x1 x2 k r h => ?_) hk
  unfold sPlain17 at h
  obtain ⟨h1, h2⟩ := grd_some h
  rw [plain17_eq h1]
  exact h2
theorem c_z3h {α : Type} {I : Imm} : OrcOk (α := α) Try.prog I 5 (.pure (ad_zw sPlain17)) := d_zw
end Go.Proofs.Ythcpbmgbehidlaa
