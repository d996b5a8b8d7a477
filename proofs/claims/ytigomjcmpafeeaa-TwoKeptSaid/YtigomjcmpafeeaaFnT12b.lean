/-
  The contracts of chapter 12's document's functions, and the laws' ones.
-/
import Derived.Test.YtigomjcmpafeeaaFnT12
import Derived.Test.YtigomjcmpafeeaaSpT12d
import Derived.Test.YtigomjcmpafeeaaFnTwo
set_option linter.unusedSimpArgs false
set_option linter.unusedVariables false
namespace Go.Proofs.Ytigomjcmpafeeaa
open Go Go.Sh Go.Proofs
theorem d_ref1_Mem_Read {α : Type} {I : Imm} : OrcOk (α := α) Try.prog I 97 (.full (ad_ref1_Mem_Read sRRead)) := by
  refine orc_leF (mk_ref1_Mem_Read ) fun args σ k r hk => le_ref1_Mem_Read (fun x0 x1 x2 k r h => ?_) hk
  unfold sRRead at h
  obtain ⟨h1, h2⟩ := grd_some h
  rw [rRead_eq h1.1 h1.2.1 h1.2.2]
  exact h2
theorem d_ref11_Entry {α : Type} {I : Imm} : OrcOk (α := α) Try.prog I 101 (.full (ad_ref11_Entry sREntry)) := by
  refine orc_leF (mk_ref11_Entry (h_ref1_Mem_Read := d_ref1_Mem_Read)) fun args σ k r hk => le_ref11_Entry (fun x0 x1 x2 k r h => ?_) hk
  unfold sREntry at h
  obtain ⟨h1, h2⟩ := grd_some h
  rw [rEntry_eq h1]
  exact h2
theorem d_ref11_Is {α : Type} {I : Imm} : OrcOk (α := α) Try.prog I 98 (.pure (ad_ref11_Is sRIsW)) := by
  refine orc_le (mk_ref11_Is ) fun args k r hk => le_ref11_Is (fun x0 k r h => ?_) hk
  unfold sRIsW at h
  obtain ⟨h1, h2⟩ := grd_some h
  rw [rIs_eq h1]
  exact h2
theorem d_ref11_Leaf {α : Type} {I : Imm} : OrcOk (α := α) Try.prog I 99 (.pure (ad_ref11_Leaf sRLeafW)) := by
  refine orc_le (mk_ref11_Leaf (h_ref11_Is := d_ref11_Is)) fun args k r hk => le_ref11_Leaf (fun x0 k r h => ?_) hk
  unfold sRLeafW at h
  obtain ⟨h1, h2⟩ := grd_some h
  rw [rLeafW_eq h1]
  exact h2
theorem d_ref11_Frame {α : Type} {I : Imm} : OrcOk (α := α) Try.prog I 100 (.pure (ad_ref11_Frame sRFrame)) := by
  refine orc_le (mk_ref11_Frame ) fun args k r hk => le_ref11_Frame (fun x0 k r h => ?_) hk
  unfold sRFrame at h
  rw [rFrame_eq]
  exact h
theorem d_ref11_Walk {α : Type} {I : Imm} : OrcOk (α := α) Try.prog I 67 (.full (ad_ref11_Walk sRWalk)) := by
  refine orc_leF (mk_ref11_Walk (h_ref11_Entry := d_ref11_Entry) (h_ref11_Is := d_ref11_Is) (h_ref11_Leaf := d_ref11_Leaf) (h_ref11_Frame := d_ref11_Frame)) fun args σ k r hk => le_ref11_Walk (fun x0 x1 x2 k r h => ?_) hk
  unfold sRWalk at h
  obtain ⟨⟨h1, h3⟩, h2⟩ := grd_some h
  rw [(wkR_spec h1 h3 x1).2.2]
  exact h2
theorem d_ref11_May {α : Type} {I : Imm} : OrcOk (α := α) Try.prog I 70 (.pure (ad_ref11_May sRMay)) := by
  refine orc_le (mk_ref11_May ) fun args k r hk => le_ref11_May (fun x0 x1 x2 x3 x4 k r h => ?_) hk
  unfold sRMay at h
  obtain ⟨h1, h2⟩ := grd_some h
  rw [rMay_eq h1.1.1 h1.1.2 h1.2]
  exact h2
theorem d_ref11_may {α : Type} {I : Imm} : OrcOk (α := α) Try.prog I 64 (.pure (ad_ref11_may sRmay)) := by
  refine orc_le (mk_ref11_may (h_ref11_May := d_ref11_May)) fun args k r hk => le_ref11_may (fun x0 x1 x2 x3 x4 x5 k r h => ?_) hk
  unfold sRmay at h
  obtain ⟨h1, h2⟩ := grd_some h
  rw [rmay_eq h1.1.1 h1.1.2 h1.2]
  exact h2
theorem d_ref11_Guest {α : Type} {I : Imm} : OrcOk (α := α) Try.prog I 28 (.full (ad_ref11_Guest sRGuest)) := by
  refine orc_leF (mk_ref11_Guest (h_ref11_Walk := d_ref11_Walk) (h_ref11_may := d_ref11_may)) fun args σ k r hk => le_ref11_Guest (fun x0 x1 x2 x3 x4 k r h => ?_) hk
  unfold sRGuest at h
  obtain ⟨⟨h1, h3, h4⟩, h2⟩ := grd_some h
  rw [(gkR_spec h1 h3 h4 x4).2]
  exact h2
theorem d_ref8_Bit {α : Type} {I : Imm} : OrcOk (α := α) Try.prog I 66 (.pure (ad_ref8_Bit p_ref8_Bit)) := by
  refine orc_le (mk_ref8_Bit ) fun args k r hk => le_ref8_Bit (fun x0 x1 x2 k r h => ?_) hk
  exact h
theorem d_ref11_Ask {α : Type} {I : Imm} : OrcOk (α := α) Try.prog I 26 (.pure (ad_ref11_Ask sRAsk)) := by
  refine orc_le (mk_ref11_Ask (h_ref8_Bit := d_ref8_Bit)) fun args k r hk => le_ref11_Ask (fun x0 x1 x2 k r h => ?_) hk
  unfold sRAsk at h
  obtain ⟨h1, h2⟩ := grd_some h
  rw [rAsk_eq h1]
  exact h2
theorem d_ref11_Page {α : Type} {I : Imm} : OrcOk (α := α) Try.prog I 61 (.pure (ad_ref11_Page sRPage)) := by
  refine orc_le (mk_ref11_Page ) fun args k r hk => le_ref11_Page (fun x0 k r h => ?_) hk
  unfold sRPage at h
  obtain ⟨h1, h2⟩ := grd_some h
  rw [rPage_eq h1]
  exact h2
theorem d_ref11_GuestFault {α : Type} {I : Imm} : OrcOk (α := α) Try.prog I 62 (.pure (ad_ref11_GuestFault sRGF)) := by
  refine orc_le (mk_ref11_GuestFault ) fun args k r hk => le_ref11_GuestFault (fun x0 k r h => ?_) hk
  unfold sRGF at h
  obtain ⟨h1, h2⟩ := grd_some h
  rw [rGF_eq h1]
  exact h2
theorem d_ref11_Bad {α : Type} {I : Imm} : OrcOk (α := α) Try.prog I 65 (.pure (ad_ref11_Bad sRBad)) := by
  refine orc_le (mk_ref11_Bad ) fun args k r hk => le_ref11_Bad (fun x0 k r h => ?_) hk
  unfold sRBad at h
  obtain ⟨h1, h2⟩ := grd_some h
  rw [rBad_eq h1]
  exact h2
theorem d_ref1_Mem_Code {α : Type} {I : Imm} : OrcOk (α := α) Try.prog I 58 (.full (ad_ref1_Mem_Code sRCode)) := by
  refine orc_leF (mk_ref1_Mem_Code ) fun args σ k r hk => le_ref1_Mem_Code (fun x0 x1 x2 k r h => ?_) hk
  unfold sRCode at h
  obtain ⟨h1, h2⟩ := grd_some h
  rw [rCode_eq h1]
  exact h2
theorem d_ref11_first {α : Type} {I : Imm} : OrcOk (α := α) Try.prog I 63 (.full (ad_ref11_first sRFirst)) := by
  refine orc_leF (mk_ref11_first (h_ref11_Guest := d_ref11_Guest) (h_ref11_GuestFault := d_ref11_GuestFault) (h_ref11_Bad := d_ref11_Bad) (h_ref1_Mem_Code := d_ref1_Mem_Code) (h_ref1_Mem_Read := d_ref1_Mem_Read) (h_ref11_Is := d_ref11_Is) (h_ref11_Page := d_ref11_Page) (h_ref11_Leaf := d_ref11_Leaf) (h_ref11_Frame := d_ref11_Frame)) fun args σ k r hk => le_ref11_first (fun x0 x1 x2 x3 y0 y1 y2 y3 k r h => ?_) hk
  unfold sRFirst at h
  obtain ⟨⟨h1, h3, h4, h5, h6⟩, h2⟩ := grd_some h
  rw [(fkR_spec h1 h3 h4 h5 h6 y2).1]
  exact h2
theorem d_ref11_Translate {α : Type} {I : Imm} : OrcOk (α := α) Try.prog I 25 (.full (ad_ref11_Translate sRTrans)) := by
  refine orc_leF (mk_ref11_Translate (h_ref11_Ask := d_ref11_Ask) (h_ref11_Page := d_ref11_Page) (h_ref11_GuestFault := d_ref11_GuestFault) (h_ref11_first := d_ref11_first) (h_ref11_may := d_ref11_may) (h_ref11_Guest := d_ref11_Guest) (h_ref11_Bad := d_ref11_Bad)) fun args σ k r hk => le_ref11_Translate (fun x0 x1 x2 x3 x4 x5 x6 k r h => ?_) hk
  unfold sRTrans at h
  obtain ⟨⟨h1, h3, h4, h5⟩, h2⟩ := grd_some h
  rw [(tkR_spec h1 h3 h4 h5 x4 x5 x6).2]
  exact h2
theorem d_ref8_Mask {α : Type} {I : Imm} : OrcOk (α := α) Try.prog I 35 (.pure (ad_ref8_Mask sMask)) := by
  refine orc_le (mk_ref8_Mask ) fun args k r hk => le_ref8_Mask (fun x0 k r h => ?_) hk
  rw [mask_eq]
  exact h
theorem d_ref8_Mpp {α : Type} {I : Imm} : OrcOk (α := α) Try.prog I 60 (.pure (ad_ref8_Mpp sMpp)) := by
  refine orc_le (mk_ref8_Mpp ) fun args k r hk => le_ref8_Mpp (fun x0 k r h => ?_) hk
  unfold sMpp at h
  obtain ⟨h1, h2⟩ := grd_some h
  rw [mpp_eq h1]
  exact h2
theorem d_ref18_Clean {α : Type} {I : Imm} : OrcOk (α := α) Try.prog I 24 (.pure (ad_ref18_Clean sClean)) := by
  refine orc_le (mk_ref18_Clean (h_ref8_Mask := d_ref8_Mask) (h_ref8_Mpp := d_ref8_Mpp)) fun args k r hk => le_ref18_Clean (fun x0 k r h => ?_) hk
  rw [clean_eq]
  exact h
theorem d_law12_known {α : Type} {I : Imm} : OrcOk (α := α) Try.prog I 18 (.pure (ad_law12_known sKnown)) := by
  refine orc_le c_sallyportlaw12_known fun args k r hk => ?_
  unfold ad_law12_known at hk
  split at hk <;> try (cases hk; done)
  unfold sKnown at hk
  unfold trueF
  exact hk
theorem d_two_Translate {α : Type} {I : Imm} : OrcOk (α := α) Try.prog I 19 (.full (ad_two_Translate sTrans)) := by
  refine orc_leF c_two_Translate fun args σ k r hk => ?_
  unfold ad_two_Translate at hk
  split at hk <;> try (cases hk; done)
  obtain ⟨b, b1, g0, g1, x0, rfl, h0, h1, hne, hk0⟩ := withMem_spec hk
  obtain ⟨x1, rfl, hk1⟩ := GState.dec_spec hk0
  obtain ⟨x2, rfl, hk2⟩ := decI_spec hk1
  obtain ⟨x3, rfl, hk3⟩ := decI_spec hk2
  obtain ⟨x4, rfl, hk4⟩ := decI_spec hk3
  obtain ⟨x5, rfl, hk5⟩ := decB_spec hk4
  unfold sTrans at hk5
  unfold transF
  refine (withMem_eq h0 h1 hne _).trans ?_
  exact hk5
theorem d_two_Guest {α : Type} {I : Imm} : OrcOk (α := α) Try.prog I 27 (.full (ad_two_Guest sGuest)) := by
  refine orc_leF c_two_Guest fun args σ k r hk => ?_
  unfold ad_two_Guest at hk
  split at hk <;> try (cases hk; done)
  obtain ⟨b, b1, g0, g1, x0, rfl, h0, h1, hne, hk0⟩ := withMem_spec hk
  obtain ⟨x1, rfl, hk1⟩ := GState.dec_spec hk0
  obtain ⟨x2, rfl, hk2⟩ := decI_spec hk1
  obtain ⟨x3, rfl, hk3⟩ := decI_spec hk2
  unfold sGuest at hk3
  unfold guestF2
  refine (withMem_eq h0 h1 hne _).trans ?_
  exact hk3
theorem d_two_Ask {α : Type} {I : Imm} : OrcOk (α := α) Try.prog I 21 (.pure (ad_two_Ask sAsk)) := by
  refine orc_le c_two_Ask fun args k r hk => ?_
  unfold ad_two_Ask at hk
  split at hk <;> try (cases hk; done)
  obtain ⟨x0, rfl, hk0⟩ := GState.dec_spec hk
  obtain ⟨x1, rfl, hk1⟩ := decI_spec hk0
  obtain ⟨x2, rfl, hk2⟩ := decB_spec hk1
  unfold sAsk at hk2
  unfold askF
  exact hk2
theorem d_two_Allowed {α : Type} {I : Imm} : OrcOk (α := α) Try.prog I 29 (.pure (ad_two_Allowed sAllowed)) := by
  refine orc_le c_two_Allowed fun args k r hk => ?_
  unfold ad_two_Allowed at hk
  split at hk <;> try (cases hk; done)
  obtain ⟨x0, rfl, hk0⟩ := GState.dec_spec hk
  obtain ⟨x1, rfl, hk1⟩ := GEntry.dec_spec hk0
  obtain ⟨x2, rfl, hk2⟩ := decI_spec hk1
  obtain ⟨x3, rfl, hk3⟩ := decI_spec hk2
  obtain ⟨x4, rfl, hk4⟩ := decI_spec hk3
  obtain ⟨x5, rfl, hk5⟩ := decB_spec hk4
  unfold sAllowed at hk5
  unfold allowF
  exact hk5
theorem d_mem_Memory_Write {α : Type} {I : Imm} : OrcOk (α := α) Try.prog I 31 (.full (ad_mem_Memory_Write sWriteM)) := by
  refine orc_leF c_mem_Memory_Write fun args σ k r hk => ?_
  unfold ad_mem_Memory_Write at hk
  split at hk <;> try (cases hk; done)
  obtain ⟨b, b1, g0, g1, x0, rfl, h0, h1, hne, hk0⟩ := withMem_spec hk
  obtain ⟨x1, rfl, hk1⟩ := decI_spec hk0
  obtain ⟨x2, rfl, hk2⟩ := decI_spec hk1
  obtain ⟨x3, rfl, hk3⟩ := decI_spec hk2
  unfold sWriteM at hk3
  unfold writeF
  refine (withMem_eq h0 h1 hne _).trans ?_
  exact hk3
theorem d_ref1_Code {α : Type} {I : Imm} : OrcOk (α := α) Try.prog I 58 (.full (ad_ref1_Mem_Code sRCodeB)) := by
  refine orc_leF mk_ref1_Mem_Code fun args σ k r hk => le_ref1_Mem_Code (fun f a n k r h => ?_) hk
  unfold sRCodeB at h
  obtain ⟨h1, h2⟩ := bif_some h
  simp only [Bool.and_eq_true, decide_eq_true_eq] at h1
  rw [rCode_eq h1]; exact h2
theorem d_ref1_Write {α : Type} {I : Imm} : OrcOk (α := α) Try.prog I 59 (.full (ad_ref1_Mem_Write sRWriteB)) := by
  refine orc_leF mk_ref1_Mem_Write fun args σ k r hk => le_ref1_Mem_Write (fun f a n v k r h => ?_) hk
  unfold sRWriteB at h
  obtain ⟨h1, h2⟩ := bif_some h
  simp only [Bool.and_eq_true, decide_eq_true_eq] at h1
  rw [rWrite_eq h1.1 ⟨h1.2.1, h1.2.2.1⟩ h1.2.2.2]; exact h2
theorem d_law12_few {α : Type} {I : Imm} : OrcOk (α := α) Try.prog I 22 (.pure (ad_law12_few sFew)) := mk_law12_few
theorem d_law12_both {α : Type} {I : Imm} : OrcOk (α := α) Try.prog I 23 (.full (ad_law12_both sBoth)) := by
  refine orc_leF (mk_law12_both (h_mem_New := c_mem_New) (h_ref1_New := c_sallyportref1_New) (L_law12_both_3 := sLoop) (h_L_law12_both_3 := snd_law12_both_3 d_ref1_Code d_mem_Memory_Write d_ref1_Write loopOk_both)) fun args σ k r hk => le_law12_both (fun x0 k r h => ?_) hk
  unfold sBoth at h
  obtain ⟨h1, h2⟩ := grd_some h
  rw [both_eq h1.1 h1.2]
  exact h2
theorem d_law12_TwoTells {α : Type} {I : Imm} : OrcOk (α := α) Try.prog I 5 (.pure (ad_law12_TwoTells sTells)) := by
  refine orc_le (mk_law12_TwoTells (h_law12_known := d_law12_known) (h_law12_few := d_law12_few) (h_law12_both := d_law12_both) (h_ref18_Clean := d_ref18_Clean) (h_two_Translate := d_two_Translate) (h_ref11_Translate := d_ref11_Translate) (h_ref11_Ask := d_ref11_Ask) (h_two_Guest := d_two_Guest) (h_ref11_Guest := d_ref11_Guest) (h_two_Ask := d_two_Ask)) fun args k r hk => le_law12_TwoTells (fun x0 x1 x2 x3 x4 x5 k r h => ?_) hk
  unfold sTells at h
  obtain ⟨⟨h1, h3, h4⟩, h2⟩ := grd_some h
  rw [tells_eq h1 h3 h4 x4 x5]
  exact h2
theorem d_law12_allowed {α : Type} {I : Imm} : OrcOk (α := α) Try.prog I 30 (.pure (ad_law12_allowed sRAllow)) := by
  refine orc_le (mk_law12_allowed (h_ref11_Ask := d_ref11_Ask) (h_ref11_May := d_ref11_May) (h_ref11_Page := d_ref11_Page) (h_ref11_GuestFault := d_ref11_GuestFault)) fun args k r hk => le_law12_allowed (fun x0 x1 x2 x3 x4 x5 k r h => ?_) hk
  unfold sRAllow at h
  obtain ⟨⟨h1, ⟨h3, h4⟩, h5⟩, h2⟩ := grd_some h
  rw [allowed_eq h1 h3 h4 x2 h5]
  exact h2
theorem d_law12_TwoKept {α : Type} {I : Imm} : OrcOk (α := α) Try.prog I 6 (.pure (ad_law12_TwoKept sKept)) := by
  refine orc_le (mk_law12_TwoKept (h_law12_known := d_law12_known) (h_law12_few := d_law12_few) (h_law12_both := d_law12_both) (h_ref18_Clean := d_ref18_Clean) (h_two_Translate := d_two_Translate) (h_two_Allowed := d_two_Allowed) (h_law12_allowed := d_law12_allowed) (h_ref11_Translate := d_ref11_Translate)) fun args k r hk => le_law12_TwoKept (fun x0 x1 x2 x3 x4 x5 x6 x7 k r h => ?_) hk
  unfold sKept at h
  obtain ⟨⟨h1, ⟨h3, h4⟩, h5, h6⟩, h2⟩ := grd_some h
  rw [kept_eq h1 h3 h4 h5 h6 x6 x7]
  exact h2
theorem c_sallyportlaw12_TwoKept {α : Type} {I : Imm} : OrcOk (α := α) Try.prog I 6 (.pure (ad_law12_TwoKept sKept)) := d_law12_TwoKept
theorem c_sallyportlaw12_TwoTells {α : Type} {I : Imm} : OrcOk (α := α) Try.prog I 5 (.pure (ad_law12_TwoTells sTells)) := d_law12_TwoTells
end Go.Proofs.Ytigomjcmpafeeaa
