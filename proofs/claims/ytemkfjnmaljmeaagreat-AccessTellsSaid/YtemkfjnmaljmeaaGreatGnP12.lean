/-
  The document of layers 1, 8, 11, 18 (printed by wip/pr/pr.py): the functions come to just that.
-/
import Derived.Test.YtemkfjnmaljmeaaGreatProg
import Derived.Test.YtemkfjnmaljmeaaGreatSpP12
namespace Go.Proofs.YtemkfjnmaljmeaaGreat
open Go Go.Sh Go.Proofs
set_option linter.unusedVariables false
set_option linter.unusedSimpArgs false
theorem pe_3 : TyOk Tryz.prog 3 ⟨.int .i64 0, 1, 8, .sc (.int .i64), none⟩ := ⟨fun _ => by kernel_rfl, ⟨rfl, rfl, fun _ _ => by simp [Wf, Wfs]⟩, ⟨Tryz.underlying3, rfl⟩, fun _ h => by cases h⟩
theorem pe_5 : TyOk Tryz.prog 5 ⟨.int .u8 0, 1, 1, .sc (.int .u8), none⟩ := ⟨fun _ => by kernel_rfl, ⟨rfl, rfl, fun _ _ => by simp [Wf, Wfs]⟩, ⟨Tryz.underlying5, rfl⟩, fun _ h => by cases h⟩
theorem pe_23 : TyOk Tryz.prog 23 ⟨.int .u64 0, 1, 8, .sc (.int .u64), none⟩ := ⟨fun _ => by kernel_rfl, ⟨rfl, rfl, fun _ _ => by simp [Wf, Wfs]⟩, ⟨Tryz.underlying23, rfl⟩, fun _ h => by cases h⟩
theorem pe_156 : TyOk Tryz.prog 156 ⟨.nils, 1, 24, .sc (.slice 5), none⟩ := ⟨fun _ => by kernel_rfl, ⟨rfl, rfl, fun _ _ => by simp [Wf, Wfs]⟩, ⟨Tryz.underlying156, rfl⟩, fun _ h => by cases h⟩
theorem pe_203 : TyOk Tryz.prog 203 ⟨.agg [.nils], 1, 24, .st [(0, 1, false)], none⟩ := ⟨fun _ => by kernel_rfl, ⟨rfl, rfl, fun _ _ => by simp [Wf, Wfs]⟩, ⟨_, Tryz.underlying203, by kernel_rfl⟩, fun _ h => by cases h⟩
abbrev PT_z8 : TE := [(3, ⟨.int .i64 0, 1, 8, .sc (.int .i64), none⟩), (5, ⟨.int .u8 0, 1, 1, .sc (.int .u8), none⟩), (23, ⟨.int .u64 0, 1, 8, .sc (.int .u64), none⟩), (156, ⟨.nils, 1, 24, .sc (.slice 5), none⟩), (203, ⟨.agg [.nils], 1, 24, .st [(0, 1, false)], none⟩)]
theorem PT_z4q : Prg Tryz.prog PT_z8 := ⟨(.cons pe_3 (.cons pe_5 (.cons pe_23 (.cons pe_156 (.cons pe_203 (TEok.nil _)))))), by kernel_rfl⟩
noncomputable abbrev PO_z8 {α : Type}  : ORC α := []
set_option maxRecDepth 100000 in
theorem ok_z2p {α : Type}  (g0 g1 : Option Nat) (x0 : (Nat → Int)) (x1 : Int) (k : Int → R α) : bodyL PT_z8 (PO_z8 ) [] ⟨9, []⟩ Tryz.f164 [.ptr 0 [], (.int .u64 x1), (.int .i64 8)] (hp [memO 1 g0, byO g1 x0]) (fun v σ1 => dR_ref1_Mem_Read v σ1 k) = p_z2p  x0 x1 k := by kernel_rfl
set_option maxRecDepth 100000 in
theorem ok_z2q {α : Type}  (g0 g1 : Option Nat) (x0 : (Nat → Int)) (x1 : Int) (k : Int → R α) : bodyL PT_z8 (PO_z8 ) [] ⟨9, []⟩ Tryz.f164 [.ptr 0 [], (.int .u64 x1), (.int .i64 4)] (hp [memO 1 g0, byO g1 x0]) (fun v σ1 => dR_ref1_Mem_Read v σ1 k) = p_z2q  x0 x1 k := by kernel_rfl
set_option maxRecDepth 100000 in
theorem ok_z2r {α : Type}  (g0 g1 : Option Nat) (x0 : (Nat → Int)) (x1 : Int) (k : Int → R α) : bodyL PT_z8 (PO_z8 ) [] ⟨9, []⟩ Tryz.f164 [.ptr 0 [], (.int .u64 x1), (.int .i64 2)] (hp [memO 1 g0, byO g1 x0]) (fun v σ1 => dR_ref1_Mem_Read v σ1 k) = p_z2r  x0 x1 k := by kernel_rfl
set_option maxRecDepth 100000 in
theorem ok_z2s {α : Type}  (g0 g1 : Option Nat) (x0 : (Nat → Int)) (x1 : Int) (k : Int → R α) : bodyL PT_z8 (PO_z8 ) [] ⟨9, []⟩ Tryz.f164 [.ptr 0 [], (.int .u64 x1), (.int .i64 1)] (hp [memO 1 g0, byO g1 x0]) (fun v σ1 => dR_ref1_Mem_Read v σ1 k) = p_z2s  x0 x1 k := by kernel_rfl
theorem ok_z8 {α : Type}  {g0 g1 : Option Nat} {x0 : (Nat → Int)} {x1 : Int} {x2 : Int} {k : Int → R α} {r : α} (h : p_z8  x0 x1 x2 k = some r) : bodyL PT_z8 (PO_z8 ) [] ⟨9, []⟩ Tryz.f164 [.ptr 0 [], (.int .u64 x1), (.int .i64 x2)] (hp [memO 1 g0, byO g1 x0]) (fun v σ1 => dR_ref1_Mem_Read v σ1 k) = some r := by
  unfold p_z8 at h
  cases e0 : (x2 == 8)
  case true => rw [e0] at h; simp only [cond_true] at h; rw [beq_iff_eq] at e0; subst e0; exact (ok_z2p  g0 g1 x0 x1 k).trans h
  rw [e0] at h; simp only [cond_false] at h
  cases e1 : (x2 == 4)
  case true => rw [e1] at h; simp only [cond_true] at h; rw [beq_iff_eq] at e1; subst e1; exact (ok_z2q  g0 g1 x0 x1 k).trans h
  rw [e1] at h; simp only [cond_false] at h
  cases e2 : (x2 == 2)
  case true => rw [e2] at h; simp only [cond_true] at h; rw [beq_iff_eq] at e2; subst e2; exact (ok_z2r  g0 g1 x0 x1 k).trans h
  rw [e2] at h; simp only [cond_false] at h
  cases e3 : (x2 == 1)
  case true => rw [e3] at h; simp only [cond_true] at h; rw [beq_iff_eq] at e3; subst e3; exact (ok_z2s  g0 g1 x0 x1 k).trans h
  rw [e3] at h; simp only [cond_false] at h
  cases h
theorem mk_z8 {α : Type} {I : Imm}  : OrcOk (α := α) Tryz.prog I 164 (.full (ad_z8 (p_z8 ))) := by
  refine orc_canonK PT_z4q (O := PO_z8 ) (OOk.nil) (L := []) ⟨9, []⟩ Tryz.func164 (by kernel_rfl) (by kernel_rfl) (by kernel_rfl) FLOk.nil ?_
  intro args σ k r hk
  unfold ad_z8 at hk
  split at hk <;> try (cases hk; done)
  obtain ⟨b, b1, g0, g1, x0, rfl, h0, h1, hne, hk0⟩ := withMem_spec hk
  obtain ⟨x1, rfl, hk1⟩ := decI_spec hk0
  obtain ⟨x2, rfl, hk2⟩ := decI_spec hk1
  have hkz := hk2
  refine ⟨[b, b1], [memO 1 g0, byO g1 x0], [.ptr 0 [], (.int .u64 x1), (.int .i64 x2)], lay_mk rfl (nodup2 hne) rfl ⟨h0, h1, trivial⟩ (by simp [AllL, Ids, Idss]) (by simp [AllL, OIds, Ids, Idss]), fun v σ1 => dR_ref1_Mem_Read v σ1 (fun r0 => k (.int .u64 r0) σ), ?_, fun v σ1 hg hv => ?_⟩
  · exact ok_z8 hkz
  · unfold dR_ref1_Mem_Read at hv
    obtain ⟨hc, hv0⟩ := bif_some hv
    obtain ⟨r0, rfl, w0⟩ := decI_spec hv0
    exact ⟨[], [], pub_keep hg (by simp [SObj.live]) hc (by simp [Ids, Idss]), w0⟩
abbrev PT_z1f : TE := [(3, ⟨.int .i64 0, 1, 8, .sc (.int .i64), none⟩), (5, ⟨.int .u8 0, 1, 1, .sc (.int .u8), none⟩), (23, ⟨.int .u64 0, 1, 8, .sc (.int .u64), none⟩), (156, ⟨.nils, 1, 24, .sc (.slice 5), none⟩), (203, ⟨.agg [.nils], 1, 24, .st [(0, 1, false)], none⟩)]
theorem PT_z4r : Prg Tryz.prog PT_z1f := ⟨(.cons pe_3 (.cons pe_5 (.cons pe_23 (.cons pe_156 (.cons pe_203 (TEok.nil _)))))), by kernel_rfl⟩
noncomputable abbrev PO_z1f {α : Type} (F_z8 : Sg_z8 α) : ORC α := [(164, .full (ad_z8 F_z8))]
set_option maxRecDepth 100000 in
theorem ok_z1f {α : Type} (F_z8 : Sg_z8 α) (g0 g1 : Option Nat) (x0 : (Nat → Int)) (x1 : Int) (x2 : Int) (k : Int → Bool → R α) : bodyL PT_z1f (PO_z1f F_z8) [] ⟨1, []⟩ Tryz.f303 [.ptr 0 [], (.int .i64 x1), (.int .i64 x2)] (hp [memO 1 g0, byO g1 x0]) (fun v σ1 => dR_ref11_Entry v σ1 k) = p_z1f F_z8 x0 x1 x2 k := by kernel_rfl
theorem mk_z1f {α : Type} {I : Imm} {F_z8 : Sg_z8 α} (h_z8 : OrcOk (α := α) Tryz.prog I 164 (.full (ad_z8 F_z8))) : OrcOk (α := α) Tryz.prog I 303 (.full (ad_z1f (p_z1f F_z8))) := by
  refine orc_canonK PT_z4r (O := PO_z1f F_z8) (OOk.cons h_z8 (OOk.nil)) (L := []) ⟨1, []⟩ Tryz.func303 (by kernel_rfl) (by kernel_rfl) (by kernel_rfl) FLOk.nil ?_
  intro args σ k r hk
  unfold ad_z1f at hk
  split at hk <;> try (cases hk; done)
  obtain ⟨b, b1, g0, g1, x0, rfl, h0, h1, hne, hk0⟩ := withMem_spec hk
  obtain ⟨x1, rfl, hk1⟩ := decI_spec hk0
  obtain ⟨x2, rfl, hk2⟩ := decI_spec hk1
  have hkz := hk2
  refine ⟨[b, b1], [memO 1 g0, byO g1 x0], [.ptr 0 [], (.int .i64 x1), (.int .i64 x2)], lay_mk rfl (nodup2 hne) rfl ⟨h0, h1, trivial⟩ (by simp [AllL, Ids, Idss]) (by simp [AllL, OIds, Ids, Idss]), fun v σ1 => dR_ref11_Entry v σ1 (fun r0 r1 => k (.tuple [(.int .u64 r0), (.bool r1)]) σ), ?_, fun v σ1 hg hv => ?_⟩
  · rw [ok_z1f]; exact hkz
  · unfold dR_ref11_Entry at hv
    obtain ⟨hc, hv0⟩ := bif_some hv
    split at hv0 <;> try (cases hv0; done)
    obtain ⟨r0, rfl, w0⟩ := decI_spec hv0
    obtain ⟨r1, rfl, w1⟩ := decB_spec w0
    exact ⟨[], [], pub_keep hg (by simp [SObj.live]) hc (by simp [Ids, Idss]), w1⟩
abbrev PT_zb : TE := [(23, ⟨.int .u64 0, 1, 8, .sc (.int .u64), none⟩)]
theorem PT_z4s : Prg Tryz.prog PT_zb := ⟨(.cons pe_23 (TEok.nil _)), by kernel_rfl⟩
noncomputable abbrev PO_zb {α : Type}  : ORC α := []
set_option maxRecDepth 100000 in
theorem ok_zb {α : Type}  (x0 : Int) (k : Bool → R α) : bodyL PT_zb (PO_zb ) [] ⟨1, []⟩ Tryz.f247 [(.int .u64 x0)] emp (fun v _ => dR_ref11_Is v k) = p_zb  x0 k := by kernel_rfl
theorem mk_zb {α : Type} {I : Imm}  : OrcOk (α := α) Tryz.prog I 247 (.pure (ad_zb (p_zb ))) := by
  refine orc_pureK PT_z4s (O := PO_zb ) (OOk.nil) (L := []) ⟨1, []⟩ Tryz.func247 (by kernel_rfl) (by kernel_rfl) (by kernel_rfl) FLOk.nil ?_
  intro args k r hk
  unfold ad_zb at hk
  split at hk <;> try (cases hk; done)
  obtain ⟨x0, rfl, hk0⟩ := decI_spec hk
  have hkz := hk0
  refine ⟨by simp [Ids, Idss], fun v => dR_ref11_Is v (fun r0 => k (.bool r0)), ?_, fun v hv => ?_⟩
  · rw [ok_zb]; exact hkz
  · obtain ⟨r0, rfl, hv1⟩ := dR_ref11_Is_spec hv; exact ⟨hv1, by simp [Ids, Idss]⟩
abbrev PT_z6 : TE := [(23, ⟨.int .u64 0, 1, 8, .sc (.int .u64), none⟩)]
theorem PT_z4t : Prg Tryz.prog PT_z6 := ⟨(.cons pe_23 (TEok.nil _)), by kernel_rfl⟩
noncomputable abbrev PO_z6 {α : Type} (F_zb : Sg_zb α) : ORC α := [(247, .pure (ad_zb F_zb))]
set_option maxRecDepth 100000 in
theorem ok_z6 {α : Type} (F_zb : Sg_zb α) (x0 : Int) (k : Bool → R α) : bodyL PT_z6 (PO_z6 F_zb) [] ⟨1, []⟩ Tryz.f248 [(.int .u64 x0)] emp (fun v _ => dR_ref11_Leaf v k) = p_z6 F_zb x0 k := by kernel_rfl
theorem mk_z6 {α : Type} {I : Imm} {F_zb : Sg_zb α} (h_zb : OrcOk (α := α) Tryz.prog I 247 (.pure (ad_zb F_zb))) : OrcOk (α := α) Tryz.prog I 248 (.pure (ad_z6 (p_z6 F_zb))) := by
  refine orc_pureK PT_z4t (O := PO_z6 F_zb) (OOk.cons h_zb (OOk.nil)) (L := []) ⟨1, []⟩ Tryz.func248 (by kernel_rfl) (by kernel_rfl) (by kernel_rfl) FLOk.nil ?_
  intro args k r hk
  unfold ad_z6 at hk
  split at hk <;> try (cases hk; done)
  obtain ⟨x0, rfl, hk0⟩ := decI_spec hk
  have hkz := hk0
  refine ⟨by simp [Ids, Idss], fun v => dR_ref11_Leaf v (fun r0 => k (.bool r0)), ?_, fun v hv => ?_⟩
  · rw [ok_z6]; exact hkz
  · obtain ⟨r0, rfl, hv1⟩ := dR_ref11_Leaf_spec hv; exact ⟨hv1, by simp [Ids, Idss]⟩
abbrev PT_z4 : TE := [(3, ⟨.int .i64 0, 1, 8, .sc (.int .i64), none⟩), (23, ⟨.int .u64 0, 1, 8, .sc (.int .u64), none⟩)]
theorem PT_z4u : Prg Tryz.prog PT_z4 := ⟨(.cons pe_3 (.cons pe_23 (TEok.nil _))), by kernel_rfl⟩
noncomputable abbrev PO_z4 {α : Type}  : ORC α := []
set_option maxRecDepth 100000 in
theorem ok_z4 {α : Type}  (x0 : Int) (k : Int → R α) : bodyL PT_z4 (PO_z4 ) [] ⟨1, []⟩ Tryz.f249 [(.int .u64 x0)] emp (fun v _ => dR_ref11_Frame v k) = p_z4  x0 k := by kernel_rfl
theorem mk_z4 {α : Type} {I : Imm}  : OrcOk (α := α) Tryz.prog I 249 (.pure (ad_z4 (p_z4 ))) := by
  refine orc_pureK PT_z4u (O := PO_z4 ) (OOk.nil) (L := []) ⟨1, []⟩ Tryz.func249 (by kernel_rfl) (by kernel_rfl) (by kernel_rfl) FLOk.nil ?_
  intro args k r hk
  unfold ad_z4 at hk
  split at hk <;> try (cases hk; done)
  obtain ⟨x0, rfl, hk0⟩ := decI_spec hk
  have hkz := hk0
  refine ⟨by simp [Ids, Idss], fun v => dR_ref11_Frame v (fun r0 => k (.int .i64 r0)), ?_, fun v hv => ?_⟩
  · rw [ok_z4]; exact hkz
  · obtain ⟨r0, rfl, hv1⟩ := dR_ref11_Frame_spec hv; exact ⟨hv1, by simp [Ids, Idss]⟩
theorem pe_39 : TyOk Tryz.prog 39 ⟨.nils, 1, 24, .sc (.slice 3), none⟩ := ⟨fun _ => by kernel_rfl, ⟨rfl, rfl, fun _ _ => by simp [Wf, Wfs]⟩, ⟨Tryz.underlying39, rfl⟩, fun _ h => by cases h⟩
theorem pe_350 : TyOk Tryz.prog 350 ⟨.agg [.int .u64 0, .int .i64 0, .int .i64 0, .nils], 4, 48, .st [(0, 1, false), (1, 1, false), (2, 1, false), (3, 1, false)], none⟩ := ⟨fun _ => by kernel_rfl, ⟨rfl, rfl, fun _ _ => by simp [Wf, Wfs]⟩, ⟨_, Tryz.underlying350, by kernel_rfl⟩, fun _ h => by cases h⟩
abbrev PT_z1d : TE := [(3, ⟨.int .i64 0, 1, 8, .sc (.int .i64), none⟩), (23, ⟨.int .u64 0, 1, 8, .sc (.int .u64), none⟩), (39, ⟨.nils, 1, 24, .sc (.slice 3), none⟩), (350, ⟨.agg [.int .u64 0, .int .i64 0, .int .i64 0, .nils], 4, 48, .st [(0, 1, false), (1, 1, false), (2, 1, false), (3, 1, false)], none⟩)]
theorem PT_z4v : Prg Tryz.prog PT_z1d := ⟨(.cons pe_3 (.cons pe_23 (.cons pe_39 (.cons pe_350 (TEok.nil _))))), by kernel_rfl⟩
noncomputable abbrev PO_z1d {α : Type} (F_z1f : Sg_z1f α) (F_zb : Sg_zb α) (F_z6 : Sg_z6 α) (F_z4 : Sg_z4 α) : ORC α := [(303, .full (ad_z1f F_z1f)), (247, .pure (ad_zb F_zb)), (248, .pure (ad_z6 F_z6)), (249, .pure (ad_z4 F_z4))]
set_option maxRecDepth 100000 in
theorem ok_z1d {α : Type} (F_z1f : Sg_z1f α) (F_zb : Sg_zb α) (F_z6 : Sg_z6 α) (F_z4 : Sg_z4 α) (g0 g1 : Option Nat) (x0 : (Nat → Int)) (x1 : Int) (x2 : Int) (k : Int → Int → Int → Bool → Nat → (Nat → Int) → R α) : bodyL PT_z1d (PO_z1d F_z1f F_zb F_z6 F_z4) [] ⟨1, []⟩ Tryz.f251 [.ptr 0 [], (.int .i64 x1), (.int .u64 x2)] (hp [memO 1 g0, byO g1 x0]) (fun v σ1 => dR_ref11_Walk v σ1 k) = p_z1d F_z1f F_zb F_z6 F_z4 x0 x1 x2 k := by kernel_rfl
theorem mk_z1d {α : Type} {I : Imm} {F_z1f : Sg_z1f α} {F_zb : Sg_zb α} {F_z6 : Sg_z6 α} {F_z4 : Sg_z4 α} (h_z1f : OrcOk (α := α) Tryz.prog I 303 (.full (ad_z1f F_z1f))) (h_zb : OrcOk (α := α) Tryz.prog I 247 (.pure (ad_zb F_zb))) (h_z6 : OrcOk (α := α) Tryz.prog I 248 (.pure (ad_z6 F_z6))) (h_z4 : OrcOk (α := α) Tryz.prog I 249 (.pure (ad_z4 F_z4))) : OrcOk (α := α) Tryz.prog I 251 (.full (ad_z1d (p_z1d F_z1f F_zb F_z6 F_z4))) := by
  refine orc_canonK PT_z4v (O := PO_z1d F_z1f F_zb F_z6 F_z4) (OOk.cons h_z1f (OOk.cons h_zb (OOk.cons h_z6 (OOk.cons h_z4 (OOk.nil))))) (L := []) ⟨1, []⟩ Tryz.func251 (by kernel_rfl) (by kernel_rfl) (by kernel_rfl) FLOk.nil ?_
  intro args σ k r hk
  unfold ad_z1d at hk
  split at hk <;> try (cases hk; done)
  obtain ⟨b, b1, g0, g1, x0, rfl, h0, h1, hne, hk0⟩ := withMem_spec hk
  obtain ⟨x1, rfl, hk1⟩ := decI_spec hk0
  obtain ⟨x2, rfl, hk2⟩ := decI_spec hk1
  have hkz := hk2
  refine ⟨[b, b1], [memO 1 g0, byO g1 x0], [.ptr 0 [], (.int .i64 x1), (.int .u64 x2)], lay_mk rfl (nodup2 hne) rfl ⟨h0, h1, trivial⟩ (by simp [AllL, Ids, Idss]) (by simp [AllL, OIds, Ids, Idss]), fun v σ1 => dR_ref11_Walk v σ1 (fun r0 r1 r2 nl n tf => cond nl (k (.agg [(.int .u64 r0), (.int .i64 r1), (.int .i64 r2), .nils]) σ) (k (.agg [(.int .u64 r0), (.int .i64 r1), (.int .i64 r2), (.slc σ.next [] 1 0 n none)]) ⟨σ.next + 1, [(σ.next, .cells (some 1) (.ints .i64 n tf))] ++ σ.blocks⟩)), ?_, fun v σ1 hg hv => ?_⟩
  · rw [ok_z1d]; exact hkz
  · unfold dR_ref11_Walk at hv
    obtain ⟨hc, hv0⟩ := bif_some hv
    split at hv0 <;> try (cases hv0; done)
    obtain ⟨r0, rfl, w0⟩ := decI_spec hv0
    obtain ⟨r1, rfl, w1⟩ := decI_spec w0
    obtain ⟨r2, rfl, w2⟩ := decI_spec w1
    rcases decR_spec w2 with ⟨rfl, w3⟩ | ⟨b2, n, tf, rfl, ⟨hb1, hb2⟩, hrow, w3⟩
    · skip
      exact ⟨[], [], pub_keep hg (by simp [SObj.live]) hc (by simp [Ids, Idss]), w3⟩
    · skip
      have hb3 : 2 ≤ b2 := hb1
      have e : rnm [b, b1] σ.next [b2] b2 = σ.next := by
        obtain ⟨j, rfl⟩ : ∃ j, b2 = j + 2 := ⟨b2 - 2, by omega⟩
        simp [rnm, getN, posN]
      refine ⟨[b2], [(b2, .cells (some 1) (.ints .i64 n tf))], pub_row hg (by simp [SObj.live]) hc hb1 hrow hb2 (by simp [Ids, Idss]), ?_⟩
      simp only [List.map_cons, List.map_nil, ren, rens, renO, e, List.length_cons, List.length_nil]
      exact w3
abbrev PT_z1g : TE := [(3, ⟨.int .i64 0, 1, 8, .sc (.int .i64), none⟩)]
theorem PT_z4w : Prg Tryz.prog PT_z1g := ⟨(.cons pe_3 (TEok.nil _)), by kernel_rfl⟩
noncomputable abbrev PO_z1g {α : Type}  : ORC α := []
set_option maxRecDepth 100000 in
theorem ok_z1g {α : Type}  (x0 : Int) (x1 : Int) (x2 : Bool) (x3 : Bool) (x4 : Bool) (k : Bool → R α) : bodyL PT_z1g (PO_z1g ) [] ⟨1, []⟩ Tryz.f250 [(.int .i64 x0), (.int .i64 x1), (.bool x2), (.bool x3), (.bool x4)] emp (fun v _ => dR_ref11_May v k) = p_z1g  x0 x1 x2 x3 x4 k := by kernel_rfl
theorem mk_z1g {α : Type} {I : Imm}  : OrcOk (α := α) Tryz.prog I 250 (.pure (ad_z1g (p_z1g ))) := by
  refine orc_pureK PT_z4w (O := PO_z1g ) (OOk.nil) (L := []) ⟨1, []⟩ Tryz.func250 (by kernel_rfl) (by kernel_rfl) (by kernel_rfl) FLOk.nil ?_
  intro args k r hk
  unfold ad_z1g at hk
  split at hk <;> try (cases hk; done)
  obtain ⟨x0, rfl, hk0⟩ := decI_spec hk
  obtain ⟨x1, rfl, hk1⟩ := decI_spec hk0
  obtain ⟨x2, rfl, hk2⟩ := decB_spec hk1
  obtain ⟨x3, rfl, hk3⟩ := decB_spec hk2
  obtain ⟨x4, rfl, hk4⟩ := decB_spec hk3
  have hkz := hk4
  refine ⟨by simp [Ids, Idss], fun v => dR_ref11_May v (fun r0 => k (.bool r0)), ?_, fun v hv => ?_⟩
  · rw [ok_z1g]; exact hkz
  · obtain ⟨r0, rfl, hv1⟩ := dR_ref11_May_spec hv; exact ⟨hv1, by simp [Ids, Idss]⟩
abbrev PT_zs : TE := []
theorem PT_z4x : Prg Tryz.prog PT_zs := ⟨(TEok.nil _), by kernel_rfl⟩
noncomputable abbrev PO_zs {α : Type} (F_z1g : Sg_z1g α) : ORC α := [(250, .pure (ad_z1g F_z1g))]
set_option maxRecDepth 100000 in
theorem ok_zs {α : Type} (F_z1g : Sg_z1g α) (x0 : Int) (x1 : Int) (x2 : Bool) (x3 : Bool) (x4 : Bool) (x5 : Bool) (k : Bool → R α) : bodyL PT_zs (PO_zs F_z1g) [] ⟨1, []⟩ Tryz.f160 [(.int .i64 x0), (.int .i64 x1), (.bool x2), (.bool x3), (.bool x4), (.bool x5)] emp (fun v _ => dR_ref11_may v k) = p_zs F_z1g x0 x1 x2 x3 x4 x5 k := by kernel_rfl
theorem mk_zs {α : Type} {I : Imm} {F_z1g : Sg_z1g α} (h_z1g : OrcOk (α := α) Tryz.prog I 250 (.pure (ad_z1g F_z1g))) : OrcOk (α := α) Tryz.prog I 160 (.pure (ad_zs (p_zs F_z1g))) := by
  refine orc_pureK PT_z4x (O := PO_zs F_z1g) (OOk.cons h_z1g (OOk.nil)) (L := []) ⟨1, []⟩ Tryz.func160 (by kernel_rfl) (by kernel_rfl) (by kernel_rfl) FLOk.nil ?_
  intro args k r hk
  unfold ad_zs at hk
  split at hk <;> try (cases hk; done)
  obtain ⟨x0, rfl, hk0⟩ := decI_spec hk
  obtain ⟨x1, rfl, hk1⟩ := decI_spec hk0
  obtain ⟨x2, rfl, hk2⟩ := decB_spec hk1
  obtain ⟨x3, rfl, hk3⟩ := decB_spec hk2
  obtain ⟨x4, rfl, hk4⟩ := decB_spec hk3
  obtain ⟨x5, rfl, hk5⟩ := decB_spec hk4
  have hkz := hk5
  refine ⟨by simp [Ids, Idss], fun v => dR_ref11_may v (fun r0 => k (.bool r0)), ?_, fun v hv => ?_⟩
  · rw [ok_zs]; exact hkz
  · obtain ⟨r0, rfl, hv1⟩ := dR_ref11_may_spec hv; exact ⟨hv1, by simp [Ids, Idss]⟩
theorem pe_4 : TyOk Tryz.prog 4 ⟨.bool false, 1, 1, .sc (.bool), none⟩ := ⟨fun _ => by kernel_rfl, ⟨rfl, rfl, fun _ _ => by simp [Wf, Wfs]⟩, ⟨Tryz.underlying4, rfl⟩, fun _ h => by cases h⟩
theorem pe_239 : TyOk Tryz.prog 239 ⟨.agg [.bool false, .bool false, .bool false, .bool false, .int .i64 0, .int .i64 0, .int .i64 0, .int .i64 0], 8, 40, .st [(0, 1, false), (1, 1, false), (2, 1, false), (3, 1, false), (4, 1, false), (5, 1, false), (6, 1, false), (7, 1, false)], some (.st [(0, 1, false, .bl), (1, 1, false, .bl), (2, 1, false, .bl), (3, 1, false, .bl), (4, 1, false, .it .i64), (5, 1, false, .it .i64), (6, 1, false, .it .i64), (7, 1, false, .it .i64)])⟩ := ⟨fun _ => by kernel_rfl, ⟨rfl, rfl, fun _ _ => by simp [Wf, Wfs]⟩, ⟨_, Tryz.underlying239, by kernel_rfl⟩, fun _ h => by cases h; exact ⟨by kernel_rfl, by kernel_rfl⟩⟩
abbrev PT_zm : TE := [(3, ⟨.int .i64 0, 1, 8, .sc (.int .i64), none⟩), (4, ⟨.bool false, 1, 1, .sc (.bool), none⟩), (23, ⟨.int .u64 0, 1, 8, .sc (.int .u64), none⟩), (39, ⟨.nils, 1, 24, .sc (.slice 3), none⟩), (239, ⟨.agg [.bool false, .bool false, .bool false, .bool false, .int .i64 0, .int .i64 0, .int .i64 0, .int .i64 0], 8, 40, .st [(0, 1, false), (1, 1, false), (2, 1, false), (3, 1, false), (4, 1, false), (5, 1, false), (6, 1, false), (7, 1, false)], some (.st [(0, 1, false, .bl), (1, 1, false, .bl), (2, 1, false, .bl), (3, 1, false, .bl), (4, 1, false, .it .i64), (5, 1, false, .it .i64), (6, 1, false, .it .i64), (7, 1, false, .it .i64)])⟩), (350, ⟨.agg [.int .u64 0, .int .i64 0, .int .i64 0, .nils], 4, 48, .st [(0, 1, false), (1, 1, false), (2, 1, false), (3, 1, false)], none⟩)]
theorem PT_z4y : Prg Tryz.prog PT_zm := ⟨(.cons pe_3 (.cons pe_4 (.cons pe_23 (.cons pe_39 (.cons pe_239 (.cons pe_350 (TEok.nil _))))))), by kernel_rfl⟩
noncomputable abbrev PO_zm {α : Type} (F_z1d : Sg_z1d α) (F_zs : Sg_zs α) : ORC α := [(251, .full (ad_z1d F_z1d)), (160, .pure (ad_zs F_zs))]
set_option maxRecDepth 100000 in
theorem ok_zm {α : Type} (F_z1d : Sg_z1d α) (F_zs : Sg_zs α) (g0 g1 : Option Nat) (x0 : (Nat → Int)) (x1 : GAsking) (x2 : Int) (x3 : Int) (x4 : Bool) (k : Int → Int → Int → Bool → Nat → (Nat → Int) → R α) : bodyL PT_zm (PO_zm F_z1d F_zs) [] ⟨1, []⟩ Tryz.f161 [.ptr 0 [], (GAsking.sv x1), (.int .u64 x2), (.int .i64 x3), (.bool x4)] (hp [memO 1 g0, byO g1 x0]) (fun v σ1 => dR_ref11_Guest v σ1 k) = p_zm F_z1d F_zs x0 x1 x2 x3 x4 k := by kernel_rfl
theorem mk_zm {α : Type} {I : Imm} {F_z1d : Sg_z1d α} {F_zs : Sg_zs α} (h_z1d : OrcOk (α := α) Tryz.prog I 251 (.full (ad_z1d F_z1d))) (h_zs : OrcOk (α := α) Tryz.prog I 160 (.pure (ad_zs F_zs))) : OrcOk (α := α) Tryz.prog I 161 (.full (ad_zm (p_zm F_z1d F_zs))) := by
  refine orc_canonK PT_z4y (O := PO_zm F_z1d F_zs) (OOk.cons h_z1d (OOk.cons h_zs (OOk.nil))) (L := []) ⟨1, []⟩ Tryz.func161 (by kernel_rfl) (by kernel_rfl) (by kernel_rfl) FLOk.nil ?_
  intro args σ k r hk
  unfold ad_zm at hk
  split at hk <;> try (cases hk; done)
  obtain ⟨b, b1, g0, g1, x0, rfl, h0, h1, hne, hk0⟩ := withMem_spec hk
  obtain ⟨x1, rfl, hk1⟩ := GAsking.dec_spec hk0
  obtain ⟨x2, rfl, hk2⟩ := decI_spec hk1
  obtain ⟨x3, rfl, hk3⟩ := decI_spec hk2
  obtain ⟨x4, rfl, hk4⟩ := decB_spec hk3
  have hkz := hk4
  refine ⟨[b, b1], [memO 1 g0, byO g1 x0], [.ptr 0 [], (GAsking.sv x1), (.int .u64 x2), (.int .i64 x3), (.bool x4)], lay_mk rfl (nodup2 hne) rfl ⟨h0, h1, trivial⟩ (by simp [AllL, Ids, Idss]) (by simp [AllL, OIds, Ids, Idss]), fun v σ1 => dR_ref11_Guest v σ1 (fun r0 r1 r2 nl n tf => cond nl (k (.tuple [(.int .u64 r0), (.int .i64 r1), (.int .i64 r2), .nils]) σ) (k (.tuple [(.int .u64 r0), (.int .i64 r1), (.int .i64 r2), (.slc σ.next [] 1 0 n none)]) ⟨σ.next + 1, [(σ.next, .cells (some 1) (.ints .i64 n tf))] ++ σ.blocks⟩)), ?_, fun v σ1 hg hv => ?_⟩
  · rw [ok_zm]; exact hkz
  · unfold dR_ref11_Guest at hv
    obtain ⟨hc, hv0⟩ := bif_some hv
    split at hv0 <;> try (cases hv0; done)
    obtain ⟨r0, rfl, w0⟩ := decI_spec hv0
    obtain ⟨r1, rfl, w1⟩ := decI_spec w0
    obtain ⟨r2, rfl, w2⟩ := decI_spec w1
    rcases decR_spec w2 with ⟨rfl, w3⟩ | ⟨b2, n, tf, rfl, ⟨hb1, hb2⟩, hrow, w3⟩
    · skip
      exact ⟨[], [], pub_keep hg (by simp [SObj.live]) hc (by simp [Ids, Idss]), w3⟩
    · skip
      have hb3 : 2 ≤ b2 := hb1
      have e : rnm [b, b1] σ.next [b2] b2 = σ.next := by
        obtain ⟨j, rfl⟩ : ∃ j, b2 = j + 2 := ⟨b2 - 2, by omega⟩
        simp [rnm, getN, posN]
      refine ⟨[b2], [(b2, .cells (some 1) (.ints .i64 n tf))], pub_row hg (by simp [SObj.live]) hc hb1 hrow hb2 (by simp [Ids, Idss]), ?_⟩
      simp only [List.map_cons, List.map_nil, ren, rens, renO, e, List.length_cons, List.length_nil]
      exact w3
theorem pe_25 : TyOk Tryz.prog 25 ⟨.ints .u64 29 (fun _ => 0), 29, 232, .ar 29 23 1 false, some (.ar 29 1 (.it .u64))⟩ := ⟨fun _ => by kernel_rfl, ⟨rfl, rfl, fun _ _ => by simp [Wf, Wfs]⟩, ⟨Tryz.underlying25, by kernel_rfl, by kernel_rfl⟩, fun _ h => by cases h; exact ⟨by kernel_rfl, by kernel_rfl⟩⟩
theorem pe_27 : TyOk Tryz.prog 27 ⟨.agg [.ints .u64 32 (fun _ => 0), .int .u64 0, .int .i64 0, .bool false, .ints .u64 29 (fun _ => 0), .int .u64 0], 65, 520, .st [(0, 32, true), (32, 1, false), (33, 1, false), (34, 1, false), (35, 29, true), (64, 1, false)], some (.st [(0, 32, true, .ar 32 1 (.it .u64)), (32, 1, false, .it .u64), (33, 1, false, .it .i64), (34, 1, false, .bl), (35, 29, true, .ar 29 1 (.it .u64)), (64, 1, false, .it .u64)])⟩ := ⟨fun _ => by kernel_rfl, ⟨rfl, rfl, fun _ _ => by simp [Wf, Wfs]⟩, ⟨_, Tryz.underlying27, by kernel_rfl⟩, fun _ h => by cases h; exact ⟨by kernel_rfl, by kernel_rfl⟩⟩
theorem pe_47 : TyOk Tryz.prog 47 ⟨.int .u64 0, 1, 8, .sc (.int .u64), none⟩ := ⟨fun _ => by kernel_rfl, ⟨rfl, rfl, fun _ _ => by simp [Wf, Wfs]⟩, ⟨Tryz.underlying47, rfl⟩, fun _ h => by cases h⟩
abbrev PT_z1l : TE := [(3, ⟨.int .i64 0, 1, 8, .sc (.int .i64), none⟩), (23, ⟨.int .u64 0, 1, 8, .sc (.int .u64), none⟩), (25, ⟨.ints .u64 29 (fun _ => 0), 29, 232, .ar 29 23 1 false, some (.ar 29 1 (.it .u64))⟩), (27, ⟨.agg [.ints .u64 32 (fun _ => 0), .int .u64 0, .int .i64 0, .bool false, .ints .u64 29 (fun _ => 0), .int .u64 0], 65, 520, .st [(0, 32, true), (32, 1, false), (33, 1, false), (34, 1, false), (35, 29, true), (64, 1, false)], some (.st [(0, 32, true, .ar 32 1 (.it .u64)), (32, 1, false, .it .u64), (33, 1, false, .it .i64), (34, 1, false, .bl), (35, 29, true, .ar 29 1 (.it .u64)), (64, 1, false, .it .u64)])⟩), (47, ⟨.int .u64 0, 1, 8, .sc (.int .u64), none⟩)]
theorem PT_z4z : Prg Tryz.prog PT_z1l := ⟨(.cons pe_3 (.cons pe_23 (.cons pe_25 (.cons pe_27 (.cons pe_47 (TEok.nil _)))))), by kernel_rfl⟩
noncomputable abbrev PO_z1l {α : Type}  : ORC α := []
set_option maxRecDepth 100000 in
theorem ok_z1l {α : Type}  (x0 : GState) (x1 : Int) (x2 : Int) (k : Bool → R α) : bodyL PT_z1l (PO_z1l ) [] ⟨1, []⟩ Tryz.f191 [(GState.sv x0), (.int .i64 x1), (.int .i64 x2)] emp (fun v _ => dR_ref8_Bit v k) = p_z1l  x0 x1 x2 k := by kernel_rfl
theorem mk_z1l {α : Type} {I : Imm}  : OrcOk (α := α) Tryz.prog I 191 (.pure (ad_z1l (p_z1l ))) := by
  refine orc_pureK PT_z4z (O := PO_z1l ) (OOk.nil) (L := []) ⟨1, []⟩ Tryz.func191 (by kernel_rfl) (by kernel_rfl) (by kernel_rfl) FLOk.nil ?_
  intro args k r hk
  unfold ad_z1l at hk
  split at hk <;> try (cases hk; done)
  obtain ⟨x0, rfl, hk0⟩ := GState.dec_spec hk
  obtain ⟨x1, rfl, hk1⟩ := decI_spec hk0
  obtain ⟨x2, rfl, hk2⟩ := decI_spec hk1
  have hkz := hk2
  refine ⟨by simp [Ids, Idss], fun v => dR_ref8_Bit v (fun r0 => k (.bool r0)), ?_, fun v hv => ?_⟩
  · rw [ok_z1l]; exact hkz
  · obtain ⟨r0, rfl, hv1⟩ := dR_ref8_Bit_spec hv; exact ⟨hv1, by simp [Ids, Idss]⟩
abbrev PT_z1j : TE := [(3, ⟨.int .i64 0, 1, 8, .sc (.int .i64), none⟩), (4, ⟨.bool false, 1, 1, .sc (.bool), none⟩), (23, ⟨.int .u64 0, 1, 8, .sc (.int .u64), none⟩), (25, ⟨.ints .u64 29 (fun _ => 0), 29, 232, .ar 29 23 1 false, some (.ar 29 1 (.it .u64))⟩), (27, ⟨.agg [.ints .u64 32 (fun _ => 0), .int .u64 0, .int .i64 0, .bool false, .ints .u64 29 (fun _ => 0), .int .u64 0], 65, 520, .st [(0, 32, true), (32, 1, false), (33, 1, false), (34, 1, false), (35, 29, true), (64, 1, false)], some (.st [(0, 32, true, .ar 32 1 (.it .u64)), (32, 1, false, .it .u64), (33, 1, false, .it .i64), (34, 1, false, .bl), (35, 29, true, .ar 29 1 (.it .u64)), (64, 1, false, .it .u64)])⟩), (239, ⟨.agg [.bool false, .bool false, .bool false, .bool false, .int .i64 0, .int .i64 0, .int .i64 0, .int .i64 0], 8, 40, .st [(0, 1, false), (1, 1, false), (2, 1, false), (3, 1, false), (4, 1, false), (5, 1, false), (6, 1, false), (7, 1, false)], some (.st [(0, 1, false, .bl), (1, 1, false, .bl), (2, 1, false, .bl), (3, 1, false, .bl), (4, 1, false, .it .i64), (5, 1, false, .it .i64), (6, 1, false, .it .i64), (7, 1, false, .it .i64)])⟩)]
theorem PT_z50 : Prg Tryz.prog PT_z1j := ⟨(.cons pe_3 (.cons pe_4 (.cons pe_23 (.cons pe_25 (.cons pe_27 (.cons pe_239 (TEok.nil _))))))), by kernel_rfl⟩
noncomputable abbrev PO_z1j {α : Type} (F_z1l : Sg_z1l α) : ORC α := [(191, .pure (ad_z1l F_z1l))]
set_option maxRecDepth 100000 in
theorem ok_z1j {α : Type} (F_z1l : Sg_z1l α) (x0 : GState) (x1 : Int) (x2 : Bool) (k : GAsking → R α) : bodyL PT_z1j (PO_z1j F_z1l) [] ⟨1, []⟩ Tryz.f156 [(GState.sv x0), (.int .i64 x1), (.bool x2)] emp (fun v _ => dR_ref11_Ask v k) = p_z1j F_z1l x0 x1 x2 k := by kernel_rfl
theorem mk_z1j {α : Type} {I : Imm} {F_z1l : Sg_z1l α} (h_z1l : OrcOk (α := α) Tryz.prog I 191 (.pure (ad_z1l F_z1l))) : OrcOk (α := α) Tryz.prog I 156 (.pure (ad_z1j (p_z1j F_z1l))) := by
  refine orc_pureK PT_z50 (O := PO_z1j F_z1l) (OOk.cons h_z1l (OOk.nil)) (L := []) ⟨1, []⟩ Tryz.func156 (by kernel_rfl) (by kernel_rfl) (by kernel_rfl) FLOk.nil ?_
  intro args k r hk
  unfold ad_z1j at hk
  split at hk <;> try (cases hk; done)
  obtain ⟨x0, rfl, hk0⟩ := GState.dec_spec hk
  obtain ⟨x1, rfl, hk1⟩ := decI_spec hk0
  obtain ⟨x2, rfl, hk2⟩ := decB_spec hk1
  have hkz := hk2
  refine ⟨by simp [Ids, Idss], fun v => dR_ref11_Ask v (fun r0 => k (GAsking.sv r0)), ?_, fun v hv => ?_⟩
  · rw [ok_z1j]; exact hkz
  · obtain ⟨r0, rfl, hv1⟩ := dR_ref11_Ask_spec hv; exact ⟨hv1, by simp [Ids, Idss]⟩
theorem pe_237 : TyOk Tryz.prog 237 ⟨.ints .u64 3 (fun _ => 0), 3, 24, .ar 3 23 1 false, some (.ar 3 1 (.it .u64))⟩ := ⟨fun _ => by kernel_rfl, ⟨rfl, rfl, fun _ _ => by simp [Wf, Wfs]⟩, ⟨Tryz.underlying237, by kernel_rfl, by kernel_rfl⟩, fun _ h => by cases h; exact ⟨by kernel_rfl, by kernel_rfl⟩⟩
abbrev PT_za : TE := [(23, ⟨.int .u64 0, 1, 8, .sc (.int .u64), none⟩), (237, ⟨.ints .u64 3 (fun _ => 0), 3, 24, .ar 3 23 1 false, some (.ar 3 1 (.it .u64))⟩)]
theorem PT_z51 : Prg Tryz.prog PT_za := ⟨(.cons pe_23 (.cons pe_237 (TEok.nil _))), by kernel_rfl⟩
noncomputable abbrev PO_za {α : Type}  : ORC α := []
set_option maxRecDepth 100000 in
theorem ok_za {α : Type}  (x0 : Int) (k : Int → R α) : bodyL PT_za (PO_za ) [] ⟨1, []⟩ Tryz.f157 [(.int .i64 x0)] emp (fun v _ => dR_ref11_Page v k) = p_za  x0 k := by kernel_rfl
theorem mk_za {α : Type} {I : Imm}  : OrcOk (α := α) Tryz.prog I 157 (.pure (ad_za (p_za ))) := by
  refine orc_pureK PT_z51 (O := PO_za ) (OOk.nil) (L := []) ⟨1, []⟩ Tryz.func157 (by kernel_rfl) (by kernel_rfl) (by kernel_rfl) FLOk.nil ?_
  intro args k r hk
  unfold ad_za at hk
  split at hk <;> try (cases hk; done)
  obtain ⟨x0, rfl, hk0⟩ := decI_spec hk
  have hkz := hk0
  refine ⟨by simp [Ids, Idss], fun v => dR_ref11_Page v (fun r0 => k (.int .u64 r0)), ?_, fun v hv => ?_⟩
  · rw [ok_za]; exact hkz
  · obtain ⟨r0, rfl, hv1⟩ := dR_ref11_Page_spec hv; exact ⟨hv1, by simp [Ids, Idss]⟩
abbrev PT_z9 : TE := [(23, ⟨.int .u64 0, 1, 8, .sc (.int .u64), none⟩), (237, ⟨.ints .u64 3 (fun _ => 0), 3, 24, .ar 3 23 1 false, some (.ar 3 1 (.it .u64))⟩)]
theorem PT_z52 : Prg Tryz.prog PT_z9 := ⟨(.cons pe_23 (.cons pe_237 (TEok.nil _))), by kernel_rfl⟩
noncomputable abbrev PO_z9 {α : Type}  : ORC α := []
set_option maxRecDepth 100000 in
theorem ok_z9 {α : Type}  (x0 : Int) (k : Int → R α) : bodyL PT_z9 (PO_z9 ) [] ⟨1, []⟩ Tryz.f158 [(.int .i64 x0)] emp (fun v _ => dR_ref11_GuestFault v k) = p_z9  x0 k := by kernel_rfl
theorem mk_z9 {α : Type} {I : Imm}  : OrcOk (α := α) Tryz.prog I 158 (.pure (ad_z9 (p_z9 ))) := by
  refine orc_pureK PT_z52 (O := PO_z9 ) (OOk.nil) (L := []) ⟨1, []⟩ Tryz.func158 (by kernel_rfl) (by kernel_rfl) (by kernel_rfl) FLOk.nil ?_
  intro args k r hk
  unfold ad_z9 at hk
  split at hk <;> try (cases hk; done)
  obtain ⟨x0, rfl, hk0⟩ := decI_spec hk
  have hkz := hk0
  refine ⟨by simp [Ids, Idss], fun v => dR_ref11_GuestFault v (fun r0 => k (.int .u64 r0)), ?_, fun v hv => ?_⟩
  · rw [ok_z9]; exact hkz
  · obtain ⟨r0, rfl, hv1⟩ := dR_ref11_GuestFault_spec hv; exact ⟨hv1, by simp [Ids, Idss]⟩
abbrev PT_z2 : TE := [(23, ⟨.int .u64 0, 1, 8, .sc (.int .u64), none⟩), (237, ⟨.ints .u64 3 (fun _ => 0), 3, 24, .ar 3 23 1 false, some (.ar 3 1 (.it .u64))⟩)]
theorem PT_z53 : Prg Tryz.prog PT_z2 := ⟨(.cons pe_23 (.cons pe_237 (TEok.nil _))), by kernel_rfl⟩
noncomputable abbrev PO_z2 {α : Type}  : ORC α := []
set_option maxRecDepth 100000 in
theorem ok_z2 {α : Type}  (x0 : Int) (k : Int → R α) : bodyL PT_z2 (PO_z2 ) [] ⟨1, []⟩ Tryz.f80 [(.int .i64 x0)] emp (fun v _ => dR_ref11_Bad v k) = p_z2  x0 k := by kernel_rfl
theorem mk_z2 {α : Type} {I : Imm}  : OrcOk (α := α) Tryz.prog I 80 (.pure (ad_z2 (p_z2 ))) := by
  refine orc_pureK PT_z53 (O := PO_z2 ) (OOk.nil) (L := []) ⟨1, []⟩ Tryz.func80 (by kernel_rfl) (by kernel_rfl) (by kernel_rfl) FLOk.nil ?_
  intro args k r hk
  unfold ad_z2 at hk
  split at hk <;> try (cases hk; done)
  obtain ⟨x0, rfl, hk0⟩ := decI_spec hk
  have hkz := hk0
  refine ⟨by simp [Ids, Idss], fun v => dR_ref11_Bad v (fun r0 => k (.int .u64 r0)), ?_, fun v hv => ?_⟩
  · rw [ok_z2]; exact hkz
  · obtain ⟨r0, rfl, hv1⟩ := dR_ref11_Bad_spec hv; exact ⟨hv1, by simp [Ids, Idss]⟩
abbrev PT_z7 : TE := [(3, ⟨.int .i64 0, 1, 8, .sc (.int .i64), none⟩), (5, ⟨.int .u8 0, 1, 1, .sc (.int .u8), none⟩), (23, ⟨.int .u64 0, 1, 8, .sc (.int .u64), none⟩), (156, ⟨.nils, 1, 24, .sc (.slice 5), none⟩), (203, ⟨.agg [.nils], 1, 24, .st [(0, 1, false)], none⟩)]
theorem PT_z54 : Prg Tryz.prog PT_z7 := ⟨(.cons pe_3 (.cons pe_5 (.cons pe_23 (.cons pe_156 (.cons pe_203 (TEok.nil _)))))), by kernel_rfl⟩
noncomputable abbrev PO_z7 {α : Type}  : ORC α := []
set_option maxRecDepth 100000 in
theorem ok_z7 {α : Type}  (g0 g1 : Option Nat) (x0 : (Nat → Int)) (x1 : Int) (x2 : Int) (k : Int → R α) : bodyL PT_z7 (PO_z7 ) [] ⟨1, []⟩ Tryz.f69 [.ptr 0 [], (.int .u64 x1), (.int .i64 x2)] (hp [memO 1 g0, byO g1 x0]) (fun v σ1 => dR_ref1_Mem_Code v σ1 k) = p_z7  x0 x1 x2 k := by kernel_rfl
theorem mk_z7 {α : Type} {I : Imm}  : OrcOk (α := α) Tryz.prog I 69 (.full (ad_z7 (p_z7 ))) := by
  refine orc_canonK PT_z54 (O := PO_z7 ) (OOk.nil) (L := []) ⟨1, []⟩ Tryz.func69 (by kernel_rfl) (by kernel_rfl) (by kernel_rfl) FLOk.nil ?_
  intro args σ k r hk
  unfold ad_z7 at hk
  split at hk <;> try (cases hk; done)
  obtain ⟨b, b1, g0, g1, x0, rfl, h0, h1, hne, hk0⟩ := withMem_spec hk
  obtain ⟨x1, rfl, hk1⟩ := decI_spec hk0
  obtain ⟨x2, rfl, hk2⟩ := decI_spec hk1
  have hkz := hk2
  refine ⟨[b, b1], [memO 1 g0, byO g1 x0], [.ptr 0 [], (.int .u64 x1), (.int .i64 x2)], lay_mk rfl (nodup2 hne) rfl ⟨h0, h1, trivial⟩ (by simp [AllL, Ids, Idss]) (by simp [AllL, OIds, Ids, Idss]), fun v σ1 => dR_ref1_Mem_Code v σ1 (fun r0 => k (.int .i64 r0) σ), ?_, fun v σ1 hg hv => ?_⟩
  · rw [ok_z7]; exact hkz
  · unfold dR_ref1_Mem_Code at hv
    obtain ⟨hc, hv0⟩ := bif_some hv
    obtain ⟨r0, rfl, w0⟩ := decI_spec hv0
    exact ⟨[], [], pub_keep hg (by simp [SObj.live]) hc (by simp [Ids, Idss]), w0⟩
theorem pe_36 : TyOk Tryz.prog 36 ⟨.agg [.int .u64 0, .int .u64 0, .int .u64 0, .bool false], 4, 32, .st [(0, 1, false), (1, 1, false), (2, 1, false), (3, 1, false)], some (.st [(0, 1, false, .it .u64), (1, 1, false, .it .u64), (2, 1, false, .it .u64), (3, 1, false, .bl)])⟩ := ⟨fun _ => by kernel_rfl, ⟨rfl, rfl, fun _ _ => by simp [Wf, Wfs]⟩, ⟨_, Tryz.underlying36, by kernel_rfl⟩, fun _ h => by cases h; exact ⟨by kernel_rfl, by kernel_rfl⟩⟩
theorem pe_144 : TyOk Tryz.prog 144 ⟨.agg [.int .u64 0, .agg [.bool false, .bool false, .int .i64 0, .int .i64 0, .int .i64 0, .int .i64 0, .int .i64 0, .int .i64 0, .int .i64 0], .agg [.int .u64 0, .int .u64 0, .int .u64 0, .bool false], .bool false, .nils], 16, 136, .st [(0, 1, false), (1, 9, true), (10, 4, true), (14, 1, false), (15, 1, false)], none⟩ := ⟨fun _ => by kernel_rfl, ⟨rfl, rfl, fun _ _ => by simp [Wf, Wfs]⟩, ⟨_, Tryz.underlying144, by kernel_rfl⟩, fun _ h => by cases h⟩
abbrev PT_z1e : TE := [(3, ⟨.int .i64 0, 1, 8, .sc (.int .i64), none⟩), (23, ⟨.int .u64 0, 1, 8, .sc (.int .u64), none⟩), (36, ⟨.agg [.int .u64 0, .int .u64 0, .int .u64 0, .bool false], 4, 32, .st [(0, 1, false), (1, 1, false), (2, 1, false), (3, 1, false)], some (.st [(0, 1, false, .it .u64), (1, 1, false, .it .u64), (2, 1, false, .it .u64), (3, 1, false, .bl)])⟩), (39, ⟨.nils, 1, 24, .sc (.slice 3), none⟩), (144, ⟨.agg [.int .u64 0, .agg [.bool false, .bool false, .int .i64 0, .int .i64 0, .int .i64 0, .int .i64 0, .int .i64 0, .int .i64 0, .int .i64 0], .agg [.int .u64 0, .int .u64 0, .int .u64 0, .bool false], .bool false, .nils], 16, 136, .st [(0, 1, false), (1, 9, true), (10, 4, true), (14, 1, false), (15, 1, false)], none⟩), (239, ⟨.agg [.bool false, .bool false, .bool false, .bool false, .int .i64 0, .int .i64 0, .int .i64 0, .int .i64 0], 8, 40, .st [(0, 1, false), (1, 1, false), (2, 1, false), (3, 1, false), (4, 1, false), (5, 1, false), (6, 1, false), (7, 1, false)], some (.st [(0, 1, false, .bl), (1, 1, false, .bl), (2, 1, false, .bl), (3, 1, false, .bl), (4, 1, false, .it .i64), (5, 1, false, .it .i64), (6, 1, false, .it .i64), (7, 1, false, .it .i64)])⟩)]
theorem PT_z55 : Prg Tryz.prog PT_z1e := ⟨(.cons pe_3 (.cons pe_23 (.cons pe_36 (.cons pe_39 (.cons pe_144 (.cons pe_239 (TEok.nil _))))))), by kernel_rfl⟩
noncomputable abbrev PO_z1e {α : Type} (F_zm : Sg_zm α) (F_z9 : Sg_z9 α) (F_z2 : Sg_z2 α) (F_z7 : Sg_z7 α) (F_z8 : Sg_z8 α) (F_zb : Sg_zb α) (F_za : Sg_za α) (F_z6 : Sg_z6 α) (F_z4 : Sg_z4 α) : ORC α := [(161, .full (ad_zm F_zm)), (158, .pure (ad_z9 F_z9)), (80, .pure (ad_z2 F_z2)), (69, .full (ad_z7 F_z7)), (164, .full (ad_z8 F_z8)), (247, .pure (ad_zb F_zb)), (157, .pure (ad_za F_za)), (248, .pure (ad_z6 F_z6)), (249, .pure (ad_z4 F_z4))]
set_option maxRecDepth 100000 in
theorem ok_z1e {α : Type} (F_zm : Sg_zm α) (F_z9 : Sg_z9 α) (F_z2 : Sg_z2 α) (F_z7 : Sg_z7 α) (F_z8 : Sg_z8 α) (F_zb : Sg_zb α) (F_za : Sg_za α) (F_z6 : Sg_z6 α) (F_z4 : Sg_z4 α) (g0 g1 g2 : Option Nat) (x0 : Nat → Int) (x1 : GAsking) (x2 : Int) (x3 : Int) (y0 : Int) (y1 : GEntry) (y2 : GFault) (y3 : Bool) (k : Option Nat → Int → Int → Bool → Int → GEntry → GFault → Bool → Bool → Nat → (Nat → Int) → R α) : bodyL PT_z1e (PO_z1e F_zm F_z9 F_z2 F_z7 F_z8 F_zb F_za F_z6 F_z4) [] ⟨3, []⟩ Tryz.f159 [.ptr 0 [], (GAsking.sv x1), (.int .u64 x2), (.int .i64 x3), .ptr 2 []] (hp [memO 1 g0, byO g1 x0, .cells g2 (.agg [(.int .u64 y0), (GEntry.sv y1), (GFault.sv y2), (.bool y3), .nils])]) (fun v σ1 => dR_ref11_first v σ1 k) = p_z1e F_zm F_z9 F_z2 F_z7 F_z8 F_zb F_za F_z6 F_z4 x0 x1 x2 x3 y0 y1 y2 y3 (fun r0 r1 r2 c0 c1 c2 c3 nl n tf => k g2 r0 r1 r2 c0 c1 c2 c3 nl n tf) := by kernel_rfl
theorem mk_z1e {α : Type} {I : Imm} {F_zm : Sg_zm α} {F_z9 : Sg_z9 α} {F_z2 : Sg_z2 α} {F_z7 : Sg_z7 α} {F_z8 : Sg_z8 α} {F_zb : Sg_zb α} {F_za : Sg_za α} {F_z6 : Sg_z6 α} {F_z4 : Sg_z4 α} (h_zm : OrcOk (α := α) Tryz.prog I 161 (.full (ad_zm F_zm))) (h_z9 : OrcOk (α := α) Tryz.prog I 158 (.pure (ad_z9 F_z9))) (h_z2 : OrcOk (α := α) Tryz.prog I 80 (.pure (ad_z2 F_z2))) (h_z7 : OrcOk (α := α) Tryz.prog I 69 (.full (ad_z7 F_z7))) (h_z8 : OrcOk (α := α) Tryz.prog I 164 (.full (ad_z8 F_z8))) (h_zb : OrcOk (α := α) Tryz.prog I 247 (.pure (ad_zb F_zb))) (h_za : OrcOk (α := α) Tryz.prog I 157 (.pure (ad_za F_za))) (h_z6 : OrcOk (α := α) Tryz.prog I 248 (.pure (ad_z6 F_z6))) (h_z4 : OrcOk (α := α) Tryz.prog I 249 (.pure (ad_z4 F_z4))) : OrcOk (α := α) Tryz.prog I 159 (.full (ad_z1e (p_z1e F_zm F_z9 F_z2 F_z7 F_z8 F_zb F_za F_z6 F_z4))) := by
  refine orc_canonK PT_z55 (O := PO_z1e F_zm F_z9 F_z2 F_z7 F_z8 F_zb F_za F_z6 F_z4) (OOk.cons h_zm (OOk.cons h_z9 (OOk.cons h_z2 (OOk.cons h_z7 (OOk.cons h_z8 (OOk.cons h_zb (OOk.cons h_za (OOk.cons h_z6 (OOk.cons h_z4 (OOk.nil)))))))))) (L := []) ⟨3, []⟩ Tryz.func159 (by kernel_rfl) (by kernel_rfl) (by kernel_rfl) FLOk.nil ?_
  intro args σ k r hk
  unfold ad_z1e at hk
  split at hk <;> try (cases hk; done)
  obtain ⟨b, b1, g0, g1, x0, rfl, h0, h1, hne, hk0⟩ := withMem_spec hk
  obtain ⟨c, g2, v, rfl, h2, hk1⟩ := withCell_spec hk0
  obtain ⟨hcb, hk2⟩ := bif_some hk1
  split at hk2 <;> try (cases hk2; done)
  obtain ⟨y0, rfl, hk3⟩ := decI_spec hk2
  obtain ⟨y1, rfl, hk4⟩ := GEntry.dec_spec hk3
  obtain ⟨y2, rfl, hk5⟩ := GFault.dec_spec hk4
  obtain ⟨y3, rfl, hk6⟩ := decB_spec hk5
  obtain ⟨rfl, hk7⟩ := decNil_spec hk6
  obtain ⟨x1, rfl, hk8⟩ := GAsking.dec_spec hk7
  obtain ⟨x2, rfl, hk9⟩ := decI_spec hk8
  obtain ⟨x3, rfl, hk10⟩ := decI_spec hk9
  have hkz := hk10
  simp only [Bool.and_eq_true, Bool.not_eq_true', nbeq, decide_eq_false_iff_not] at hcb
  refine ⟨[b, b1, c], [memO 1 g0, byO g1 x0, .cells g2 (.agg [(.int .u64 y0), (GEntry.sv y1), (GFault.sv y2), (.bool y3), .nils])], [.ptr 0 [], (GAsking.sv x1), (.int .u64 x2), (.int .i64 x3), .ptr 2 []], lay_mk rfl (by simp [hne, Ne.symm hcb.1, Ne.symm hcb.2]) rfl ⟨h0, h1, h2, trivial⟩ (by simp [AllL, Ids, Idss]) (by simp [AllL, OIds, Ids, Idss]), fun v σ1 => dR_ref11_first v σ1 (fun g r0 r1 r2 c0 c1 c2 c3 nl n tf => cond nl (k (.tuple [(.int .u64 r0), (.int .i64 r1), (.bool r2)]) ⟨σ.next, [(c, .cells g (.agg [(.int .u64 c0), (GEntry.sv c1), (GFault.sv c2), (.bool c3), .nils]))] ++ σ.blocks⟩) (k (.tuple [(.int .u64 r0), (.int .i64 r1), (.bool r2)]) ⟨σ.next + 1, [(c, .cells g (.agg [(.int .u64 c0), (GEntry.sv c1), (GFault.sv c2), (.bool c3), (.slc σ.next [] 1 0 n none)])), (σ.next, .cells (some 1) (.ints .i64 n tf))] ++ σ.blocks⟩)), ?_, fun v σ1 hg hv => ?_⟩
  · rw [ok_z1e]; exact hkz
  · unfold dR_ref11_first at hv
    obtain ⟨hc, hv0⟩ := bif_some hv
    split at hv0 <;> try (cases hv0; done)
    obtain ⟨r0, rfl, w0⟩ := decI_spec hv0
    obtain ⟨r1, rfl, w1⟩ := decI_spec w0
    obtain ⟨r2, rfl, w2⟩ := decB_spec w1
    obtain ⟨g, v2, hnow, w3⟩ := nowCell_spec w2
    split at w3 <;> try (cases w3; done)
    obtain ⟨c0, rfl, w4⟩ := decI_spec w3
    obtain ⟨c1, rfl, w5⟩ := GEntry.dec_spec w4
    obtain ⟨c2, rfl, w6⟩ := GFault.dec_spec w5
    obtain ⟨c3, rfl, w7⟩ := decB_spec w6
    rcases decR_spec w7 with ⟨rfl, w8⟩ | ⟨b2, n, tf, rfl, ⟨hb1, hb2⟩, hrow, w8⟩
    · skip
      exact ⟨[], _, pub_cell hg (by simp [SObj.live]) hc (by simp) hnow (by simp [Ids, Idss]) (by simp [Ids, Idss]), w8⟩
    · skip
      have hb3 : 3 ≤ b2 := hb1
      have e : rnm [b, b1, c] σ.next [b2] b2 = σ.next := by
        obtain ⟨j, rfl⟩ : ∃ j, b2 = j + 3 := ⟨b2 - 3, by omega⟩
        simp [rnm, getN, posN]
      have e2 : rnm [b, b1, c] σ.next [b2] 2 = c := rfl
      refine ⟨[b2], _, pub_cell_row hg (by simp [SObj.live]) hc (by simp) hnow hb1 hrow hb2 (by simp [Ids, Idss]) (by simp [Ids, Idss]), ?_⟩
      simp only [List.map_cons, List.map_nil, ren, rens, renO, e, e2, List.length_cons, List.length_nil]
      exact w8
theorem pe_139 : TyOk Tryz.prog 139 ⟨.agg [.bool false, .bool false, .int .i64 0, .int .i64 0, .int .i64 0, .int .i64 0, .int .i64 0, .int .i64 0, .int .i64 0], 9, 64, .st [(0, 1, false), (1, 1, false), (2, 1, false), (3, 1, false), (4, 1, false), (5, 1, false), (6, 1, false), (7, 1, false), (8, 1, false)], some (.st [(0, 1, false, .bl), (1, 1, false, .bl), (2, 1, false, .it .i64), (3, 1, false, .it .i64), (4, 1, false, .it .i64), (5, 1, false, .it .i64), (6, 1, false, .it .i64), (7, 1, false, .it .i64), (8, 1, false, .it .i64)])⟩ := ⟨fun _ => by kernel_rfl, ⟨rfl, rfl, fun _ _ => by simp [Wf, Wfs]⟩, ⟨_, Tryz.underlying139, by kernel_rfl⟩, fun _ h => by cases h; exact ⟨by kernel_rfl, by kernel_rfl⟩⟩
abbrev PT_zy : TE := [(3, ⟨.int .i64 0, 1, 8, .sc (.int .i64), none⟩), (4, ⟨.bool false, 1, 1, .sc (.bool), none⟩), (23, ⟨.int .u64 0, 1, 8, .sc (.int .u64), none⟩), (27, ⟨.agg [.ints .u64 32 (fun _ => 0), .int .u64 0, .int .i64 0, .bool false, .ints .u64 29 (fun _ => 0), .int .u64 0], 65, 520, .st [(0, 32, true), (32, 1, false), (33, 1, false), (34, 1, false), (35, 29, true), (64, 1, false)], some (.st [(0, 32, true, .ar 32 1 (.it .u64)), (32, 1, false, .it .u64), (33, 1, false, .it .i64), (34, 1, false, .bl), (35, 29, true, .ar 29 1 (.it .u64)), (64, 1, false, .it .u64)])⟩), (36, ⟨.agg [.int .u64 0, .int .u64 0, .int .u64 0, .bool false], 4, 32, .st [(0, 1, false), (1, 1, false), (2, 1, false), (3, 1, false)], some (.st [(0, 1, false, .it .u64), (1, 1, false, .it .u64), (2, 1, false, .it .u64), (3, 1, false, .bl)])⟩), (39, ⟨.nils, 1, 24, .sc (.slice 3), none⟩), (139, ⟨.agg [.bool false, .bool false, .int .i64 0, .int .i64 0, .int .i64 0, .int .i64 0, .int .i64 0, .int .i64 0, .int .i64 0], 9, 64, .st [(0, 1, false), (1, 1, false), (2, 1, false), (3, 1, false), (4, 1, false), (5, 1, false), (6, 1, false), (7, 1, false), (8, 1, false)], some (.st [(0, 1, false, .bl), (1, 1, false, .bl), (2, 1, false, .it .i64), (3, 1, false, .it .i64), (4, 1, false, .it .i64), (5, 1, false, .it .i64), (6, 1, false, .it .i64), (7, 1, false, .it .i64), (8, 1, false, .it .i64)])⟩), (144, ⟨.agg [.int .u64 0, .agg [.bool false, .bool false, .int .i64 0, .int .i64 0, .int .i64 0, .int .i64 0, .int .i64 0, .int .i64 0, .int .i64 0], .agg [.int .u64 0, .int .u64 0, .int .u64 0, .bool false], .bool false, .nils], 16, 136, .st [(0, 1, false), (1, 9, true), (10, 4, true), (14, 1, false), (15, 1, false)], none⟩), (239, ⟨.agg [.bool false, .bool false, .bool false, .bool false, .int .i64 0, .int .i64 0, .int .i64 0, .int .i64 0], 8, 40, .st [(0, 1, false), (1, 1, false), (2, 1, false), (3, 1, false), (4, 1, false), (5, 1, false), (6, 1, false), (7, 1, false)], some (.st [(0, 1, false, .bl), (1, 1, false, .bl), (2, 1, false, .bl), (3, 1, false, .bl), (4, 1, false, .it .i64), (5, 1, false, .it .i64), (6, 1, false, .it .i64), (7, 1, false, .it .i64)])⟩)]
theorem PT_z56 : Prg Tryz.prog PT_zy := ⟨(.cons pe_3 (.cons pe_4 (.cons pe_23 (.cons pe_27 (.cons pe_36 (.cons pe_39 (.cons pe_139 (.cons pe_144 (.cons pe_239 (TEok.nil _)))))))))), by kernel_rfl⟩
noncomputable abbrev PO_zy {α : Type} (F_z1j : Sg_z1j α) (F_za : Sg_za α) (F_z9 : Sg_z9 α) (F_z1e : Sg_z1e α) (F_zs : Sg_zs α) (F_zm : Sg_zm α) (F_z2 : Sg_z2 α) : ORC α := [(156, .pure (ad_z1j F_z1j)), (157, .pure (ad_za F_za)), (158, .pure (ad_z9 F_z9)), (159, .full (ad_z1e F_z1e)), (160, .pure (ad_zs F_zs)), (161, .full (ad_zm F_zm)), (80, .pure (ad_z2 F_z2))]
set_option maxRecDepth 100000 in
theorem ok_zy {α : Type} (F_z1j : Sg_z1j α) (F_za : Sg_za α) (F_z9 : Sg_z9 α) (F_z1e : Sg_z1e α) (F_zs : Sg_zs α) (F_zm : Sg_zm α) (F_z2 : Sg_z2 α) (g0 g1 : Option Nat) (x0 : (Nat → Int)) (x1 : GState) (x2 : Int) (x3 : Int) (x4 : Int) (x5 : Bool) (x6 : Bool) (k : Int → GEntry → GFault → Bool → Bool → Nat → (Nat → Int) → R α) : bodyL PT_zy (PO_zy F_z1j F_za F_z9 F_z1e F_zs F_zm F_z2) [] ⟨1, []⟩ Tryz.f82 [.ptr 0 [], (GState.sv x1), (.int .u64 x2), (.int .i64 x3), (.int .i64 x4), (.bool x5), (.bool x6)] (hp [memO 1 g0, byO g1 x0]) (fun v σ1 => dR_ref11_Translate v σ1 k) = p_zy F_z1j F_za F_z9 F_z1e F_zs F_zm F_z2 x0 x1 x2 x3 x4 x5 x6 k := by kernel_rfl
theorem mk_zy {α : Type} {I : Imm} {F_z1j : Sg_z1j α} {F_za : Sg_za α} {F_z9 : Sg_z9 α} {F_z1e : Sg_z1e α} {F_zs : Sg_zs α} {F_zm : Sg_zm α} {F_z2 : Sg_z2 α} (h_z1j : OrcOk (α := α) Tryz.prog I 156 (.pure (ad_z1j F_z1j))) (h_za : OrcOk (α := α) Tryz.prog I 157 (.pure (ad_za F_za))) (h_z9 : OrcOk (α := α) Tryz.prog I 158 (.pure (ad_z9 F_z9))) (h_z1e : OrcOk (α := α) Tryz.prog I 159 (.full (ad_z1e F_z1e))) (h_zs : OrcOk (α := α) Tryz.prog I 160 (.pure (ad_zs F_zs))) (h_zm : OrcOk (α := α) Tryz.prog I 161 (.full (ad_zm F_zm))) (h_z2 : OrcOk (α := α) Tryz.prog I 80 (.pure (ad_z2 F_z2))) : OrcOk (α := α) Tryz.prog I 82 (.full (ad_zy (p_zy F_z1j F_za F_z9 F_z1e F_zs F_zm F_z2))) := by
  refine orc_canonK PT_z56 (O := PO_zy F_z1j F_za F_z9 F_z1e F_zs F_zm F_z2) (OOk.cons h_z1j (OOk.cons h_za (OOk.cons h_z9 (OOk.cons h_z1e (OOk.cons h_zs (OOk.cons h_zm (OOk.cons h_z2 (OOk.nil)))))))) (L := []) ⟨1, []⟩ Tryz.func82 (by kernel_rfl) (by kernel_rfl) (by kernel_rfl) FLOk.nil ?_
  intro args σ k r hk
  unfold ad_zy at hk
  split at hk <;> try (cases hk; done)
  obtain ⟨b, b1, g0, g1, x0, rfl, h0, h1, hne, hk0⟩ := withMem_spec hk
  obtain ⟨x1, rfl, hk1⟩ := GState.dec_spec hk0
  obtain ⟨x2, rfl, hk2⟩ := decI_spec hk1
  obtain ⟨x3, rfl, hk3⟩ := decI_spec hk2
  obtain ⟨x4, rfl, hk4⟩ := decI_spec hk3
  obtain ⟨x5, rfl, hk5⟩ := decB_spec hk4
  obtain ⟨x6, rfl, hk6⟩ := decB_spec hk5
  have hkz := hk6
  refine ⟨[b, b1], [memO 1 g0, byO g1 x0], [.ptr 0 [], (GState.sv x1), (.int .u64 x2), (.int .i64 x3), (.int .i64 x4), (.bool x5), (.bool x6)], lay_mk rfl (nodup2 hne) rfl ⟨h0, h1, trivial⟩ (by simp [AllL, Ids, Idss]) (by simp [AllL, OIds, Ids, Idss]), fun v σ1 => dR_ref11_Translate v σ1 (fun r0 r1 r2 r3 nl n tf => cond nl (k (.agg [(.int .u64 r0), (GEntry.sv r1), (GFault.sv r2), (.bool r3), .nils]) σ) (k (.agg [(.int .u64 r0), (GEntry.sv r1), (GFault.sv r2), (.bool r3), (.slc σ.next [] 1 0 n none)]) ⟨σ.next + 1, [(σ.next, .cells (some 1) (.ints .i64 n tf))] ++ σ.blocks⟩)), ?_, fun v σ1 hg hv => ?_⟩
  · rw [ok_zy]; exact hkz
  · unfold dR_ref11_Translate at hv
    obtain ⟨hc, hv0⟩ := bif_some hv
    split at hv0 <;> try (cases hv0; done)
    obtain ⟨r0, rfl, w0⟩ := decI_spec hv0
    obtain ⟨r1, rfl, w1⟩ := GEntry.dec_spec w0
    obtain ⟨r2, rfl, w2⟩ := GFault.dec_spec w1
    obtain ⟨r3, rfl, w3⟩ := decB_spec w2
    rcases decR_spec w3 with ⟨rfl, w4⟩ | ⟨b2, n, tf, rfl, ⟨hb1, hb2⟩, hrow, w4⟩
    · skip
      exact ⟨[], [], pub_keep hg (by simp [SObj.live]) hc (by simp [Ids, Idss]), w4⟩
    · skip
      have hb3 : 2 ≤ b2 := hb1
      have e : rnm [b, b1] σ.next [b2] b2 = σ.next := by
        obtain ⟨j, rfl⟩ : ∃ j, b2 = j + 2 := ⟨b2 - 2, by omega⟩
        simp [rnm, getN, posN]
      refine ⟨[b2], [(b2, .cells (some 1) (.ints .i64 n tf))], pub_row hg (by simp [SObj.live]) hc hb1 hrow hb2 (by simp [Ids, Idss]), ?_⟩
      simp only [List.map_cons, List.map_nil, ren, rens, renO, e, List.length_cons, List.length_nil]
      exact w4
abbrev PT_z1 : TE := [(3, ⟨.int .i64 0, 1, 8, .sc (.int .i64), none⟩), (39, ⟨.nils, 1, 24, .sc (.slice 3), none⟩)]
theorem PT_z57 : Prg Tryz.prog PT_z1 := ⟨(.cons pe_3 (.cons pe_39 (TEok.nil _))), by kernel_rfl⟩
abbrev PT_ref8_bits : TE := [(3, ⟨.int .i64 0, 1, 8, .sc (.int .i64), none⟩), (23, ⟨.int .u64 0, 1, 8, .sc (.int .u64), none⟩), (39, ⟨.nils, 1, 24, .sc (.slice 3), none⟩), (47, ⟨.int .u64 0, 1, 8, .sc (.int .u64), none⟩)]
theorem PT_ref8_bits_ok : Prg Tryz.prog PT_ref8_bits := ⟨(.cons pe_3 (.cons pe_23 (.cons pe_39 (.cons pe_47 (TEok.nil _))))), by kernel_rfl⟩
noncomputable abbrev B_z3a {α : Type}  : FF α := byBody PT_ref8_bits [] ⟨18, []⟩ Tryz.f145
theorem cB_z3a {α : Type} {I : Imm}  : OrcOk (α := α) Tryz.prog I 145 (.full (B_z3a )) := orc_body PT_ref8_bits_ok (OOk.nil) ⟨18, []⟩ Tryz.func145 (by kernel_rfl) (by kernel_rfl) (by kernel_rfl)
noncomputable abbrev PO_z1 {α : Type}  : ORC α := [(145, .full (B_z3a ))]
set_option maxRecDepth 100000 in
theorem ok_z1 {α : Type}  (x0 : Int) (k : Int → R α) : bodyL PT_z1 (PO_z1 ) [] ⟨18, []⟩ Tryz.f75 [(.int .i64 x0)] emp (fun v _ => dR_ref8_Mask v k) = p_z1  x0 k := by kernel_rfl
theorem mk_z1 {α : Type} {I : Imm}  : OrcOk (α := α) Tryz.prog I 75 (.pure (ad_z1 (p_z1 ))) := by
  refine orc_pureK PT_z57 (O := PO_z1 ) (OOk.cons (cB_z3a ) (OOk.nil)) (L := []) ⟨18, []⟩ Tryz.func75 (by kernel_rfl) (by kernel_rfl) (by kernel_rfl) FLOk.nil ?_
  intro args k r hk
  unfold ad_z1 at hk
  split at hk <;> try (cases hk; done)
  obtain ⟨x0, rfl, hk0⟩ := decI_spec hk
  have hkz := hk0
  refine ⟨by simp [Ids, Idss], fun v => dR_ref8_Mask v (fun r0 => k (.int .u64 r0)), ?_, fun v hv => ?_⟩
  · rw [ok_z1]; exact hkz
  · obtain ⟨r0, rfl, hv1⟩ := dR_ref8_Mask_spec hv; exact ⟨hv1, by simp [Ids, Idss]⟩
abbrev PT_z17 : TE := [(23, ⟨.int .u64 0, 1, 8, .sc (.int .u64), none⟩)]
theorem PT_z58 : Prg Tryz.prog PT_z17 := ⟨(.cons pe_23 (TEok.nil _)), by kernel_rfl⟩
noncomputable abbrev PO_z17 {α : Type}  : ORC α := []
set_option maxRecDepth 100000 in
theorem ok_z17 {α : Type}  (x0 : Int) (k : Int → R α) : bodyL PT_z17 (PO_z17 ) [] ⟨1, []⟩ Tryz.f76 [(.int .u64 x0)] emp (fun v _ => dR_ref8_Mpp v k) = p_z17  x0 k := by kernel_rfl
theorem mk_z17 {α : Type} {I : Imm}  : OrcOk (α := α) Tryz.prog I 76 (.pure (ad_z17 (p_z17 ))) := by
  refine orc_pureK PT_z58 (O := PO_z17 ) (OOk.nil) (L := []) ⟨1, []⟩ Tryz.func76 (by kernel_rfl) (by kernel_rfl) (by kernel_rfl) FLOk.nil ?_
  intro args k r hk
  unfold ad_z17 at hk
  split at hk <;> try (cases hk; done)
  obtain ⟨x0, rfl, hk0⟩ := decI_spec hk
  have hkz := hk0
  refine ⟨by simp [Ids, Idss], fun v => dR_ref8_Mpp v (fun r0 => k (.int .u64 r0)), ?_, fun v hv => ?_⟩
  · rw [ok_z17]; exact hkz
  · obtain ⟨r0, rfl, hv1⟩ := dR_ref8_Mpp_spec hv; exact ⟨hv1, by simp [Ids, Idss]⟩
theorem pe_24 : TyOk Tryz.prog 24 ⟨.ints .u64 32 (fun _ => 0), 32, 256, .ar 32 23 1 false, some (.ar 32 1 (.it .u64))⟩ := ⟨fun _ => by kernel_rfl, ⟨rfl, rfl, fun _ _ => by simp [Wf, Wfs]⟩, ⟨Tryz.underlying24, by kernel_rfl, by kernel_rfl⟩, fun _ h => by cases h; exact ⟨by kernel_rfl, by kernel_rfl⟩⟩
abbrev PT_z1h : TE := [(3, ⟨.int .i64 0, 1, 8, .sc (.int .i64), none⟩), (4, ⟨.bool false, 1, 1, .sc (.bool), none⟩), (23, ⟨.int .u64 0, 1, 8, .sc (.int .u64), none⟩), (24, ⟨.ints .u64 32 (fun _ => 0), 32, 256, .ar 32 23 1 false, some (.ar 32 1 (.it .u64))⟩), (25, ⟨.ints .u64 29 (fun _ => 0), 29, 232, .ar 29 23 1 false, some (.ar 29 1 (.it .u64))⟩), (27, ⟨.agg [.ints .u64 32 (fun _ => 0), .int .u64 0, .int .i64 0, .bool false, .ints .u64 29 (fun _ => 0), .int .u64 0], 65, 520, .st [(0, 32, true), (32, 1, false), (33, 1, false), (34, 1, false), (35, 29, true), (64, 1, false)], some (.st [(0, 32, true, .ar 32 1 (.it .u64)), (32, 1, false, .it .u64), (33, 1, false, .it .i64), (34, 1, false, .bl), (35, 29, true, .ar 29 1 (.it .u64)), (64, 1, false, .it .u64)])⟩)]
theorem PT_z59 : Prg Tryz.prog PT_z1h := ⟨(.cons pe_3 (.cons pe_4 (.cons pe_23 (.cons pe_24 (.cons pe_25 (.cons pe_27 (TEok.nil _))))))), by kernel_rfl⟩
noncomputable abbrev PO_z1h {α : Type} (F_z1 : Sg_z1 α) (F_z17 : Sg_z17 α) : ORC α := [(75, .pure (ad_z1 F_z1)), (76, .pure (ad_z17 F_z17))]
set_option maxRecDepth 100000 in
theorem ok_z1h {α : Type} (F_z1 : Sg_z1 α) (F_z17 : Sg_z17 α) (x0 : GState) (k : GState → R α) : bodyL PT_z1h (PO_z1h F_z1 F_z17) [] ⟨30, []⟩ Tryz.f23 [(GState.sv x0)] emp (fun v _ => dR_ref18_Clean v k) = p_z1h F_z1 F_z17 x0 k := by kernel_rfl
theorem mk_z1h {α : Type} {I : Imm} {F_z1 : Sg_z1 α} {F_z17 : Sg_z17 α} (h_z1 : OrcOk (α := α) Tryz.prog I 75 (.pure (ad_z1 F_z1))) (h_z17 : OrcOk (α := α) Tryz.prog I 76 (.pure (ad_z17 F_z17))) : OrcOk (α := α) Tryz.prog I 23 (.pure (ad_z1h (p_z1h F_z1 F_z17))) := by
  refine orc_pureK PT_z59 (O := PO_z1h F_z1 F_z17) (OOk.cons h_z1 (OOk.cons h_z17 (OOk.nil))) (L := []) ⟨30, []⟩ Tryz.func23 (by kernel_rfl) (by kernel_rfl) (by kernel_rfl) FLOk.nil ?_
  intro args k r hk
  unfold ad_z1h at hk
  split at hk <;> try (cases hk; done)
  obtain ⟨x0, rfl, hk0⟩ := GState.dec_spec hk
  have hkz := hk0
  refine ⟨by simp [Ids, Idss], fun v => dR_ref18_Clean v (fun r0 => k (GState.sv r0)), ?_, fun v hv => ?_⟩
  · rw [ok_z1h]; exact hkz
  · obtain ⟨r0, rfl, hv1⟩ := dR_ref18_Clean_spec hv; exact ⟨hv1, by simp [Ids, Idss]⟩
abbrev PT_zk : TE := [(3, ⟨.int .i64 0, 1, 8, .sc (.int .i64), none⟩), (5, ⟨.int .u8 0, 1, 1, .sc (.int .u8), none⟩), (23, ⟨.int .u64 0, 1, 8, .sc (.int .u64), none⟩), (47, ⟨.int .u64 0, 1, 8, .sc (.int .u64), none⟩), (156, ⟨.nils, 1, 24, .sc (.slice 5), none⟩), (203, ⟨.agg [.nils], 1, 24, .st [(0, 1, false)], none⟩)]
theorem PT_z5a : Prg Tryz.prog PT_zk := ⟨(.cons pe_3 (.cons pe_5 (.cons pe_23 (.cons pe_47 (.cons pe_156 (.cons pe_203 (TEok.nil _))))))), by kernel_rfl⟩
noncomputable abbrev PO_zk {α : Type}  : ORC α := []
set_option maxRecDepth 100000 in
theorem ok_z2t {α : Type}  (g0 g1 : Option Nat) (x0 : (Nat → Int)) (x1 : Int) (x3 : Int) (k : Option Nat → (Nat → Int) → R α) : bodyL PT_zk (PO_zk ) [] ⟨9, []⟩ Tryz.f71 [.ptr 0 [], (.int .u64 x1), (.int .i64 8), (.int .u64 x3)] (hp [memO 1 g0, byO g1 x0]) (fun v σ1 => dR_ref1_Mem_Write v σ1 k) = p_z2t  x0 x1 x3 (fun fm => k g1 fm) := by kernel_rfl
set_option maxRecDepth 100000 in
theorem ok_z2u {α : Type}  (g0 g1 : Option Nat) (x0 : (Nat → Int)) (x1 : Int) (x3 : Int) (k : Option Nat → (Nat → Int) → R α) : bodyL PT_zk (PO_zk ) [] ⟨9, []⟩ Tryz.f71 [.ptr 0 [], (.int .u64 x1), (.int .i64 4), (.int .u64 x3)] (hp [memO 1 g0, byO g1 x0]) (fun v σ1 => dR_ref1_Mem_Write v σ1 k) = p_z2u  x0 x1 x3 (fun fm => k g1 fm) := by kernel_rfl
set_option maxRecDepth 100000 in
theorem ok_z2v {α : Type}  (g0 g1 : Option Nat) (x0 : (Nat → Int)) (x1 : Int) (x3 : Int) (k : Option Nat → (Nat → Int) → R α) : bodyL PT_zk (PO_zk ) [] ⟨9, []⟩ Tryz.f71 [.ptr 0 [], (.int .u64 x1), (.int .i64 2), (.int .u64 x3)] (hp [memO 1 g0, byO g1 x0]) (fun v σ1 => dR_ref1_Mem_Write v σ1 k) = p_z2v  x0 x1 x3 (fun fm => k g1 fm) := by kernel_rfl
set_option maxRecDepth 100000 in
theorem ok_z2w {α : Type}  (g0 g1 : Option Nat) (x0 : (Nat → Int)) (x1 : Int) (x3 : Int) (k : Option Nat → (Nat → Int) → R α) : bodyL PT_zk (PO_zk ) [] ⟨9, []⟩ Tryz.f71 [.ptr 0 [], (.int .u64 x1), (.int .i64 1), (.int .u64 x3)] (hp [memO 1 g0, byO g1 x0]) (fun v σ1 => dR_ref1_Mem_Write v σ1 k) = p_z2w  x0 x1 x3 (fun fm => k g1 fm) := by kernel_rfl
theorem ok_zk {α : Type}  {g0 g1 : Option Nat} {x0 : (Nat → Int)} {x1 : Int} {x2 : Int} {x3 : Int} {k : Option Nat → (Nat → Int) → R α} {r : α} (h : p_zk  x0 x1 x2 x3 (fun fm => k g1 fm) = some r) : bodyL PT_zk (PO_zk ) [] ⟨9, []⟩ Tryz.f71 [.ptr 0 [], (.int .u64 x1), (.int .i64 x2), (.int .u64 x3)] (hp [memO 1 g0, byO g1 x0]) (fun v σ1 => dR_ref1_Mem_Write v σ1 k) = some r := by
  unfold p_zk at h
  cases e0 : (x2 == 8)
  case true => rw [e0] at h; simp only [cond_true] at h; rw [beq_iff_eq] at e0; subst e0; exact (ok_z2t  g0 g1 x0 x1 x3 k).trans h
  rw [e0] at h; simp only [cond_false] at h
  cases e1 : (x2 == 4)
  case true => rw [e1] at h; simp only [cond_true] at h; rw [beq_iff_eq] at e1; subst e1; exact (ok_z2u  g0 g1 x0 x1 x3 k).trans h
  rw [e1] at h; simp only [cond_false] at h
  cases e2 : (x2 == 2)
  case true => rw [e2] at h; simp only [cond_true] at h; rw [beq_iff_eq] at e2; subst e2; exact (ok_z2v  g0 g1 x0 x1 x3 k).trans h
  rw [e2] at h; simp only [cond_false] at h
  cases e3 : (x2 == 1)
  case true => rw [e3] at h; simp only [cond_true] at h; rw [beq_iff_eq] at e3; subst e3; exact (ok_z2w  g0 g1 x0 x1 x3 k).trans h
  rw [e3] at h; simp only [cond_false] at h
  cases h
theorem mk_zk {α : Type} {I : Imm}  : OrcOk (α := α) Tryz.prog I 71 (.full (ad_zk (p_zk ))) := by
  refine orc_canonK PT_z5a (O := PO_zk ) (OOk.nil) (L := []) ⟨9, []⟩ Tryz.func71 (by kernel_rfl) (by kernel_rfl) (by kernel_rfl) FLOk.nil ?_
  intro args σ k r hk
  unfold ad_zk at hk
  split at hk <;> try (cases hk; done)
  obtain ⟨b, b1, g0, g1, x0, rfl, h0, h1, hne, hk0⟩ := withMem_spec hk
  obtain ⟨x1, rfl, hk1⟩ := decI_spec hk0
  obtain ⟨x2, rfl, hk2⟩ := decI_spec hk1
  obtain ⟨x3, rfl, hk3⟩ := decI_spec hk2
  have hkz := hk3
  refine ⟨[b, b1], [memO 1 g0, byO g1 x0], [.ptr 0 [], (.int .u64 x1), (.int .i64 x2), (.int .u64 x3)], lay_mk rfl (nodup2 hne) rfl ⟨h0, h1, trivial⟩ (by simp [AllL, Ids, Idss]) (by simp [AllL, OIds, Ids, Idss]), fun v σ1 => dR_ref1_Mem_Write v σ1 (fun g fm => k (.tuple []) ⟨σ.next, [(b1, byO g fm)] ++ σ.blocks⟩), ?_, fun v σ1 hg hv => ?_⟩
  · exact ok_zk hkz
  · unfold dR_ref1_Mem_Write at hv
    obtain ⟨hc, hv0⟩ := bif_some hv
    obtain ⟨g, fm, hnow, hv1⟩ := nowAt_spec hv0
    split at hv1 <;> try (cases hv1; done)
    exact ⟨[], [(1, byO g fm)], pub_write hg (by simp [SObj.live]) hc (by simp) hnow (by simp [Ids, Idss]), hv1⟩
end Go.Proofs.YtemkfjnmaljmeaaGreat
