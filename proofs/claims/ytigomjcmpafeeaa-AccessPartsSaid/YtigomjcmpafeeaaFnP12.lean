/-
  The document of layers 1, 8, 11, 18 (printed by wip/pr/pr.py): the functions come to just that.
-/
import Derived.Test.YtigomjcmpafeeaaProg
import Derived.Test.YtigomjcmpafeeaaSpP12
namespace Go.Proofs.Ytigomjcmpafeeaa
open Go Go.Sh Go.Proofs
set_option linter.unusedVariables false
set_option linter.unusedSimpArgs false
theorem pe_3 : TyOk Try.prog 3 ⟨.int .i64 0, 1, 8, .sc (.int .i64), none⟩ := ⟨fun _ => by kernel_rfl, ⟨rfl, rfl, fun _ _ => by simp [Wf, Wfs]⟩, ⟨Try.underlying3, rfl⟩, fun _ h => by cases h⟩
theorem pe_5 : TyOk Try.prog 5 ⟨.int .u8 0, 1, 1, .sc (.int .u8), none⟩ := ⟨fun _ => by kernel_rfl, ⟨rfl, rfl, fun _ _ => by simp [Wf, Wfs]⟩, ⟨Try.underlying5, rfl⟩, fun _ h => by cases h⟩
theorem pe_33 : TyOk Try.prog 33 ⟨.int .u64 0, 1, 8, .sc (.int .u64), none⟩ := ⟨fun _ => by kernel_rfl, ⟨rfl, rfl, fun _ _ => by simp [Wf, Wfs]⟩, ⟨Try.underlying33, rfl⟩, fun _ h => by cases h⟩
theorem pe_37 : TyOk Try.prog 37 ⟨.nils, 1, 24, .sc (.slice 5), none⟩ := ⟨fun _ => by kernel_rfl, ⟨rfl, rfl, fun _ _ => by simp [Wf, Wfs]⟩, ⟨Try.underlying37, rfl⟩, fun _ h => by cases h⟩
theorem pe_168 : TyOk Try.prog 168 ⟨.agg [.nils], 1, 24, .st [(0, 1, false)], none⟩ := ⟨fun _ => by kernel_rfl, ⟨rfl, rfl, fun _ _ => by simp [Wf, Wfs]⟩, ⟨_, Try.underlying168, by kernel_rfl⟩, fun _ h => by cases h⟩
abbrev PT_ref1_Mem_Read : TE := [(3, ⟨.int .i64 0, 1, 8, .sc (.int .i64), none⟩), (5, ⟨.int .u8 0, 1, 1, .sc (.int .u8), none⟩), (33, ⟨.int .u64 0, 1, 8, .sc (.int .u64), none⟩), (37, ⟨.nils, 1, 24, .sc (.slice 5), none⟩), (168, ⟨.agg [.nils], 1, 24, .st [(0, 1, false)], none⟩)]
theorem PT_ref1_Mem_Read_ok : Prg Try.prog PT_ref1_Mem_Read := ⟨(.cons pe_3 (.cons pe_5 (.cons pe_33 (.cons pe_37 (.cons pe_168 (TEok.nil _)))))), by kernel_rfl⟩

noncomputable abbrev PO_ref1_Mem_Read {α : Type}  : ORC α := []
set_option maxRecDepth 100000 in
theorem ok_ref1_Mem_Read_8 {α : Type}  (g0 g1 : Option Nat) (x0 : (Nat → Int)) (x1 : Int) (k : Int → R α) : bodyL PT_ref1_Mem_Read (PO_ref1_Mem_Read ) [] ⟨9, []⟩ Try.f97 [.ptr 0 [], (.int .u64 x1), (.int .i64 8)] (hp [memO 1 g0, byO g1 x0]) (fun v σ1 => dR_ref1_Mem_Read v σ1 k) = p_ref1_Mem_Read_8  x0 x1 k := by kernel_rfl
set_option maxRecDepth 100000 in
theorem ok_ref1_Mem_Read_4 {α : Type}  (g0 g1 : Option Nat) (x0 : (Nat → Int)) (x1 : Int) (k : Int → R α) : bodyL PT_ref1_Mem_Read (PO_ref1_Mem_Read ) [] ⟨9, []⟩ Try.f97 [.ptr 0 [], (.int .u64 x1), (.int .i64 4)] (hp [memO 1 g0, byO g1 x0]) (fun v σ1 => dR_ref1_Mem_Read v σ1 k) = p_ref1_Mem_Read_4  x0 x1 k := by kernel_rfl
set_option maxRecDepth 100000 in
theorem ok_ref1_Mem_Read_2 {α : Type}  (g0 g1 : Option Nat) (x0 : (Nat → Int)) (x1 : Int) (k : Int → R α) : bodyL PT_ref1_Mem_Read (PO_ref1_Mem_Read ) [] ⟨9, []⟩ Try.f97 [.ptr 0 [], (.int .u64 x1), (.int .i64 2)] (hp [memO 1 g0, byO g1 x0]) (fun v σ1 => dR_ref1_Mem_Read v σ1 k) = p_ref1_Mem_Read_2  x0 x1 k := by kernel_rfl
set_option maxRecDepth 100000 in
theorem ok_ref1_Mem_Read_1 {α : Type}  (g0 g1 : Option Nat) (x0 : (Nat → Int)) (x1 : Int) (k : Int → R α) : bodyL PT_ref1_Mem_Read (PO_ref1_Mem_Read ) [] ⟨9, []⟩ Try.f97 [.ptr 0 [], (.int .u64 x1), (.int .i64 1)] (hp [memO 1 g0, byO g1 x0]) (fun v σ1 => dR_ref1_Mem_Read v σ1 k) = p_ref1_Mem_Read_1  x0 x1 k := by kernel_rfl
theorem ok_ref1_Mem_Read {α : Type}  {g0 g1 : Option Nat} {x0 : (Nat → Int)} {x1 : Int} {x2 : Int} {k : Int → R α} {r : α} (h : p_ref1_Mem_Read  x0 x1 x2 k = some r) : bodyL PT_ref1_Mem_Read (PO_ref1_Mem_Read ) [] ⟨9, []⟩ Try.f97 [.ptr 0 [], (.int .u64 x1), (.int .i64 x2)] (hp [memO 1 g0, byO g1 x0]) (fun v σ1 => dR_ref1_Mem_Read v σ1 k) = some r := by
  unfold p_ref1_Mem_Read at h
  cases e0 : (x2 == 8)
  case true => rw [e0] at h; simp only [cond_true] at h; rw [beq_iff_eq] at e0; subst e0; exact (ok_ref1_Mem_Read_8  g0 g1 x0 x1 k).trans h
  rw [e0] at h; simp only [cond_false] at h
  cases e1 : (x2 == 4)
  case true => rw [e1] at h; simp only [cond_true] at h; rw [beq_iff_eq] at e1; subst e1; exact (ok_ref1_Mem_Read_4  g0 g1 x0 x1 k).trans h
  rw [e1] at h; simp only [cond_false] at h
  cases e2 : (x2 == 2)
  case true => rw [e2] at h; simp only [cond_true] at h; rw [beq_iff_eq] at e2; subst e2; exact (ok_ref1_Mem_Read_2  g0 g1 x0 x1 k).trans h
  rw [e2] at h; simp only [cond_false] at h
  cases e3 : (x2 == 1)
  case true => rw [e3] at h; simp only [cond_true] at h; rw [beq_iff_eq] at e3; subst e3; exact (ok_ref1_Mem_Read_1  g0 g1 x0 x1 k).trans h
  rw [e3] at h; simp only [cond_false] at h
  cases h
theorem mk_ref1_Mem_Read {α : Type} {I : Imm}  : OrcOk (α := α) Try.prog I 97 (.full (ad_ref1_Mem_Read (p_ref1_Mem_Read ))) := by
  refine orc_canonK PT_ref1_Mem_Read_ok (O := PO_ref1_Mem_Read ) (OOk.nil) (L := []) ⟨9, []⟩ Try.func97 (by kernel_rfl) (by kernel_rfl) (by kernel_rfl) FLOk.nil ?_
  intro args σ k r hk
  unfold ad_ref1_Mem_Read at hk
  split at hk <;> try (cases hk; done)
  obtain ⟨b, b1, g0, g1, x0, rfl, h0, h1, hne, hk0⟩ := withMem_spec hk
  obtain ⟨x1, rfl, hk1⟩ := decI_spec hk0
  obtain ⟨x2, rfl, hk2⟩ := decI_spec hk1
  have hkz := hk2
  refine ⟨[b, b1], [memO 1 g0, byO g1 x0], [.ptr 0 [], (.int .u64 x1), (.int .i64 x2)], lay_mk rfl (nodup2 hne) rfl ⟨h0, h1, trivial⟩ (by simp [AllL, Ids, Idss]) (by simp [AllL, OIds, Ids, Idss]), fun v σ1 => dR_ref1_Mem_Read v σ1 (fun r0 => k (.int .u64 r0) σ), ?_, fun v σ1 hg hv => ?_⟩
  · exact ok_ref1_Mem_Read hkz
  · unfold dR_ref1_Mem_Read at hv
    obtain ⟨hc, hv0⟩ := bif_some hv
    obtain ⟨r0, rfl, w0⟩ := decI_spec hv0
    exact ⟨[], [], pub_keep hg (by simp [SObj.live]) hc (by simp [Ids, Idss]), w0⟩
abbrev PT_ref11_Entry : TE := [(3, ⟨.int .i64 0, 1, 8, .sc (.int .i64), none⟩), (5, ⟨.int .u8 0, 1, 1, .sc (.int .u8), none⟩), (33, ⟨.int .u64 0, 1, 8, .sc (.int .u64), none⟩), (37, ⟨.nils, 1, 24, .sc (.slice 5), none⟩), (168, ⟨.agg [.nils], 1, 24, .st [(0, 1, false)], none⟩)]
theorem PT_ref11_Entry_ok : Prg Try.prog PT_ref11_Entry := ⟨(.cons pe_3 (.cons pe_5 (.cons pe_33 (.cons pe_37 (.cons pe_168 (TEok.nil _)))))), by kernel_rfl⟩

noncomputable abbrev PO_ref11_Entry {α : Type} (F_ref1_Mem_Read : Sg_ref1_Mem_Read α) : ORC α := [(97, .full (ad_ref1_Mem_Read F_ref1_Mem_Read))]
set_option maxRecDepth 100000 in
theorem ok_ref11_Entry {α : Type} (F_ref1_Mem_Read : Sg_ref1_Mem_Read α) (g0 g1 : Option Nat) (x0 : (Nat → Int)) (x1 : Int) (x2 : Int) (k : Int → Bool → R α) : bodyL PT_ref11_Entry (PO_ref11_Entry F_ref1_Mem_Read) [] ⟨1, []⟩ Try.f101 [.ptr 0 [], (.int .i64 x1), (.int .i64 x2)] (hp [memO 1 g0, byO g1 x0]) (fun v σ1 => dR_ref11_Entry v σ1 k) = p_ref11_Entry F_ref1_Mem_Read x0 x1 x2 k := by kernel_rfl
theorem mk_ref11_Entry {α : Type} {I : Imm} {F_ref1_Mem_Read : Sg_ref1_Mem_Read α} (h_ref1_Mem_Read : OrcOk (α := α) Try.prog I 97 (.full (ad_ref1_Mem_Read F_ref1_Mem_Read))) : OrcOk (α := α) Try.prog I 101 (.full (ad_ref11_Entry (p_ref11_Entry F_ref1_Mem_Read))) := by
  refine orc_canonK PT_ref11_Entry_ok (O := PO_ref11_Entry F_ref1_Mem_Read) (OOk.cons h_ref1_Mem_Read (OOk.nil)) (L := []) ⟨1, []⟩ Try.func101 (by kernel_rfl) (by kernel_rfl) (by kernel_rfl) FLOk.nil ?_
  intro args σ k r hk
  unfold ad_ref11_Entry at hk
  split at hk <;> try (cases hk; done)
  obtain ⟨b, b1, g0, g1, x0, rfl, h0, h1, hne, hk0⟩ := withMem_spec hk
  obtain ⟨x1, rfl, hk1⟩ := decI_spec hk0
  obtain ⟨x2, rfl, hk2⟩ := decI_spec hk1
  have hkz := hk2
  refine ⟨[b, b1], [memO 1 g0, byO g1 x0], [.ptr 0 [], (.int .i64 x1), (.int .i64 x2)], lay_mk rfl (nodup2 hne) rfl ⟨h0, h1, trivial⟩ (by simp [AllL, Ids, Idss]) (by simp [AllL, OIds, Ids, Idss]), fun v σ1 => dR_ref11_Entry v σ1 (fun r0 r1 => k (.tuple [(.int .u64 r0), (.bool r1)]) σ), ?_, fun v σ1 hg hv => ?_⟩
  · rw [ok_ref11_Entry]; exact hkz
  · unfold dR_ref11_Entry at hv
    obtain ⟨hc, hv0⟩ := bif_some hv
    split at hv0 <;> try (cases hv0; done)
    obtain ⟨r0, rfl, w0⟩ := decI_spec hv0
    obtain ⟨r1, rfl, w1⟩ := decB_spec w0
    exact ⟨[], [], pub_keep hg (by simp [SObj.live]) hc (by simp [Ids, Idss]), w1⟩
abbrev PT_ref11_Is : TE := [(33, ⟨.int .u64 0, 1, 8, .sc (.int .u64), none⟩)]
theorem PT_ref11_Is_ok : Prg Try.prog PT_ref11_Is := ⟨(.cons pe_33 (TEok.nil _)), by kernel_rfl⟩

noncomputable abbrev PO_ref11_Is {α : Type}  : ORC α := []
set_option maxRecDepth 100000 in
theorem ok_ref11_Is {α : Type}  (x0 : Int) (k : Bool → R α) : bodyL PT_ref11_Is (PO_ref11_Is ) [] ⟨1, []⟩ Try.f98 [(.int .u64 x0)] emp (fun v _ => dR_ref11_Is v k) = p_ref11_Is  x0 k := by kernel_rfl
theorem mk_ref11_Is {α : Type} {I : Imm}  : OrcOk (α := α) Try.prog I 98 (.pure (ad_ref11_Is (p_ref11_Is ))) := by
  refine orc_pureK PT_ref11_Is_ok (O := PO_ref11_Is ) (OOk.nil) (L := []) ⟨1, []⟩ Try.func98 (by kernel_rfl) (by kernel_rfl) (by kernel_rfl) FLOk.nil ?_
  intro args k r hk
  unfold ad_ref11_Is at hk
  split at hk <;> try (cases hk; done)
  obtain ⟨x0, rfl, hk0⟩ := decI_spec hk
  have hkz := hk0
  refine ⟨by simp [Ids, Idss], fun v => dR_ref11_Is v (fun r0 => k (.bool r0)), ?_, fun v hv => ?_⟩
  · rw [ok_ref11_Is]; exact hkz
  · obtain ⟨r0, rfl, hv1⟩ := dR_ref11_Is_spec hv; exact ⟨hv1, by simp [Ids, Idss]⟩
abbrev PT_ref11_Leaf : TE := [(33, ⟨.int .u64 0, 1, 8, .sc (.int .u64), none⟩)]
theorem PT_ref11_Leaf_ok : Prg Try.prog PT_ref11_Leaf := ⟨(.cons pe_33 (TEok.nil _)), by kernel_rfl⟩

noncomputable abbrev PO_ref11_Leaf {α : Type} (F_ref11_Is : Sg_ref11_Is α) : ORC α := [(98, .pure (ad_ref11_Is F_ref11_Is))]
set_option maxRecDepth 100000 in
theorem ok_ref11_Leaf {α : Type} (F_ref11_Is : Sg_ref11_Is α) (x0 : Int) (k : Bool → R α) : bodyL PT_ref11_Leaf (PO_ref11_Leaf F_ref11_Is) [] ⟨1, []⟩ Try.f99 [(.int .u64 x0)] emp (fun v _ => dR_ref11_Leaf v k) = p_ref11_Leaf F_ref11_Is x0 k := by kernel_rfl
theorem mk_ref11_Leaf {α : Type} {I : Imm} {F_ref11_Is : Sg_ref11_Is α} (h_ref11_Is : OrcOk (α := α) Try.prog I 98 (.pure (ad_ref11_Is F_ref11_Is))) : OrcOk (α := α) Try.prog I 99 (.pure (ad_ref11_Leaf (p_ref11_Leaf F_ref11_Is))) := by
  refine orc_pureK PT_ref11_Leaf_ok (O := PO_ref11_Leaf F_ref11_Is) (OOk.cons h_ref11_Is (OOk.nil)) (L := []) ⟨1, []⟩ Try.func99 (by kernel_rfl) (by kernel_rfl) (by kernel_rfl) FLOk.nil ?_
  intro args k r hk
  unfold ad_ref11_Leaf at hk
  split at hk <;> try (cases hk; done)
  obtain ⟨x0, rfl, hk0⟩ := decI_spec hk
  have hkz := hk0
  refine ⟨by simp [Ids, Idss], fun v => dR_ref11_Leaf v (fun r0 => k (.bool r0)), ?_, fun v hv => ?_⟩
  · rw [ok_ref11_Leaf]; exact hkz
  · obtain ⟨r0, rfl, hv1⟩ := dR_ref11_Leaf_spec hv; exact ⟨hv1, by simp [Ids, Idss]⟩
abbrev PT_ref11_Frame : TE := [(3, ⟨.int .i64 0, 1, 8, .sc (.int .i64), none⟩), (33, ⟨.int .u64 0, 1, 8, .sc (.int .u64), none⟩)]
theorem PT_ref11_Frame_ok : Prg Try.prog PT_ref11_Frame := ⟨(.cons pe_3 (.cons pe_33 (TEok.nil _))), by kernel_rfl⟩

noncomputable abbrev PO_ref11_Frame {α : Type}  : ORC α := []
set_option maxRecDepth 100000 in
theorem ok_ref11_Frame {α : Type}  (x0 : Int) (k : Int → R α) : bodyL PT_ref11_Frame (PO_ref11_Frame ) [] ⟨1, []⟩ Try.f100 [(.int .u64 x0)] emp (fun v _ => dR_ref11_Frame v k) = p_ref11_Frame  x0 k := by kernel_rfl
theorem mk_ref11_Frame {α : Type} {I : Imm}  : OrcOk (α := α) Try.prog I 100 (.pure (ad_ref11_Frame (p_ref11_Frame ))) := by
  refine orc_pureK PT_ref11_Frame_ok (O := PO_ref11_Frame ) (OOk.nil) (L := []) ⟨1, []⟩ Try.func100 (by kernel_rfl) (by kernel_rfl) (by kernel_rfl) FLOk.nil ?_
  intro args k r hk
  unfold ad_ref11_Frame at hk
  split at hk <;> try (cases hk; done)
  obtain ⟨x0, rfl, hk0⟩ := decI_spec hk
  have hkz := hk0
  refine ⟨by simp [Ids, Idss], fun v => dR_ref11_Frame v (fun r0 => k (.int .i64 r0)), ?_, fun v hv => ?_⟩
  · rw [ok_ref11_Frame]; exact hkz
  · obtain ⟨r0, rfl, hv1⟩ := dR_ref11_Frame_spec hv; exact ⟨hv1, by simp [Ids, Idss]⟩
theorem pe_23 : TyOk Try.prog 23 ⟨.nils, 1, 24, .sc (.slice 3), none⟩ := ⟨fun _ => by kernel_rfl, ⟨rfl, rfl, fun _ _ => by simp [Wf, Wfs]⟩, ⟨Try.underlying23, rfl⟩, fun _ h => by cases h⟩
theorem pe_126 : TyOk Try.prog 126 ⟨.agg [.int .u64 0, .int .i64 0, .int .i64 0, .nils], 4, 48, .st [(0, 1, false), (1, 1, false), (2, 1, false), (3, 1, false)], none⟩ := ⟨fun _ => by kernel_rfl, ⟨rfl, rfl, fun _ _ => by simp [Wf, Wfs]⟩, ⟨_, Try.underlying126, by kernel_rfl⟩, fun _ h => by cases h⟩
abbrev PT_ref11_Walk : TE := [(3, ⟨.int .i64 0, 1, 8, .sc (.int .i64), none⟩), (23, ⟨.nils, 1, 24, .sc (.slice 3), none⟩), (33, ⟨.int .u64 0, 1, 8, .sc (.int .u64), none⟩), (126, ⟨.agg [.int .u64 0, .int .i64 0, .int .i64 0, .nils], 4, 48, .st [(0, 1, false), (1, 1, false), (2, 1, false), (3, 1, false)], none⟩)]
theorem PT_ref11_Walk_ok : Prg Try.prog PT_ref11_Walk := ⟨(.cons pe_3 (.cons pe_23 (.cons pe_33 (.cons pe_126 (TEok.nil _))))), by kernel_rfl⟩

noncomputable abbrev PO_ref11_Walk {α : Type} (F_ref11_Entry : Sg_ref11_Entry α) (F_ref11_Is : Sg_ref11_Is α) (F_ref11_Leaf : Sg_ref11_Leaf α) (F_ref11_Frame : Sg_ref11_Frame α) : ORC α := [(101, .full (ad_ref11_Entry F_ref11_Entry)), (98, .pure (ad_ref11_Is F_ref11_Is)), (99, .pure (ad_ref11_Leaf F_ref11_Leaf)), (100, .pure (ad_ref11_Frame F_ref11_Frame))]
set_option maxRecDepth 100000 in
theorem ok_ref11_Walk {α : Type} (F_ref11_Entry : Sg_ref11_Entry α) (F_ref11_Is : Sg_ref11_Is α) (F_ref11_Leaf : Sg_ref11_Leaf α) (F_ref11_Frame : Sg_ref11_Frame α) (g0 g1 : Option Nat) (x0 : (Nat → Int)) (x1 : Int) (x2 : Int) (k : Int → Int → Int → Bool → Nat → (Nat → Int) → R α) : bodyL PT_ref11_Walk (PO_ref11_Walk F_ref11_Entry F_ref11_Is F_ref11_Leaf F_ref11_Frame) [] ⟨1, []⟩ Try.f67 [.ptr 0 [], (.int .i64 x1), (.int .u64 x2)] (hp [memO 1 g0, byO g1 x0]) (fun v σ1 => dR_ref11_Walk v σ1 k) = p_ref11_Walk F_ref11_Entry F_ref11_Is F_ref11_Leaf F_ref11_Frame x0 x1 x2 k := by kernel_rfl
theorem mk_ref11_Walk {α : Type} {I : Imm} {F_ref11_Entry : Sg_ref11_Entry α} {F_ref11_Is : Sg_ref11_Is α} {F_ref11_Leaf : Sg_ref11_Leaf α} {F_ref11_Frame : Sg_ref11_Frame α} (h_ref11_Entry : OrcOk (α := α) Try.prog I 101 (.full (ad_ref11_Entry F_ref11_Entry))) (h_ref11_Is : OrcOk (α := α) Try.prog I 98 (.pure (ad_ref11_Is F_ref11_Is))) (h_ref11_Leaf : OrcOk (α := α) Try.prog I 99 (.pure (ad_ref11_Leaf F_ref11_Leaf))) (h_ref11_Frame : OrcOk (α := α) Try.prog I 100 (.pure (ad_ref11_Frame F_ref11_Frame))) : OrcOk (α := α) Try.prog I 67 (.full (ad_ref11_Walk (p_ref11_Walk F_ref11_Entry F_ref11_Is F_ref11_Leaf F_ref11_Frame))) := by
  refine orc_canonK PT_ref11_Walk_ok (O := PO_ref11_Walk F_ref11_Entry F_ref11_Is F_ref11_Leaf F_ref11_Frame) (OOk.cons h_ref11_Entry (OOk.cons h_ref11_Is (OOk.cons h_ref11_Leaf (OOk.cons h_ref11_Frame (OOk.nil))))) (L := []) ⟨1, []⟩ Try.func67 (by kernel_rfl) (by kernel_rfl) (by kernel_rfl) FLOk.nil ?_
  intro args σ k r hk
  unfold ad_ref11_Walk at hk
  split at hk <;> try (cases hk; done)
  obtain ⟨b, b1, g0, g1, x0, rfl, h0, h1, hne, hk0⟩ := withMem_spec hk
  obtain ⟨x1, rfl, hk1⟩ := decI_spec hk0
  obtain ⟨x2, rfl, hk2⟩ := decI_spec hk1
  have hkz := hk2
  refine ⟨[b, b1], [memO 1 g0, byO g1 x0], [.ptr 0 [], (.int .i64 x1), (.int .u64 x2)], lay_mk rfl (nodup2 hne) rfl ⟨h0, h1, trivial⟩ (by simp [AllL, Ids, Idss]) (by simp [AllL, OIds, Ids, Idss]), fun v σ1 => dR_ref11_Walk v σ1 (fun r0 r1 r2 nl n tf => cond nl (k (.agg [(.int .u64 r0), (.int .i64 r1), (.int .i64 r2), .nils]) σ) (k (.agg [(.int .u64 r0), (.int .i64 r1), (.int .i64 r2), (.slc σ.next [] 1 0 n none)]) ⟨σ.next + 1, [(σ.next, .cells (some 1) (.ints .i64 n tf))] ++ σ.blocks⟩)), ?_, fun v σ1 hg hv => ?_⟩
  · rw [ok_ref11_Walk]; exact hkz
  · unfold dR_ref11_Walk at hv
    obtain ⟨hc, hv0⟩ := bif_some hv
    split at hv0 <;> try (cases hv0; done)
    obtain ⟨r0, rfl, w0⟩ := decI_spec hv0
    obtain ⟨r1, rfl, w1⟩ := decI_spec w0
    obtain ⟨r2, rfl, w2⟩ := decI_spec w1
    rcases decR_spec w2 with ⟨rfl, w3⟩ | ⟨b2, n, tf, rfl, ⟨hb1, hb2⟩, hrow, w3⟩
    · skip
      exact ⟨[], [], pub_keep hg (by simp [SObj.live]) hc (by simp [Ids, Idss]), w3⟩
    · skip
      have hb3 : 2 ≤ b2 := hb1
      have e : rnm [b, b1] σ.next [b2] b2 = σ.next := by
        obtain ⟨j, rfl⟩ : ∃ j, b2 = j + 2 := ⟨b2 - 2, by omega⟩
        simp [rnm, getN, posN]
      refine ⟨[b2], [(b2, .cells (some 1) (.ints .i64 n tf))], pub_row hg (by simp [SObj.live]) hc hb1 hrow hb2 (by simp [Ids, Idss]), ?_⟩
      simp only [List.map_cons, List.map_nil, ren, rens, renO, e, List.length_cons, List.length_nil]
      exact w3
abbrev PT_ref11_May : TE := [(3, ⟨.int .i64 0, 1, 8, .sc (.int .i64), none⟩)]
theorem PT_ref11_May_ok : Prg Try.prog PT_ref11_May := ⟨(.cons pe_3 (TEok.nil _)), by kernel_rfl⟩

noncomputable abbrev PO_ref11_May {α : Type}  : ORC α := []
set_option maxRecDepth 100000 in
theorem ok_ref11_May {α : Type}  (x0 : Int) (x1 : Int) (x2 : Bool) (x3 : Bool) (x4 : Bool) (k : Bool → R α) : bodyL PT_ref11_May (PO_ref11_May ) [] ⟨1, []⟩ Try.f70 [(.int .i64 x0), (.int .i64 x1), (.bool x2), (.bool x3), (.bool x4)] emp (fun v _ => dR_ref11_May v k) = p_ref11_May  x0 x1 x2 x3 x4 k := by kernel_rfl
theorem mk_ref11_May {α : Type} {I : Imm}  : OrcOk (α := α) Try.prog I 70 (.pure (ad_ref11_May (p_ref11_May ))) := by
  refine orc_pureK PT_ref11_May_ok (O := PO_ref11_May ) (OOk.nil) (L := []) ⟨1, []⟩ Try.func70 (by kernel_rfl) (by kernel_rfl) (by kernel_rfl) FLOk.nil ?_
  intro args k r hk
  unfold ad_ref11_May at hk
  split at hk <;> try (cases hk; done)
  obtain ⟨x0, rfl, hk0⟩ := decI_spec hk
  obtain ⟨x1, rfl, hk1⟩ := decI_spec hk0
  obtain ⟨x2, rfl, hk2⟩ := decB_spec hk1
  obtain ⟨x3, rfl, hk3⟩ := decB_spec hk2
  obtain ⟨x4, rfl, hk4⟩ := decB_spec hk3
  have hkz := hk4
  refine ⟨by simp [Ids, Idss], fun v => dR_ref11_May v (fun r0 => k (.bool r0)), ?_, fun v hv => ?_⟩
  · rw [ok_ref11_May]; exact hkz
  · obtain ⟨r0, rfl, hv1⟩ := dR_ref11_May_spec hv; exact ⟨hv1, by simp [Ids, Idss]⟩
abbrev PT_ref11_may : TE := []
theorem PT_ref11_may_ok : Prg Try.prog PT_ref11_may := ⟨(TEok.nil _), by kernel_rfl⟩

noncomputable abbrev PO_ref11_may {α : Type} (F_ref11_May : Sg_ref11_May α) : ORC α := [(70, .pure (ad_ref11_May F_ref11_May))]
set_option maxRecDepth 100000 in
theorem ok_ref11_may {α : Type} (F_ref11_May : Sg_ref11_May α) (x0 : Int) (x1 : Int) (x2 : Bool) (x3 : Bool) (x4 : Bool) (x5 : Bool) (k : Bool → R α) : bodyL PT_ref11_may (PO_ref11_may F_ref11_May) [] ⟨1, []⟩ Try.f64 [(.int .i64 x0), (.int .i64 x1), (.bool x2), (.bool x3), (.bool x4), (.bool x5)] emp (fun v _ => dR_ref11_may v k) = p_ref11_may F_ref11_May x0 x1 x2 x3 x4 x5 k := by kernel_rfl
theorem mk_ref11_may {α : Type} {I : Imm} {F_ref11_May : Sg_ref11_May α} (h_ref11_May : OrcOk (α := α) Try.prog I 70 (.pure (ad_ref11_May F_ref11_May))) : OrcOk (α := α) Try.prog I 64 (.pure (ad_ref11_may (p_ref11_may F_ref11_May))) := by
  refine orc_pureK PT_ref11_may_ok (O := PO_ref11_may F_ref11_May) (OOk.cons h_ref11_May (OOk.nil)) (L := []) ⟨1, []⟩ Try.func64 (by kernel_rfl) (by kernel_rfl) (by kernel_rfl) FLOk.nil ?_
  intro args k r hk
  unfold ad_ref11_may at hk
  split at hk <;> try (cases hk; done)
  obtain ⟨x0, rfl, hk0⟩ := decI_spec hk
  obtain ⟨x1, rfl, hk1⟩ := decI_spec hk0
  obtain ⟨x2, rfl, hk2⟩ := decB_spec hk1
  obtain ⟨x3, rfl, hk3⟩ := decB_spec hk2
  obtain ⟨x4, rfl, hk4⟩ := decB_spec hk3
  obtain ⟨x5, rfl, hk5⟩ := decB_spec hk4
  have hkz := hk5
  refine ⟨by simp [Ids, Idss], fun v => dR_ref11_may v (fun r0 => k (.bool r0)), ?_, fun v hv => ?_⟩
  · rw [ok_ref11_may]; exact hkz
  · obtain ⟨r0, rfl, hv1⟩ := dR_ref11_may_spec hv; exact ⟨hv1, by simp [Ids, Idss]⟩
theorem pe_4 : TyOk Try.prog 4 ⟨.bool false, 1, 1, .sc (.bool), none⟩ := ⟨fun _ => by kernel_rfl, ⟨rfl, rfl, fun _ _ => by simp [Wf, Wfs]⟩, ⟨Try.underlying4, rfl⟩, fun _ h => by cases h⟩
theorem pe_51 : TyOk Try.prog 51 ⟨.agg [.bool false, .bool false, .bool false, .bool false, .int .i64 0, .int .i64 0, .int .i64 0, .int .i64 0], 8, 40, .st [(0, 1, false), (1, 1, false), (2, 1, false), (3, 1, false), (4, 1, false), (5, 1, false), (6, 1, false), (7, 1, false)], some (.st [(0, 1, false, .bl), (1, 1, false, .bl), (2, 1, false, .bl), (3, 1, false, .bl), (4, 1, false, .it .i64), (5, 1, false, .it .i64), (6, 1, false, .it .i64), (7, 1, false, .it .i64)])⟩ := ⟨fun _ => by kernel_rfl, ⟨rfl, rfl, fun _ _ => by simp [Wf, Wfs]⟩, ⟨_, Try.underlying51, by kernel_rfl⟩, fun _ h => by cases h; exact ⟨by kernel_rfl, by kernel_rfl⟩⟩
abbrev PT_ref11_Guest : TE := [(3, ⟨.int .i64 0, 1, 8, .sc (.int .i64), none⟩), (4, ⟨.bool false, 1, 1, .sc (.bool), none⟩), (23, ⟨.nils, 1, 24, .sc (.slice 3), none⟩), (33, ⟨.int .u64 0, 1, 8, .sc (.int .u64), none⟩), (51, ⟨.agg [.bool false, .bool false, .bool false, .bool false, .int .i64 0, .int .i64 0, .int .i64 0, .int .i64 0], 8, 40, .st [(0, 1, false), (1, 1, false), (2, 1, false), (3, 1, false), (4, 1, false), (5, 1, false), (6, 1, false), (7, 1, false)], some (.st [(0, 1, false, .bl), (1, 1, false, .bl), (2, 1, false, .bl), (3, 1, false, .bl), (4, 1, false, .it .i64), (5, 1, false, .it .i64), (6, 1, false, .it .i64), (7, 1, false, .it .i64)])⟩), (126, ⟨.agg [.int .u64 0, .int .i64 0, .int .i64 0, .nils], 4, 48, .st [(0, 1, false), (1, 1, false), (2, 1, false), (3, 1, false)], none⟩)]
theorem PT_ref11_Guest_ok : Prg Try.prog PT_ref11_Guest := ⟨(.cons pe_3 (.cons pe_4 (.cons pe_23 (.cons pe_33 (.cons pe_51 (.cons pe_126 (TEok.nil _))))))), by kernel_rfl⟩

noncomputable abbrev PO_ref11_Guest {α : Type} (F_ref11_Walk : Sg_ref11_Walk α) (F_ref11_may : Sg_ref11_may α) : ORC α := [(67, .full (ad_ref11_Walk F_ref11_Walk)), (64, .pure (ad_ref11_may F_ref11_may))]
set_option maxRecDepth 100000 in
theorem ok_ref11_Guest {α : Type} (F_ref11_Walk : Sg_ref11_Walk α) (F_ref11_may : Sg_ref11_may α) (g0 g1 : Option Nat) (x0 : (Nat → Int)) (x1 : GAsking) (x2 : Int) (x3 : Int) (x4 : Bool) (k : Int → Int → Int → Bool → Nat → (Nat → Int) → R α) : bodyL PT_ref11_Guest (PO_ref11_Guest F_ref11_Walk F_ref11_may) [] ⟨1, []⟩ Try.f28 [.ptr 0 [], (GAsking.sv x1), (.int .u64 x2), (.int .i64 x3), (.bool x4)] (hp [memO 1 g0, byO g1 x0]) (fun v σ1 => dR_ref11_Guest v σ1 k) = p_ref11_Guest F_ref11_Walk F_ref11_may x0 x1 x2 x3 x4 k := by kernel_rfl
theorem mk_ref11_Guest {α : Type} {I : Imm} {F_ref11_Walk : Sg_ref11_Walk α} {F_ref11_may : Sg_ref11_may α} (h_ref11_Walk : OrcOk (α := α) Try.prog I 67 (.full (ad_ref11_Walk F_ref11_Walk))) (h_ref11_may : OrcOk (α := α) Try.prog I 64 (.pure (ad_ref11_may F_ref11_may))) : OrcOk (α := α) Try.prog I 28 (.full (ad_ref11_Guest (p_ref11_Guest F_ref11_Walk F_ref11_may))) := by
  refine orc_canonK PT_ref11_Guest_ok (O := PO_ref11_Guest F_ref11_Walk F_ref11_may) (OOk.cons h_ref11_Walk (OOk.cons h_ref11_may (OOk.nil))) (L := []) ⟨1, []⟩ Try.func28 (by kernel_rfl) (by kernel_rfl) (by kernel_rfl) FLOk.nil ?_
  intro args σ k r hk
  unfold ad_ref11_Guest at hk
  split at hk <;> try (cases hk; done)
  obtain ⟨b, b1, g0, g1, x0, rfl, h0, h1, hne, hk0⟩ := withMem_spec hk
  obtain ⟨x1, rfl, hk1⟩ := GAsking.dec_spec hk0
  obtain ⟨x2, rfl, hk2⟩ := decI_spec hk1
  obtain ⟨x3, rfl, hk3⟩ := decI_spec hk2
  obtain ⟨x4, rfl, hk4⟩ := decB_spec hk3
  have hkz := hk4
  refine ⟨[b, b1], [memO 1 g0, byO g1 x0], [.ptr 0 [], (GAsking.sv x1), (.int .u64 x2), (.int .i64 x3), (.bool x4)], lay_mk rfl (nodup2 hne) rfl ⟨h0, h1, trivial⟩ (by simp [AllL, Ids, Idss]) (by simp [AllL, OIds, Ids, Idss]), fun v σ1 => dR_ref11_Guest v σ1 (fun r0 r1 r2 nl n tf => cond nl (k (.tuple [(.int .u64 r0), (.int .i64 r1), (.int .i64 r2), .nils]) σ) (k (.tuple [(.int .u64 r0), (.int .i64 r1), (.int .i64 r2), (.slc σ.next [] 1 0 n none)]) ⟨σ.next + 1, [(σ.next, .cells (some 1) (.ints .i64 n tf))] ++ σ.blocks⟩)), ?_, fun v σ1 hg hv => ?_⟩
  · rw [ok_ref11_Guest]; exact hkz
  · unfold dR_ref11_Guest at hv
    obtain ⟨hc, hv0⟩ := bif_some hv
    split at hv0 <;> try (cases hv0; done)
    obtain ⟨r0, rfl, w0⟩ := decI_spec hv0
    obtain ⟨r1, rfl, w1⟩ := decI_spec w0
    obtain ⟨r2, rfl, w2⟩ := decI_spec w1
    rcases decR_spec w2 with ⟨rfl, w3⟩ | ⟨b2, n, tf, rfl, ⟨hb1, hb2⟩, hrow, w3⟩
    · skip
      exact ⟨[], [], pub_keep hg (by simp [SObj.live]) hc (by simp [Ids, Idss]), w3⟩
    · skip
      have hb3 : 2 ≤ b2 := hb1
      have e : rnm [b, b1] σ.next [b2] b2 = σ.next := by
        obtain ⟨j, rfl⟩ : ∃ j, b2 = j + 2 := ⟨b2 - 2, by omega⟩
        simp [rnm, getN, posN]
      refine ⟨[b2], [(b2, .cells (some 1) (.ints .i64 n tf))], pub_row hg (by simp [SObj.live]) hc hb1 hrow hb2 (by simp [Ids, Idss]), ?_⟩
      simp only [List.map_cons, List.map_nil, ren, rens, renO, e, List.length_cons, List.length_nil]
      exact w3
theorem pe_40 : TyOk Try.prog 40 ⟨.ints .u64 29 (fun _ => 0), 29, 232, .ar 29 33 1 false, some (.ar 29 1 (.it .u64))⟩ := ⟨fun _ => by kernel_rfl, ⟨rfl, rfl, fun _ _ => by simp [Wf, Wfs]⟩, ⟨Try.underlying40, by kernel_rfl, by kernel_rfl⟩, fun _ h => by cases h; exact ⟨by kernel_rfl, by kernel_rfl⟩⟩
theorem pe_42 : TyOk Try.prog 42 ⟨.agg [.ints .u64 32 (fun _ => 0), .int .u64 0, .int .i64 0, .bool false, .ints .u64 29 (fun _ => 0), .int .u64 0], 65, 520, .st [(0, 32, true), (32, 1, false), (33, 1, false), (34, 1, false), (35, 29, true), (64, 1, false)], some (.st [(0, 32, true, .ar 32 1 (.it .u64)), (32, 1, false, .it .u64), (33, 1, false, .it .i64), (34, 1, false, .bl), (35, 29, true, .ar 29 1 (.it .u64)), (64, 1, false, .it .u64)])⟩ := ⟨fun _ => by kernel_rfl, ⟨rfl, rfl, fun _ _ => by simp [Wf, Wfs]⟩, ⟨_, Try.underlying42, by kernel_rfl⟩, fun _ h => by cases h; exact ⟨by kernel_rfl, by kernel_rfl⟩⟩
theorem pe_82 : TyOk Try.prog 82 ⟨.int .u64 0, 1, 8, .sc (.int .u64), none⟩ := ⟨fun _ => by kernel_rfl, ⟨rfl, rfl, fun _ _ => by simp [Wf, Wfs]⟩, ⟨Try.underlying82, rfl⟩, fun _ h => by cases h⟩
abbrev PT_ref8_Bit : TE := [(3, ⟨.int .i64 0, 1, 8, .sc (.int .i64), none⟩), (33, ⟨.int .u64 0, 1, 8, .sc (.int .u64), none⟩), (40, ⟨.ints .u64 29 (fun _ => 0), 29, 232, .ar 29 33 1 false, some (.ar 29 1 (.it .u64))⟩), (42, ⟨.agg [.ints .u64 32 (fun _ => 0), .int .u64 0, .int .i64 0, .bool false, .ints .u64 29 (fun _ => 0), .int .u64 0], 65, 520, .st [(0, 32, true), (32, 1, false), (33, 1, false), (34, 1, false), (35, 29, true), (64, 1, false)], some (.st [(0, 32, true, .ar 32 1 (.it .u64)), (32, 1, false, .it .u64), (33, 1, false, .it .i64), (34, 1, false, .bl), (35, 29, true, .ar 29 1 (.it .u64)), (64, 1, false, .it .u64)])⟩), (82, ⟨.int .u64 0, 1, 8, .sc (.int .u64), none⟩)]
theorem PT_ref8_Bit_ok : Prg Try.prog PT_ref8_Bit := ⟨(.cons pe_3 (.cons pe_33 (.cons pe_40 (.cons pe_42 (.cons pe_82 (TEok.nil _)))))), by kernel_rfl⟩

noncomputable abbrev PO_ref8_Bit {α : Type}  : ORC α := []
set_option maxRecDepth 100000 in
theorem ok_ref8_Bit {α : Type}  (x0 : GState) (x1 : Int) (x2 : Int) (k : Bool → R α) : bodyL PT_ref8_Bit (PO_ref8_Bit ) [] ⟨1, []⟩ Try.f66 [(GState.sv x0), (.int .i64 x1), (.int .i64 x2)] emp (fun v _ => dR_ref8_Bit v k) = p_ref8_Bit  x0 x1 x2 k := by kernel_rfl
theorem mk_ref8_Bit {α : Type} {I : Imm}  : OrcOk (α := α) Try.prog I 66 (.pure (ad_ref8_Bit (p_ref8_Bit ))) := by
  refine orc_pureK PT_ref8_Bit_ok (O := PO_ref8_Bit ) (OOk.nil) (L := []) ⟨1, []⟩ Try.func66 (by kernel_rfl) (by kernel_rfl) (by kernel_rfl) FLOk.nil ?_
  intro args k r hk
  unfold ad_ref8_Bit at hk
  split at hk <;> try (cases hk; done)
  obtain ⟨x0, rfl, hk0⟩ := GState.dec_spec hk
  obtain ⟨x1, rfl, hk1⟩ := decI_spec hk0
  obtain ⟨x2, rfl, hk2⟩ := decI_spec hk1
  have hkz := hk2
  refine ⟨by simp [Ids, Idss], fun v => dR_ref8_Bit v (fun r0 => k (.bool r0)), ?_, fun v hv => ?_⟩
  · rw [ok_ref8_Bit]; exact hkz
  · obtain ⟨r0, rfl, hv1⟩ := dR_ref8_Bit_spec hv; exact ⟨hv1, by simp [Ids, Idss]⟩
abbrev PT_ref11_Ask : TE := [(3, ⟨.int .i64 0, 1, 8, .sc (.int .i64), none⟩), (4, ⟨.bool false, 1, 1, .sc (.bool), none⟩), (33, ⟨.int .u64 0, 1, 8, .sc (.int .u64), none⟩), (40, ⟨.ints .u64 29 (fun _ => 0), 29, 232, .ar 29 33 1 false, some (.ar 29 1 (.it .u64))⟩), (42, ⟨.agg [.ints .u64 32 (fun _ => 0), .int .u64 0, .int .i64 0, .bool false, .ints .u64 29 (fun _ => 0), .int .u64 0], 65, 520, .st [(0, 32, true), (32, 1, false), (33, 1, false), (34, 1, false), (35, 29, true), (64, 1, false)], some (.st [(0, 32, true, .ar 32 1 (.it .u64)), (32, 1, false, .it .u64), (33, 1, false, .it .i64), (34, 1, false, .bl), (35, 29, true, .ar 29 1 (.it .u64)), (64, 1, false, .it .u64)])⟩), (51, ⟨.agg [.bool false, .bool false, .bool false, .bool false, .int .i64 0, .int .i64 0, .int .i64 0, .int .i64 0], 8, 40, .st [(0, 1, false), (1, 1, false), (2, 1, false), (3, 1, false), (4, 1, false), (5, 1, false), (6, 1, false), (7, 1, false)], some (.st [(0, 1, false, .bl), (1, 1, false, .bl), (2, 1, false, .bl), (3, 1, false, .bl), (4, 1, false, .it .i64), (5, 1, false, .it .i64), (6, 1, false, .it .i64), (7, 1, false, .it .i64)])⟩)]
theorem PT_ref11_Ask_ok : Prg Try.prog PT_ref11_Ask := ⟨(.cons pe_3 (.cons pe_4 (.cons pe_33 (.cons pe_40 (.cons pe_42 (.cons pe_51 (TEok.nil _))))))), by kernel_rfl⟩

noncomputable abbrev PO_ref11_Ask {α : Type} (F_ref8_Bit : Sg_ref8_Bit α) : ORC α := [(66, .pure (ad_ref8_Bit F_ref8_Bit))]
set_option maxRecDepth 100000 in
theorem ok_ref11_Ask {α : Type} (F_ref8_Bit : Sg_ref8_Bit α) (x0 : GState) (x1 : Int) (x2 : Bool) (k : GAsking → R α) : bodyL PT_ref11_Ask (PO_ref11_Ask F_ref8_Bit) [] ⟨1, []⟩ Try.f26 [(GState.sv x0), (.int .i64 x1), (.bool x2)] emp (fun v _ => dR_ref11_Ask v k) = p_ref11_Ask F_ref8_Bit x0 x1 x2 k := by kernel_rfl
theorem mk_ref11_Ask {α : Type} {I : Imm} {F_ref8_Bit : Sg_ref8_Bit α} (h_ref8_Bit : OrcOk (α := α) Try.prog I 66 (.pure (ad_ref8_Bit F_ref8_Bit))) : OrcOk (α := α) Try.prog I 26 (.pure (ad_ref11_Ask (p_ref11_Ask F_ref8_Bit))) := by
  refine orc_pureK PT_ref11_Ask_ok (O := PO_ref11_Ask F_ref8_Bit) (OOk.cons h_ref8_Bit (OOk.nil)) (L := []) ⟨1, []⟩ Try.func26 (by kernel_rfl) (by kernel_rfl) (by kernel_rfl) FLOk.nil ?_
  intro args k r hk
  unfold ad_ref11_Ask at hk
  split at hk <;> try (cases hk; done)
  obtain ⟨x0, rfl, hk0⟩ := GState.dec_spec hk
  obtain ⟨x1, rfl, hk1⟩ := decI_spec hk0
  obtain ⟨x2, rfl, hk2⟩ := decB_spec hk1
  have hkz := hk2
  refine ⟨by simp [Ids, Idss], fun v => dR_ref11_Ask v (fun r0 => k (GAsking.sv r0)), ?_, fun v hv => ?_⟩
  · rw [ok_ref11_Ask]; exact hkz
  · obtain ⟨r0, rfl, hv1⟩ := dR_ref11_Ask_spec hv; exact ⟨hv1, by simp [Ids, Idss]⟩
theorem pe_93 : TyOk Try.prog 93 ⟨.ints .u64 3 (fun _ => 0), 3, 24, .ar 3 33 1 false, some (.ar 3 1 (.it .u64))⟩ := ⟨fun _ => by kernel_rfl, ⟨rfl, rfl, fun _ _ => by simp [Wf, Wfs]⟩, ⟨Try.underlying93, by kernel_rfl, by kernel_rfl⟩, fun _ h => by cases h; exact ⟨by kernel_rfl, by kernel_rfl⟩⟩
abbrev PT_ref11_Page : TE := [(33, ⟨.int .u64 0, 1, 8, .sc (.int .u64), none⟩), (93, ⟨.ints .u64 3 (fun _ => 0), 3, 24, .ar 3 33 1 false, some (.ar 3 1 (.it .u64))⟩)]
theorem PT_ref11_Page_ok : Prg Try.prog PT_ref11_Page := ⟨(.cons pe_33 (.cons pe_93 (TEok.nil _))), by kernel_rfl⟩

noncomputable abbrev PO_ref11_Page {α : Type}  : ORC α := []
set_option maxRecDepth 100000 in
theorem ok_ref11_Page {α : Type}  (x0 : Int) (k : Int → R α) : bodyL PT_ref11_Page (PO_ref11_Page ) [] ⟨1, []⟩ Try.f61 [(.int .i64 x0)] emp (fun v _ => dR_ref11_Page v k) = p_ref11_Page  x0 k := by kernel_rfl
theorem mk_ref11_Page {α : Type} {I : Imm}  : OrcOk (α := α) Try.prog I 61 (.pure (ad_ref11_Page (p_ref11_Page ))) := by
  refine orc_pureK PT_ref11_Page_ok (O := PO_ref11_Page ) (OOk.nil) (L := []) ⟨1, []⟩ Try.func61 (by kernel_rfl) (by kernel_rfl) (by kernel_rfl) FLOk.nil ?_
  intro args k r hk
  unfold ad_ref11_Page at hk
  split at hk <;> try (cases hk; done)
  obtain ⟨x0, rfl, hk0⟩ := decI_spec hk
  have hkz := hk0
  refine ⟨by simp [Ids, Idss], fun v => dR_ref11_Page v (fun r0 => k (.int .u64 r0)), ?_, fun v hv => ?_⟩
  · rw [ok_ref11_Page]; exact hkz
  · obtain ⟨r0, rfl, hv1⟩ := dR_ref11_Page_spec hv; exact ⟨hv1, by simp [Ids, Idss]⟩
abbrev PT_ref11_GuestFault : TE := [(33, ⟨.int .u64 0, 1, 8, .sc (.int .u64), none⟩), (93, ⟨.ints .u64 3 (fun _ => 0), 3, 24, .ar 3 33 1 false, some (.ar 3 1 (.it .u64))⟩)]
theorem PT_ref11_GuestFault_ok : Prg Try.prog PT_ref11_GuestFault := ⟨(.cons pe_33 (.cons pe_93 (TEok.nil _))), by kernel_rfl⟩

noncomputable abbrev PO_ref11_GuestFault {α : Type}  : ORC α := []
set_option maxRecDepth 100000 in
theorem ok_ref11_GuestFault {α : Type}  (x0 : Int) (k : Int → R α) : bodyL PT_ref11_GuestFault (PO_ref11_GuestFault ) [] ⟨1, []⟩ Try.f62 [(.int .i64 x0)] emp (fun v _ => dR_ref11_GuestFault v k) = p_ref11_GuestFault  x0 k := by kernel_rfl
theorem mk_ref11_GuestFault {α : Type} {I : Imm}  : OrcOk (α := α) Try.prog I 62 (.pure (ad_ref11_GuestFault (p_ref11_GuestFault ))) := by
  refine orc_pureK PT_ref11_GuestFault_ok (O := PO_ref11_GuestFault ) (OOk.nil) (L := []) ⟨1, []⟩ Try.func62 (by kernel_rfl) (by kernel_rfl) (by kernel_rfl) FLOk.nil ?_
  intro args k r hk
  unfold ad_ref11_GuestFault at hk
  split at hk <;> try (cases hk; done)
  obtain ⟨x0, rfl, hk0⟩ := decI_spec hk
  have hkz := hk0
  refine ⟨by simp [Ids, Idss], fun v => dR_ref11_GuestFault v (fun r0 => k (.int .u64 r0)), ?_, fun v hv => ?_⟩
  · rw [ok_ref11_GuestFault]; exact hkz
  · obtain ⟨r0, rfl, hv1⟩ := dR_ref11_GuestFault_spec hv; exact ⟨hv1, by simp [Ids, Idss]⟩
abbrev PT_ref11_Bad : TE := [(33, ⟨.int .u64 0, 1, 8, .sc (.int .u64), none⟩), (93, ⟨.ints .u64 3 (fun _ => 0), 3, 24, .ar 3 33 1 false, some (.ar 3 1 (.it .u64))⟩)]
theorem PT_ref11_Bad_ok : Prg Try.prog PT_ref11_Bad := ⟨(.cons pe_33 (.cons pe_93 (TEok.nil _))), by kernel_rfl⟩

noncomputable abbrev PO_ref11_Bad {α : Type}  : ORC α := []
set_option maxRecDepth 100000 in
theorem ok_ref11_Bad {α : Type}  (x0 : Int) (k : Int → R α) : bodyL PT_ref11_Bad (PO_ref11_Bad ) [] ⟨1, []⟩ Try.f65 [(.int .i64 x0)] emp (fun v _ => dR_ref11_Bad v k) = p_ref11_Bad  x0 k := by kernel_rfl
theorem mk_ref11_Bad {α : Type} {I : Imm}  : OrcOk (α := α) Try.prog I 65 (.pure (ad_ref11_Bad (p_ref11_Bad ))) := by
  refine orc_pureK PT_ref11_Bad_ok (O := PO_ref11_Bad ) (OOk.nil) (L := []) ⟨1, []⟩ Try.func65 (by kernel_rfl) (by kernel_rfl) (by kernel_rfl) FLOk.nil ?_
  intro args k r hk
  unfold ad_ref11_Bad at hk
  split at hk <;> try (cases hk; done)
  obtain ⟨x0, rfl, hk0⟩ := decI_spec hk
  have hkz := hk0
  refine ⟨by simp [Ids, Idss], fun v => dR_ref11_Bad v (fun r0 => k (.int .u64 r0)), ?_, fun v hv => ?_⟩
  · rw [ok_ref11_Bad]; exact hkz
  · obtain ⟨r0, rfl, hv1⟩ := dR_ref11_Bad_spec hv; exact ⟨hv1, by simp [Ids, Idss]⟩
abbrev PT_ref1_Mem_Code : TE := [(3, ⟨.int .i64 0, 1, 8, .sc (.int .i64), none⟩), (5, ⟨.int .u8 0, 1, 1, .sc (.int .u8), none⟩), (33, ⟨.int .u64 0, 1, 8, .sc (.int .u64), none⟩), (37, ⟨.nils, 1, 24, .sc (.slice 5), none⟩), (168, ⟨.agg [.nils], 1, 24, .st [(0, 1, false)], none⟩)]
theorem PT_ref1_Mem_Code_ok : Prg Try.prog PT_ref1_Mem_Code := ⟨(.cons pe_3 (.cons pe_5 (.cons pe_33 (.cons pe_37 (.cons pe_168 (TEok.nil _)))))), by kernel_rfl⟩

noncomputable abbrev PO_ref1_Mem_Code {α : Type}  : ORC α := []
set_option maxRecDepth 100000 in
theorem ok_ref1_Mem_Code {α : Type}  (g0 g1 : Option Nat) (x0 : (Nat → Int)) (x1 : Int) (x2 : Int) (k : Int → R α) : bodyL PT_ref1_Mem_Code (PO_ref1_Mem_Code ) [] ⟨1, []⟩ Try.f58 [.ptr 0 [], (.int .u64 x1), (.int .i64 x2)] (hp [memO 1 g0, byO g1 x0]) (fun v σ1 => dR_ref1_Mem_Code v σ1 k) = p_ref1_Mem_Code  x0 x1 x2 k := by kernel_rfl
theorem mk_ref1_Mem_Code {α : Type} {I : Imm}  : OrcOk (α := α) Try.prog I 58 (.full (ad_ref1_Mem_Code (p_ref1_Mem_Code ))) := by
  refine orc_canonK PT_ref1_Mem_Code_ok (O := PO_ref1_Mem_Code ) (OOk.nil) (L := []) ⟨1, []⟩ Try.func58 (by kernel_rfl) (by kernel_rfl) (by kernel_rfl) FLOk.nil ?_
  intro args σ k r hk
  unfold ad_ref1_Mem_Code at hk
  split at hk <;> try (cases hk; done)
  obtain ⟨b, b1, g0, g1, x0, rfl, h0, h1, hne, hk0⟩ := withMem_spec hk
  obtain ⟨x1, rfl, hk1⟩ := decI_spec hk0
  obtain ⟨x2, rfl, hk2⟩ := decI_spec hk1
  have hkz := hk2
  refine ⟨[b, b1], [memO 1 g0, byO g1 x0], [.ptr 0 [], (.int .u64 x1), (.int .i64 x2)], lay_mk rfl (nodup2 hne) rfl ⟨h0, h1, trivial⟩ (by simp [AllL, Ids, Idss]) (by simp [AllL, OIds, Ids, Idss]), fun v σ1 => dR_ref1_Mem_Code v σ1 (fun r0 => k (.int .i64 r0) σ), ?_, fun v σ1 hg hv => ?_⟩
  · rw [ok_ref1_Mem_Code]; exact hkz
  · unfold dR_ref1_Mem_Code at hv
    obtain ⟨hc, hv0⟩ := bif_some hv
    obtain ⟨r0, rfl, w0⟩ := decI_spec hv0
    exact ⟨[], [], pub_keep hg (by simp [SObj.live]) hc (by simp [Ids, Idss]), w0⟩
theorem pe_46 : TyOk Try.prog 46 ⟨.agg [.int .u64 0, .int .u64 0, .int .u64 0, .bool false], 4, 32, .st [(0, 1, false), (1, 1, false), (2, 1, false), (3, 1, false)], some (.st [(0, 1, false, .it .u64), (1, 1, false, .it .u64), (2, 1, false, .it .u64), (3, 1, false, .bl)])⟩ := ⟨fun _ => by kernel_rfl, ⟨rfl, rfl, fun _ _ => by simp [Wf, Wfs]⟩, ⟨_, Try.underlying46, by kernel_rfl⟩, fun _ h => by cases h; exact ⟨by kernel_rfl, by kernel_rfl⟩⟩
theorem pe_61 : TyOk Try.prog 61 ⟨.agg [.int .u64 0, .agg [.bool false, .bool false, .int .i64 0, .int .i64 0, .int .i64 0, .int .i64 0, .int .i64 0, .int .i64 0, .int .i64 0], .agg [.int .u64 0, .int .u64 0, .int .u64 0, .bool false], .bool false, .nils], 16, 136, .st [(0, 1, false), (1, 9, true), (10, 4, true), (14, 1, false), (15, 1, false)], none⟩ := ⟨fun _ => by kernel_rfl, ⟨rfl, rfl, fun _ _ => by simp [Wf, Wfs]⟩, ⟨_, Try.underlying61, by kernel_rfl⟩, fun _ h => by cases h⟩
abbrev PT_ref11_first : TE := [(3, ⟨.int .i64 0, 1, 8, .sc (.int .i64), none⟩), (23, ⟨.nils, 1, 24, .sc (.slice 3), none⟩), (33, ⟨.int .u64 0, 1, 8, .sc (.int .u64), none⟩), (46, ⟨.agg [.int .u64 0, .int .u64 0, .int .u64 0, .bool false], 4, 32, .st [(0, 1, false), (1, 1, false), (2, 1, false), (3, 1, false)], some (.st [(0, 1, false, .it .u64), (1, 1, false, .it .u64), (2, 1, false, .it .u64), (3, 1, false, .bl)])⟩), (51, ⟨.agg [.bool false, .bool false, .bool false, .bool false, .int .i64 0, .int .i64 0, .int .i64 0, .int .i64 0], 8, 40, .st [(0, 1, false), (1, 1, false), (2, 1, false), (3, 1, false), (4, 1, false), (5, 1, false), (6, 1, false), (7, 1, false)], some (.st [(0, 1, false, .bl), (1, 1, false, .bl), (2, 1, false, .bl), (3, 1, false, .bl), (4, 1, false, .it .i64), (5, 1, false, .it .i64), (6, 1, false, .it .i64), (7, 1, false, .it .i64)])⟩), (61, ⟨.agg [.int .u64 0, .agg [.bool false, .bool false, .int .i64 0, .int .i64 0, .int .i64 0, .int .i64 0, .int .i64 0, .int .i64 0, .int .i64 0], .agg [.int .u64 0, .int .u64 0, .int .u64 0, .bool false], .bool false, .nils], 16, 136, .st [(0, 1, false), (1, 9, true), (10, 4, true), (14, 1, false), (15, 1, false)], none⟩)]
theorem PT_ref11_first_ok : Prg Try.prog PT_ref11_first := ⟨(.cons pe_3 (.cons pe_23 (.cons pe_33 (.cons pe_46 (.cons pe_51 (.cons pe_61 (TEok.nil _))))))), by kernel_rfl⟩

noncomputable abbrev PO_ref11_first {α : Type} (F_ref11_Guest : Sg_ref11_Guest α) (F_ref11_GuestFault : Sg_ref11_GuestFault α) (F_ref11_Bad : Sg_ref11_Bad α) (F_ref1_Mem_Code : Sg_ref1_Mem_Code α) (F_ref1_Mem_Read : Sg_ref1_Mem_Read α) (F_ref11_Is : Sg_ref11_Is α) (F_ref11_Page : Sg_ref11_Page α) (F_ref11_Leaf : Sg_ref11_Leaf α) (F_ref11_Frame : Sg_ref11_Frame α) : ORC α := [(28, .full (ad_ref11_Guest F_ref11_Guest)), (62, .pure (ad_ref11_GuestFault F_ref11_GuestFault)), (65, .pure (ad_ref11_Bad F_ref11_Bad)), (58, .full (ad_ref1_Mem_Code F_ref1_Mem_Code)), (97, .full (ad_ref1_Mem_Read F_ref1_Mem_Read)), (98, .pure (ad_ref11_Is F_ref11_Is)), (61, .pure (ad_ref11_Page F_ref11_Page)), (99, .pure (ad_ref11_Leaf F_ref11_Leaf)), (100, .pure (ad_ref11_Frame F_ref11_Frame))]
set_option maxRecDepth 100000 in
theorem ok_ref11_first {α : Type} (F_ref11_Guest : Sg_ref11_Guest α) (F_ref11_GuestFault : Sg_ref11_GuestFault α) (F_ref11_Bad : Sg_ref11_Bad α) (F_ref1_Mem_Code : Sg_ref1_Mem_Code α) (F_ref1_Mem_Read : Sg_ref1_Mem_Read α) (F_ref11_Is : Sg_ref11_Is α) (F_ref11_Page : Sg_ref11_Page α) (F_ref11_Leaf : Sg_ref11_Leaf α) (F_ref11_Frame : Sg_ref11_Frame α) (g0 g1 g2 : Option Nat) (x0 : Nat → Int) (x1 : GAsking) (x2 : Int) (x3 : Int) (y0 : Int) (y1 : GEntry) (y2 : GFault) (y3 : Bool) (k : Option Nat → Int → Int → Bool → Int → GEntry → GFault → Bool → Bool → Nat → (Nat → Int) → R α) : bodyL PT_ref11_first (PO_ref11_first F_ref11_Guest F_ref11_GuestFault F_ref11_Bad F_ref1_Mem_Code F_ref1_Mem_Read F_ref11_Is F_ref11_Page F_ref11_Leaf F_ref11_Frame) [] ⟨3, []⟩ Try.f63 [.ptr 0 [], (GAsking.sv x1), (.int .u64 x2), (.int .i64 x3), .ptr 2 []] (hp [memO 1 g0, byO g1 x0, .cells g2 (.agg [(.int .u64 y0), (GEntry.sv y1), (GFault.sv y2), (.bool y3), .nils])]) (fun v σ1 => dR_ref11_first v σ1 k) = p_ref11_first F_ref11_Guest F_ref11_GuestFault F_ref11_Bad F_ref1_Mem_Code F_ref1_Mem_Read F_ref11_Is F_ref11_Page F_ref11_Leaf F_ref11_Frame x0 x1 x2 x3 y0 y1 y2 y3 (fun r0 r1 r2 c0 c1 c2 c3 nl n tf => k g2 r0 r1 r2 c0 c1 c2 c3 nl n tf) := by kernel_rfl
theorem mk_ref11_first {α : Type} {I : Imm} {F_ref11_Guest : Sg_ref11_Guest α} {F_ref11_GuestFault : Sg_ref11_GuestFault α} {F_ref11_Bad : Sg_ref11_Bad α} {F_ref1_Mem_Code : Sg_ref1_Mem_Code α} {F_ref1_Mem_Read : Sg_ref1_Mem_Read α} {F_ref11_Is : Sg_ref11_Is α} {F_ref11_Page : Sg_ref11_Page α} {F_ref11_Leaf : Sg_ref11_Leaf α} {F_ref11_Frame : Sg_ref11_Frame α} (h_ref11_Guest : OrcOk (α := α) Try.prog I 28 (.full (ad_ref11_Guest F_ref11_Guest))) (h_ref11_GuestFault : OrcOk (α := α) Try.prog I 62 (.pure (ad_ref11_GuestFault F_ref11_GuestFault))) (h_ref11_Bad : OrcOk (α := α) Try.prog I 65 (.pure (ad_ref11_Bad F_ref11_Bad))) (h_ref1_Mem_Code : OrcOk (α := α) Try.prog I 58 (.full (ad_ref1_Mem_Code F_ref1_Mem_Code))) (h_ref1_Mem_Read : OrcOk (α := α) Try.prog I 97 (.full (ad_ref1_Mem_Read F_ref1_Mem_Read))) (h_ref11_Is : OrcOk (α := α) Try.prog I 98 (.pure (ad_ref11_Is F_ref11_Is))) (h_ref11_Page : OrcOk (α := α) Try.prog I 61 (.pure (ad_ref11_Page F_ref11_Page))) (h_ref11_Leaf : OrcOk (α := α) Try.prog I 99 (.pure (ad_ref11_Leaf F_ref11_Leaf))) (h_ref11_Frame : OrcOk (α := α) Try.prog I 100 (.pure (ad_ref11_Frame F_ref11_Frame))) : OrcOk (α := α) Try.prog I 63 (.full (ad_ref11_first (p_ref11_first F_ref11_Guest F_ref11_GuestFault F_ref11_Bad F_ref1_Mem_Code F_ref1_Mem_Read F_ref11_Is F_ref11_Page F_ref11_Leaf F_ref11_Frame))) := by
  refine orc_canonK PT_ref11_first_ok (O := PO_ref11_first F_ref11_Guest F_ref11_GuestFault F_ref11_Bad F_ref1_Mem_Code F_ref1_Mem_Read F_ref11_Is F_ref11_Page F_ref11_Leaf F_ref11_Frame) (OOk.cons h_ref11_Guest (OOk.cons h_ref11_GuestFault (OOk.cons h_ref11_Bad (OOk.cons h_ref1_Mem_Code (OOk.cons h_ref1_Mem_Read (OOk.cons h_ref11_Is (OOk.cons h_ref11_Page (OOk.cons h_ref11_Leaf (OOk.cons h_ref11_Frame (OOk.nil)))))))))) (L := []) ⟨3, []⟩ Try.func63 (by kernel_rfl) (by kernel_rfl) (by kernel_rfl) FLOk.nil ?_
  intro args σ k r hk
  unfold ad_ref11_first at hk
  split at hk <;> try (cases hk; done)
  obtain ⟨b, b1, g0, g1, x0, rfl, h0, h1, hne, hk0⟩ := withMem_spec hk
  obtain ⟨c, g2, v, rfl, h2, hk1⟩ := withCell_spec hk0
  obtain ⟨hcb, hk2⟩ := bif_some hk1
  split at hk2 <;> try (cases hk2; done)
  obtain ⟨y0, rfl, hk3⟩ := decI_spec hk2
  obtain ⟨y1, rfl, hk4⟩ := GEntry.dec_spec hk3
  obtain ⟨y2, rfl, hk5⟩ := GFault.dec_spec hk4
  obtain ⟨y3, rfl, hk6⟩ := decB_spec hk5
  obtain ⟨rfl, hk7⟩ := decNil_spec hk6
  obtain ⟨x1, rfl, hk8⟩ := GAsking.dec_spec hk7
  obtain ⟨x2, rfl, hk9⟩ := decI_spec hk8
  obtain ⟨x3, rfl, hk10⟩ := decI_spec hk9
  have hkz := hk10
  simp only [Bool.and_eq_true, Bool.not_eq_true', nbeq, decide_eq_false_iff_not] at hcb
  refine ⟨[b, b1, c], [memO 1 g0, byO g1 x0, .cells g2 (.agg [(.int .u64 y0), (GEntry.sv y1), (GFault.sv y2), (.bool y3), .nils])], [.ptr 0 [], (GAsking.sv x1), (.int .u64 x2), (.int .i64 x3), .ptr 2 []], lay_mk rfl (by simp [hne, Ne.symm hcb.1, Ne.symm hcb.2]) rfl ⟨h0, h1, h2, trivial⟩ (by simp [AllL, Ids, Idss]) (by simp [AllL, OIds, Ids, Idss]), fun v σ1 => dR_ref11_first v σ1 (fun g r0 r1 r2 c0 c1 c2 c3 nl n tf => cond nl (k (.tuple [(.int .u64 r0), (.int .i64 r1), (.bool r2)]) ⟨σ.next, [(c, .cells g (.agg [(.int .u64 c0), (GEntry.sv c1), (GFault.sv c2), (.bool c3), .nils]))] ++ σ.blocks⟩) (k (.tuple [(.int .u64 r0), (.int .i64 r1), (.bool r2)]) ⟨σ.next + 1, [(c, .cells g (.agg [(.int .u64 c0), (GEntry.sv c1), (GFault.sv c2), (.bool c3), (.slc σ.next [] 1 0 n none)])), (σ.next, .cells (some 1) (.ints .i64 n tf))] ++ σ.blocks⟩)), ?_, fun v σ1 hg hv => ?_⟩
  · rw [ok_ref11_first]; exact hkz
  · unfold dR_ref11_first at hv
    obtain ⟨hc, hv0⟩ := bif_some hv
    split at hv0 <;> try (cases hv0; done)
    obtain ⟨r0, rfl, w0⟩ := decI_spec hv0
    obtain ⟨r1, rfl, w1⟩ := decI_spec w0
    obtain ⟨r2, rfl, w2⟩ := decB_spec w1
    obtain ⟨g, v2, hnow, w3⟩ := nowCell_spec w2
    split at w3 <;> try (cases w3; done)
    obtain ⟨c0, rfl, w4⟩ := decI_spec w3
    obtain ⟨c1, rfl, w5⟩ := GEntry.dec_spec w4
    obtain ⟨c2, rfl, w6⟩ := GFault.dec_spec w5
    obtain ⟨c3, rfl, w7⟩ := decB_spec w6
    rcases decR_spec w7 with ⟨rfl, w8⟩ | ⟨b2, n, tf, rfl, ⟨hb1, hb2⟩, hrow, w8⟩
    · skip
      exact ⟨[], _, pub_cell hg (by simp [SObj.live]) hc (by simp) hnow (by simp [Ids, Idss]) (by simp [Ids, Idss]), w8⟩
    · skip
      have hb3 : 3 ≤ b2 := hb1
      have e : rnm [b, b1, c] σ.next [b2] b2 = σ.next := by
        obtain ⟨j, rfl⟩ : ∃ j, b2 = j + 3 := ⟨b2 - 3, by omega⟩
        simp [rnm, getN, posN]
      have e2 : rnm [b, b1, c] σ.next [b2] 2 = c := rfl
      refine ⟨[b2], _, pub_cell_row hg (by simp [SObj.live]) hc (by simp) hnow hb1 hrow hb2 (by simp [Ids, Idss]) (by simp [Ids, Idss]), ?_⟩
      simp only [List.map_cons, List.map_nil, ren, rens, renO, e, e2, List.length_cons, List.length_nil]
      exact w8
theorem pe_44 : TyOk Try.prog 44 ⟨.agg [.bool false, .bool false, .int .i64 0, .int .i64 0, .int .i64 0, .int .i64 0, .int .i64 0, .int .i64 0, .int .i64 0], 9, 64, .st [(0, 1, false), (1, 1, false), (2, 1, false), (3, 1, false), (4, 1, false), (5, 1, false), (6, 1, false), (7, 1, false), (8, 1, false)], some (.st [(0, 1, false, .bl), (1, 1, false, .bl), (2, 1, false, .it .i64), (3, 1, false, .it .i64), (4, 1, false, .it .i64), (5, 1, false, .it .i64), (6, 1, false, .it .i64), (7, 1, false, .it .i64), (8, 1, false, .it .i64)])⟩ := ⟨fun _ => by kernel_rfl, ⟨rfl, rfl, fun _ _ => by simp [Wf, Wfs]⟩, ⟨_, Try.underlying44, by kernel_rfl⟩, fun _ h => by cases h; exact ⟨by kernel_rfl, by kernel_rfl⟩⟩
abbrev PT_ref11_Translate : TE := [(3, ⟨.int .i64 0, 1, 8, .sc (.int .i64), none⟩), (4, ⟨.bool false, 1, 1, .sc (.bool), none⟩), (23, ⟨.nils, 1, 24, .sc (.slice 3), none⟩), (33, ⟨.int .u64 0, 1, 8, .sc (.int .u64), none⟩), (42, ⟨.agg [.ints .u64 32 (fun _ => 0), .int .u64 0, .int .i64 0, .bool false, .ints .u64 29 (fun _ => 0), .int .u64 0], 65, 520, .st [(0, 32, true), (32, 1, false), (33, 1, false), (34, 1, false), (35, 29, true), (64, 1, false)], some (.st [(0, 32, true, .ar 32 1 (.it .u64)), (32, 1, false, .it .u64), (33, 1, false, .it .i64), (34, 1, false, .bl), (35, 29, true, .ar 29 1 (.it .u64)), (64, 1, false, .it .u64)])⟩), (44, ⟨.agg [.bool false, .bool false, .int .i64 0, .int .i64 0, .int .i64 0, .int .i64 0, .int .i64 0, .int .i64 0, .int .i64 0], 9, 64, .st [(0, 1, false), (1, 1, false), (2, 1, false), (3, 1, false), (4, 1, false), (5, 1, false), (6, 1, false), (7, 1, false), (8, 1, false)], some (.st [(0, 1, false, .bl), (1, 1, false, .bl), (2, 1, false, .it .i64), (3, 1, false, .it .i64), (4, 1, false, .it .i64), (5, 1, false, .it .i64), (6, 1, false, .it .i64), (7, 1, false, .it .i64), (8, 1, false, .it .i64)])⟩), (46, ⟨.agg [.int .u64 0, .int .u64 0, .int .u64 0, .bool false], 4, 32, .st [(0, 1, false), (1, 1, false), (2, 1, false), (3, 1, false)], some (.st [(0, 1, false, .it .u64), (1, 1, false, .it .u64), (2, 1, false, .it .u64), (3, 1, false, .bl)])⟩), (51, ⟨.agg [.bool false, .bool false, .bool false, .bool false, .int .i64 0, .int .i64 0, .int .i64 0, .int .i64 0], 8, 40, .st [(0, 1, false), (1, 1, false), (2, 1, false), (3, 1, false), (4, 1, false), (5, 1, false), (6, 1, false), (7, 1, false)], some (.st [(0, 1, false, .bl), (1, 1, false, .bl), (2, 1, false, .bl), (3, 1, false, .bl), (4, 1, false, .it .i64), (5, 1, false, .it .i64), (6, 1, false, .it .i64), (7, 1, false, .it .i64)])⟩), (61, ⟨.agg [.int .u64 0, .agg [.bool false, .bool false, .int .i64 0, .int .i64 0, .int .i64 0, .int .i64 0, .int .i64 0, .int .i64 0, .int .i64 0], .agg [.int .u64 0, .int .u64 0, .int .u64 0, .bool false], .bool false, .nils], 16, 136, .st [(0, 1, false), (1, 9, true), (10, 4, true), (14, 1, false), (15, 1, false)], none⟩)]
theorem PT_ref11_Translate_ok : Prg Try.prog PT_ref11_Translate := ⟨(.cons pe_3 (.cons pe_4 (.cons pe_23 (.cons pe_33 (.cons pe_42 (.cons pe_44 (.cons pe_46 (.cons pe_51 (.cons pe_61 (TEok.nil _)))))))))), by kernel_rfl⟩

noncomputable abbrev PO_ref11_Translate {α : Type} (F_ref11_Ask : Sg_ref11_Ask α) (F_ref11_Page : Sg_ref11_Page α) (F_ref11_GuestFault : Sg_ref11_GuestFault α) (F_ref11_first : Sg_ref11_first α) (F_ref11_may : Sg_ref11_may α) (F_ref11_Guest : Sg_ref11_Guest α) (F_ref11_Bad : Sg_ref11_Bad α) : ORC α := [(26, .pure (ad_ref11_Ask F_ref11_Ask)), (61, .pure (ad_ref11_Page F_ref11_Page)), (62, .pure (ad_ref11_GuestFault F_ref11_GuestFault)), (63, .full (ad_ref11_first F_ref11_first)), (64, .pure (ad_ref11_may F_ref11_may)), (28, .full (ad_ref11_Guest F_ref11_Guest)), (65, .pure (ad_ref11_Bad F_ref11_Bad))]
set_option maxRecDepth 100000 in
theorem ok_ref11_Translate {α : Type} (F_ref11_Ask : Sg_ref11_Ask α) (F_ref11_Page : Sg_ref11_Page α) (F_ref11_GuestFault : Sg_ref11_GuestFault α) (F_ref11_first : Sg_ref11_first α) (F_ref11_may : Sg_ref11_may α) (F_ref11_Guest : Sg_ref11_Guest α) (F_ref11_Bad : Sg_ref11_Bad α) (g0 g1 : Option Nat) (x0 : (Nat → Int)) (x1 : GState) (x2 : Int) (x3 : Int) (x4 : Int) (x5 : Bool) (x6 : Bool) (k : Int → GEntry → GFault → Bool → Bool → Nat → (Nat → Int) → R α) : bodyL PT_ref11_Translate (PO_ref11_Translate F_ref11_Ask F_ref11_Page F_ref11_GuestFault F_ref11_first F_ref11_may F_ref11_Guest F_ref11_Bad) [] ⟨1, []⟩ Try.f25 [.ptr 0 [], (GState.sv x1), (.int .u64 x2), (.int .i64 x3), (.int .i64 x4), (.bool x5), (.bool x6)] (hp [memO 1 g0, byO g1 x0]) (fun v σ1 => dR_ref11_Translate v σ1 k) = p_ref11_Translate F_ref11_Ask F_ref11_Page F_ref11_GuestFault F_ref11_first F_ref11_may F_ref11_Guest F_ref11_Bad x0 x1 x2 x3 x4 x5 x6 k := by kernel_rfl
theorem mk_ref11_Translate {α : Type} {I : Imm} {F_ref11_Ask : Sg_ref11_Ask α} {F_ref11_Page : Sg_ref11_Page α} {F_ref11_GuestFault : Sg_ref11_GuestFault α} {F_ref11_first : Sg_ref11_first α} {F_ref11_may : Sg_ref11_may α} {F_ref11_Guest : Sg_ref11_Guest α} {F_ref11_Bad : Sg_ref11_Bad α} (h_ref11_Ask : OrcOk (α := α) Try.prog I 26 (.pure (ad_ref11_Ask F_ref11_Ask))) (h_ref11_Page : OrcOk (α := α) Try.prog I 61 (.pure (ad_ref11_Page F_ref11_Page))) (h_ref11_GuestFault : OrcOk (α := α) Try.prog I 62 (.pure (ad_ref11_GuestFault F_ref11_GuestFault))) (h_ref11_first : OrcOk (α := α) Try.prog I 63 (.full (ad_ref11_first F_ref11_first))) (h_ref11_may : OrcOk (α := α) Try.prog I 64 (.pure (ad_ref11_may F_ref11_may))) (h_ref11_Guest : OrcOk (α := α) Try.prog I 28 (.full (ad_ref11_Guest F_ref11_Guest))) (h_ref11_Bad : OrcOk (α := α) Try.prog I 65 (.pure (ad_ref11_Bad F_ref11_Bad))) : OrcOk (α := α) Try.prog I 25 (.full (ad_ref11_Translate (p_ref11_Translate F_ref11_Ask F_ref11_Page F_ref11_GuestFault F_ref11_first F_ref11_may F_ref11_Guest F_ref11_Bad))) := by
  refine orc_canonK PT_ref11_Translate_ok (O := PO_ref11_Translate F_ref11_Ask F_ref11_Page F_ref11_GuestFault F_ref11_first F_ref11_may F_ref11_Guest F_ref11_Bad) (OOk.cons h_ref11_Ask (OOk.cons h_ref11_Page (OOk.cons h_ref11_GuestFault (OOk.cons h_ref11_first (OOk.cons h_ref11_may (OOk.cons h_ref11_Guest (OOk.cons h_ref11_Bad (OOk.nil)))))))) (L := []) ⟨1, []⟩ Try.func25 (by kernel_rfl) (by kernel_rfl) (by kernel_rfl) FLOk.nil ?_
  intro args σ k r hk
  unfold ad_ref11_Translate at hk
  split at hk <;> try (cases hk; done)
  obtain ⟨b, b1, g0, g1, x0, rfl, h0, h1, hne, hk0⟩ := withMem_spec hk
  obtain ⟨x1, rfl, hk1⟩ := GState.dec_spec hk0
  obtain ⟨x2, rfl, hk2⟩ := decI_spec hk1
  obtain ⟨x3, rfl, hk3⟩ := decI_spec hk2
  obtain ⟨x4, rfl, hk4⟩ := decI_spec hk3
  obtain ⟨x5, rfl, hk5⟩ := decB_spec hk4
  obtain ⟨x6, rfl, hk6⟩ := decB_spec hk5
  have hkz := hk6
  refine ⟨[b, b1], [memO 1 g0, byO g1 x0], [.ptr 0 [], (GState.sv x1), (.int .u64 x2), (.int .i64 x3), (.int .i64 x4), (.bool x5), (.bool x6)], lay_mk rfl (nodup2 hne) rfl ⟨h0, h1, trivial⟩ (by simp [AllL, Ids, Idss]) (by simp [AllL, OIds, Ids, Idss]), fun v σ1 => dR_ref11_Translate v σ1 (fun r0 r1 r2 r3 nl n tf => cond nl (k (.agg [(.int .u64 r0), (GEntry.sv r1), (GFault.sv r2), (.bool r3), .nils]) σ) (k (.agg [(.int .u64 r0), (GEntry.sv r1), (GFault.sv r2), (.bool r3), (.slc σ.next [] 1 0 n none)]) ⟨σ.next + 1, [(σ.next, .cells (some 1) (.ints .i64 n tf))] ++ σ.blocks⟩)), ?_, fun v σ1 hg hv => ?_⟩
  · rw [ok_ref11_Translate]; exact hkz
  · unfold dR_ref11_Translate at hv
    obtain ⟨hc, hv0⟩ := bif_some hv
    split at hv0 <;> try (cases hv0; done)
    obtain ⟨r0, rfl, w0⟩ := decI_spec hv0
    obtain ⟨r1, rfl, w1⟩ := GEntry.dec_spec w0
    obtain ⟨r2, rfl, w2⟩ := GFault.dec_spec w1
    obtain ⟨r3, rfl, w3⟩ := decB_spec w2
    rcases decR_spec w3 with ⟨rfl, w4⟩ | ⟨b2, n, tf, rfl, ⟨hb1, hb2⟩, hrow, w4⟩
    · skip
      exact ⟨[], [], pub_keep hg (by simp [SObj.live]) hc (by simp [Ids, Idss]), w4⟩
    · skip
      have hb3 : 2 ≤ b2 := hb1
      have e : rnm [b, b1] σ.next [b2] b2 = σ.next := by
        obtain ⟨j, rfl⟩ : ∃ j, b2 = j + 2 := ⟨b2 - 2, by omega⟩
        simp [rnm, getN, posN]
      refine ⟨[b2], [(b2, .cells (some 1) (.ints .i64 n tf))], pub_row hg (by simp [SObj.live]) hc hb1 hrow hb2 (by simp [Ids, Idss]), ?_⟩
      simp only [List.map_cons, List.map_nil, ren, rens, renO, e, List.length_cons, List.length_nil]
      exact w4
abbrev PT_ref8_Mask : TE := [(3, ⟨.int .i64 0, 1, 8, .sc (.int .i64), none⟩), (23, ⟨.nils, 1, 24, .sc (.slice 3), none⟩)]
theorem PT_ref8_Mask_ok : Prg Try.prog PT_ref8_Mask := ⟨(.cons pe_3 (.cons pe_23 (TEok.nil _))), by kernel_rfl⟩

abbrev PT_ref8_bits : TE := [(3, ⟨.int .i64 0, 1, 8, .sc (.int .i64), none⟩), (23, ⟨.nils, 1, 24, .sc (.slice 3), none⟩), (33, ⟨.int .u64 0, 1, 8, .sc (.int .u64), none⟩), (82, ⟨.int .u64 0, 1, 8, .sc (.int .u64), none⟩)]
theorem PT_ref8_bits_ok : Prg Try.prog PT_ref8_bits := ⟨(.cons pe_3 (.cons pe_23 (.cons pe_33 (.cons pe_82 (TEok.nil _))))), by kernel_rfl⟩
noncomputable abbrev B_ref8_Mask_ref8_bits {α : Type}  : FF α := byBody PT_ref8_bits [] ⟨18, []⟩ Try.f76
theorem cB_ref8_Mask_ref8_bits {α : Type} {I : Imm}  : OrcOk (α := α) Try.prog I 76 (.full (B_ref8_Mask_ref8_bits )) := orc_body PT_ref8_bits_ok (OOk.nil) ⟨18, []⟩ Try.func76 (by kernel_rfl) (by kernel_rfl) (by kernel_rfl)
noncomputable abbrev PO_ref8_Mask {α : Type}  : ORC α := [(76, .full (B_ref8_Mask_ref8_bits ))]
set_option maxRecDepth 100000 in
theorem ok_ref8_Mask {α : Type}  (x0 : Int) (k : Int → R α) : bodyL PT_ref8_Mask (PO_ref8_Mask ) [] ⟨18, []⟩ Try.f35 [(.int .i64 x0)] emp (fun v _ => dR_ref8_Mask v k) = p_ref8_Mask  x0 k := by kernel_rfl
theorem mk_ref8_Mask {α : Type} {I : Imm}  : OrcOk (α := α) Try.prog I 35 (.pure (ad_ref8_Mask (p_ref8_Mask ))) := by
  refine orc_pureK PT_ref8_Mask_ok (O := PO_ref8_Mask ) (OOk.cons (cB_ref8_Mask_ref8_bits ) (OOk.nil)) (L := []) ⟨18, []⟩ Try.func35 (by kernel_rfl) (by kernel_rfl) (by kernel_rfl) FLOk.nil ?_
  intro args k r hk
  unfold ad_ref8_Mask at hk
  split at hk <;> try (cases hk; done)
  obtain ⟨x0, rfl, hk0⟩ := decI_spec hk
  have hkz := hk0
  refine ⟨by simp [Ids, Idss], fun v => dR_ref8_Mask v (fun r0 => k (.int .u64 r0)), ?_, fun v hv => ?_⟩
  · rw [ok_ref8_Mask]; exact hkz
  · obtain ⟨r0, rfl, hv1⟩ := dR_ref8_Mask_spec hv; exact ⟨hv1, by simp [Ids, Idss]⟩
abbrev PT_ref8_Mpp : TE := [(33, ⟨.int .u64 0, 1, 8, .sc (.int .u64), none⟩)]
theorem PT_ref8_Mpp_ok : Prg Try.prog PT_ref8_Mpp := ⟨(.cons pe_33 (TEok.nil _)), by kernel_rfl⟩

noncomputable abbrev PO_ref8_Mpp {α : Type}  : ORC α := []
set_option maxRecDepth 100000 in
theorem ok_ref8_Mpp {α : Type}  (x0 : Int) (k : Int → R α) : bodyL PT_ref8_Mpp (PO_ref8_Mpp ) [] ⟨1, []⟩ Try.f60 [(.int .u64 x0)] emp (fun v _ => dR_ref8_Mpp v k) = p_ref8_Mpp  x0 k := by kernel_rfl
theorem mk_ref8_Mpp {α : Type} {I : Imm}  : OrcOk (α := α) Try.prog I 60 (.pure (ad_ref8_Mpp (p_ref8_Mpp ))) := by
  refine orc_pureK PT_ref8_Mpp_ok (O := PO_ref8_Mpp ) (OOk.nil) (L := []) ⟨1, []⟩ Try.func60 (by kernel_rfl) (by kernel_rfl) (by kernel_rfl) FLOk.nil ?_
  intro args k r hk
  unfold ad_ref8_Mpp at hk
  split at hk <;> try (cases hk; done)
  obtain ⟨x0, rfl, hk0⟩ := decI_spec hk
  have hkz := hk0
  refine ⟨by simp [Ids, Idss], fun v => dR_ref8_Mpp v (fun r0 => k (.int .u64 r0)), ?_, fun v hv => ?_⟩
  · rw [ok_ref8_Mpp]; exact hkz
  · obtain ⟨r0, rfl, hv1⟩ := dR_ref8_Mpp_spec hv; exact ⟨hv1, by simp [Ids, Idss]⟩
theorem pe_39 : TyOk Try.prog 39 ⟨.ints .u64 32 (fun _ => 0), 32, 256, .ar 32 33 1 false, some (.ar 32 1 (.it .u64))⟩ := ⟨fun _ => by kernel_rfl, ⟨rfl, rfl, fun _ _ => by simp [Wf, Wfs]⟩, ⟨Try.underlying39, by kernel_rfl, by kernel_rfl⟩, fun _ h => by cases h; exact ⟨by kernel_rfl, by kernel_rfl⟩⟩
abbrev PT_ref18_Clean : TE := [(3, ⟨.int .i64 0, 1, 8, .sc (.int .i64), none⟩), (4, ⟨.bool false, 1, 1, .sc (.bool), none⟩), (33, ⟨.int .u64 0, 1, 8, .sc (.int .u64), none⟩), (39, ⟨.ints .u64 32 (fun _ => 0), 32, 256, .ar 32 33 1 false, some (.ar 32 1 (.it .u64))⟩), (40, ⟨.ints .u64 29 (fun _ => 0), 29, 232, .ar 29 33 1 false, some (.ar 29 1 (.it .u64))⟩), (42, ⟨.agg [.ints .u64 32 (fun _ => 0), .int .u64 0, .int .i64 0, .bool false, .ints .u64 29 (fun _ => 0), .int .u64 0], 65, 520, .st [(0, 32, true), (32, 1, false), (33, 1, false), (34, 1, false), (35, 29, true), (64, 1, false)], some (.st [(0, 32, true, .ar 32 1 (.it .u64)), (32, 1, false, .it .u64), (33, 1, false, .it .i64), (34, 1, false, .bl), (35, 29, true, .ar 29 1 (.it .u64)), (64, 1, false, .it .u64)])⟩)]
theorem PT_ref18_Clean_ok : Prg Try.prog PT_ref18_Clean := ⟨(.cons pe_3 (.cons pe_4 (.cons pe_33 (.cons pe_39 (.cons pe_40 (.cons pe_42 (TEok.nil _))))))), by kernel_rfl⟩

noncomputable abbrev PO_ref18_Clean {α : Type} (F_ref8_Mask : Sg_ref8_Mask α) (F_ref8_Mpp : Sg_ref8_Mpp α) : ORC α := [(35, .pure (ad_ref8_Mask F_ref8_Mask)), (60, .pure (ad_ref8_Mpp F_ref8_Mpp))]
set_option maxRecDepth 100000 in
theorem ok_ref18_Clean {α : Type} (F_ref8_Mask : Sg_ref8_Mask α) (F_ref8_Mpp : Sg_ref8_Mpp α) (x0 : GState) (k : GState → R α) : bodyL PT_ref18_Clean (PO_ref18_Clean F_ref8_Mask F_ref8_Mpp) [] ⟨30, []⟩ Try.f24 [(GState.sv x0)] emp (fun v _ => dR_ref18_Clean v k) = p_ref18_Clean F_ref8_Mask F_ref8_Mpp x0 k := by kernel_rfl
theorem mk_ref18_Clean {α : Type} {I : Imm} {F_ref8_Mask : Sg_ref8_Mask α} {F_ref8_Mpp : Sg_ref8_Mpp α} (h_ref8_Mask : OrcOk (α := α) Try.prog I 35 (.pure (ad_ref8_Mask F_ref8_Mask))) (h_ref8_Mpp : OrcOk (α := α) Try.prog I 60 (.pure (ad_ref8_Mpp F_ref8_Mpp))) : OrcOk (α := α) Try.prog I 24 (.pure (ad_ref18_Clean (p_ref18_Clean F_ref8_Mask F_ref8_Mpp))) := by
  refine orc_pureK PT_ref18_Clean_ok (O := PO_ref18_Clean F_ref8_Mask F_ref8_Mpp) (OOk.cons h_ref8_Mask (OOk.cons h_ref8_Mpp (OOk.nil))) (L := []) ⟨30, []⟩ Try.func24 (by kernel_rfl) (by kernel_rfl) (by kernel_rfl) FLOk.nil ?_
  intro args k r hk
  unfold ad_ref18_Clean at hk
  split at hk <;> try (cases hk; done)
  obtain ⟨x0, rfl, hk0⟩ := GState.dec_spec hk
  have hkz := hk0
  refine ⟨by simp [Ids, Idss], fun v => dR_ref18_Clean v (fun r0 => k (GState.sv r0)), ?_, fun v hv => ?_⟩
  · rw [ok_ref18_Clean]; exact hkz
  · obtain ⟨r0, rfl, hv1⟩ := dR_ref18_Clean_spec hv; exact ⟨hv1, by simp [Ids, Idss]⟩
abbrev PT_ref1_Mem_Write : TE := [(3, ⟨.int .i64 0, 1, 8, .sc (.int .i64), none⟩), (5, ⟨.int .u8 0, 1, 1, .sc (.int .u8), none⟩), (33, ⟨.int .u64 0, 1, 8, .sc (.int .u64), none⟩), (37, ⟨.nils, 1, 24, .sc (.slice 5), none⟩), (82, ⟨.int .u64 0, 1, 8, .sc (.int .u64), none⟩), (168, ⟨.agg [.nils], 1, 24, .st [(0, 1, false)], none⟩)]
theorem PT_ref1_Mem_Write_ok : Prg Try.prog PT_ref1_Mem_Write := ⟨(.cons pe_3 (.cons pe_5 (.cons pe_33 (.cons pe_37 (.cons pe_82 (.cons pe_168 (TEok.nil _))))))), by kernel_rfl⟩

noncomputable abbrev PO_ref1_Mem_Write {α : Type}  : ORC α := []
set_option maxRecDepth 100000 in
theorem ok_ref1_Mem_Write_8 {α : Type}  (g0 g1 : Option Nat) (x0 : (Nat → Int)) (x1 : Int) (x3 : Int) (k : Option Nat → (Nat → Int) → R α) : bodyL PT_ref1_Mem_Write (PO_ref1_Mem_Write ) [] ⟨9, []⟩ Try.f59 [.ptr 0 [], (.int .u64 x1), (.int .i64 8), (.int .u64 x3)] (hp [memO 1 g0, byO g1 x0]) (fun v σ1 => dR_ref1_Mem_Write v σ1 k) = p_ref1_Mem_Write_8  x0 x1 x3 (fun fm => k g1 fm) := by kernel_rfl
set_option maxRecDepth 100000 in
theorem ok_ref1_Mem_Write_4 {α : Type}  (g0 g1 : Option Nat) (x0 : (Nat → Int)) (x1 : Int) (x3 : Int) (k : Option Nat → (Nat → Int) → R α) : bodyL PT_ref1_Mem_Write (PO_ref1_Mem_Write ) [] ⟨9, []⟩ Try.f59 [.ptr 0 [], (.int .u64 x1), (.int .i64 4), (.int .u64 x3)] (hp [memO 1 g0, byO g1 x0]) (fun v σ1 => dR_ref1_Mem_Write v σ1 k) = p_ref1_Mem_Write_4  x0 x1 x3 (fun fm => k g1 fm) := by kernel_rfl
set_option maxRecDepth 100000 in
theorem ok_ref1_Mem_Write_2 {α : Type}  (g0 g1 : Option Nat) (x0 : (Nat → Int)) (x1 : Int) (x3 : Int) (k : Option Nat → (Nat → Int) → R α) : bodyL PT_ref1_Mem_Write (PO_ref1_Mem_Write ) [] ⟨9, []⟩ Try.f59 [.ptr 0 [], (.int .u64 x1), (.int .i64 2), (.int .u64 x3)] (hp [memO 1 g0, byO g1 x0]) (fun v σ1 => dR_ref1_Mem_Write v σ1 k) = p_ref1_Mem_Write_2  x0 x1 x3 (fun fm => k g1 fm) := by kernel_rfl
set_option maxRecDepth 100000 in
theorem ok_ref1_Mem_Write_1 {α : Type}  (g0 g1 : Option Nat) (x0 : (Nat → Int)) (x1 : Int) (x3 : Int) (k : Option Nat → (Nat → Int) → R α) : bodyL PT_ref1_Mem_Write (PO_ref1_Mem_Write ) [] ⟨9, []⟩ Try.f59 [.ptr 0 [], (.int .u64 x1), (.int .i64 1), (.int .u64 x3)] (hp [memO 1 g0, byO g1 x0]) (fun v σ1 => dR_ref1_Mem_Write v σ1 k) = p_ref1_Mem_Write_1  x0 x1 x3 (fun fm => k g1 fm) := by kernel_rfl
theorem ok_ref1_Mem_Write {α : Type}  {g0 g1 : Option Nat} {x0 : (Nat → Int)} {x1 : Int} {x2 : Int} {x3 : Int} {k : Option Nat → (Nat → Int) → R α} {r : α} (h : p_ref1_Mem_Write  x0 x1 x2 x3 (fun fm => k g1 fm) = some r) : bodyL PT_ref1_Mem_Write (PO_ref1_Mem_Write ) [] ⟨9, []⟩ Try.f59 [.ptr 0 [], (.int .u64 x1), (.int .i64 x2), (.int .u64 x3)] (hp [memO 1 g0, byO g1 x0]) (fun v σ1 => dR_ref1_Mem_Write v σ1 k) = some r := by
  unfold p_ref1_Mem_Write at h
  cases e0 : (x2 == 8)
  case true => rw [e0] at h; simp only [cond_true] at h; rw [beq_iff_eq] at e0; subst e0; exact (ok_ref1_Mem_Write_8  g0 g1 x0 x1 x3 k).trans h
  rw [e0] at h; simp only [cond_false] at h
  cases e1 : (x2 == 4)
  case true => rw [e1] at h; simp only [cond_true] at h; rw [beq_iff_eq] at e1; subst e1; exact (ok_ref1_Mem_Write_4  g0 g1 x0 x1 x3 k).trans h
  rw [e1] at h; simp only [cond_false] at h
  cases e2 : (x2 == 2)
  case true => rw [e2] at h; simp only [cond_true] at h; rw [beq_iff_eq] at e2; subst e2; exact (ok_ref1_Mem_Write_2  g0 g1 x0 x1 x3 k).trans h
  rw [e2] at h; simp only [cond_false] at h
  cases e3 : (x2 == 1)
  case true => rw [e3] at h; simp only [cond_true] at h; rw [beq_iff_eq] at e3; subst e3; exact (ok_ref1_Mem_Write_1  g0 g1 x0 x1 x3 k).trans h
  rw [e3] at h; simp only [cond_false] at h
  cases h
theorem mk_ref1_Mem_Write {α : Type} {I : Imm}  : OrcOk (α := α) Try.prog I 59 (.full (ad_ref1_Mem_Write (p_ref1_Mem_Write ))) := by
  refine orc_canonK PT_ref1_Mem_Write_ok (O := PO_ref1_Mem_Write ) (OOk.nil) (L := []) ⟨9, []⟩ Try.func59 (by kernel_rfl) (by kernel_rfl) (by kernel_rfl) FLOk.nil ?_
  intro args σ k r hk
  unfold ad_ref1_Mem_Write at hk
  split at hk <;> try (cases hk; done)
  obtain ⟨b, b1, g0, g1, x0, rfl, h0, h1, hne, hk0⟩ := withMem_spec hk
  obtain ⟨x1, rfl, hk1⟩ := decI_spec hk0
  obtain ⟨x2, rfl, hk2⟩ := decI_spec hk1
  obtain ⟨x3, rfl, hk3⟩ := decI_spec hk2
  have hkz := hk3
  refine ⟨[b, b1], [memO 1 g0, byO g1 x0], [.ptr 0 [], (.int .u64 x1), (.int .i64 x2), (.int .u64 x3)], lay_mk rfl (nodup2 hne) rfl ⟨h0, h1, trivial⟩ (by simp [AllL, Ids, Idss]) (by simp [AllL, OIds, Ids, Idss]), fun v σ1 => dR_ref1_Mem_Write v σ1 (fun g fm => k (.tuple []) ⟨σ.next, [(b1, byO g fm)] ++ σ.blocks⟩), ?_, fun v σ1 hg hv => ?_⟩
  · exact ok_ref1_Mem_Write hkz
  · unfold dR_ref1_Mem_Write at hv
    obtain ⟨hc, hv0⟩ := bif_some hv
    obtain ⟨g, fm, hnow, hv1⟩ := nowAt_spec hv0
    split at hv1 <;> try (cases hv1; done)
    exact ⟨[], [(1, byO g fm)], pub_write hg (by simp [SObj.live]) hc (by simp) hnow (by simp [Ids, Idss]), hv1⟩
abbrev PT_law12_allowed : TE := [(3, ⟨.int .i64 0, 1, 8, .sc (.int .i64), none⟩), (4, ⟨.bool false, 1, 1, .sc (.bool), none⟩), (33, ⟨.int .u64 0, 1, 8, .sc (.int .u64), none⟩), (42, ⟨.agg [.ints .u64 32 (fun _ => 0), .int .u64 0, .int .i64 0, .bool false, .ints .u64 29 (fun _ => 0), .int .u64 0], 65, 520, .st [(0, 32, true), (32, 1, false), (33, 1, false), (34, 1, false), (35, 29, true), (64, 1, false)], some (.st [(0, 32, true, .ar 32 1 (.it .u64)), (32, 1, false, .it .u64), (33, 1, false, .it .i64), (34, 1, false, .bl), (35, 29, true, .ar 29 1 (.it .u64)), (64, 1, false, .it .u64)])⟩), (44, ⟨.agg [.bool false, .bool false, .int .i64 0, .int .i64 0, .int .i64 0, .int .i64 0, .int .i64 0, .int .i64 0, .int .i64 0], 9, 64, .st [(0, 1, false), (1, 1, false), (2, 1, false), (3, 1, false), (4, 1, false), (5, 1, false), (6, 1, false), (7, 1, false), (8, 1, false)], some (.st [(0, 1, false, .bl), (1, 1, false, .bl), (2, 1, false, .it .i64), (3, 1, false, .it .i64), (4, 1, false, .it .i64), (5, 1, false, .it .i64), (6, 1, false, .it .i64), (7, 1, false, .it .i64), (8, 1, false, .it .i64)])⟩), (46, ⟨.agg [.int .u64 0, .int .u64 0, .int .u64 0, .bool false], 4, 32, .st [(0, 1, false), (1, 1, false), (2, 1, false), (3, 1, false)], some (.st [(0, 1, false, .it .u64), (1, 1, false, .it .u64), (2, 1, false, .it .u64), (3, 1, false, .bl)])⟩), (51, ⟨.agg [.bool false, .bool false, .bool false, .bool false, .int .i64 0, .int .i64 0, .int .i64 0, .int .i64 0], 8, 40, .st [(0, 1, false), (1, 1, false), (2, 1, false), (3, 1, false), (4, 1, false), (5, 1, false), (6, 1, false), (7, 1, false)], some (.st [(0, 1, false, .bl), (1, 1, false, .bl), (2, 1, false, .bl), (3, 1, false, .bl), (4, 1, false, .it .i64), (5, 1, false, .it .i64), (6, 1, false, .it .i64), (7, 1, false, .it .i64)])⟩)]
theorem PT_law12_allowed_ok : Prg Try.prog PT_law12_allowed := ⟨(.cons pe_3 (.cons pe_4 (.cons pe_33 (.cons pe_42 (.cons pe_44 (.cons pe_46 (.cons pe_51 (TEok.nil _)))))))), by kernel_rfl⟩

noncomputable abbrev PO_law12_allowed {α : Type} (F_ref11_Ask : Sg_ref11_Ask α) (F_ref11_May : Sg_ref11_May α) (F_ref11_Page : Sg_ref11_Page α) (F_ref11_GuestFault : Sg_ref11_GuestFault α) : ORC α := [(26, .pure (ad_ref11_Ask F_ref11_Ask)), (70, .pure (ad_ref11_May F_ref11_May)), (61, .pure (ad_ref11_Page F_ref11_Page)), (62, .pure (ad_ref11_GuestFault F_ref11_GuestFault))]
set_option maxRecDepth 100000 in
theorem ok_law12_allowed {α : Type} (F_ref11_Ask : Sg_ref11_Ask α) (F_ref11_May : Sg_ref11_May α) (F_ref11_Page : Sg_ref11_Page α) (F_ref11_GuestFault : Sg_ref11_GuestFault α) (x0 : GState) (x1 : GEntry) (x2 : Int) (x3 : Int) (x4 : Int) (x5 : Bool) (k : GFault → Bool → R α) : bodyL PT_law12_allowed (PO_law12_allowed F_ref11_Ask F_ref11_May F_ref11_Page F_ref11_GuestFault) [] ⟨1, []⟩ Try.f30 [(GState.sv x0), (GEntry.sv x1), (.int .u64 x2), (.int .i64 x3), (.int .i64 x4), (.bool x5)] emp (fun v _ => dR_law12_allowed v k) = p_law12_allowed F_ref11_Ask F_ref11_May F_ref11_Page F_ref11_GuestFault x0 x1 x2 x3 x4 x5 k := by kernel_rfl
theorem mk_law12_allowed {α : Type} {I : Imm} {F_ref11_Ask : Sg_ref11_Ask α} {F_ref11_May : Sg_ref11_May α} {F_ref11_Page : Sg_ref11_Page α} {F_ref11_GuestFault : Sg_ref11_GuestFault α} (h_ref11_Ask : OrcOk (α := α) Try.prog I 26 (.pure (ad_ref11_Ask F_ref11_Ask))) (h_ref11_May : OrcOk (α := α) Try.prog I 70 (.pure (ad_ref11_May F_ref11_May))) (h_ref11_Page : OrcOk (α := α) Try.prog I 61 (.pure (ad_ref11_Page F_ref11_Page))) (h_ref11_GuestFault : OrcOk (α := α) Try.prog I 62 (.pure (ad_ref11_GuestFault F_ref11_GuestFault))) : OrcOk (α := α) Try.prog I 30 (.pure (ad_law12_allowed (p_law12_allowed F_ref11_Ask F_ref11_May F_ref11_Page F_ref11_GuestFault))) := by
  refine orc_pureK PT_law12_allowed_ok (O := PO_law12_allowed F_ref11_Ask F_ref11_May F_ref11_Page F_ref11_GuestFault) (OOk.cons h_ref11_Ask (OOk.cons h_ref11_May (OOk.cons h_ref11_Page (OOk.cons h_ref11_GuestFault (OOk.nil))))) (L := []) ⟨1, []⟩ Try.func30 (by kernel_rfl) (by kernel_rfl) (by kernel_rfl) FLOk.nil ?_
  intro args k r hk
  unfold ad_law12_allowed at hk
  split at hk <;> try (cases hk; done)
  obtain ⟨x0, rfl, hk0⟩ := GState.dec_spec hk
  obtain ⟨x1, rfl, hk1⟩ := GEntry.dec_spec hk0
  obtain ⟨x2, rfl, hk2⟩ := decI_spec hk1
  obtain ⟨x3, rfl, hk3⟩ := decI_spec hk2
  obtain ⟨x4, rfl, hk4⟩ := decI_spec hk3
  obtain ⟨x5, rfl, hk5⟩ := decB_spec hk4
  have hkz := hk5
  refine ⟨by simp [Ids, Idss], fun v => dR_law12_allowed v (fun r0 r1 => k (.tuple [(GFault.sv r0), (.bool r1)])), ?_, fun v hv => ?_⟩
  · rw [ok_law12_allowed]; exact hkz
  · obtain ⟨r0, r1, rfl, hv1⟩ := dR_law12_allowed_spec hv; exact ⟨hv1, by simp [Ids, Idss]⟩
end Go.Proofs.Ytigomjcmpafeeaa
