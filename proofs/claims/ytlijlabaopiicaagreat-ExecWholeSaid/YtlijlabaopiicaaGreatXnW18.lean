/-
  One instruction (printed by wip/pr/pr.py): the functions come to just that.
-/
import Derived.Test.YtlijlabaopiicaaGreatXnB18
import Derived.Test.YtlijlabaopiicaaGreatXnOnce
import Derived.Test.YtlijlabaopiicaaGreatSpW18
namespace Go.Proofs.YtlijlabaopiicaaGreat
open Go Go.Sh Go.Proofs
set_option linter.unusedVariables false
set_option linter.unusedSimpArgs false
abbrev PT_z19 : TE := [(3, ⟨.int .i64 0, 1, 8, .sc (.int .i64), none⟩)]
theorem PT_z4b : Prg Tryz.prog PT_z19 := ⟨(.cons pe_3 (TEok.nil _)), by kernel_rfl⟩
noncomputable abbrev PO_z19 {α : Type}  : ORC α := []
set_option maxRecDepth 100000 in
theorem ok_z19 {α : Type}  (x0 : Int) (x1 : Int) (k : Int → Int → R α) : bodyL PT_z19 (PO_z19 ) [] ⟨1, []⟩ Tryz.f155 [(.int .i64 x0), (.int .i64 x1)] emp (fun v _ => dR_word_part v k) = p_z19  x0 x1 k := by kernel_rfl
theorem mk_z19 {α : Type} {I : Imm}  : OrcOk (α := α) Tryz.prog I 155 (.pure (ad_z19 (p_z19 ))) := by
  refine orc_pureK PT_z4b (O := PO_z19 ) (OOk.nil) (L := []) ⟨1, []⟩ Tryz.func155 (by kernel_rfl) (by kernel_rfl) (by kernel_rfl) FLOk.nil ?_
  intro args k r hk
  unfold ad_z19 at hk
  split at hk <;> try (cases hk; done)
  obtain ⟨x0, rfl, hk0⟩ := decI_spec hk
  obtain ⟨x1, rfl, hk1⟩ := decI_spec hk0
  have hkz := hk1
  refine ⟨by simp [Ids, Idss], fun v => dR_word_part v (fun r0 r1 => k (.tuple [(.int .i64 r0), (.int .i64 r1)])), ?_, fun v hv => ?_⟩
  · rw [ok_z19]; exact hkz
  · obtain ⟨r0, r1, rfl, hv1⟩ := dR_word_part_spec hv; exact ⟨hv1, by simp [Ids, Idss]⟩
abbrev PT_zn : TE := [(3, ⟨.int .i64 0, 1, 8, .sc (.int .i64), none⟩), (22, ⟨.int .u64 0, 1, 8, .sc (.int .u64), none⟩)]
theorem PT_z49 : Prg Tryz.prog PT_zn := ⟨(.cons pe_3 (.cons pe_22 (TEok.nil _))), by kernel_rfl⟩
noncomputable abbrev PO_zn {α : Type}  : ORC α := []
set_option maxRecDepth 100000 in
theorem ok_zn {α : Type}  (x0 : Int) (k : Int → R α) : bodyL PT_zn (PO_zn ) [] ⟨1, []⟩ Tryz.f156 [(.int .i64 x0)] emp (fun v _ => dR_word_mask v k) = p_zn  x0 k := by kernel_rfl
theorem mk_zn {α : Type} {I : Imm}  : OrcOk (α := α) Tryz.prog I 156 (.pure (ad_zn (p_zn ))) := by
  refine orc_pureK PT_z49 (O := PO_zn ) (OOk.nil) (L := []) ⟨1, []⟩ Tryz.func156 (by kernel_rfl) (by kernel_rfl) (by kernel_rfl) FLOk.nil ?_
  intro args k r hk
  unfold ad_zn at hk
  split at hk <;> try (cases hk; done)
  obtain ⟨x0, rfl, hk0⟩ := decI_spec hk
  have hkz := hk0
  refine ⟨by simp [Ids, Idss], fun v => dR_word_mask v (fun r0 => k (.int .u64 r0)), ?_, fun v hv => ?_⟩
  · rw [ok_zn]; exact hkz
  · obtain ⟨r0, rfl, hv1⟩ := dR_word_mask_spec hv; exact ⟨hv1, by simp [Ids, Idss]⟩
abbrev PT_z2 : TE := [(22, ⟨.int .u64 0, 1, 8, .sc (.int .u64), none⟩)]
theorem PT_z4c : Prg Tryz.prog PT_z2 := ⟨(.cons pe_22 (TEok.nil _)), by kernel_rfl⟩
noncomputable abbrev PO_z2 {α : Type} (F_z19 : Sg_z19 α) (F_zn : Sg_zn α) : ORC α := [(155, .pure (ad_z19 F_z19)), (156, .pure (ad_zn F_zn))]
set_option maxRecDepth 100000 in
theorem ok_z2 {α : Type} (F_z19 : Sg_z19 α) (F_zn : Sg_zn α) (x0 : Int) (x1 : Int) (x2 : Int) (k : Int → R α) : bodyL PT_z2 (PO_z2 F_z19 F_zn) [] ⟨1, []⟩ Tryz.f118 [(.int .u64 x0), (.int .i64 x1), (.int .i64 x2)] emp (fun v _ => dR_word_Bits v k) = p_z2 F_z19 F_zn x0 x1 x2 k := by kernel_rfl
theorem mk_z2 {α : Type} {I : Imm} {F_z19 : Sg_z19 α} {F_zn : Sg_zn α} (h_z19 : OrcOk (α := α) Tryz.prog I 155 (.pure (ad_z19 F_z19))) (h_zn : OrcOk (α := α) Tryz.prog I 156 (.pure (ad_zn F_zn))) : OrcOk (α := α) Tryz.prog I 118 (.pure (ad_z2 (p_z2 F_z19 F_zn))) := by
  refine orc_pureK PT_z4c (O := PO_z2 F_z19 F_zn) (OOk.cons h_z19 (OOk.cons h_zn (OOk.nil))) (L := []) ⟨1, []⟩ Tryz.func118 (by kernel_rfl) (by kernel_rfl) (by kernel_rfl) FLOk.nil ?_
  intro args k r hk
  unfold ad_z2 at hk
  split at hk <;> try (cases hk; done)
  obtain ⟨x0, rfl, hk0⟩ := decI_spec hk
  obtain ⟨x1, rfl, hk1⟩ := decI_spec hk0
  obtain ⟨x2, rfl, hk2⟩ := decI_spec hk1
  have hkz := hk2
  refine ⟨by simp [Ids, Idss], fun v => dR_word_Bits v (fun r0 => k (.int .u64 r0)), ?_, fun v hv => ?_⟩
  · rw [ok_z2]; exact hkz
  · obtain ⟨r0, rfl, hv1⟩ := dR_word_Bits_spec hv; exact ⟨hv1, by simp [Ids, Idss]⟩
theorem pe_32 : TyOk Tryz.prog 32 ⟨.int .u32 0, 1, 4, .sc (.int .u32), none⟩ := ⟨fun _ => by kernel_rfl, ⟨rfl, rfl, fun _ _ => by simp [Wf, Wfs]⟩, ⟨Tryz.underlying32, rfl⟩, fun _ h => by cases h⟩
theorem pe_135 : TyOk Tryz.prog 135 ⟨.agg [.int .u32 0, .int .i64 0, .int .i64 0, .int .i64 0, .int .i64 0, .int .i64 0], 6, 48, .st [(0, 1, false), (1, 1, false), (2, 1, false), (3, 1, false), (4, 1, false), (5, 1, false)], some (.st [(0, 1, false, .it .u32), (1, 1, false, .it .i64), (2, 1, false, .it .i64), (3, 1, false, .it .i64), (4, 1, false, .it .i64), (5, 1, false, .it .i64)])⟩ := ⟨fun _ => by kernel_rfl, ⟨rfl, rfl, fun _ _ => by simp [Wf, Wfs]⟩, ⟨_, Tryz.underlying135, by kernel_rfl⟩, fun _ h => by cases h; exact ⟨by kernel_rfl, by kernel_rfl⟩⟩
abbrev PT_z2w : TE := [(32, ⟨.int .u32 0, 1, 4, .sc (.int .u32), none⟩), (135, ⟨.agg [.int .u32 0, .int .i64 0, .int .i64 0, .int .i64 0, .int .i64 0, .int .i64 0], 6, 48, .st [(0, 1, false), (1, 1, false), (2, 1, false), (3, 1, false), (4, 1, false), (5, 1, false)], some (.st [(0, 1, false, .it .u32), (1, 1, false, .it .i64), (2, 1, false, .it .i64), (3, 1, false, .it .i64), (4, 1, false, .it .i64), (5, 1, false, .it .i64)])⟩)]
theorem PT_z9m : Prg Tryz.prog PT_z2w := ⟨(.cons pe_32 (.cons pe_135 (TEok.nil _))), by kernel_rfl⟩
abbrev PT_z97 : TE := [(3, ⟨.int .i64 0, 1, 8, .sc (.int .i64), none⟩), (22, ⟨.int .u64 0, 1, 8, .sc (.int .u64), none⟩), (32, ⟨.int .u32 0, 1, 4, .sc (.int .u32), none⟩)]
theorem PT_z9n : Prg Tryz.prog PT_z97 := ⟨(.cons pe_3 (.cons pe_22 (.cons pe_32 (TEok.nil _)))), by kernel_rfl⟩
noncomputable abbrev B_z79 {α : Type} (F_z2 : Sg_z2 α) : FF α := byBody PT_z97 [(118, .pure (ad_z2 F_z2))] ⟨1, []⟩ Tryz.f117
theorem cB_z79 {α : Type} {I : Imm} {F_z2 : Sg_z2 α} (h_z2 : OrcOk (α := α) Tryz.prog I 118 (.pure (ad_z2 F_z2))) : OrcOk (α := α) Tryz.prog I 117 (.full (B_z79 F_z2)) := orc_body PT_z9n (OOk.cons h_z2 (OOk.nil)) ⟨1, []⟩ Tryz.func117 (by kernel_rfl) (by kernel_rfl) (by kernel_rfl)
noncomputable abbrev PO_z2w {α : Type} (F_z2 : Sg_z2 α) : ORC α := [(117, .full (B_z79 F_z2))]
set_option maxRecDepth 100000 in
theorem ok_z2w {α : Type} (F_z2 : Sg_z2 α) (x0 : Int) (k : GDecode_parts → R α) : bodyL PT_z2w (PO_z2w F_z2) [] ⟨1, []⟩ Tryz.f66 [(.int .u32 x0)] emp (fun v _ => dR_decode_of v k) = p_z2w F_z2 x0 k := by kernel_rfl
theorem mk_z2w {α : Type} {I : Imm} {F_z2 : Sg_z2 α} (h_z2 : OrcOk (α := α) Tryz.prog I 118 (.pure (ad_z2 F_z2))) : OrcOk (α := α) Tryz.prog I 66 (.pure (ad_z2w (p_z2w F_z2))) := by
  refine orc_pureK PT_z9m (O := PO_z2w F_z2) (OOk.cons (cB_z79 h_z2) (OOk.nil)) (L := []) ⟨1, []⟩ Tryz.func66 (by kernel_rfl) (by kernel_rfl) (by kernel_rfl) FLOk.nil ?_
  intro args k r hk
  unfold ad_z2w at hk
  split at hk <;> try (cases hk; done)
  obtain ⟨x0, rfl, hk0⟩ := decI_spec hk
  have hkz := hk0
  refine ⟨by simp [Ids, Idss], fun v => dR_decode_of v (fun r0 => k (GDecode_parts.sv r0)), ?_, fun v hv => ?_⟩
  · rw [ok_z2w]; exact hkz
  · obtain ⟨r0, rfl, hv1⟩ := dR_decode_of_spec hv; exact ⟨hv1, by simp [Ids, Idss]⟩
abbrev PT_ze : TE := [(3, ⟨.int .i64 0, 1, 8, .sc (.int .i64), none⟩), (22, ⟨.int .u64 0, 1, 8, .sc (.int .u64), none⟩), (32, ⟨.int .u32 0, 1, 4, .sc (.int .u32), none⟩)]
theorem PT_z9o : Prg Tryz.prog PT_ze := ⟨(.cons pe_3 (.cons pe_22 (.cons pe_32 (TEok.nil _)))), by kernel_rfl⟩
noncomputable abbrev PO_ze {α : Type} (F_z2 : Sg_z2 α) : ORC α := [(118, .pure (ad_z2 F_z2))]
set_option maxRecDepth 100000 in
theorem ok_ze {α : Type} (F_z2 : Sg_z2 α) (x0 : Int) (k : Int → R α) : bodyL PT_ze (PO_ze F_z2) [] ⟨1, []⟩ Tryz.f119 [(.int .u32 x0)] emp (fun v _ => dR_decode_Opcode v k) = p_ze F_z2 x0 k := by kernel_rfl
theorem mk_ze {α : Type} {I : Imm} {F_z2 : Sg_z2 α} (h_z2 : OrcOk (α := α) Tryz.prog I 118 (.pure (ad_z2 F_z2))) : OrcOk (α := α) Tryz.prog I 119 (.pure (ad_ze (p_ze F_z2))) := by
  refine orc_pureK PT_z9o (O := PO_ze F_z2) (OOk.cons h_z2 (OOk.nil)) (L := []) ⟨1, []⟩ Tryz.func119 (by kernel_rfl) (by kernel_rfl) (by kernel_rfl) FLOk.nil ?_
  intro args k r hk
  unfold ad_ze at hk
  split at hk <;> try (cases hk; done)
  obtain ⟨x0, rfl, hk0⟩ := decI_spec hk
  have hkz := hk0
  refine ⟨by simp [Ids, Idss], fun v => dR_decode_Opcode v (fun r0 => k (.int .i64 r0)), ?_, fun v hv => ?_⟩
  · rw [ok_ze]; exact hkz
  · obtain ⟨r0, rfl, hv1⟩ := dR_decode_Opcode_spec hv; exact ⟨hv1, by simp [Ids, Idss]⟩
theorem pe_2 : TyOk Tryz.prog 2 ⟨.int .i64 0, 1, 8, .sc (.int .i64), none⟩ := ⟨fun _ => by kernel_rfl, ⟨rfl, rfl, fun _ _ => by simp [Wf, Wfs]⟩, ⟨Tryz.underlying2, rfl⟩, fun _ h => by cases h⟩
abbrev PT_z8 : TE := [(2, ⟨.int .i64 0, 1, 8, .sc (.int .i64), none⟩), (3, ⟨.int .i64 0, 1, 8, .sc (.int .i64), none⟩), (22, ⟨.int .u64 0, 1, 8, .sc (.int .u64), none⟩)]
theorem PT_z9p : Prg Tryz.prog PT_z8 := ⟨(.cons pe_2 (.cons pe_3 (.cons pe_22 (TEok.nil _)))), by kernel_rfl⟩
noncomputable abbrev PO_z8 {α : Type}  : ORC α := []
set_option maxRecDepth 100000 in
theorem ok_z8 {α : Type}  (x0 : Int) (x1 : Int) (k : Int → R α) : bodyL PT_z8 (PO_z8 ) [] ⟨1, []⟩ Tryz.f139 [(.int .u64 x0), (.int .i64 x1)] emp (fun v _ => dR_word_Sext v k) = p_z8  x0 x1 k := by kernel_rfl
theorem mk_z8 {α : Type} {I : Imm}  : OrcOk (α := α) Tryz.prog I 139 (.pure (ad_z8 (p_z8 ))) := by
  refine orc_pureK PT_z9p (O := PO_z8 ) (OOk.nil) (L := []) ⟨1, []⟩ Tryz.func139 (by kernel_rfl) (by kernel_rfl) (by kernel_rfl) FLOk.nil ?_
  intro args k r hk
  unfold ad_z8 at hk
  split at hk <;> try (cases hk; done)
  obtain ⟨x0, rfl, hk0⟩ := decI_spec hk
  obtain ⟨x1, rfl, hk1⟩ := decI_spec hk0
  have hkz := hk1
  refine ⟨by simp [Ids, Idss], fun v => dR_word_Sext v (fun r0 => k (.int .u64 r0)), ?_, fun v hv => ?_⟩
  · rw [ok_z8]; exact hkz
  · obtain ⟨r0, rfl, hv1⟩ := dR_word_Sext_spec hv; exact ⟨hv1, by simp [Ids, Idss]⟩
theorem pe_36 : TyOk Tryz.prog 36 ⟨.agg [.int .i64 0, .int .i64 0, .int .i64 0, .int .i64 0, .int .i64 0, .int .i64 0], 6, 48, .st [(0, 1, false), (1, 1, false), (2, 1, false), (3, 1, false), (4, 1, false), (5, 1, false)], some (.st [(0, 1, false, .it .i64), (1, 1, false, .it .i64), (2, 1, false, .it .i64), (3, 1, false, .it .i64), (4, 1, false, .it .i64), (5, 1, false, .it .i64)])⟩ := ⟨fun _ => by kernel_rfl, ⟨rfl, rfl, fun _ _ => by simp [Wf, Wfs]⟩, ⟨_, Tryz.underlying36, by kernel_rfl⟩, fun _ h => by cases h; exact ⟨by kernel_rfl, by kernel_rfl⟩⟩
theorem pe_192 : TyOk Tryz.prog 192 ⟨.ints .i64 2 (fun _ => 0), 2, 16, .ar 2 3 1 false, some (.ar 2 1 (.it .i64))⟩ := ⟨fun _ => by kernel_rfl, ⟨rfl, rfl, fun _ _ => by simp [Wf, Wfs]⟩, ⟨Tryz.underlying192, by kernel_rfl, by kernel_rfl⟩, fun _ h => by cases h; exact ⟨by kernel_rfl, by kernel_rfl⟩⟩
theorem pe_216 : TyOk Tryz.prog 216 ⟨.nils, 1, 24, .sc (.slice 192), none⟩ := ⟨fun _ => by kernel_rfl, ⟨rfl, rfl, fun _ _ => by simp [Wf, Wfs]⟩, ⟨Tryz.underlying216, rfl⟩, fun _ h => by cases h⟩
abbrev PT_zh : TE := [(3, ⟨.int .i64 0, 1, 8, .sc (.int .i64), none⟩), (36, ⟨.agg [.int .i64 0, .int .i64 0, .int .i64 0, .int .i64 0, .int .i64 0, .int .i64 0], 6, 48, .st [(0, 1, false), (1, 1, false), (2, 1, false), (3, 1, false), (4, 1, false), (5, 1, false)], some (.st [(0, 1, false, .it .i64), (1, 1, false, .it .i64), (2, 1, false, .it .i64), (3, 1, false, .it .i64), (4, 1, false, .it .i64), (5, 1, false, .it .i64)])⟩), (135, ⟨.agg [.int .u32 0, .int .i64 0, .int .i64 0, .int .i64 0, .int .i64 0, .int .i64 0], 6, 48, .st [(0, 1, false), (1, 1, false), (2, 1, false), (3, 1, false), (4, 1, false), (5, 1, false)], some (.st [(0, 1, false, .it .u32), (1, 1, false, .it .i64), (2, 1, false, .it .i64), (3, 1, false, .it .i64), (4, 1, false, .it .i64), (5, 1, false, .it .i64)])⟩), (192, ⟨.ints .i64 2 (fun _ => 0), 2, 16, .ar 2 3 1 false, some (.ar 2 1 (.it .i64))⟩), (216, ⟨.nils, 1, 24, .sc (.slice 192), none⟩)]
theorem PT_z9q : Prg Tryz.prog PT_zh := ⟨(.cons pe_3 (.cons pe_36 (.cons pe_135 (.cons pe_192 (.cons pe_216 (TEok.nil _)))))), by kernel_rfl⟩
abbrev PT_decode_parts_number : TE := [(2, ⟨.int .i64 0, 1, 8, .sc (.int .i64), none⟩), (3, ⟨.int .i64 0, 1, 8, .sc (.int .i64), none⟩), (22, ⟨.int .u64 0, 1, 8, .sc (.int .u64), none⟩), (32, ⟨.int .u32 0, 1, 4, .sc (.int .u32), none⟩), (135, ⟨.agg [.int .u32 0, .int .i64 0, .int .i64 0, .int .i64 0, .int .i64 0, .int .i64 0], 6, 48, .st [(0, 1, false), (1, 1, false), (2, 1, false), (3, 1, false), (4, 1, false), (5, 1, false)], some (.st [(0, 1, false, .it .u32), (1, 1, false, .it .i64), (2, 1, false, .it .i64), (3, 1, false, .it .i64), (4, 1, false, .it .i64), (5, 1, false, .it .i64)])⟩), (192, ⟨.ints .i64 2 (fun _ => 0), 2, 16, .ar 2 3 1 false, some (.ar 2 1 (.it .i64))⟩), (216, ⟨.nils, 1, 24, .sc (.slice 192), none⟩)]
theorem PT_decode_parts_number_ok : Prg Tryz.prog PT_decode_parts_number := ⟨(.cons pe_2 (.cons pe_3 (.cons pe_22 (.cons pe_32 (.cons pe_135 (.cons pe_192 (.cons pe_216 (TEok.nil _)))))))), by kernel_rfl⟩
noncomputable abbrev B_z7a {α : Type} (F_z2 : Sg_z2 α) (F_z8 : Sg_z8 α) : FF α := byBody PT_decode_parts_number [(118, .pure (ad_z2 F_z2)), (139, .pure (ad_z8 F_z8))] ⟨2, []⟩ Tryz.f120
theorem cB_z7a {α : Type} {I : Imm} {F_z2 : Sg_z2 α} {F_z8 : Sg_z8 α} (h_z2 : OrcOk (α := α) Tryz.prog I 118 (.pure (ad_z2 F_z2))) (h_z8 : OrcOk (α := α) Tryz.prog I 139 (.pure (ad_z8 F_z8))) : OrcOk (α := α) Tryz.prog I 120 (.full (B_z7a F_z2 F_z8)) := orc_body PT_decode_parts_number_ok (OOk.cons h_z2 (OOk.cons h_z8 (OOk.nil))) ⟨2, []⟩ Tryz.func120 (by kernel_rfl) (by kernel_rfl) (by kernel_rfl)
noncomputable abbrev PO_zh {α : Type} (F_z2 : Sg_z2 α) (F_z8 : Sg_z8 α) : ORC α := [(120, .full (B_z7a F_z2 F_z8))]
set_option maxRecDepth 100000 in
theorem ok_zh {α : Type} (F_z2 : Sg_z2 α) (F_z8 : Sg_z8 α) (x0 : GDecode_parts) (x1 : Int) (k : GInsn → R α) : bodyL PT_zh (PO_zh F_z2 F_z8) [] ⟨2, []⟩ Tryz.f121 [(GDecode_parts.sv x0), (.int .i64 x1)] emp (fun v _ => dR_decode_parts_immediate v k) = p_zh F_z2 F_z8 x0 x1 k := by kernel_rfl
theorem mk_zh {α : Type} {I : Imm} {F_z2 : Sg_z2 α} {F_z8 : Sg_z8 α} (h_z2 : OrcOk (α := α) Tryz.prog I 118 (.pure (ad_z2 F_z2))) (h_z8 : OrcOk (α := α) Tryz.prog I 139 (.pure (ad_z8 F_z8))) : OrcOk (α := α) Tryz.prog I 121 (.pure (ad_zh (p_zh F_z2 F_z8))) := by
  refine orc_pureK PT_z9q (O := PO_zh F_z2 F_z8) (OOk.cons (cB_z7a h_z2 h_z8) (OOk.nil)) (L := []) ⟨2, []⟩ Tryz.func121 (by kernel_rfl) (by kernel_rfl) (by kernel_rfl) FLOk.nil ?_
  intro args k r hk
  unfold ad_zh at hk
  split at hk <;> try (cases hk; done)
  obtain ⟨x0, rfl, hk0⟩ := GDecode_parts.dec_spec hk
  obtain ⟨x1, rfl, hk1⟩ := decI_spec hk0
  have hkz := hk1
  refine ⟨by simp [Ids, Idss], fun v => dR_decode_parts_immediate v (fun r0 => k (GInsn.sv r0)), ?_, fun v hv => ?_⟩
  · rw [ok_zh]; exact hkz
  · obtain ⟨r0, rfl, hv1⟩ := dR_decode_parts_immediate_spec hv; exact ⟨hv1, by simp [Ids, Idss]⟩
theorem pe_194 : TyOk Tryz.prog 194 ⟨.ints .i64 8 (fun _ => 0), 8, 64, .ar 8 3 1 false, some (.ar 8 1 (.it .i64))⟩ := ⟨fun _ => by kernel_rfl, ⟨rfl, rfl, fun _ _ => by simp [Wf, Wfs]⟩, ⟨Tryz.underlying194, by kernel_rfl, by kernel_rfl⟩, fun _ h => by cases h; exact ⟨by kernel_rfl, by kernel_rfl⟩⟩
theorem pe_217 : TyOk Tryz.prog 217 ⟨.nilmap, 1, 8, .sc (.map 3 3), none⟩ := ⟨fun _ => by kernel_rfl, ⟨rfl, rfl, fun _ _ => by simp [Wf, Wfs]⟩, ⟨Tryz.underlying217, rfl⟩, fun _ h => by cases h⟩
abbrev PT_zu : TE := [(2, ⟨.int .i64 0, 1, 8, .sc (.int .i64), none⟩), (3, ⟨.int .i64 0, 1, 8, .sc (.int .i64), none⟩), (22, ⟨.int .u64 0, 1, 8, .sc (.int .u64), none⟩), (32, ⟨.int .u32 0, 1, 4, .sc (.int .u32), none⟩), (36, ⟨.agg [.int .i64 0, .int .i64 0, .int .i64 0, .int .i64 0, .int .i64 0, .int .i64 0], 6, 48, .st [(0, 1, false), (1, 1, false), (2, 1, false), (3, 1, false), (4, 1, false), (5, 1, false)], some (.st [(0, 1, false, .it .i64), (1, 1, false, .it .i64), (2, 1, false, .it .i64), (3, 1, false, .it .i64), (4, 1, false, .it .i64), (5, 1, false, .it .i64)])⟩), (135, ⟨.agg [.int .u32 0, .int .i64 0, .int .i64 0, .int .i64 0, .int .i64 0, .int .i64 0], 6, 48, .st [(0, 1, false), (1, 1, false), (2, 1, false), (3, 1, false), (4, 1, false), (5, 1, false)], some (.st [(0, 1, false, .it .u32), (1, 1, false, .it .i64), (2, 1, false, .it .i64), (3, 1, false, .it .i64), (4, 1, false, .it .i64), (5, 1, false, .it .i64)])⟩), (194, ⟨.ints .i64 8 (fun _ => 0), 8, 64, .ar 8 3 1 false, some (.ar 8 1 (.it .i64))⟩), (217, ⟨.nilmap, 1, 8, .sc (.map 3 3), none⟩)]
theorem PT_z9r : Prg Tryz.prog PT_zu := ⟨(.cons pe_2 (.cons pe_3 (.cons pe_22 (.cons pe_32 (.cons pe_36 (.cons pe_135 (.cons pe_194 (.cons pe_217 (TEok.nil _))))))))), by kernel_rfl⟩
noncomputable abbrev PO_zu {α : Type} (F_ze : Sg_ze α) (F_zh : Sg_zh α) (F_z2 : Sg_z2 α) : ORC α := [(119, .pure (ad_ze F_ze)), (121, .pure (ad_zh F_zh)), (118, .pure (ad_z2 F_z2))]
set_option maxRecDepth 100000 in
theorem ok_zu {α : Type} (F_ze : Sg_ze α) (F_zh : Sg_zh α) (F_z2 : Sg_z2 α) (x0 : GDecode_parts) (k : GInsn → Bool → R α) : bodyL PT_zu (PO_zu F_ze F_zh F_z2) [] ⟨1, []⟩ Tryz.f122 [(GDecode_parts.sv x0)] emp (fun v _ => dR_decode_parts_reckons v k) = p_zu F_ze F_zh F_z2 x0 k := by kernel_rfl
theorem mk_zu {α : Type} {I : Imm} {F_ze : Sg_ze α} {F_zh : Sg_zh α} {F_z2 : Sg_z2 α} (h_ze : OrcOk (α := α) Tryz.prog I 119 (.pure (ad_ze F_ze))) (h_zh : OrcOk (α := α) Tryz.prog I 121 (.pure (ad_zh F_zh))) (h_z2 : OrcOk (α := α) Tryz.prog I 118 (.pure (ad_z2 F_z2))) : OrcOk (α := α) Tryz.prog I 122 (.pure (ad_zu (p_zu F_ze F_zh F_z2))) := by
  refine orc_pureK PT_z9r (O := PO_zu F_ze F_zh F_z2) (OOk.cons h_ze (OOk.cons h_zh (OOk.cons h_z2 (OOk.nil)))) (L := []) ⟨1, []⟩ Tryz.func122 (by kernel_rfl) (by kernel_rfl) (by kernel_rfl) FLOk.nil ?_
  intro args k r hk
  unfold ad_zu at hk
  split at hk <;> try (cases hk; done)
  obtain ⟨x0, rfl, hk0⟩ := GDecode_parts.dec_spec hk
  have hkz := hk0
  refine ⟨by simp [Ids, Idss], fun v => dR_decode_parts_reckons v (fun r0 r1 => k (.tuple [(GInsn.sv r0), (.bool r1)])), ?_, fun v hv => ?_⟩
  · rw [ok_zu]; exact hkz
  · obtain ⟨r0, r1, rfl, hv1⟩ := dR_decode_parts_reckons_spec hv; exact ⟨hv1, by simp [Ids, Idss]⟩
abbrev PT_zv : TE := [(3, ⟨.int .i64 0, 1, 8, .sc (.int .i64), none⟩), (32, ⟨.int .u32 0, 1, 4, .sc (.int .u32), none⟩), (36, ⟨.agg [.int .i64 0, .int .i64 0, .int .i64 0, .int .i64 0, .int .i64 0, .int .i64 0], 6, 48, .st [(0, 1, false), (1, 1, false), (2, 1, false), (3, 1, false), (4, 1, false), (5, 1, false)], some (.st [(0, 1, false, .it .i64), (1, 1, false, .it .i64), (2, 1, false, .it .i64), (3, 1, false, .it .i64), (4, 1, false, .it .i64), (5, 1, false, .it .i64)])⟩), (135, ⟨.agg [.int .u32 0, .int .i64 0, .int .i64 0, .int .i64 0, .int .i64 0, .int .i64 0], 6, 48, .st [(0, 1, false), (1, 1, false), (2, 1, false), (3, 1, false), (4, 1, false), (5, 1, false)], some (.st [(0, 1, false, .it .u32), (1, 1, false, .it .i64), (2, 1, false, .it .i64), (3, 1, false, .it .i64), (4, 1, false, .it .i64), (5, 1, false, .it .i64)])⟩), (194, ⟨.ints .i64 8 (fun _ => 0), 8, 64, .ar 8 3 1 false, some (.ar 8 1 (.it .i64))⟩)]
theorem PT_z9s : Prg Tryz.prog PT_zv := ⟨(.cons pe_3 (.cons pe_32 (.cons pe_36 (.cons pe_135 (.cons pe_194 (TEok.nil _)))))), by kernel_rfl⟩
noncomputable abbrev PO_zv {α : Type} (F_ze : Sg_ze α) : ORC α := [(119, .pure (ad_ze F_ze))]
set_option maxRecDepth 100000 in
theorem ok_zv {α : Type} (F_ze : Sg_ze α) (x0 : GDecode_parts) (k : GInsn → Bool → R α) : bodyL PT_zv (PO_zv F_ze) [] ⟨1, []⟩ Tryz.f123 [(GDecode_parts.sv x0)] emp (fun v _ => dR_decode_parts_registers v k) = p_zv F_ze x0 k := by kernel_rfl
theorem mk_zv {α : Type} {I : Imm} {F_ze : Sg_ze α} (h_ze : OrcOk (α := α) Tryz.prog I 119 (.pure (ad_ze F_ze))) : OrcOk (α := α) Tryz.prog I 123 (.pure (ad_zv (p_zv F_ze))) := by
  refine orc_pureK PT_z9s (O := PO_zv F_ze) (OOk.cons h_ze (OOk.nil)) (L := []) ⟨1, []⟩ Tryz.func123 (by kernel_rfl) (by kernel_rfl) (by kernel_rfl) FLOk.nil ?_
  intro args k r hk
  unfold ad_zv at hk
  split at hk <;> try (cases hk; done)
  obtain ⟨x0, rfl, hk0⟩ := GDecode_parts.dec_spec hk
  have hkz := hk0
  refine ⟨by simp [Ids, Idss], fun v => dR_decode_parts_registers v (fun r0 r1 => k (.tuple [(GInsn.sv r0), (.bool r1)])), ?_, fun v hv => ?_⟩
  · rw [ok_zv]; exact hkz
  · obtain ⟨r0, r1, rfl, hv1⟩ := dR_decode_parts_registers_spec hv; exact ⟨hv1, by simp [Ids, Idss]⟩
abbrev PT_z13 : TE := [(3, ⟨.int .i64 0, 1, 8, .sc (.int .i64), none⟩)]
theorem PT_z9t : Prg Tryz.prog PT_z13 := ⟨(.cons pe_3 (TEok.nil _)), by kernel_rfl⟩
noncomputable abbrev PO_z13 {α : Type}  : ORC α := []
set_option maxRecDepth 100000 in
theorem ok_z13 {α : Type}  (x0 : Int) (k : Int → R α) : bodyL PT_z13 (PO_z13 ) [] ⟨1, []⟩ Tryz.f160 [(.int .i64 x0)] emp (fun v _ => dR_decode_fence v k) = p_z13  x0 k := by kernel_rfl
theorem mk_z13 {α : Type} {I : Imm}  : OrcOk (α := α) Tryz.prog I 160 (.pure (ad_z13 (p_z13 ))) := by
  refine orc_pureK PT_z9t (O := PO_z13 ) (OOk.nil) (L := []) ⟨1, []⟩ Tryz.func160 (by kernel_rfl) (by kernel_rfl) (by kernel_rfl) FLOk.nil ?_
  intro args k r hk
  unfold ad_z13 at hk
  split at hk <;> try (cases hk; done)
  obtain ⟨x0, rfl, hk0⟩ := decI_spec hk
  have hkz := hk0
  refine ⟨by simp [Ids, Idss], fun v => dR_decode_fence v (fun r0 => k (.int .i64 r0)), ?_, fun v hv => ?_⟩
  · rw [ok_z13]; exact hkz
  · obtain ⟨r0, rfl, hv1⟩ := dR_decode_fence_spec hv; exact ⟨hv1, by simp [Ids, Idss]⟩
abbrev PT_z14 : TE := [(3, ⟨.int .i64 0, 1, 8, .sc (.int .i64), none⟩), (36, ⟨.agg [.int .i64 0, .int .i64 0, .int .i64 0, .int .i64 0, .int .i64 0, .int .i64 0], 6, 48, .st [(0, 1, false), (1, 1, false), (2, 1, false), (3, 1, false), (4, 1, false), (5, 1, false)], some (.st [(0, 1, false, .it .i64), (1, 1, false, .it .i64), (2, 1, false, .it .i64), (3, 1, false, .it .i64), (4, 1, false, .it .i64), (5, 1, false, .it .i64)])⟩), (135, ⟨.agg [.int .u32 0, .int .i64 0, .int .i64 0, .int .i64 0, .int .i64 0, .int .i64 0], 6, 48, .st [(0, 1, false), (1, 1, false), (2, 1, false), (3, 1, false), (4, 1, false), (5, 1, false)], some (.st [(0, 1, false, .it .u32), (1, 1, false, .it .i64), (2, 1, false, .it .i64), (3, 1, false, .it .i64), (4, 1, false, .it .i64), (5, 1, false, .it .i64)])⟩)]
theorem PT_z9u : Prg Tryz.prog PT_z14 := ⟨(.cons pe_3 (.cons pe_36 (.cons pe_135 (TEok.nil _)))), by kernel_rfl⟩
noncomputable abbrev PO_z14 {α : Type}  : ORC α := []
set_option maxRecDepth 100000 in
theorem ok_z14 {α : Type}  (x0 : GDecode_parts) (k : GInsn → Bool → R α) : bodyL PT_z14 (PO_z14 ) [] ⟨1, []⟩ Tryz.f161 [(GDecode_parts.sv x0)] emp (fun v _ => dR_decode_parts_guests v k) = p_z14  x0 k := by kernel_rfl
theorem mk_z14 {α : Type} {I : Imm}  : OrcOk (α := α) Tryz.prog I 161 (.pure (ad_z14 (p_z14 ))) := by
  refine orc_pureK PT_z9u (O := PO_z14 ) (OOk.nil) (L := []) ⟨1, []⟩ Tryz.func161 (by kernel_rfl) (by kernel_rfl) (by kernel_rfl) FLOk.nil ?_
  intro args k r hk
  unfold ad_z14 at hk
  split at hk <;> try (cases hk; done)
  obtain ⟨x0, rfl, hk0⟩ := GDecode_parts.dec_spec hk
  have hkz := hk0
  refine ⟨by simp [Ids, Idss], fun v => dR_decode_parts_guests v (fun r0 r1 => k (.tuple [(GInsn.sv r0), (.bool r1)])), ?_, fun v hv => ?_⟩
  · rw [ok_z14]; exact hkz
  · obtain ⟨r0, r1, rfl, hv1⟩ := dR_decode_parts_guests_spec hv; exact ⟨hv1, by simp [Ids, Idss]⟩
abbrev PT_zw : TE := [(2, ⟨.int .i64 0, 1, 8, .sc (.int .i64), none⟩), (3, ⟨.int .i64 0, 1, 8, .sc (.int .i64), none⟩), (22, ⟨.int .u64 0, 1, 8, .sc (.int .u64), none⟩), (32, ⟨.int .u32 0, 1, 4, .sc (.int .u32), none⟩), (36, ⟨.agg [.int .i64 0, .int .i64 0, .int .i64 0, .int .i64 0, .int .i64 0, .int .i64 0], 6, 48, .st [(0, 1, false), (1, 1, false), (2, 1, false), (3, 1, false), (4, 1, false), (5, 1, false)], some (.st [(0, 1, false, .it .i64), (1, 1, false, .it .i64), (2, 1, false, .it .i64), (3, 1, false, .it .i64), (4, 1, false, .it .i64), (5, 1, false, .it .i64)])⟩), (135, ⟨.agg [.int .u32 0, .int .i64 0, .int .i64 0, .int .i64 0, .int .i64 0, .int .i64 0], 6, 48, .st [(0, 1, false), (1, 1, false), (2, 1, false), (3, 1, false), (4, 1, false), (5, 1, false)], some (.st [(0, 1, false, .it .u32), (1, 1, false, .it .i64), (2, 1, false, .it .i64), (3, 1, false, .it .i64), (4, 1, false, .it .i64), (5, 1, false, .it .i64)])⟩), (194, ⟨.ints .i64 8 (fun _ => 0), 8, 64, .ar 8 3 1 false, some (.ar 8 1 (.it .i64))⟩)]
theorem PT_z9v : Prg Tryz.prog PT_zw := ⟨(.cons pe_2 (.cons pe_3 (.cons pe_22 (.cons pe_32 (.cons pe_36 (.cons pe_135 (.cons pe_194 (TEok.nil _)))))))), by kernel_rfl⟩
theorem pe_227 : TyOk Tryz.prog 227 ⟨.nilmap, 1, 8, .sc (.map 32 3), none⟩ := ⟨fun _ => by kernel_rfl, ⟨rfl, rfl, fun _ _ => by simp [Wf, Wfs]⟩, ⟨Tryz.underlying227, rfl⟩, fun _ h => by cases h⟩
theorem pe_229 : TyOk Tryz.prog 229 ⟨.agg [.agg [.agg [], .agg [.agg [], .int .u32 0], .agg [.agg [], .agg [.int .i32 0, .int .u32 0]]], .nilmap], 4, 24, .st [(0, 3, true), (3, 1, false)], none⟩ := ⟨fun _ => by kernel_rfl, ⟨rfl, rfl, fun _ _ => by simp [Wf, Wfs]⟩, ⟨_, Tryz.underlying229, by kernel_rfl⟩, fun _ h => by cases h⟩
theorem pe_250 : TyOk Tryz.prog 250 ⟨.nilp, 1, 8, .sc (.pointer 229), none⟩ := ⟨fun _ => by kernel_rfl, ⟨rfl, rfl, fun _ _ => by simp [Wf, Wfs]⟩, ⟨Tryz.underlying250, rfl⟩, fun _ h => by cases h⟩
abbrev PT_decode_words_op_1 : TE := [(3, ⟨.int .i64 0, 1, 8, .sc (.int .i64), none⟩), (32, ⟨.int .u32 0, 1, 4, .sc (.int .u32), none⟩), (227, ⟨.nilmap, 1, 8, .sc (.map 32 3), none⟩), (229, ⟨.agg [.agg [.agg [], .agg [.agg [], .int .u32 0], .agg [.agg [], .agg [.int .i32 0, .int .u32 0]]], .nilmap], 4, 24, .st [(0, 3, true), (3, 1, false)], none⟩), (250, ⟨.nilp, 1, 8, .sc (.pointer 229), none⟩)]
theorem PT_decode_words_op_1_ok : Prg Tryz.prog PT_decode_words_op_1 := ⟨(.cons pe_3 (.cons pe_32 (.cons pe_227 (.cons pe_229 (.cons pe_250 (TEok.nil _)))))), by kernel_rfl⟩
noncomputable abbrev B_z7b {α : Type} (F_z13 : Sg_z13 α) (F_z14 : Sg_z14 α) (F_z2 : Sg_z2 α) : FF α := byBody PT_decode_words_op_1 [] ⟨1, []⟩ Tryz.f184
theorem cB_z7b {α : Type} {I : Imm} {F_z13 : Sg_z13 α} {F_z14 : Sg_z14 α} {F_z2 : Sg_z2 α} (h_z13 : OrcOk (α := α) Tryz.prog I 160 (.pure (ad_z13 F_z13))) (h_z14 : OrcOk (α := α) Tryz.prog I 161 (.pure (ad_z14 F_z14))) (h_z2 : OrcOk (α := α) Tryz.prog I 118 (.pure (ad_z2 F_z2))) : OrcOk (α := α) Tryz.prog I 184 (.full (B_z7b F_z13 F_z14 F_z2)) := orc_body PT_decode_words_op_1_ok (OOk.nil) ⟨1, []⟩ Tryz.func184 (by kernel_rfl) (by kernel_rfl) (by kernel_rfl)
abbrev PT_decode_words_op : TE := [(3, ⟨.int .i64 0, 1, 8, .sc (.int .i64), none⟩), (32, ⟨.int .u32 0, 1, 4, .sc (.int .u32), none⟩), (227, ⟨.nilmap, 1, 8, .sc (.map 32 3), none⟩), (229, ⟨.agg [.agg [.agg [], .agg [.agg [], .int .u32 0], .agg [.agg [], .agg [.int .i32 0, .int .u32 0]]], .nilmap], 4, 24, .st [(0, 3, true), (3, 1, false)], none⟩), (250, ⟨.nilp, 1, 8, .sc (.pointer 229), none⟩)]
theorem PT_decode_words_op_ok : Prg Tryz.prog PT_decode_words_op := ⟨(.cons pe_3 (.cons pe_32 (.cons pe_227 (.cons pe_229 (.cons pe_250 (TEok.nil _)))))), by kernel_rfl⟩
noncomputable abbrev B_z7c {α : Type} (F_z13 : Sg_z13 α) (F_z14 : Sg_z14 α) (F_z2 : Sg_z2 α) : FF α := byBody PT_decode_words_op [(183, .full (xDo 184 (B_z7b F_z13 F_z14 F_z2)))] ⟨1, []⟩ Tryz.f159
theorem cB_z7c {α : Type} {I : Imm} {F_z13 : Sg_z13 α} {F_z14 : Sg_z14 α} {F_z2 : Sg_z2 α} (h_z13 : OrcOk (α := α) Tryz.prog I 160 (.pure (ad_z13 F_z13))) (h_z14 : OrcOk (α := α) Tryz.prog I 161 (.pure (ad_z14 F_z14))) (h_z2 : OrcOk (α := α) Tryz.prog I 118 (.pure (ad_z2 F_z2))) : OrcOk (α := α) Tryz.prog I 159 (.full (B_z7c F_z13 F_z14 F_z2)) := orc_body PT_decode_words_op_ok (OOk.cons (once_orc on_do_raw (enters_of Tryz.func183 (by kernel_rfl) (by kernel_rfl)) (cB_z7b h_z13 h_z14 h_z2)) (OOk.nil)) ⟨1, []⟩ Tryz.func159 (by kernel_rfl) (by kernel_rfl) (by kernel_rfl)
abbrev PT_decode_parts_fixed : TE := [(3, ⟨.int .i64 0, 1, 8, .sc (.int .i64), none⟩), (32, ⟨.int .u32 0, 1, 4, .sc (.int .u32), none⟩), (36, ⟨.agg [.int .i64 0, .int .i64 0, .int .i64 0, .int .i64 0, .int .i64 0, .int .i64 0], 6, 48, .st [(0, 1, false), (1, 1, false), (2, 1, false), (3, 1, false), (4, 1, false), (5, 1, false)], some (.st [(0, 1, false, .it .i64), (1, 1, false, .it .i64), (2, 1, false, .it .i64), (3, 1, false, .it .i64), (4, 1, false, .it .i64), (5, 1, false, .it .i64)])⟩), (135, ⟨.agg [.int .u32 0, .int .i64 0, .int .i64 0, .int .i64 0, .int .i64 0, .int .i64 0], 6, 48, .st [(0, 1, false), (1, 1, false), (2, 1, false), (3, 1, false), (4, 1, false), (5, 1, false)], some (.st [(0, 1, false, .it .u32), (1, 1, false, .it .i64), (2, 1, false, .it .i64), (3, 1, false, .it .i64), (4, 1, false, .it .i64), (5, 1, false, .it .i64)])⟩), (229, ⟨.agg [.agg [.agg [], .agg [.agg [], .int .u32 0], .agg [.agg [], .agg [.int .i32 0, .int .u32 0]]], .nilmap], 4, 24, .st [(0, 3, true), (3, 1, false)], none⟩)]
theorem PT_decode_parts_fixed_ok : Prg Tryz.prog PT_decode_parts_fixed := ⟨(.cons pe_3 (.cons pe_32 (.cons pe_36 (.cons pe_135 (.cons pe_229 (TEok.nil _)))))), by kernel_rfl⟩
noncomputable abbrev B_z7d {α : Type} (F_z13 : Sg_z13 α) (F_z14 : Sg_z14 α) (F_z2 : Sg_z2 α) : FF α := byBody PT_decode_parts_fixed [(159, .full (B_z7c F_z13 F_z14 F_z2))] ⟨1, []⟩ Tryz.f124
theorem cB_z7d {α : Type} {I : Imm} {F_z13 : Sg_z13 α} {F_z14 : Sg_z14 α} {F_z2 : Sg_z2 α} (h_z13 : OrcOk (α := α) Tryz.prog I 160 (.pure (ad_z13 F_z13))) (h_z14 : OrcOk (α := α) Tryz.prog I 161 (.pure (ad_z14 F_z14))) (h_z2 : OrcOk (α := α) Tryz.prog I 118 (.pure (ad_z2 F_z2))) : OrcOk (α := α) Tryz.prog I 124 (.full (B_z7d F_z13 F_z14 F_z2)) := orc_body PT_decode_parts_fixed_ok (OOk.cons (cB_z7c h_z13 h_z14 h_z2) (OOk.nil)) ⟨1, []⟩ Tryz.func124 (by kernel_rfl) (by kernel_rfl) (by kernel_rfl)
noncomputable abbrev PO_zw {α : Type} (F_z13 : Sg_z13 α) (F_z14 : Sg_z14 α) (F_z2 : Sg_z2 α) : ORC α := [(160, .pure (ad_z13 F_z13)), (124, .full (B_z7d F_z13 F_z14 F_z2)), (161, .pure (ad_z14 F_z14)), (118, .pure (ad_z2 F_z2))]
set_option maxRecDepth 100000 in
theorem ok_zw {α : Type} (F_z13 : Sg_z13 α) (F_z14 : Sg_z14 α) (F_z2 : Sg_z2 α) (x0 : GDecode_parts) (k : GInsn → Bool → R α) : bodyL PT_zw (PO_zw F_z13 F_z14 F_z2) [] ⟨1, []⟩ Tryz.f125 [(GDecode_parts.sv x0)] emp (fun v _ => dR_decode_parts_system v k) = p_zw F_z13 F_z14 F_z2 x0 k := by kernel_rfl
theorem mk_zw {α : Type} {I : Imm} {F_z13 : Sg_z13 α} {F_z14 : Sg_z14 α} {F_z2 : Sg_z2 α} (h_z13 : OrcOk (α := α) Tryz.prog I 160 (.pure (ad_z13 F_z13))) (h_z14 : OrcOk (α := α) Tryz.prog I 161 (.pure (ad_z14 F_z14))) (h_z2 : OrcOk (α := α) Tryz.prog I 118 (.pure (ad_z2 F_z2))) : OrcOk (α := α) Tryz.prog I 125 (.pure (ad_zw (p_zw F_z13 F_z14 F_z2))) := by
  refine orc_pureK PT_z9v (O := PO_zw F_z13 F_z14 F_z2) (OOk.cons h_z13 (OOk.cons (cB_z7d h_z13 h_z14 h_z2) (OOk.cons h_z14 (OOk.cons h_z2 (OOk.nil))))) (L := []) ⟨1, []⟩ Tryz.func125 (by kernel_rfl) (by kernel_rfl) (by kernel_rfl) FLOk.nil ?_
  intro args k r hk
  unfold ad_zw at hk
  split at hk <;> try (cases hk; done)
  obtain ⟨x0, rfl, hk0⟩ := GDecode_parts.dec_spec hk
  have hkz := hk0
  refine ⟨by simp [Ids, Idss], fun v => dR_decode_parts_system v (fun r0 r1 => k (.tuple [(GInsn.sv r0), (.bool r1)])), ?_, fun v hv => ?_⟩
  · rw [ok_zw]; exact hkz
  · obtain ⟨r0, r1, rfl, hv1⟩ := dR_decode_parts_system_spec hv; exact ⟨hv1, by simp [Ids, Idss]⟩
abbrev PT_z2h : TE := [(3, ⟨.int .i64 0, 1, 8, .sc (.int .i64), none⟩), (32, ⟨.int .u32 0, 1, 4, .sc (.int .u32), none⟩), (36, ⟨.agg [.int .i64 0, .int .i64 0, .int .i64 0, .int .i64 0, .int .i64 0, .int .i64 0], 6, 48, .st [(0, 1, false), (1, 1, false), (2, 1, false), (3, 1, false), (4, 1, false), (5, 1, false)], some (.st [(0, 1, false, .it .i64), (1, 1, false, .it .i64), (2, 1, false, .it .i64), (3, 1, false, .it .i64), (4, 1, false, .it .i64), (5, 1, false, .it .i64)])⟩), (135, ⟨.agg [.int .u32 0, .int .i64 0, .int .i64 0, .int .i64 0, .int .i64 0, .int .i64 0], 6, 48, .st [(0, 1, false), (1, 1, false), (2, 1, false), (3, 1, false), (4, 1, false), (5, 1, false)], some (.st [(0, 1, false, .it .u32), (1, 1, false, .it .i64), (2, 1, false, .it .i64), (3, 1, false, .it .i64), (4, 1, false, .it .i64), (5, 1, false, .it .i64)])⟩), (192, ⟨.ints .i64 2 (fun _ => 0), 2, 16, .ar 2 3 1 false, some (.ar 2 1 (.it .i64))⟩), (194, ⟨.ints .i64 8 (fun _ => 0), 8, 64, .ar 8 3 1 false, some (.ar 8 1 (.it .i64))⟩), (216, ⟨.nils, 1, 24, .sc (.slice 192), none⟩)]
theorem PT_z9w : Prg Tryz.prog PT_z2h := ⟨(.cons pe_3 (.cons pe_32 (.cons pe_36 (.cons pe_135 (.cons pe_192 (.cons pe_194 (.cons pe_216 (TEok.nil _)))))))), by kernel_rfl⟩
noncomputable abbrev B_z7e {α : Type} (F_ze : Sg_ze α) (F_z2 : Sg_z2 α) (F_z8 : Sg_z8 α) (F_zh : Sg_zh α) (F_zu : Sg_zu α) (F_zv : Sg_zv α) (F_zw : Sg_zw α) : FF α := byBody PT_decode_parts_number [(118, .pure (ad_z2 F_z2)), (139, .pure (ad_z8 F_z8))] ⟨5, []⟩ Tryz.f120
theorem cB_z7e {α : Type} {I : Imm} {F_ze : Sg_ze α} {F_z2 : Sg_z2 α} {F_z8 : Sg_z8 α} {F_zh : Sg_zh α} {F_zu : Sg_zu α} {F_zv : Sg_zv α} {F_zw : Sg_zw α} (h_ze : OrcOk (α := α) Tryz.prog I 119 (.pure (ad_ze F_ze))) (h_z2 : OrcOk (α := α) Tryz.prog I 118 (.pure (ad_z2 F_z2))) (h_z8 : OrcOk (α := α) Tryz.prog I 139 (.pure (ad_z8 F_z8))) (h_zh : OrcOk (α := α) Tryz.prog I 121 (.pure (ad_zh F_zh))) (h_zu : OrcOk (α := α) Tryz.prog I 122 (.pure (ad_zu F_zu))) (h_zv : OrcOk (α := α) Tryz.prog I 123 (.pure (ad_zv F_zv))) (h_zw : OrcOk (α := α) Tryz.prog I 125 (.pure (ad_zw F_zw))) : OrcOk (α := α) Tryz.prog I 120 (.full (B_z7e F_ze F_z2 F_z8 F_zh F_zu F_zv F_zw)) := orc_body PT_decode_parts_number_ok (OOk.cons h_z2 (OOk.cons h_z8 (OOk.nil))) ⟨5, []⟩ Tryz.func120 (by kernel_rfl) (by kernel_rfl) (by kernel_rfl)
noncomputable abbrev B_z7f {α : Type} (F_ze : Sg_ze α) (F_z2 : Sg_z2 α) (F_z8 : Sg_z8 α) (F_zh : Sg_zh α) (F_zu : Sg_zu α) (F_zv : Sg_zv α) (F_zw : Sg_zw α) : FF α := byBody PT_decode_words_op_1 [] ⟨5, []⟩ Tryz.f184
theorem cB_z7f {α : Type} {I : Imm} {F_ze : Sg_ze α} {F_z2 : Sg_z2 α} {F_z8 : Sg_z8 α} {F_zh : Sg_zh α} {F_zu : Sg_zu α} {F_zv : Sg_zv α} {F_zw : Sg_zw α} (h_ze : OrcOk (α := α) Tryz.prog I 119 (.pure (ad_ze F_ze))) (h_z2 : OrcOk (α := α) Tryz.prog I 118 (.pure (ad_z2 F_z2))) (h_z8 : OrcOk (α := α) Tryz.prog I 139 (.pure (ad_z8 F_z8))) (h_zh : OrcOk (α := α) Tryz.prog I 121 (.pure (ad_zh F_zh))) (h_zu : OrcOk (α := α) Tryz.prog I 122 (.pure (ad_zu F_zu))) (h_zv : OrcOk (α := α) Tryz.prog I 123 (.pure (ad_zv F_zv))) (h_zw : OrcOk (α := α) Tryz.prog I 125 (.pure (ad_zw F_zw))) : OrcOk (α := α) Tryz.prog I 184 (.full (B_z7f F_ze F_z2 F_z8 F_zh F_zu F_zv F_zw)) := orc_body PT_decode_words_op_1_ok (OOk.nil) ⟨5, []⟩ Tryz.func184 (by kernel_rfl) (by kernel_rfl) (by kernel_rfl)
noncomputable abbrev B_z7g {α : Type} (F_ze : Sg_ze α) (F_z2 : Sg_z2 α) (F_z8 : Sg_z8 α) (F_zh : Sg_zh α) (F_zu : Sg_zu α) (F_zv : Sg_zv α) (F_zw : Sg_zw α) : FF α := byBody PT_decode_words_op [(183, .full (xDo 184 (B_z7f F_ze F_z2 F_z8 F_zh F_zu F_zv F_zw)))] ⟨5, []⟩ Tryz.f159
theorem cB_z7g {α : Type} {I : Imm} {F_ze : Sg_ze α} {F_z2 : Sg_z2 α} {F_z8 : Sg_z8 α} {F_zh : Sg_zh α} {F_zu : Sg_zu α} {F_zv : Sg_zv α} {F_zw : Sg_zw α} (h_ze : OrcOk (α := α) Tryz.prog I 119 (.pure (ad_ze F_ze))) (h_z2 : OrcOk (α := α) Tryz.prog I 118 (.pure (ad_z2 F_z2))) (h_z8 : OrcOk (α := α) Tryz.prog I 139 (.pure (ad_z8 F_z8))) (h_zh : OrcOk (α := α) Tryz.prog I 121 (.pure (ad_zh F_zh))) (h_zu : OrcOk (α := α) Tryz.prog I 122 (.pure (ad_zu F_zu))) (h_zv : OrcOk (α := α) Tryz.prog I 123 (.pure (ad_zv F_zv))) (h_zw : OrcOk (α := α) Tryz.prog I 125 (.pure (ad_zw F_zw))) : OrcOk (α := α) Tryz.prog I 159 (.full (B_z7g F_ze F_z2 F_z8 F_zh F_zu F_zv F_zw)) := orc_body PT_decode_words_op_ok (OOk.cons (once_orc on_do_raw (enters_of Tryz.func183 (by kernel_rfl) (by kernel_rfl)) (cB_z7f h_ze h_z2 h_z8 h_zh h_zu h_zv h_zw)) (OOk.nil)) ⟨5, []⟩ Tryz.func159 (by kernel_rfl) (by kernel_rfl) (by kernel_rfl)
noncomputable abbrev B_z7h {α : Type} (F_ze : Sg_ze α) (F_z2 : Sg_z2 α) (F_z8 : Sg_z8 α) (F_zh : Sg_zh α) (F_zu : Sg_zu α) (F_zv : Sg_zv α) (F_zw : Sg_zw α) : FF α := byBody PT_decode_parts_fixed [(159, .full (B_z7g F_ze F_z2 F_z8 F_zh F_zu F_zv F_zw))] ⟨5, []⟩ Tryz.f124
theorem cB_z7h {α : Type} {I : Imm} {F_ze : Sg_ze α} {F_z2 : Sg_z2 α} {F_z8 : Sg_z8 α} {F_zh : Sg_zh α} {F_zu : Sg_zu α} {F_zv : Sg_zv α} {F_zw : Sg_zw α} (h_ze : OrcOk (α := α) Tryz.prog I 119 (.pure (ad_ze F_ze))) (h_z2 : OrcOk (α := α) Tryz.prog I 118 (.pure (ad_z2 F_z2))) (h_z8 : OrcOk (α := α) Tryz.prog I 139 (.pure (ad_z8 F_z8))) (h_zh : OrcOk (α := α) Tryz.prog I 121 (.pure (ad_zh F_zh))) (h_zu : OrcOk (α := α) Tryz.prog I 122 (.pure (ad_zu F_zu))) (h_zv : OrcOk (α := α) Tryz.prog I 123 (.pure (ad_zv F_zv))) (h_zw : OrcOk (α := α) Tryz.prog I 125 (.pure (ad_zw F_zw))) : OrcOk (α := α) Tryz.prog I 124 (.full (B_z7h F_ze F_z2 F_z8 F_zh F_zu F_zv F_zw)) := orc_body PT_decode_parts_fixed_ok (OOk.cons (cB_z7g h_ze h_z2 h_z8 h_zh h_zu h_zv h_zw) (OOk.nil)) ⟨5, []⟩ Tryz.func124 (by kernel_rfl) (by kernel_rfl) (by kernel_rfl)
noncomputable abbrev PO_z2h {α : Type} (F_ze : Sg_ze α) (F_z2 : Sg_z2 α) (F_z8 : Sg_z8 α) (F_zh : Sg_zh α) (F_zu : Sg_zu α) (F_zv : Sg_zv α) (F_zw : Sg_zw α) : ORC α := [(119, .pure (ad_ze F_ze)), (120, .full (B_z7e F_ze F_z2 F_z8 F_zh F_zu F_zv F_zw)), (121, .pure (ad_zh F_zh)), (122, .pure (ad_zu F_zu)), (123, .pure (ad_zv F_zv)), (124, .full (B_z7h F_ze F_z2 F_z8 F_zh F_zu F_zv F_zw)), (125, .pure (ad_zw F_zw))]
set_option maxRecDepth 100000 in
theorem ok_z2h {α : Type} (F_ze : Sg_ze α) (F_z2 : Sg_z2 α) (F_z8 : Sg_z8 α) (F_zh : Sg_zh α) (F_zu : Sg_zu α) (F_zv : Sg_zv α) (F_zw : Sg_zw α) (x0 : GDecode_parts) (k : GInsn → Bool → R α) : bodyL PT_z2h (PO_z2h F_ze F_z2 F_z8 F_zh F_zu F_zv F_zw) [] ⟨5, []⟩ Tryz.f67 [(GDecode_parts.sv x0)] emp (fun v _ => dR_decode_parts_insn v k) = p_z2h F_ze F_z2 F_z8 F_zh F_zu F_zv F_zw x0 k := by kernel_rfl
theorem mk_z2h {α : Type} {I : Imm} {F_ze : Sg_ze α} {F_z2 : Sg_z2 α} {F_z8 : Sg_z8 α} {F_zh : Sg_zh α} {F_zu : Sg_zu α} {F_zv : Sg_zv α} {F_zw : Sg_zw α} (h_ze : OrcOk (α := α) Tryz.prog I 119 (.pure (ad_ze F_ze))) (h_z2 : OrcOk (α := α) Tryz.prog I 118 (.pure (ad_z2 F_z2))) (h_z8 : OrcOk (α := α) Tryz.prog I 139 (.pure (ad_z8 F_z8))) (h_zh : OrcOk (α := α) Tryz.prog I 121 (.pure (ad_zh F_zh))) (h_zu : OrcOk (α := α) Tryz.prog I 122 (.pure (ad_zu F_zu))) (h_zv : OrcOk (α := α) Tryz.prog I 123 (.pure (ad_zv F_zv))) (h_zw : OrcOk (α := α) Tryz.prog I 125 (.pure (ad_zw F_zw))) : OrcOk (α := α) Tryz.prog I 67 (.pure (ad_z2h (p_z2h F_ze F_z2 F_z8 F_zh F_zu F_zv F_zw))) := by
  refine orc_pureK PT_z9w (O := PO_z2h F_ze F_z2 F_z8 F_zh F_zu F_zv F_zw) (OOk.cons h_ze (OOk.cons (cB_z7e h_ze h_z2 h_z8 h_zh h_zu h_zv h_zw) (OOk.cons h_zh (OOk.cons h_zu (OOk.cons h_zv (OOk.cons (cB_z7h h_ze h_z2 h_z8 h_zh h_zu h_zv h_zw) (OOk.cons h_zw (OOk.nil)))))))) (L := []) ⟨5, []⟩ Tryz.func67 (by kernel_rfl) (by kernel_rfl) (by kernel_rfl) FLOk.nil ?_
  intro args k r hk
  unfold ad_z2h at hk
  split at hk <;> try (cases hk; done)
  obtain ⟨x0, rfl, hk0⟩ := GDecode_parts.dec_spec hk
  have hkz := hk0
  refine ⟨by simp [Ids, Idss], fun v => dR_decode_parts_insn v (fun r0 r1 => k (.tuple [(GInsn.sv r0), (.bool r1)])), ?_, fun v hv => ?_⟩
  · rw [ok_z2h]; exact hkz
  · obtain ⟨r0, r1, rfl, hv1⟩ := dR_decode_parts_insn_spec hv; exact ⟨hv1, by simp [Ids, Idss]⟩
theorem pe_185 : TyOk Tryz.prog 185 ⟨.ints .i64 12 (fun _ => 0), 12, 96, .ar 12 3 1 false, some (.ar 12 1 (.it .i64))⟩ := ⟨fun _ => by kernel_rfl, ⟨rfl, rfl, fun _ _ => by simp [Wf, Wfs]⟩, ⟨Tryz.underlying185, by kernel_rfl, by kernel_rfl⟩, fun _ h => by cases h; exact ⟨by kernel_rfl, by kernel_rfl⟩⟩
abbrev PT_z4 : TE := [(3, ⟨.int .i64 0, 1, 8, .sc (.int .i64), none⟩), (185, ⟨.ints .i64 12 (fun _ => 0), 12, 96, .ar 12 3 1 false, some (.ar 12 1 (.it .i64))⟩)]
theorem PT_z9x : Prg Tryz.prog PT_z4 := ⟨(.cons pe_3 (.cons pe_185 (TEok.nil _))), by kernel_rfl⟩
noncomputable abbrev PO_z4 {α : Type}  : ORC α := []
set_option maxRecDepth 100000 in
theorem ok_z4 {α : Type}  (x0 : Int) (k : Int → R α) : bodyL PT_z4 (PO_z4 ) [] ⟨13, []⟩ Tryz.f59 [(.int .i64 x0)] emp (fun v _ => dR_insn_Class v k) = p_z4  x0 k := by kernel_rfl
theorem mk_z4 {α : Type} {I : Imm}  : OrcOk (α := α) Tryz.prog I 59 (.pure (ad_z4 (p_z4 ))) := by
  refine orc_pureK PT_z9x (O := PO_z4 ) (OOk.nil) (L := []) ⟨13, []⟩ Tryz.func59 (by kernel_rfl) (by kernel_rfl) (by kernel_rfl) FLOk.nil ?_
  intro args k r hk
  unfold ad_z4 at hk
  split at hk <;> try (cases hk; done)
  obtain ⟨x0, rfl, hk0⟩ := decI_spec hk
  have hkz := hk0
  refine ⟨by simp [Ids, Idss], fun v => dR_insn_Class v (fun r0 => k (.int .i64 r0)), ?_, fun v hv => ?_⟩
  · rw [ok_z4]; exact hkz
  · obtain ⟨r0, rfl, hv1⟩ := dR_insn_Class_spec hv; exact ⟨hv1, by simp [Ids, Idss]⟩
theorem pe_182 : TyOk Tryz.prog 182 ⟨.agg [.bool false, .bool false, .bool false, .bool false, .int .i64 0, .int .i64 0, .int .i64 0], 7, 32, .st [(0, 1, false), (1, 1, false), (2, 1, false), (3, 1, false), (4, 1, false), (5, 1, false), (6, 1, false)], some (.st [(0, 1, false, .bl), (1, 1, false, .bl), (2, 1, false, .bl), (3, 1, false, .bl), (4, 1, false, .it .i64), (5, 1, false, .it .i64), (6, 1, false, .it .i64)])⟩ := ⟨fun _ => by kernel_rfl, ⟨rfl, rfl, fun _ _ => by simp [Wf, Wfs]⟩, ⟨_, Tryz.underlying182, by kernel_rfl⟩, fun _ h => by cases h; exact ⟨by kernel_rfl, by kernel_rfl⟩⟩
abbrev PT_z2i : TE := [(3, ⟨.int .i64 0, 1, 8, .sc (.int .i64), none⟩), (182, ⟨.agg [.bool false, .bool false, .bool false, .bool false, .int .i64 0, .int .i64 0, .int .i64 0], 7, 32, .st [(0, 1, false), (1, 1, false), (2, 1, false), (3, 1, false), (4, 1, false), (5, 1, false), (6, 1, false)], some (.st [(0, 1, false, .bl), (1, 1, false, .bl), (2, 1, false, .bl), (3, 1, false, .bl), (4, 1, false, .it .i64), (5, 1, false, .it .i64), (6, 1, false, .it .i64)])⟩)]
theorem PT_z9y : Prg Tryz.prog PT_z2i := ⟨(.cons pe_3 (.cons pe_182 (TEok.nil _))), by kernel_rfl⟩
noncomputable abbrev PO_z2i {α : Type}  : ORC α := []
set_option maxRecDepth 100000 in
theorem ok_z2i {α : Type}  (x0 : Int) (k : GInsn_Fields → R α) : bodyL PT_z2i (PO_z2i ) [] ⟨1, []⟩ Tryz.f157 [(.int .i64 x0)] emp (fun v _ => dR_insn_jumps v k) = p_z2i  x0 k := by kernel_rfl
theorem mk_z2i {α : Type} {I : Imm}  : OrcOk (α := α) Tryz.prog I 157 (.pure (ad_z2i (p_z2i ))) := by
  refine orc_pureK PT_z9y (O := PO_z2i ) (OOk.nil) (L := []) ⟨1, []⟩ Tryz.func157 (by kernel_rfl) (by kernel_rfl) (by kernel_rfl) FLOk.nil ?_
  intro args k r hk
  unfold ad_z2i at hk
  split at hk <;> try (cases hk; done)
  obtain ⟨x0, rfl, hk0⟩ := decI_spec hk
  have hkz := hk0
  refine ⟨by simp [Ids, Idss], fun v => dR_insn_jumps v (fun r0 => k (GInsn_Fields.sv r0)), ?_, fun v hv => ?_⟩
  · rw [ok_z2i]; exact hkz
  · obtain ⟨r0, rfl, hv1⟩ := dR_insn_jumps_spec hv; exact ⟨hv1, by simp [Ids, Idss]⟩
abbrev PT_z2j : TE := [(2, ⟨.int .i64 0, 1, 8, .sc (.int .i64), none⟩), (3, ⟨.int .i64 0, 1, 8, .sc (.int .i64), none⟩), (182, ⟨.agg [.bool false, .bool false, .bool false, .bool false, .int .i64 0, .int .i64 0, .int .i64 0], 7, 32, .st [(0, 1, false), (1, 1, false), (2, 1, false), (3, 1, false), (4, 1, false), (5, 1, false), (6, 1, false)], some (.st [(0, 1, false, .bl), (1, 1, false, .bl), (2, 1, false, .bl), (3, 1, false, .bl), (4, 1, false, .it .i64), (5, 1, false, .it .i64), (6, 1, false, .it .i64)])⟩)]
theorem PT_z9z : Prg Tryz.prog PT_z2j := ⟨(.cons pe_2 (.cons pe_3 (.cons pe_182 (TEok.nil _)))), by kernel_rfl⟩
noncomputable abbrev PO_z2j {α : Type}  : ORC α := []
set_option maxRecDepth 100000 in
theorem ok_z2j {α : Type}  (x0 : Int) (k : GInsn_Fields → R α) : bodyL PT_z2j (PO_z2j ) [] ⟨1, []⟩ Tryz.f158 [(.int .i64 x0)] emp (fun v _ => dR_insn_withNumber v k) = p_z2j  x0 k := by kernel_rfl
theorem mk_z2j {α : Type} {I : Imm}  : OrcOk (α := α) Tryz.prog I 158 (.pure (ad_z2j (p_z2j ))) := by
  refine orc_pureK PT_z9z (O := PO_z2j ) (OOk.nil) (L := []) ⟨1, []⟩ Tryz.func158 (by kernel_rfl) (by kernel_rfl) (by kernel_rfl) FLOk.nil ?_
  intro args k r hk
  unfold ad_z2j at hk
  split at hk <;> try (cases hk; done)
  obtain ⟨x0, rfl, hk0⟩ := decI_spec hk
  have hkz := hk0
  refine ⟨by simp [Ids, Idss], fun v => dR_insn_withNumber v (fun r0 => k (GInsn_Fields.sv r0)), ?_, fun v hv => ?_⟩
  · rw [ok_z2j]; exact hkz
  · obtain ⟨r0, rfl, hv1⟩ := dR_insn_withNumber_spec hv; exact ⟨hv1, by simp [Ids, Idss]⟩
abbrev PT_z2k : TE := [(3, ⟨.int .i64 0, 1, 8, .sc (.int .i64), none⟩), (182, ⟨.agg [.bool false, .bool false, .bool false, .bool false, .int .i64 0, .int .i64 0, .int .i64 0], 7, 32, .st [(0, 1, false), (1, 1, false), (2, 1, false), (3, 1, false), (4, 1, false), (5, 1, false), (6, 1, false)], some (.st [(0, 1, false, .bl), (1, 1, false, .bl), (2, 1, false, .bl), (3, 1, false, .bl), (4, 1, false, .it .i64), (5, 1, false, .it .i64), (6, 1, false, .it .i64)])⟩)]
theorem PT_za0 : Prg Tryz.prog PT_z2k := ⟨(.cons pe_3 (.cons pe_182 (TEok.nil _))), by kernel_rfl⟩
noncomputable abbrev PO_z2k {α : Type} (F_z4 : Sg_z4 α) (F_z2i : Sg_z2i α) (F_z2j : Sg_z2j α) : ORC α := [(59, .pure (ad_z4 F_z4)), (157, .pure (ad_z2i F_z2i)), (158, .pure (ad_z2j F_z2j))]
set_option maxRecDepth 100000 in
theorem ok_z2k {α : Type} (F_z4 : Sg_z4 α) (F_z2i : Sg_z2i α) (F_z2j : Sg_z2j α) (x0 : Int) (k : GInsn_Fields → R α) : bodyL PT_z2k (PO_z2k F_z4 F_z2i F_z2j) [] ⟨1, []⟩ Tryz.f112 [(.int .i64 x0)] emp (fun v _ => dR_insn_Of v k) = p_z2k F_z4 F_z2i F_z2j x0 k := by kernel_rfl
theorem mk_z2k {α : Type} {I : Imm} {F_z4 : Sg_z4 α} {F_z2i : Sg_z2i α} {F_z2j : Sg_z2j α} (h_z4 : OrcOk (α := α) Tryz.prog I 59 (.pure (ad_z4 F_z4))) (h_z2i : OrcOk (α := α) Tryz.prog I 157 (.pure (ad_z2i F_z2i))) (h_z2j : OrcOk (α := α) Tryz.prog I 158 (.pure (ad_z2j F_z2j))) : OrcOk (α := α) Tryz.prog I 112 (.pure (ad_z2k (p_z2k F_z4 F_z2i F_z2j))) := by
  refine orc_pureK PT_za0 (O := PO_z2k F_z4 F_z2i F_z2j) (OOk.cons h_z4 (OOk.cons h_z2i (OOk.cons h_z2j (OOk.nil)))) (L := []) ⟨1, []⟩ Tryz.func112 (by kernel_rfl) (by kernel_rfl) (by kernel_rfl) FLOk.nil ?_
  intro args k r hk
  unfold ad_z2k at hk
  split at hk <;> try (cases hk; done)
  obtain ⟨x0, rfl, hk0⟩ := decI_spec hk
  have hkz := hk0
  refine ⟨by simp [Ids, Idss], fun v => dR_insn_Of v (fun r0 => k (GInsn_Fields.sv r0)), ?_, fun v hv => ?_⟩
  · rw [ok_z2k]; exact hkz
  · obtain ⟨r0, rfl, hv1⟩ := dR_insn_Of_spec hv; exact ⟨hv1, by simp [Ids, Idss]⟩
abbrev PT_z1o : TE := [(3, ⟨.int .i64 0, 1, 8, .sc (.int .i64), none⟩)]
theorem PT_za1 : Prg Tryz.prog PT_z1o := ⟨(.cons pe_3 (TEok.nil _)), by kernel_rfl⟩
noncomputable abbrev PO_z1o {α : Type}  : ORC α := []
set_option maxRecDepth 100000 in
theorem ok_z1o {α : Type}  (x0 : Bool) (x1 : Int) (x2 : Int) (k : Bool → R α) : bodyL PT_z1o (PO_z1o ) [] ⟨1, []⟩ Tryz.f113 [(.bool x0), (.int .i64 x1), (.int .i64 x2)] emp (fun v _ => dR_insn_field v k) = p_z1o  x0 x1 x2 k := by kernel_rfl
theorem mk_z1o {α : Type} {I : Imm}  : OrcOk (α := α) Tryz.prog I 113 (.pure (ad_z1o (p_z1o ))) := by
  refine orc_pureK PT_za1 (O := PO_z1o ) (OOk.nil) (L := []) ⟨1, []⟩ Tryz.func113 (by kernel_rfl) (by kernel_rfl) (by kernel_rfl) FLOk.nil ?_
  intro args k r hk
  unfold ad_z1o at hk
  split at hk <;> try (cases hk; done)
  obtain ⟨x0, rfl, hk0⟩ := decB_spec hk
  obtain ⟨x1, rfl, hk1⟩ := decI_spec hk0
  obtain ⟨x2, rfl, hk2⟩ := decI_spec hk1
  have hkz := hk2
  refine ⟨by simp [Ids, Idss], fun v => dR_insn_field v (fun r0 => k (.bool r0)), ?_, fun v hv => ?_⟩
  · rw [ok_z1o]; exact hkz
  · obtain ⟨r0, rfl, hv1⟩ := dR_insn_field_spec hv; exact ⟨hv1, by simp [Ids, Idss]⟩
theorem pe_4 : TyOk Tryz.prog 4 ⟨.bool false, 1, 1, .sc (.bool), none⟩ := ⟨fun _ => by kernel_rfl, ⟨rfl, rfl, fun _ _ => by simp [Wf, Wfs]⟩, ⟨Tryz.underlying4, rfl⟩, fun _ h => by cases h⟩
abbrev PT_zc : TE := [(2, ⟨.int .i64 0, 1, 8, .sc (.int .i64), none⟩), (3, ⟨.int .i64 0, 1, 8, .sc (.int .i64), none⟩), (4, ⟨.bool false, 1, 1, .sc (.bool), none⟩), (36, ⟨.agg [.int .i64 0, .int .i64 0, .int .i64 0, .int .i64 0, .int .i64 0, .int .i64 0], 6, 48, .st [(0, 1, false), (1, 1, false), (2, 1, false), (3, 1, false), (4, 1, false), (5, 1, false)], some (.st [(0, 1, false, .it .i64), (1, 1, false, .it .i64), (2, 1, false, .it .i64), (3, 1, false, .it .i64), (4, 1, false, .it .i64), (5, 1, false, .it .i64)])⟩), (182, ⟨.agg [.bool false, .bool false, .bool false, .bool false, .int .i64 0, .int .i64 0, .int .i64 0], 7, 32, .st [(0, 1, false), (1, 1, false), (2, 1, false), (3, 1, false), (4, 1, false), (5, 1, false), (6, 1, false)], some (.st [(0, 1, false, .bl), (1, 1, false, .bl), (2, 1, false, .bl), (3, 1, false, .bl), (4, 1, false, .it .i64), (5, 1, false, .it .i64), (6, 1, false, .it .i64)])⟩)]
theorem PT_za2 : Prg Tryz.prog PT_zc := ⟨(.cons pe_2 (.cons pe_3 (.cons pe_4 (.cons pe_36 (.cons pe_182 (TEok.nil _)))))), by kernel_rfl⟩
noncomputable abbrev PO_zc {α : Type} (F_z4 : Sg_z4 α) (F_z2k : Sg_z2k α) (F_z1o : Sg_z1o α) : ORC α := [(59, .pure (ad_z4 F_z4)), (112, .pure (ad_z2k F_z2k)), (113, .pure (ad_z1o F_z1o))]
set_option maxRecDepth 100000 in
theorem ok_zc {α : Type} (F_z4 : Sg_z4 α) (F_z2k : Sg_z2k α) (F_z1o : Sg_z1o α) (x0 : GInsn) (k : Bool → R α) : bodyL PT_zc (PO_zc F_z4 F_z2k F_z1o) [] ⟨1, []⟩ Tryz.f58 [(GInsn.sv x0)] emp (fun v _ => dR_insn_Is v k) = p_zc F_z4 F_z2k F_z1o x0 k := by kernel_rfl
theorem mk_zc {α : Type} {I : Imm} {F_z4 : Sg_z4 α} {F_z2k : Sg_z2k α} {F_z1o : Sg_z1o α} (h_z4 : OrcOk (α := α) Tryz.prog I 59 (.pure (ad_z4 F_z4))) (h_z2k : OrcOk (α := α) Tryz.prog I 112 (.pure (ad_z2k F_z2k))) (h_z1o : OrcOk (α := α) Tryz.prog I 113 (.pure (ad_z1o F_z1o))) : OrcOk (α := α) Tryz.prog I 58 (.pure (ad_zc (p_zc F_z4 F_z2k F_z1o))) := by
  refine orc_pureK PT_za2 (O := PO_zc F_z4 F_z2k F_z1o) (OOk.cons h_z4 (OOk.cons h_z2k (OOk.cons h_z1o (OOk.nil)))) (L := []) ⟨1, []⟩ Tryz.func58 (by kernel_rfl) (by kernel_rfl) (by kernel_rfl) FLOk.nil ?_
  intro args k r hk
  unfold ad_zc at hk
  split at hk <;> try (cases hk; done)
  obtain ⟨x0, rfl, hk0⟩ := GInsn.dec_spec hk
  have hkz := hk0
  refine ⟨by simp [Ids, Idss], fun v => dR_insn_Is v (fun r0 => k (.bool r0)), ?_, fun v hv => ?_⟩
  · rw [ok_zc]; exact hkz
  · obtain ⟨r0, rfl, hv1⟩ := dR_insn_Is_spec hv; exact ⟨hv1, by simp [Ids, Idss]⟩
abbrev PT_z29 : TE := [(36, ⟨.agg [.int .i64 0, .int .i64 0, .int .i64 0, .int .i64 0, .int .i64 0, .int .i64 0], 6, 48, .st [(0, 1, false), (1, 1, false), (2, 1, false), (3, 1, false), (4, 1, false), (5, 1, false)], some (.st [(0, 1, false, .it .i64), (1, 1, false, .it .i64), (2, 1, false, .it .i64), (3, 1, false, .it .i64), (4, 1, false, .it .i64), (5, 1, false, .it .i64)])⟩), (135, ⟨.agg [.int .u32 0, .int .i64 0, .int .i64 0, .int .i64 0, .int .i64 0, .int .i64 0], 6, 48, .st [(0, 1, false), (1, 1, false), (2, 1, false), (3, 1, false), (4, 1, false), (5, 1, false)], some (.st [(0, 1, false, .it .u32), (1, 1, false, .it .i64), (2, 1, false, .it .i64), (3, 1, false, .it .i64), (4, 1, false, .it .i64), (5, 1, false, .it .i64)])⟩)]
theorem PT_za3 : Prg Tryz.prog PT_z29 := ⟨(.cons pe_36 (.cons pe_135 (TEok.nil _))), by kernel_rfl⟩
noncomputable abbrev PO_z29 {α : Type} (F_z2w : Sg_z2w α) (F_z2h : Sg_z2h α) (F_zc : Sg_zc α) : ORC α := [(66, .pure (ad_z2w F_z2w)), (67, .pure (ad_z2h F_z2h)), (58, .pure (ad_zc F_zc))]
set_option maxRecDepth 100000 in
theorem ok_z29 {α : Type} (F_z2w : Sg_z2w α) (F_z2h : Sg_z2h α) (F_zc : Sg_zc α) (x0 : Int) (k : GInsn → Int → R α) : bodyL PT_z29 (PO_z29 F_z2w F_z2h F_zc) [] ⟨1, []⟩ Tryz.f28 [(.int .u32 x0)] emp (fun v _ => dR_decode_Decode v k) = p_z29 F_z2w F_z2h F_zc x0 k := by kernel_rfl
theorem mk_z29 {α : Type} {I : Imm} {F_z2w : Sg_z2w α} {F_z2h : Sg_z2h α} {F_zc : Sg_zc α} (h_z2w : OrcOk (α := α) Tryz.prog I 66 (.pure (ad_z2w F_z2w))) (h_z2h : OrcOk (α := α) Tryz.prog I 67 (.pure (ad_z2h F_z2h))) (h_zc : OrcOk (α := α) Tryz.prog I 58 (.pure (ad_zc F_zc))) : OrcOk (α := α) Tryz.prog I 28 (.pure (ad_z29 (p_z29 F_z2w F_z2h F_zc))) := by
  refine orc_pureK PT_za3 (O := PO_z29 F_z2w F_z2h F_zc) (OOk.cons h_z2w (OOk.cons h_z2h (OOk.cons h_zc (OOk.nil)))) (L := []) ⟨1, []⟩ Tryz.func28 (by kernel_rfl) (by kernel_rfl) (by kernel_rfl) FLOk.nil ?_
  intro args k r hk
  unfold ad_z29 at hk
  split at hk <;> try (cases hk; done)
  obtain ⟨x0, rfl, hk0⟩ := decI_spec hk
  have hkz := hk0
  refine ⟨by simp [Ids, Idss], fun v => dR_decode_Decode v (fun r0 r1 => k (.tuple [(GInsn.sv r0), (.int .i64 r1)])), ?_, fun v hv => ?_⟩
  · rw [ok_z29]; exact hkz
  · obtain ⟨r0, r1, rfl, hv1⟩ := dR_decode_Decode_spec hv; exact ⟨hv1, by simp [Ids, Idss]⟩
theorem pe_28 : TyOk Tryz.prog 28 ⟨.ints .u64 29 (fun _ => 0), 29, 232, .ar 29 22 1 false, some (.ar 29 1 (.it .u64))⟩ := ⟨fun _ => by kernel_rfl, ⟨rfl, rfl, fun _ _ => by simp [Wf, Wfs]⟩, ⟨Tryz.underlying28, by kernel_rfl, by kernel_rfl⟩, fun _ h => by cases h; exact ⟨by kernel_rfl, by kernel_rfl⟩⟩
abbrev PT_z25 : TE := [(3, ⟨.int .i64 0, 1, 8, .sc (.int .i64), none⟩), (22, ⟨.int .u64 0, 1, 8, .sc (.int .u64), none⟩), (28, ⟨.ints .u64 29 (fun _ => 0), 29, 232, .ar 29 22 1 false, some (.ar 29 1 (.it .u64))⟩), (30, ⟨.agg [.ints .u64 32 (fun _ => 0), .int .u64 0, .int .i64 0, .bool false, .ints .u64 29 (fun _ => 0), .int .u64 0], 65, 520, .st [(0, 32, true), (32, 1, false), (33, 1, false), (34, 1, false), (35, 29, true), (64, 1, false)], some (.st [(0, 32, true, .ar 32 1 (.it .u64)), (32, 1, false, .it .u64), (33, 1, false, .it .i64), (34, 1, false, .bl), (35, 29, true, .ar 29 1 (.it .u64)), (64, 1, false, .it .u64)])⟩)]
theorem PT_za4 : Prg Tryz.prog PT_z25 := ⟨(.cons pe_3 (.cons pe_22 (.cons pe_28 (.cons pe_30 (TEok.nil _))))), by kernel_rfl⟩
noncomputable abbrev PO_z25 {α : Type} (F_z2 : Sg_z2 α) : ORC α := [(118, .pure (ad_z2 F_z2))]
set_option maxRecDepth 100000 in
theorem ok_z25 {α : Type} (F_z2 : Sg_z2 α) (x0 : GState) (x1 : Int) (x2 : Int) (k : Bool → R α) : bodyL PT_z25 (PO_z25 F_z2) [] ⟨1, []⟩ Tryz.f106 [(GState.sv x0), (.int .i64 x1), (.int .u64 x2)] emp (fun v _ => dR_route_has v k) = p_z25 F_z2 x0 x1 x2 k := by kernel_rfl
theorem mk_z25 {α : Type} {I : Imm} {F_z2 : Sg_z2 α} (h_z2 : OrcOk (α := α) Tryz.prog I 118 (.pure (ad_z2 F_z2))) : OrcOk (α := α) Tryz.prog I 106 (.pure (ad_z25 (p_z25 F_z2))) := by
  refine orc_pureK PT_za4 (O := PO_z25 F_z2) (OOk.cons h_z2 (OOk.nil)) (L := []) ⟨1, []⟩ Tryz.func106 (by kernel_rfl) (by kernel_rfl) (by kernel_rfl) FLOk.nil ?_
  intro args k r hk
  unfold ad_z25 at hk
  split at hk <;> try (cases hk; done)
  obtain ⟨x0, rfl, hk0⟩ := GState.dec_spec hk
  obtain ⟨x1, rfl, hk1⟩ := decI_spec hk0
  obtain ⟨x2, rfl, hk2⟩ := decI_spec hk1
  have hkz := hk2
  refine ⟨by simp [Ids, Idss], fun v => dR_route_has v (fun r0 => k (.bool r0)), ?_, fun v hv => ?_⟩
  · rw [ok_z25]; exact hkz
  · obtain ⟨r0, rfl, hv1⟩ := dR_route_has_spec hv; exact ⟨hv1, by simp [Ids, Idss]⟩
abbrev PT_z2l : TE := [(3, ⟨.int .i64 0, 1, 8, .sc (.int .i64), none⟩), (4, ⟨.bool false, 1, 1, .sc (.bool), none⟩), (30, ⟨.agg [.ints .u64 32 (fun _ => 0), .int .u64 0, .int .i64 0, .bool false, .ints .u64 29 (fun _ => 0), .int .u64 0], 65, 520, .st [(0, 32, true), (32, 1, false), (33, 1, false), (34, 1, false), (35, 29, true), (64, 1, false)], some (.st [(0, 32, true, .ar 32 1 (.it .u64)), (32, 1, false, .it .u64), (33, 1, false, .it .i64), (34, 1, false, .bl), (35, 29, true, .ar 29 1 (.it .u64)), (64, 1, false, .it .u64)])⟩)]
theorem PT_za5 : Prg Tryz.prog PT_z2l := ⟨(.cons pe_3 (.cons pe_4 (.cons pe_30 (TEok.nil _)))), by kernel_rfl⟩
noncomputable abbrev PO_z2l {α : Type} (F_z25 : Sg_z25 α) : ORC α := [(106, .pure (ad_z25 F_z25))]
set_option maxRecDepth 100000 in
theorem ok_z2l {α : Type} (F_z25 : Sg_z25 α) (x0 : GState) (x1 : Int) (k : Int → Bool → R α) : bodyL PT_z2l (PO_z2l F_z25) [] ⟨1, []⟩ Tryz.f54 [(GState.sv x0), (.int .u64 x1)] emp (fun v _ => dR_route_Exception v k) = p_z2l F_z25 x0 x1 k := by kernel_rfl
theorem mk_z2l {α : Type} {I : Imm} {F_z25 : Sg_z25 α} (h_z25 : OrcOk (α := α) Tryz.prog I 106 (.pure (ad_z25 F_z25))) : OrcOk (α := α) Tryz.prog I 54 (.pure (ad_z2l (p_z2l F_z25))) := by
  refine orc_pureK PT_za5 (O := PO_z2l F_z25) (OOk.cons h_z25 (OOk.nil)) (L := []) ⟨1, []⟩ Tryz.func54 (by kernel_rfl) (by kernel_rfl) (by kernel_rfl) FLOk.nil ?_
  intro args k r hk
  unfold ad_z2l at hk
  split at hk <;> try (cases hk; done)
  obtain ⟨x0, rfl, hk0⟩ := GState.dec_spec hk
  obtain ⟨x1, rfl, hk1⟩ := decI_spec hk0
  have hkz := hk1
  refine ⟨by simp [Ids, Idss], fun v => dR_route_Exception v (fun r0 r1 => k (.tuple [(.int .i64 r0), (.bool r1)])), ?_, fun v hv => ?_⟩
  · rw [ok_z2l]; exact hkz
  · obtain ⟨r0, r1, rfl, hv1⟩ := dR_route_Exception_spec hv; exact ⟨hv1, by simp [Ids, Idss]⟩
theorem pe_173 : TyOk Tryz.prog 173 ⟨.agg [.int .i64 0, .int .i64 0, .int .i64 0, .int .i64 0, .int .i64 0], 5, 40, .st [(0, 1, false), (1, 1, false), (2, 1, false), (3, 1, false), (4, 1, false)], some (.st [(0, 1, false, .it .i64), (1, 1, false, .it .i64), (2, 1, false, .it .i64), (3, 1, false, .it .i64), (4, 1, false, .it .i64)])⟩ := ⟨fun _ => by kernel_rfl, ⟨rfl, rfl, fun _ _ => by simp [Wf, Wfs]⟩, ⟨_, Tryz.underlying173, by kernel_rfl⟩, fun _ h => by cases h; exact ⟨by kernel_rfl, by kernel_rfl⟩⟩
abbrev PT_z2m : TE := [(3, ⟨.int .i64 0, 1, 8, .sc (.int .i64), none⟩), (22, ⟨.int .u64 0, 1, 8, .sc (.int .u64), none⟩), (28, ⟨.ints .u64 29 (fun _ => 0), 29, 232, .ar 29 22 1 false, some (.ar 29 1 (.it .u64))⟩), (30, ⟨.agg [.ints .u64 32 (fun _ => 0), .int .u64 0, .int .i64 0, .bool false, .ints .u64 29 (fun _ => 0), .int .u64 0], 65, 520, .st [(0, 32, true), (32, 1, false), (33, 1, false), (34, 1, false), (35, 29, true), (64, 1, false)], some (.st [(0, 32, true, .ar 32 1 (.it .u64)), (32, 1, false, .it .u64), (33, 1, false, .it .i64), (34, 1, false, .bl), (35, 29, true, .ar 29 1 (.it .u64)), (64, 1, false, .it .u64)])⟩), (38, ⟨.agg [.int .u64 0, .int .u64 0, .int .u64 0, .bool false], 4, 32, .st [(0, 1, false), (1, 1, false), (2, 1, false), (3, 1, false)], some (.st [(0, 1, false, .it .u64), (1, 1, false, .it .u64), (2, 1, false, .it .u64), (3, 1, false, .bl)])⟩), (173, ⟨.agg [.int .i64 0, .int .i64 0, .int .i64 0, .int .i64 0, .int .i64 0], 5, 40, .st [(0, 1, false), (1, 1, false), (2, 1, false), (3, 1, false), (4, 1, false)], some (.st [(0, 1, false, .it .i64), (1, 1, false, .it .i64), (2, 1, false, .it .i64), (3, 1, false, .it .i64), (4, 1, false, .it .i64)])⟩)]
theorem PT_za6 : Prg Tryz.prog PT_z2m := ⟨(.cons pe_3 (.cons pe_22 (.cons pe_28 (.cons pe_30 (.cons pe_38 (.cons pe_173 (TEok.nil _))))))), by kernel_rfl⟩
noncomputable abbrev PO_z2m {α : Type}  : ORC α := []
set_option maxRecDepth 100000 in
theorem ok_z2m {α : Type}  (x0 : GTrap_told) (x1 : GState) (x2 : GFault) (k : GState → R α) : bodyL PT_z2m (PO_z2m ) [] ⟨1, []⟩ Tryz.f107 [(GTrap_told.sv x0), (GState.sv x1), (GFault.sv x2)] emp (fun v _ => dR_trap_told_enter v k) = p_z2m  x0 x1 x2 k := by kernel_rfl
theorem mk_z2m {α : Type} {I : Imm}  : OrcOk (α := α) Tryz.prog I 107 (.pure (ad_z2m (p_z2m ))) := by
  refine orc_pureK PT_za6 (O := PO_z2m ) (OOk.nil) (L := []) ⟨1, []⟩ Tryz.func107 (by kernel_rfl) (by kernel_rfl) (by kernel_rfl) FLOk.nil ?_
  intro args k r hk
  unfold ad_z2m at hk
  split at hk <;> try (cases hk; done)
  obtain ⟨x0, rfl, hk0⟩ := GTrap_told.dec_spec hk
  obtain ⟨x1, rfl, hk1⟩ := GState.dec_spec hk0
  obtain ⟨x2, rfl, hk2⟩ := GFault.dec_spec hk1
  have hkz := hk2
  refine ⟨by simp [Ids, Idss], fun v => dR_trap_told_enter v (fun r0 => k (GState.sv r0)), ?_, fun v hv => ?_⟩
  · rw [ok_z2m]; exact hkz
  · obtain ⟨r0, rfl, hv1⟩ := dR_trap_told_enter_spec hv; exact ⟨hv1, by simp [Ids, Idss]⟩
abbrev PT_zg : TE := [(22, ⟨.int .u64 0, 1, 8, .sc (.int .u64), none⟩)]
theorem PT_z4d : Prg Tryz.prog PT_zg := ⟨(.cons pe_22 (TEok.nil _)), by kernel_rfl⟩
noncomputable abbrev PO_zg {α : Type} (F_z19 : Sg_z19 α) (F_zn : Sg_zn α) : ORC α := [(155, .pure (ad_z19 F_z19)), (156, .pure (ad_zn F_zn))]
set_option maxRecDepth 100000 in
theorem ok_zg {α : Type} (F_z19 : Sg_z19 α) (F_zn : Sg_zn α) (x0 : Int) (x1 : Int) (x2 : Int) (x3 : Int) (k : Int → R α) : bodyL PT_zg (PO_zg F_z19 F_zn) [] ⟨1, []⟩ Tryz.f108 [(.int .u64 x0), (.int .i64 x1), (.int .i64 x2), (.int .u64 x3)] emp (fun v _ => dR_word_Set v k) = p_zg F_z19 F_zn x0 x1 x2 x3 k := by kernel_rfl
theorem mk_zg {α : Type} {I : Imm} {F_z19 : Sg_z19 α} {F_zn : Sg_zn α} (h_z19 : OrcOk (α := α) Tryz.prog I 155 (.pure (ad_z19 F_z19))) (h_zn : OrcOk (α := α) Tryz.prog I 156 (.pure (ad_zn F_zn))) : OrcOk (α := α) Tryz.prog I 108 (.pure (ad_zg (p_zg F_z19 F_zn))) := by
  refine orc_pureK PT_z4d (O := PO_zg F_z19 F_zn) (OOk.cons h_z19 (OOk.cons h_zn (OOk.nil))) (L := []) ⟨1, []⟩ Tryz.func108 (by kernel_rfl) (by kernel_rfl) (by kernel_rfl) FLOk.nil ?_
  intro args k r hk
  unfold ad_zg at hk
  split at hk <;> try (cases hk; done)
  obtain ⟨x0, rfl, hk0⟩ := decI_spec hk
  obtain ⟨x1, rfl, hk1⟩ := decI_spec hk0
  obtain ⟨x2, rfl, hk2⟩ := decI_spec hk1
  obtain ⟨x3, rfl, hk3⟩ := decI_spec hk2
  have hkz := hk3
  refine ⟨by simp [Ids, Idss], fun v => dR_word_Set v (fun r0 => k (.int .u64 r0)), ?_, fun v hv => ?_⟩
  · rw [ok_zg]; exact hkz
  · obtain ⟨r0, rfl, hv1⟩ := dR_word_Set_spec hv; exact ⟨hv1, by simp [Ids, Idss]⟩
abbrev PT_za : TE := [(22, ⟨.int .u64 0, 1, 8, .sc (.int .u64), none⟩), (28, ⟨.ints .u64 29 (fun _ => 0), 29, 232, .ar 29 22 1 false, some (.ar 29 1 (.it .u64))⟩), (30, ⟨.agg [.ints .u64 32 (fun _ => 0), .int .u64 0, .int .i64 0, .bool false, .ints .u64 29 (fun _ => 0), .int .u64 0], 65, 520, .st [(0, 32, true), (32, 1, false), (33, 1, false), (34, 1, false), (35, 29, true), (64, 1, false)], some (.st [(0, 32, true, .ar 32 1 (.it .u64)), (32, 1, false, .it .u64), (33, 1, false, .it .i64), (34, 1, false, .bl), (35, 29, true, .ar 29 1 (.it .u64)), (64, 1, false, .it .u64)])⟩)]
theorem PT_za7 : Prg Tryz.prog PT_za := ⟨(.cons pe_22 (.cons pe_28 (.cons pe_30 (TEok.nil _)))), by kernel_rfl⟩
noncomputable abbrev PO_za {α : Type} (F_zg : Sg_zg α) : ORC α := [(108, .pure (ad_zg F_zg))]
set_option maxRecDepth 100000 in
theorem ok_za {α : Type} (F_zg : Sg_zg α) (x0 : GState) (x1 : Int) (x2 : Int) (x3 : Bool) (k : GState → R α) : bodyL PT_za (PO_za F_zg) [] ⟨1, []⟩ Tryz.f109 [(GState.sv x0), (.int .i64 x1), (.int .i64 x2), (.bool x3)] emp (fun v _ => dR_csr_Put v k) = p_za F_zg x0 x1 x2 x3 k := by kernel_rfl
theorem mk_za {α : Type} {I : Imm} {F_zg : Sg_zg α} (h_zg : OrcOk (α := α) Tryz.prog I 108 (.pure (ad_zg F_zg))) : OrcOk (α := α) Tryz.prog I 109 (.pure (ad_za (p_za F_zg))) := by
  refine orc_pureK PT_za7 (O := PO_za F_zg) (OOk.cons h_zg (OOk.nil)) (L := []) ⟨1, []⟩ Tryz.func109 (by kernel_rfl) (by kernel_rfl) (by kernel_rfl) FLOk.nil ?_
  intro args k r hk
  unfold ad_za at hk
  split at hk <;> try (cases hk; done)
  obtain ⟨x0, rfl, hk0⟩ := GState.dec_spec hk
  obtain ⟨x1, rfl, hk1⟩ := decI_spec hk0
  obtain ⟨x2, rfl, hk2⟩ := decI_spec hk1
  obtain ⟨x3, rfl, hk3⟩ := decB_spec hk2
  have hkz := hk3
  refine ⟨by simp [Ids, Idss], fun v => dR_csr_Put v (fun r0 => k (GState.sv r0)), ?_, fun v hv => ?_⟩
  · rw [ok_za]; exact hkz
  · obtain ⟨r0, rfl, hv1⟩ := dR_csr_Put_spec hv; exact ⟨hv1, by simp [Ids, Idss]⟩
abbrev PT_z3 : TE := [(22, ⟨.int .u64 0, 1, 8, .sc (.int .u64), none⟩), (28, ⟨.ints .u64 29 (fun _ => 0), 29, 232, .ar 29 22 1 false, some (.ar 29 1 (.it .u64))⟩), (30, ⟨.agg [.ints .u64 32 (fun _ => 0), .int .u64 0, .int .i64 0, .bool false, .ints .u64 29 (fun _ => 0), .int .u64 0], 65, 520, .st [(0, 32, true), (32, 1, false), (33, 1, false), (34, 1, false), (35, 29, true), (64, 1, false)], some (.st [(0, 32, true, .ar 32 1 (.it .u64)), (32, 1, false, .it .u64), (33, 1, false, .it .i64), (34, 1, false, .bl), (35, 29, true, .ar 29 1 (.it .u64)), (64, 1, false, .it .u64)])⟩)]
theorem PT_z4e : Prg Tryz.prog PT_z3 := ⟨(.cons pe_22 (.cons pe_28 (.cons pe_30 (TEok.nil _)))), by kernel_rfl⟩
noncomputable abbrev PO_z3 {α : Type} (F_z2 : Sg_z2 α) : ORC α := [(118, .pure (ad_z2 F_z2))]
set_option maxRecDepth 100000 in
theorem ok_z3 {α : Type} (F_z2 : Sg_z2 α) (x0 : GState) (x1 : Int) (x2 : Int) (k : Bool → R α) : bodyL PT_z3 (PO_z3 F_z2) [] ⟨1, []⟩ Tryz.f128 [(GState.sv x0), (.int .i64 x1), (.int .i64 x2)] emp (fun v _ => dR_csr_Bit v k) = p_z3 F_z2 x0 x1 x2 k := by kernel_rfl
theorem mk_z3 {α : Type} {I : Imm} {F_z2 : Sg_z2 α} (h_z2 : OrcOk (α := α) Tryz.prog I 118 (.pure (ad_z2 F_z2))) : OrcOk (α := α) Tryz.prog I 128 (.pure (ad_z3 (p_z3 F_z2))) := by
  refine orc_pureK PT_z4e (O := PO_z3 F_z2) (OOk.cons h_z2 (OOk.nil)) (L := []) ⟨1, []⟩ Tryz.func128 (by kernel_rfl) (by kernel_rfl) (by kernel_rfl) FLOk.nil ?_
  intro args k r hk
  unfold ad_z3 at hk
  split at hk <;> try (cases hk; done)
  obtain ⟨x0, rfl, hk0⟩ := GState.dec_spec hk
  obtain ⟨x1, rfl, hk1⟩ := decI_spec hk0
  obtain ⟨x2, rfl, hk2⟩ := decI_spec hk1
  have hkz := hk2
  refine ⟨by simp [Ids, Idss], fun v => dR_csr_Bit v (fun r0 => k (.bool r0)), ?_, fun v hv => ?_⟩
  · rw [ok_z3]; exact hkz
  · obtain ⟨r0, rfl, hv1⟩ := dR_csr_Bit_spec hv; exact ⟨hv1, by simp [Ids, Idss]⟩
theorem pe_178 : TyOk Tryz.prog 178 ⟨.agg [.int .i64 0, .int .i64 0, .int .i64 0], 3, 24, .st [(0, 1, false), (1, 1, false), (2, 1, false)], some (.st [(0, 1, false, .it .i64), (1, 1, false, .it .i64), (2, 1, false, .it .i64)])⟩ := ⟨fun _ => by kernel_rfl, ⟨rfl, rfl, fun _ _ => by simp [Wf, Wfs]⟩, ⟨_, Tryz.underlying178, by kernel_rfl⟩, fun _ h => by cases h; exact ⟨by kernel_rfl, by kernel_rfl⟩⟩
abbrev PT_z1i : TE := [(3, ⟨.int .i64 0, 1, 8, .sc (.int .i64), none⟩), (30, ⟨.agg [.ints .u64 32 (fun _ => 0), .int .u64 0, .int .i64 0, .bool false, .ints .u64 29 (fun _ => 0), .int .u64 0], 65, 520, .st [(0, 32, true), (32, 1, false), (33, 1, false), (34, 1, false), (35, 29, true), (64, 1, false)], some (.st [(0, 32, true, .ar 32 1 (.it .u64)), (32, 1, false, .it .u64), (33, 1, false, .it .i64), (34, 1, false, .bl), (35, 29, true, .ar 29 1 (.it .u64)), (64, 1, false, .it .u64)])⟩), (178, ⟨.agg [.int .i64 0, .int .i64 0, .int .i64 0], 3, 24, .st [(0, 1, false), (1, 1, false), (2, 1, false)], some (.st [(0, 1, false, .it .i64), (1, 1, false, .it .i64), (2, 1, false, .it .i64)])⟩)]
theorem PT_za8 : Prg Tryz.prog PT_z1i := ⟨(.cons pe_3 (.cons pe_30 (.cons pe_178 (TEok.nil _)))), by kernel_rfl⟩
noncomputable abbrev PO_z1i {α : Type} (F_z3 : Sg_z3 α) (F_za : Sg_za α) : ORC α := [(128, .pure (ad_z3 F_z3)), (109, .pure (ad_za F_za))]
set_option maxRecDepth 100000 in
theorem ok_z1i {α : Type} (F_z3 : Sg_z3 α) (F_za : Sg_za α) (x0 : GTrap_kept) (x1 : GState) (k : GState → R α) : bodyL PT_z1i (PO_z1i F_z3 F_za) [] ⟨1, []⟩ Tryz.f110 [(GTrap_kept.sv x0), (GState.sv x1)] emp (fun v _ => dR_trap_kept_enter v k) = p_z1i F_z3 F_za x0 x1 k := by kernel_rfl
theorem mk_z1i {α : Type} {I : Imm} {F_z3 : Sg_z3 α} {F_za : Sg_za α} (h_z3 : OrcOk (α := α) Tryz.prog I 128 (.pure (ad_z3 F_z3))) (h_za : OrcOk (α := α) Tryz.prog I 109 (.pure (ad_za F_za))) : OrcOk (α := α) Tryz.prog I 110 (.pure (ad_z1i (p_z1i F_z3 F_za))) := by
  refine orc_pureK PT_za8 (O := PO_z1i F_z3 F_za) (OOk.cons h_z3 (OOk.cons h_za (OOk.nil))) (L := []) ⟨1, []⟩ Tryz.func110 (by kernel_rfl) (by kernel_rfl) (by kernel_rfl) FLOk.nil ?_
  intro args k r hk
  unfold ad_z1i at hk
  split at hk <;> try (cases hk; done)
  obtain ⟨x0, rfl, hk0⟩ := GTrap_kept.dec_spec hk
  obtain ⟨x1, rfl, hk1⟩ := GState.dec_spec hk0
  have hkz := hk1
  refine ⟨by simp [Ids, Idss], fun v => dR_trap_kept_enter v (fun r0 => k (GState.sv r0)), ?_, fun v hv => ?_⟩
  · rw [ok_z1i]; exact hkz
  · obtain ⟨r0, rfl, hv1⟩ := dR_trap_kept_enter_spec hv; exact ⟨hv1, by simp [Ids, Idss]⟩
abbrev PT_z2n : TE := [(3, ⟨.int .i64 0, 1, 8, .sc (.int .i64), none⟩), (30, ⟨.agg [.ints .u64 32 (fun _ => 0), .int .u64 0, .int .i64 0, .bool false, .ints .u64 29 (fun _ => 0), .int .u64 0], 65, 520, .st [(0, 32, true), (32, 1, false), (33, 1, false), (34, 1, false), (35, 29, true), (64, 1, false)], some (.st [(0, 32, true, .ar 32 1 (.it .u64)), (32, 1, false, .it .u64), (33, 1, false, .it .i64), (34, 1, false, .bl), (35, 29, true, .ar 29 1 (.it .u64)), (64, 1, false, .it .u64)])⟩), (178, ⟨.agg [.int .i64 0, .int .i64 0, .int .i64 0], 3, 24, .st [(0, 1, false), (1, 1, false), (2, 1, false)], some (.st [(0, 1, false, .it .i64), (1, 1, false, .it .i64), (2, 1, false, .it .i64)])⟩)]
theorem PT_za9 : Prg Tryz.prog PT_z2n := ⟨(.cons pe_3 (.cons pe_30 (.cons pe_178 (TEok.nil _)))), by kernel_rfl⟩
noncomputable abbrev PO_z2n {α : Type} (F_za : Sg_za α) (F_z1i : Sg_z1i α) : ORC α := [(109, .pure (ad_za F_za)), (110, .pure (ad_z1i F_z1i))]
set_option maxRecDepth 100000 in
theorem ok_z2n {α : Type} (F_za : Sg_za α) (F_z1i : Sg_z1i α) (x0 : GState) (x1 : Int) (x2 : Int) (k : GState → R α) : bodyL PT_z2n (PO_z2n F_za F_z1i) [] ⟨1, []⟩ Tryz.f111 [(GState.sv x0), (.int .i64 x1), (.int .i64 x2)] emp (fun v _ => dR_trap_lower v k) = p_z2n F_za F_z1i x0 x1 x2 k := by kernel_rfl
theorem mk_z2n {α : Type} {I : Imm} {F_za : Sg_za α} {F_z1i : Sg_z1i α} (h_za : OrcOk (α := α) Tryz.prog I 109 (.pure (ad_za F_za))) (h_z1i : OrcOk (α := α) Tryz.prog I 110 (.pure (ad_z1i F_z1i))) : OrcOk (α := α) Tryz.prog I 111 (.pure (ad_z2n (p_z2n F_za F_z1i))) := by
  refine orc_pureK PT_za9 (O := PO_z2n F_za F_z1i) (OOk.cons h_za (OOk.cons h_z1i (OOk.nil))) (L := []) ⟨1, []⟩ Tryz.func111 (by kernel_rfl) (by kernel_rfl) (by kernel_rfl) FLOk.nil ?_
  intro args k r hk
  unfold ad_z2n at hk
  split at hk <;> try (cases hk; done)
  obtain ⟨x0, rfl, hk0⟩ := GState.dec_spec hk
  obtain ⟨x1, rfl, hk1⟩ := decI_spec hk0
  obtain ⟨x2, rfl, hk2⟩ := decI_spec hk1
  have hkz := hk2
  refine ⟨by simp [Ids, Idss], fun v => dR_trap_lower v (fun r0 => k (GState.sv r0)), ?_, fun v hv => ?_⟩
  · rw [ok_z2n]; exact hkz
  · obtain ⟨r0, rfl, hv1⟩ := dR_trap_lower_spec hv; exact ⟨hv1, by simp [Ids, Idss]⟩
theorem pe_171 : TyOk Tryz.prog 171 ⟨.agg [.int .i64 0, .bool false], 2, 16, .st [(0, 1, false), (1, 1, false)], some (.st [(0, 1, false, .it .i64), (1, 1, false, .bl)])⟩ := ⟨fun _ => by kernel_rfl, ⟨rfl, rfl, fun _ _ => by simp [Wf, Wfs]⟩, ⟨_, Tryz.underlying171, by kernel_rfl⟩, fun _ h => by cases h; exact ⟨by kernel_rfl, by kernel_rfl⟩⟩
abbrev PT_z22 : TE := [(3, ⟨.int .i64 0, 1, 8, .sc (.int .i64), none⟩), (4, ⟨.bool false, 1, 1, .sc (.bool), none⟩), (22, ⟨.int .u64 0, 1, 8, .sc (.int .u64), none⟩), (28, ⟨.ints .u64 29 (fun _ => 0), 29, 232, .ar 29 22 1 false, some (.ar 29 1 (.it .u64))⟩), (30, ⟨.agg [.ints .u64 32 (fun _ => 0), .int .u64 0, .int .i64 0, .bool false, .ints .u64 29 (fun _ => 0), .int .u64 0], 65, 520, .st [(0, 32, true), (32, 1, false), (33, 1, false), (34, 1, false), (35, 29, true), (64, 1, false)], some (.st [(0, 32, true, .ar 32 1 (.it .u64)), (32, 1, false, .it .u64), (33, 1, false, .it .i64), (34, 1, false, .bl), (35, 29, true, .ar 29 1 (.it .u64)), (64, 1, false, .it .u64)])⟩), (38, ⟨.agg [.int .u64 0, .int .u64 0, .int .u64 0, .bool false], 4, 32, .st [(0, 1, false), (1, 1, false), (2, 1, false), (3, 1, false)], some (.st [(0, 1, false, .it .u64), (1, 1, false, .it .u64), (2, 1, false, .it .u64), (3, 1, false, .bl)])⟩), (171, ⟨.agg [.int .i64 0, .bool false], 2, 16, .st [(0, 1, false), (1, 1, false)], some (.st [(0, 1, false, .it .i64), (1, 1, false, .bl)])⟩), (173, ⟨.agg [.int .i64 0, .int .i64 0, .int .i64 0, .int .i64 0, .int .i64 0], 5, 40, .st [(0, 1, false), (1, 1, false), (2, 1, false), (3, 1, false), (4, 1, false)], some (.st [(0, 1, false, .it .i64), (1, 1, false, .it .i64), (2, 1, false, .it .i64), (3, 1, false, .it .i64), (4, 1, false, .it .i64)])⟩), (178, ⟨.agg [.int .i64 0, .int .i64 0, .int .i64 0], 3, 24, .st [(0, 1, false), (1, 1, false), (2, 1, false)], some (.st [(0, 1, false, .it .i64), (1, 1, false, .it .i64), (2, 1, false, .it .i64)])⟩)]
theorem PT_zaa : Prg Tryz.prog PT_z22 := ⟨(.cons pe_3 (.cons pe_4 (.cons pe_22 (.cons pe_28 (.cons pe_30 (.cons pe_38 (.cons pe_171 (.cons pe_173 (.cons pe_178 (TEok.nil _)))))))))), by kernel_rfl⟩
noncomputable abbrev PO_z22 {α : Type} (F_z2m : Sg_z2m α) (F_zg : Sg_zg α) (F_za : Sg_za α) (F_z1i : Sg_z1i α) (F_z2n : Sg_z2n α) : ORC α := [(107, .pure (ad_z2m F_z2m)), (108, .pure (ad_zg F_zg)), (109, .pure (ad_za F_za)), (110, .pure (ad_z1i F_z1i)), (111, .pure (ad_z2n F_z2n))]
set_option maxRecDepth 100000 in
theorem ok_z22 {α : Type} (F_z2m : Sg_z2m α) (F_zg : Sg_zg α) (F_za : Sg_za α) (F_z1i : Sg_z1i α) (F_z2n : Sg_z2n α) (x0 : GState) (x1 : GFault) (x2 : Int) (x3 : Bool) (k : GState → R α) : bodyL PT_z22 (PO_z22 F_z2m F_zg F_za F_z1i F_z2n) [] ⟨1, []⟩ Tryz.f55 [(GState.sv x0), (GFault.sv x1), (.int .i64 x2), (.bool x3)] emp (fun v _ => dR_trap_Enter v k) = p_z22 F_z2m F_zg F_za F_z1i F_z2n x0 x1 x2 x3 k := by kernel_rfl
theorem mk_z22 {α : Type} {I : Imm} {F_z2m : Sg_z2m α} {F_zg : Sg_zg α} {F_za : Sg_za α} {F_z1i : Sg_z1i α} {F_z2n : Sg_z2n α} (h_z2m : OrcOk (α := α) Tryz.prog I 107 (.pure (ad_z2m F_z2m))) (h_zg : OrcOk (α := α) Tryz.prog I 108 (.pure (ad_zg F_zg))) (h_za : OrcOk (α := α) Tryz.prog I 109 (.pure (ad_za F_za))) (h_z1i : OrcOk (α := α) Tryz.prog I 110 (.pure (ad_z1i F_z1i))) (h_z2n : OrcOk (α := α) Tryz.prog I 111 (.pure (ad_z2n F_z2n))) : OrcOk (α := α) Tryz.prog I 55 (.pure (ad_z22 (p_z22 F_z2m F_zg F_za F_z1i F_z2n))) := by
  refine orc_pureK PT_zaa (O := PO_z22 F_z2m F_zg F_za F_z1i F_z2n) (OOk.cons h_z2m (OOk.cons h_zg (OOk.cons h_za (OOk.cons h_z1i (OOk.cons h_z2n (OOk.nil)))))) (L := []) ⟨1, []⟩ Tryz.func55 (by kernel_rfl) (by kernel_rfl) (by kernel_rfl) FLOk.nil ?_
  intro args k r hk
  unfold ad_z22 at hk
  split at hk <;> try (cases hk; done)
  obtain ⟨x0, rfl, hk0⟩ := GState.dec_spec hk
  obtain ⟨x1, rfl, hk1⟩ := GFault.dec_spec hk0
  obtain ⟨x2, rfl, hk2⟩ := decI_spec hk1
  obtain ⟨x3, rfl, hk3⟩ := decB_spec hk2
  have hkz := hk3
  refine ⟨by simp [Ids, Idss], fun v => dR_trap_Enter v (fun r0 => k (GState.sv r0)), ?_, fun v hv => ?_⟩
  · rw [ok_z22]; exact hkz
  · obtain ⟨r0, rfl, hv1⟩ := dR_trap_Enter_spec hv; exact ⟨hv1, by simp [Ids, Idss]⟩
theorem pe_40 : TyOk Tryz.prog 40 ⟨.agg [.int .u64 0, .int .u32 0, .int .i64 0, .int .u64 0, .bool false, .agg [.int .u64 0, .int .u64 0, .int .u64 0, .bool false], .int .i64 0, .bool false, .bool false], 12, 88, .st [(0, 1, false), (1, 1, false), (2, 1, false), (3, 1, false), (4, 1, false), (5, 4, true), (9, 1, false), (10, 1, false), (11, 1, false)], some (.st [(0, 1, false, .it .u64), (1, 1, false, .it .u32), (2, 1, false, .it .i64), (3, 1, false, .it .u64), (4, 1, false, .bl), (5, 4, true, .st [(0, 1, false, .it .u64), (1, 1, false, .it .u64), (2, 1, false, .it .u64), (3, 1, false, .bl)]), (9, 1, false, .it .i64), (10, 1, false, .bl), (11, 1, false, .bl)])⟩ := ⟨fun _ => by kernel_rfl, ⟨rfl, rfl, fun _ _ => by simp [Wf, Wfs]⟩, ⟨_, Tryz.underlying40, by kernel_rfl⟩, fun _ h => by cases h; exact ⟨by kernel_rfl, by kernel_rfl⟩⟩
abbrev PT_z1x : TE := [(22, ⟨.int .u64 0, 1, 8, .sc (.int .u64), none⟩), (30, ⟨.agg [.ints .u64 32 (fun _ => 0), .int .u64 0, .int .i64 0, .bool false, .ints .u64 29 (fun _ => 0), .int .u64 0], 65, 520, .st [(0, 32, true), (32, 1, false), (33, 1, false), (34, 1, false), (35, 29, true), (64, 1, false)], some (.st [(0, 32, true, .ar 32 1 (.it .u64)), (32, 1, false, .it .u64), (33, 1, false, .it .i64), (34, 1, false, .bl), (35, 29, true, .ar 29 1 (.it .u64)), (64, 1, false, .it .u64)])⟩), (38, ⟨.agg [.int .u64 0, .int .u64 0, .int .u64 0, .bool false], 4, 32, .st [(0, 1, false), (1, 1, false), (2, 1, false), (3, 1, false)], some (.st [(0, 1, false, .it .u64), (1, 1, false, .it .u64), (2, 1, false, .it .u64), (3, 1, false, .bl)])⟩), (40, ⟨.agg [.int .u64 0, .int .u32 0, .int .i64 0, .int .u64 0, .bool false, .agg [.int .u64 0, .int .u64 0, .int .u64 0, .bool false], .int .i64 0, .bool false, .bool false], 12, 88, .st [(0, 1, false), (1, 1, false), (2, 1, false), (3, 1, false), (4, 1, false), (5, 4, true), (9, 1, false), (10, 1, false), (11, 1, false)], some (.st [(0, 1, false, .it .u64), (1, 1, false, .it .u32), (2, 1, false, .it .i64), (3, 1, false, .it .u64), (4, 1, false, .bl), (5, 4, true, .st [(0, 1, false, .it .u64), (1, 1, false, .it .u64), (2, 1, false, .it .u64), (3, 1, false, .bl)]), (9, 1, false, .it .i64), (10, 1, false, .bl), (11, 1, false, .bl)])⟩)]
theorem PT_zab : Prg Tryz.prog PT_z1x := ⟨(.cons pe_22 (.cons pe_30 (.cons pe_38 (.cons pe_40 (TEok.nil _))))), by kernel_rfl⟩
noncomputable abbrev PO_z1x {α : Type} (F_z2l : Sg_z2l α) (F_z22 : Sg_z22 α) : ORC α := [(54, .pure (ad_z2l F_z2l)), (55, .pure (ad_z22 F_z22))]
set_option maxRecDepth 100000 in
theorem ok_z1x {α : Type} (F_z2l : Sg_z2l α) (F_z22 : Sg_z22 α) (x0 : GState) (x1 : GFault) (x2 : Int) (k : GState → GRetire → R α) : bodyL PT_z1x (PO_z1x F_z2l F_z22) [] ⟨1, []⟩ Tryz.f18 [(GState.sv x0), (GFault.sv x1), (.int .u32 x2)] emp (fun v _ => dR_exec_Fault v k) = p_z1x F_z2l F_z22 x0 x1 x2 k := by kernel_rfl
theorem mk_z1x {α : Type} {I : Imm} {F_z2l : Sg_z2l α} {F_z22 : Sg_z22 α} (h_z2l : OrcOk (α := α) Tryz.prog I 54 (.pure (ad_z2l F_z2l))) (h_z22 : OrcOk (α := α) Tryz.prog I 55 (.pure (ad_z22 F_z22))) : OrcOk (α := α) Tryz.prog I 18 (.pure (ad_z1x (p_z1x F_z2l F_z22))) := by
  refine orc_pureK PT_zab (O := PO_z1x F_z2l F_z22) (OOk.cons h_z2l (OOk.cons h_z22 (OOk.nil))) (L := []) ⟨1, []⟩ Tryz.func18 (by kernel_rfl) (by kernel_rfl) (by kernel_rfl) FLOk.nil ?_
  intro args k r hk
  unfold ad_z1x at hk
  split at hk <;> try (cases hk; done)
  obtain ⟨x0, rfl, hk0⟩ := GState.dec_spec hk
  obtain ⟨x1, rfl, hk1⟩ := GFault.dec_spec hk0
  obtain ⟨x2, rfl, hk2⟩ := decI_spec hk1
  have hkz := hk2
  refine ⟨by simp [Ids, Idss], fun v => dR_exec_Fault v (fun r0 r1 => k (.tuple [(GState.sv r0), (GRetire.sv r1)])), ?_, fun v hv => ?_⟩
  · rw [ok_z1x]; exact hkz
  · obtain ⟨r0, r1, rfl, hv1⟩ := dR_exec_Fault_spec hv; exact ⟨hv1, by simp [Ids, Idss]⟩
theorem pe_195 : TyOk Tryz.prog 195 ⟨.arr 2 2 (fun _ => .ints .i64 2 (fun _ => 0)), 4, 32, .ar 2 192 2 true, none⟩ := ⟨fun _ => by kernel_rfl, ⟨rfl, rfl, fun _ _ => by simp [Wf, Wfs]⟩, ⟨Tryz.underlying195, by kernel_rfl, by kernel_rfl⟩, fun _ h => by cases h⟩
abbrev PT_zs : TE := [(3, ⟨.int .i64 0, 1, 8, .sc (.int .i64), none⟩), (4, ⟨.bool false, 1, 1, .sc (.bool), none⟩), (30, ⟨.agg [.ints .u64 32 (fun _ => 0), .int .u64 0, .int .i64 0, .bool false, .ints .u64 29 (fun _ => 0), .int .u64 0], 65, 520, .st [(0, 32, true), (32, 1, false), (33, 1, false), (34, 1, false), (35, 29, true), (64, 1, false)], some (.st [(0, 32, true, .ar 32 1 (.it .u64)), (32, 1, false, .it .u64), (33, 1, false, .it .i64), (34, 1, false, .bl), (35, 29, true, .ar 29 1 (.it .u64)), (64, 1, false, .it .u64)])⟩), (192, ⟨.ints .i64 2 (fun _ => 0), 2, 16, .ar 2 3 1 false, some (.ar 2 1 (.it .i64))⟩), (195, ⟨.arr 2 2 (fun _ => .ints .i64 2 (fun _ => 0)), 4, 32, .ar 2 192 2 true, none⟩)]
theorem PT_zac : Prg Tryz.prog PT_zs := ⟨(.cons pe_3 (.cons pe_4 (.cons pe_30 (.cons pe_192 (.cons pe_195 (TEok.nil _)))))), by kernel_rfl⟩
noncomputable abbrev PO_zs {α : Type}  : ORC α := []
set_option maxRecDepth 100000 in
theorem ok_zs {α : Type}  (x0 : GState) (k : Int → R α) : bodyL PT_zs (PO_zs ) [] ⟨1, []⟩ Tryz.f68 [(GState.sv x0)] emp (fun v _ => dR_legal_Level v k) = p_zs  x0 k := by kernel_rfl
theorem mk_zs {α : Type} {I : Imm}  : OrcOk (α := α) Tryz.prog I 68 (.pure (ad_zs (p_zs ))) := by
  refine orc_pureK PT_zac (O := PO_zs ) (OOk.nil) (L := []) ⟨1, []⟩ Tryz.func68 (by kernel_rfl) (by kernel_rfl) (by kernel_rfl) FLOk.nil ?_
  intro args k r hk
  unfold ad_zs at hk
  split at hk <;> try (cases hk; done)
  obtain ⟨x0, rfl, hk0⟩ := GState.dec_spec hk
  have hkz := hk0
  refine ⟨by simp [Ids, Idss], fun v => dR_legal_Level v (fun r0 => k (.int .i64 r0)), ?_, fun v hv => ?_⟩
  · rw [ok_zs]; exact hkz
  · obtain ⟨r0, rfl, hv1⟩ := dR_legal_Level_spec hv; exact ⟨hv1, by simp [Ids, Idss]⟩
abbrev PT_z1d : TE := [(2, ⟨.int .i64 0, 1, 8, .sc (.int .i64), none⟩), (3, ⟨.int .i64 0, 1, 8, .sc (.int .i64), none⟩), (36, ⟨.agg [.int .i64 0, .int .i64 0, .int .i64 0, .int .i64 0, .int .i64 0, .int .i64 0], 6, 48, .st [(0, 1, false), (1, 1, false), (2, 1, false), (3, 1, false), (4, 1, false), (5, 1, false)], some (.st [(0, 1, false, .it .i64), (1, 1, false, .it .i64), (2, 1, false, .it .i64), (3, 1, false, .it .i64), (4, 1, false, .it .i64), (5, 1, false, .it .i64)])⟩)]
theorem PT_zad : Prg Tryz.prog PT_z1d := ⟨(.cons pe_2 (.cons pe_3 (.cons pe_36 (TEok.nil _)))), by kernel_rfl⟩
noncomputable abbrev PO_z1d {α : Type}  : ORC α := []
set_option maxRecDepth 100000 in
theorem ok_z1d {α : Type}  (x0 : GInsn) (k : Bool → R α) : bodyL PT_z1d (PO_z1d ) [] ⟨1, []⟩ Tryz.f70 [(GInsn.sv x0)] emp (fun v _ => dR_legal_Writes v k) = p_z1d  x0 k := by kernel_rfl
theorem mk_z1d {α : Type} {I : Imm}  : OrcOk (α := α) Tryz.prog I 70 (.pure (ad_z1d (p_z1d ))) := by
  refine orc_pureK PT_zad (O := PO_z1d ) (OOk.nil) (L := []) ⟨1, []⟩ Tryz.func70 (by kernel_rfl) (by kernel_rfl) (by kernel_rfl) FLOk.nil ?_
  intro args k r hk
  unfold ad_z1d at hk
  split at hk <;> try (cases hk; done)
  obtain ⟨x0, rfl, hk0⟩ := GInsn.dec_spec hk
  have hkz := hk0
  refine ⟨by simp [Ids, Idss], fun v => dR_legal_Writes v (fun r0 => k (.bool r0)), ?_, fun v hv => ?_⟩
  · rw [ok_z1d]; exact hkz
  · obtain ⟨r0, rfl, hv1⟩ := dR_legal_Writes_spec hv; exact ⟨hv1, by simp [Ids, Idss]⟩
theorem pe_55 : TyOk Tryz.prog 55 ⟨.nils, 1, 24, .sc (.slice 3), none⟩ := ⟨fun _ => by kernel_rfl, ⟨rfl, rfl, fun _ _ => by simp [Wf, Wfs]⟩, ⟨Tryz.underlying55, rfl⟩, fun _ h => by cases h⟩
abbrev PT_z1 : TE := [(3, ⟨.int .i64 0, 1, 8, .sc (.int .i64), none⟩), (55, ⟨.nils, 1, 24, .sc (.slice 3), none⟩)]
theorem PT_zae : Prg Tryz.prog PT_z1 := ⟨(.cons pe_3 (.cons pe_55 (TEok.nil _))), by kernel_rfl⟩
abbrev PT_csr_one : TE := [(3, ⟨.int .i64 0, 1, 8, .sc (.int .i64), none⟩), (22, ⟨.int .u64 0, 1, 8, .sc (.int .u64), none⟩), (55, ⟨.nils, 1, 24, .sc (.slice 3), none⟩)]
theorem PT_csr_one_ok : Prg Tryz.prog PT_csr_one := ⟨(.cons pe_3 (.cons pe_22 (.cons pe_55 (TEok.nil _)))), by kernel_rfl⟩
noncomputable abbrev B_z7i {α : Type}  : FF α := byBody PT_csr_one [] ⟨6, []⟩ Tryz.f169
theorem cB_z7i {α : Type} {I : Imm}  : OrcOk (α := α) Tryz.prog I 169 (.full (B_z7i )) := orc_body PT_csr_one_ok (OOk.nil) ⟨6, []⟩ Tryz.func169 (by kernel_rfl) (by kernel_rfl) (by kernel_rfl)
noncomputable abbrev PO_z1 {α : Type}  : ORC α := [(169, .full (B_z7i ))]
set_option maxRecDepth 100000 in
theorem ok_z1 {α : Type}   (k : Int → R α) : bodyL PT_z1 (PO_z1 ) [] ⟨6, []⟩ Tryz.f168 [] emp (fun v _ => dR_csr_guests v k) = p_z1   k := by kernel_rfl
theorem mk_z1 {α : Type} {I : Imm}  : OrcOk (α := α) Tryz.prog I 168 (.pure (ad_z1 (p_z1 ))) := by
  refine orc_pureK PT_zae (O := PO_z1 ) (OOk.cons (cB_z7i ) (OOk.nil)) (L := []) ⟨6, []⟩ Tryz.func168 (by kernel_rfl) (by kernel_rfl) (by kernel_rfl) FLOk.nil ?_
  intro args k r hk
  unfold ad_z1 at hk
  split at hk <;> try (cases hk; done)
  have hkz := hk
  refine ⟨by simp [Ids, Idss], fun v => dR_csr_guests v (fun r0 => k (.int .u64 r0)), ?_, fun v hv => ?_⟩
  · rw [ok_z1]; exact hkz
  · obtain ⟨r0, rfl, hv1⟩ := dR_csr_guests_spec hv; exact ⟨hv1, by simp [Ids, Idss]⟩
theorem pe_253 : TyOk Tryz.prog 253 ⟨.agg [.int .i64 0, .int .u64 0], 2, 16, .st [(0, 1, false), (1, 1, false)], some (.st [(0, 1, false, .it .i64), (1, 1, false, .it .u64)])⟩ := ⟨fun _ => by kernel_rfl, ⟨rfl, rfl, fun _ _ => by simp [Wf, Wfs]⟩, ⟨_, Tryz.underlying253, by kernel_rfl⟩, fun _ h => by cases h; exact ⟨by kernel_rfl, by kernel_rfl⟩⟩
theorem pe_254 : TyOk Tryz.prog 254 ⟨.arr 2 29 (fun _ => .agg [.int .i64 0, .int .u64 0]), 58, 464, .ar 29 253 2 true, none⟩ := ⟨fun _ => by kernel_rfl, ⟨rfl, rfl, fun _ _ => by simp [Wf, Wfs]⟩, ⟨Tryz.underlying254, by kernel_rfl, by kernel_rfl⟩, fun _ h => by cases h⟩
abbrev PT_zk : TE := [(3, ⟨.int .i64 0, 1, 8, .sc (.int .i64), none⟩), (253, ⟨.agg [.int .i64 0, .int .u64 0], 2, 16, .st [(0, 1, false), (1, 1, false)], some (.st [(0, 1, false, .it .i64), (1, 1, false, .it .u64)])⟩), (254, ⟨.arr 2 29 (fun _ => .agg [.int .i64 0, .int .u64 0]), 58, 464, .ar 29 253 2 true, none⟩)]
theorem PT_zaf : Prg Tryz.prog PT_zk := ⟨(.cons pe_3 (.cons pe_253 (.cons pe_254 (TEok.nil _)))), by kernel_rfl⟩
noncomputable abbrev B_z7j {α : Type} (F_z1 : Sg_z1 α) : FF α := byBody PT_csr_one [] ⟨30, []⟩ Tryz.f169
theorem cB_z7j {α : Type} {I : Imm} {F_z1 : Sg_z1 α} (h_z1 : OrcOk (α := α) Tryz.prog I 168 (.pure (ad_z1 F_z1))) : OrcOk (α := α) Tryz.prog I 169 (.full (B_z7j F_z1)) := orc_body PT_csr_one_ok (OOk.nil) ⟨30, []⟩ Tryz.func169 (by kernel_rfl) (by kernel_rfl) (by kernel_rfl)
abbrev PT_csr_rows : TE := [(3, ⟨.int .i64 0, 1, 8, .sc (.int .i64), none⟩), (22, ⟨.int .u64 0, 1, 8, .sc (.int .u64), none⟩), (55, ⟨.nils, 1, 24, .sc (.slice 3), none⟩), (253, ⟨.agg [.int .i64 0, .int .u64 0], 2, 16, .st [(0, 1, false), (1, 1, false)], some (.st [(0, 1, false, .it .i64), (1, 1, false, .it .u64)])⟩), (254, ⟨.arr 2 29 (fun _ => .agg [.int .i64 0, .int .u64 0]), 58, 464, .ar 29 253 2 true, none⟩)]
theorem PT_csr_rows_ok : Prg Tryz.prog PT_csr_rows := ⟨(.cons pe_3 (.cons pe_22 (.cons pe_55 (.cons pe_253 (.cons pe_254 (TEok.nil _)))))), by kernel_rfl⟩
noncomputable abbrev B_z7k {α : Type} (F_z1 : Sg_z1 α) : FF α := byBody PT_csr_rows [(169, .full (B_z7j F_z1)), (168, .pure (ad_z1 F_z1))] ⟨30, []⟩ Tryz.f185
theorem cB_z7k {α : Type} {I : Imm} {F_z1 : Sg_z1 α} (h_z1 : OrcOk (α := α) Tryz.prog I 168 (.pure (ad_z1 F_z1))) : OrcOk (α := α) Tryz.prog I 185 (.full (B_z7k F_z1)) := orc_body PT_csr_rows_ok (OOk.cons (cB_z7j h_z1) (OOk.cons h_z1 (OOk.nil))) ⟨30, []⟩ Tryz.func185 (by kernel_rfl) (by kernel_rfl) (by kernel_rfl)
noncomputable abbrev PO_zk {α : Type} (F_z1 : Sg_z1 α) : ORC α := [(185, .full (B_z7k F_z1))]
set_option maxRecDepth 100000 in
theorem ok_zk {α : Type} (F_z1 : Sg_z1 α) (x0 : Int) (k : Int → R α) : bodyL PT_zk (PO_zk F_z1) [] ⟨30, []⟩ Tryz.f162 [(.int .i64 x0)] emp (fun v _ => dR_csr_Index v k) = p_zk F_z1 x0 k := by kernel_rfl
theorem mk_zk {α : Type} {I : Imm} {F_z1 : Sg_z1 α} (h_z1 : OrcOk (α := α) Tryz.prog I 168 (.pure (ad_z1 F_z1))) : OrcOk (α := α) Tryz.prog I 162 (.pure (ad_zk (p_zk F_z1))) := by
  refine orc_pureK PT_zaf (O := PO_zk F_z1) (OOk.cons (cB_z7k h_z1) (OOk.nil)) (L := []) ⟨30, []⟩ Tryz.func162 (by kernel_rfl) (by kernel_rfl) (by kernel_rfl) FLOk.nil ?_
  intro args k r hk
  unfold ad_zk at hk
  split at hk <;> try (cases hk; done)
  obtain ⟨x0, rfl, hk0⟩ := decI_spec hk
  have hkz := hk0
  refine ⟨by simp [Ids, Idss], fun v => dR_csr_Index v (fun r0 => k (.int .i64 r0)), ?_, fun v hv => ?_⟩
  · rw [ok_zk]; exact hkz
  · obtain ⟨r0, rfl, hv1⟩ := dR_csr_Index_spec hv; exact ⟨hv1, by simp [Ids, Idss]⟩
abbrev PT_z2o : TE := [(3, ⟨.int .i64 0, 1, 8, .sc (.int .i64), none⟩)]
theorem PT_zag : Prg Tryz.prog PT_z2o := ⟨(.cons pe_3 (TEok.nil _)), by kernel_rfl⟩
noncomputable abbrev PO_z2o {α : Type} (F_zk : Sg_zk α) : ORC α := [(162, .pure (ad_zk F_zk))]
set_option maxRecDepth 100000 in
theorem ok_z2o {α : Type} (F_zk : Sg_zk α) (x0 : Int) (k : Bool → R α) : bodyL PT_z2o (PO_z2o F_zk) [] ⟨1, []⟩ Tryz.f126 [(.int .i64 x0)] emp (fun v _ => dR_csr_Is v k) = p_z2o F_zk x0 k := by kernel_rfl
theorem mk_z2o {α : Type} {I : Imm} {F_zk : Sg_zk α} (h_zk : OrcOk (α := α) Tryz.prog I 162 (.pure (ad_zk F_zk))) : OrcOk (α := α) Tryz.prog I 126 (.pure (ad_z2o (p_z2o F_zk))) := by
  refine orc_pureK PT_zag (O := PO_z2o F_zk) (OOk.cons h_zk (OOk.nil)) (L := []) ⟨1, []⟩ Tryz.func126 (by kernel_rfl) (by kernel_rfl) (by kernel_rfl) FLOk.nil ?_
  intro args k r hk
  unfold ad_z2o at hk
  split at hk <;> try (cases hk; done)
  obtain ⟨x0, rfl, hk0⟩ := decI_spec hk
  have hkz := hk0
  refine ⟨by simp [Ids, Idss], fun v => dR_csr_Is v (fun r0 => k (.bool r0)), ?_, fun v hv => ?_⟩
  · rw [ok_z2o]; exact hkz
  · obtain ⟨r0, rfl, hv1⟩ := dR_csr_Is_spec hv; exact ⟨hv1, by simp [Ids, Idss]⟩
abbrev PT_zz : TE := [(3, ⟨.int .i64 0, 1, 8, .sc (.int .i64), none⟩)]
theorem PT_zah : Prg Tryz.prog PT_zz := ⟨(.cons pe_3 (TEok.nil _)), by kernel_rfl⟩
noncomputable abbrev PO_zz {α : Type}  : ORC α := []
set_option maxRecDepth 100000 in
theorem ok_zz {α : Type}  (x0 : Int) (k : Int → R α) : bodyL PT_zz (PO_zz ) [] ⟨1, []⟩ Tryz.f129 [(.int .i64 x0)] emp (fun v _ => dR_legal_ask v k) = p_zz  x0 k := by kernel_rfl
theorem mk_zz {α : Type} {I : Imm}  : OrcOk (α := α) Tryz.prog I 129 (.pure (ad_zz (p_zz ))) := by
  refine orc_pureK PT_zah (O := PO_zz ) (OOk.nil) (L := []) ⟨1, []⟩ Tryz.func129 (by kernel_rfl) (by kernel_rfl) (by kernel_rfl) FLOk.nil ?_
  intro args k r hk
  unfold ad_zz at hk
  split at hk <;> try (cases hk; done)
  obtain ⟨x0, rfl, hk0⟩ := decI_spec hk
  have hkz := hk0
  refine ⟨by simp [Ids, Idss], fun v => dR_legal_ask v (fun r0 => k (.int .i64 r0)), ?_, fun v hv => ?_⟩
  · rw [ok_zz]; exact hkz
  · obtain ⟨r0, rfl, hv1⟩ := dR_legal_ask_spec hv; exact ⟨hv1, by simp [Ids, Idss]⟩
abbrev PT_zb : TE := []
theorem PT_zai : Prg Tryz.prog PT_zb := ⟨(TEok.nil _), by kernel_rfl⟩
noncomputable abbrev PO_zb {α : Type}  : ORC α := []
set_option maxRecDepth 100000 in
theorem ok_zb {α : Type}  (x0 : Bool) (x1 : Int) (k : Int → Bool → R α) : bodyL PT_zb (PO_zb ) [] ⟨1, []⟩ Tryz.f71 [(.bool x0), (.int .u64 x1)] emp (fun v _ => dR_legal_because v k) = p_zb  x0 x1 k := by kernel_rfl
theorem mk_zb {α : Type} {I : Imm}  : OrcOk (α := α) Tryz.prog I 71 (.pure (ad_zb (p_zb ))) := by
  refine orc_pureK PT_zai (O := PO_zb ) (OOk.nil) (L := []) ⟨1, []⟩ Tryz.func71 (by kernel_rfl) (by kernel_rfl) (by kernel_rfl) FLOk.nil ?_
  intro args k r hk
  unfold ad_zb at hk
  split at hk <;> try (cases hk; done)
  obtain ⟨x0, rfl, hk0⟩ := decB_spec hk
  obtain ⟨x1, rfl, hk1⟩ := decI_spec hk0
  have hkz := hk1
  refine ⟨by simp [Ids, Idss], fun v => dR_legal_because v (fun r0 r1 => k (.tuple [(.int .u64 r0), (.bool r1)])), ?_, fun v hv => ?_⟩
  · rw [ok_zb]; exact hkz
  · obtain ⟨r0, r1, rfl, hv1⟩ := dR_legal_because_spec hv; exact ⟨hv1, by simp [Ids, Idss]⟩
abbrev PT_z20 : TE := [(3, ⟨.int .i64 0, 1, 8, .sc (.int .i64), none⟩), (30, ⟨.agg [.ints .u64 32 (fun _ => 0), .int .u64 0, .int .i64 0, .bool false, .ints .u64 29 (fun _ => 0), .int .u64 0], 65, 520, .st [(0, 32, true), (32, 1, false), (33, 1, false), (34, 1, false), (35, 29, true), (64, 1, false)], some (.st [(0, 32, true, .ar 32 1 (.it .u64)), (32, 1, false, .it .u64), (33, 1, false, .it .i64), (34, 1, false, .bl), (35, 29, true, .ar 29 1 (.it .u64)), (64, 1, false, .it .u64)])⟩)]
theorem PT_zaj : Prg Tryz.prog PT_z20 := ⟨(.cons pe_3 (.cons pe_30 (TEok.nil _))), by kernel_rfl⟩
noncomputable abbrev PO_z20 {α : Type} (F_zz : Sg_zz α) (F_zb : Sg_zb α) (F_z3 : Sg_z3 α) : ORC α := [(129, .pure (ad_zz F_zz)), (71, .pure (ad_zb F_zb)), (128, .pure (ad_z3 F_z3))]
set_option maxRecDepth 100000 in
theorem ok_z20 {α : Type} (F_zz : Sg_zz α) (F_zb : Sg_zb α) (F_z3 : Sg_z3 α) (x0 : GState) (x1 : Int) (x2 : Int) (k : Int → Bool → R α) : bodyL PT_z20 (PO_z20 F_zz F_zb F_z3) [] ⟨1, []⟩ Tryz.f127 [(GState.sv x0), (.int .i64 x1), (.int .i64 x2)] emp (fun v _ => dR_legal_guestCsr v k) = p_z20 F_zz F_zb F_z3 x0 x1 x2 k := by kernel_rfl
theorem mk_z20 {α : Type} {I : Imm} {F_zz : Sg_zz α} {F_zb : Sg_zb α} {F_z3 : Sg_z3 α} (h_zz : OrcOk (α := α) Tryz.prog I 129 (.pure (ad_zz F_zz))) (h_zb : OrcOk (α := α) Tryz.prog I 71 (.pure (ad_zb F_zb))) (h_z3 : OrcOk (α := α) Tryz.prog I 128 (.pure (ad_z3 F_z3))) : OrcOk (α := α) Tryz.prog I 127 (.pure (ad_z20 (p_z20 F_zz F_zb F_z3))) := by
  refine orc_pureK PT_zaj (O := PO_z20 F_zz F_zb F_z3) (OOk.cons h_zz (OOk.cons h_zb (OOk.cons h_z3 (OOk.nil)))) (L := []) ⟨1, []⟩ Tryz.func127 (by kernel_rfl) (by kernel_rfl) (by kernel_rfl) FLOk.nil ?_
  intro args k r hk
  unfold ad_z20 at hk
  split at hk <;> try (cases hk; done)
  obtain ⟨x0, rfl, hk0⟩ := GState.dec_spec hk
  obtain ⟨x1, rfl, hk1⟩ := decI_spec hk0
  obtain ⟨x2, rfl, hk2⟩ := decI_spec hk1
  have hkz := hk2
  refine ⟨by simp [Ids, Idss], fun v => dR_legal_guestCsr v (fun r0 r1 => k (.tuple [(.int .u64 r0), (.bool r1)])), ?_, fun v hv => ?_⟩
  · rw [ok_z20]; exact hkz
  · obtain ⟨r0, r1, rfl, hv1⟩ := dR_legal_guestCsr_spec hv; exact ⟨hv1, by simp [Ids, Idss]⟩
theorem pe_114 : TyOk Tryz.prog 114 ⟨.ints .i64 4 (fun _ => 0), 4, 32, .ar 4 3 1 false, some (.ar 4 1 (.it .i64))⟩ := ⟨fun _ => by kernel_rfl, ⟨rfl, rfl, fun _ _ => by simp [Wf, Wfs]⟩, ⟨Tryz.underlying114, by kernel_rfl, by kernel_rfl⟩, fun _ h => by cases h; exact ⟨by kernel_rfl, by kernel_rfl⟩⟩
abbrev PT_z2p : TE := [(3, ⟨.int .i64 0, 1, 8, .sc (.int .i64), none⟩), (30, ⟨.agg [.ints .u64 32 (fun _ => 0), .int .u64 0, .int .i64 0, .bool false, .ints .u64 29 (fun _ => 0), .int .u64 0], 65, 520, .st [(0, 32, true), (32, 1, false), (33, 1, false), (34, 1, false), (35, 29, true), (64, 1, false)], some (.st [(0, 32, true, .ar 32 1 (.it .u64)), (32, 1, false, .it .u64), (33, 1, false, .it .i64), (34, 1, false, .bl), (35, 29, true, .ar 29 1 (.it .u64)), (64, 1, false, .it .u64)])⟩), (114, ⟨.ints .i64 4 (fun _ => 0), 4, 32, .ar 4 3 1 false, some (.ar 4 1 (.it .i64))⟩)]
theorem PT_zak : Prg Tryz.prog PT_z2p := ⟨(.cons pe_3 (.cons pe_30 (.cons pe_114 (TEok.nil _)))), by kernel_rfl⟩
noncomputable abbrev PO_z2p {α : Type} (F_zs : Sg_zs α) (F_z2o : Sg_z2o α) (F_z20 : Sg_z20 α) (F_zb : Sg_zb α) (F_z3 : Sg_z3 α) (F_zz : Sg_zz α) : ORC α := [(68, .pure (ad_zs F_zs)), (126, .pure (ad_z2o F_z2o)), (127, .pure (ad_z20 F_z20)), (71, .pure (ad_zb F_zb)), (128, .pure (ad_z3 F_z3)), (129, .pure (ad_zz F_zz))]
set_option maxRecDepth 100000 in
theorem ok_z2p {α : Type} (F_zs : Sg_zs α) (F_z2o : Sg_z2o α) (F_z20 : Sg_z20 α) (F_zb : Sg_zb α) (F_z3 : Sg_z3 α) (F_zz : Sg_zz α) (x0 : GState) (x1 : Int) (x2 : Bool) (k : Int → Bool → R α) : bodyL PT_z2p (PO_z2p F_zs F_z2o F_z20 F_zb F_z3 F_zz) [] ⟨1, []⟩ Tryz.f69 [(GState.sv x0), (.int .i64 x1), (.bool x2)] emp (fun v _ => dR_legal_Csr v k) = p_z2p F_zs F_z2o F_z20 F_zb F_z3 F_zz x0 x1 x2 k := by kernel_rfl
theorem mk_z2p {α : Type} {I : Imm} {F_zs : Sg_zs α} {F_z2o : Sg_z2o α} {F_z20 : Sg_z20 α} {F_zb : Sg_zb α} {F_z3 : Sg_z3 α} {F_zz : Sg_zz α} (h_zs : OrcOk (α := α) Tryz.prog I 68 (.pure (ad_zs F_zs))) (h_z2o : OrcOk (α := α) Tryz.prog I 126 (.pure (ad_z2o F_z2o))) (h_z20 : OrcOk (α := α) Tryz.prog I 127 (.pure (ad_z20 F_z20))) (h_zb : OrcOk (α := α) Tryz.prog I 71 (.pure (ad_zb F_zb))) (h_z3 : OrcOk (α := α) Tryz.prog I 128 (.pure (ad_z3 F_z3))) (h_zz : OrcOk (α := α) Tryz.prog I 129 (.pure (ad_zz F_zz))) : OrcOk (α := α) Tryz.prog I 69 (.pure (ad_z2p (p_z2p F_zs F_z2o F_z20 F_zb F_z3 F_zz))) := by
  refine orc_pureK PT_zak (O := PO_z2p F_zs F_z2o F_z20 F_zb F_z3 F_zz) (OOk.cons h_zs (OOk.cons h_z2o (OOk.cons h_z20 (OOk.cons h_zb (OOk.cons h_z3 (OOk.cons h_zz (OOk.nil))))))) (L := []) ⟨1, []⟩ Tryz.func69 (by kernel_rfl) (by kernel_rfl) (by kernel_rfl) FLOk.nil ?_
  intro args k r hk
  unfold ad_z2p at hk
  split at hk <;> try (cases hk; done)
  obtain ⟨x0, rfl, hk0⟩ := GState.dec_spec hk
  obtain ⟨x1, rfl, hk1⟩ := decI_spec hk0
  obtain ⟨x2, rfl, hk2⟩ := decB_spec hk1
  have hkz := hk2
  refine ⟨by simp [Ids, Idss], fun v => dR_legal_Csr v (fun r0 r1 => k (.tuple [(.int .u64 r0), (.bool r1)])), ?_, fun v hv => ?_⟩
  · rw [ok_z2p]; exact hkz
  · obtain ⟨r0, r1, rfl, hv1⟩ := dR_legal_Csr_spec hv; exact ⟨hv1, by simp [Ids, Idss]⟩
abbrev PT_z2a : TE := [(3, ⟨.int .i64 0, 1, 8, .sc (.int .i64), none⟩), (30, ⟨.agg [.ints .u64 32 (fun _ => 0), .int .u64 0, .int .i64 0, .bool false, .ints .u64 29 (fun _ => 0), .int .u64 0], 65, 520, .st [(0, 32, true), (32, 1, false), (33, 1, false), (34, 1, false), (35, 29, true), (64, 1, false)], some (.st [(0, 32, true, .ar 32 1 (.it .u64)), (32, 1, false, .it .u64), (33, 1, false, .it .i64), (34, 1, false, .bl), (35, 29, true, .ar 29 1 (.it .u64)), (64, 1, false, .it .u64)])⟩)]
theorem PT_zal : Prg Tryz.prog PT_z2a := ⟨(.cons pe_3 (.cons pe_30 (TEok.nil _))), by kernel_rfl⟩
noncomputable abbrev PO_z2a {α : Type} (F_z3 : Sg_z3 α) (F_zb : Sg_zb α) : ORC α := [(128, .pure (ad_z3 F_z3)), (71, .pure (ad_zb F_zb))]
set_option maxRecDepth 100000 in
theorem ok_z2a {α : Type} (F_z3 : Sg_z3 α) (F_zb : Sg_zb α) (x0 : GState) (x1 : Int) (x2 : Int) (x3 : Int) (k : Int → Bool → R α) : bodyL PT_z2a (PO_z2a F_z3 F_zb) [] ⟨1, []⟩ Tryz.f72 [(GState.sv x0), (.int .i64 x1), (.int .i64 x2), (.int .i64 x3)] emp (fun v _ => dR_legal_plain v k) = p_z2a F_z3 F_zb x0 x1 x2 x3 k := by kernel_rfl
theorem mk_z2a {α : Type} {I : Imm} {F_z3 : Sg_z3 α} {F_zb : Sg_zb α} (h_z3 : OrcOk (α := α) Tryz.prog I 128 (.pure (ad_z3 F_z3))) (h_zb : OrcOk (α := α) Tryz.prog I 71 (.pure (ad_zb F_zb))) : OrcOk (α := α) Tryz.prog I 72 (.pure (ad_z2a (p_z2a F_z3 F_zb))) := by
  refine orc_pureK PT_zal (O := PO_z2a F_z3 F_zb) (OOk.cons h_z3 (OOk.cons h_zb (OOk.nil))) (L := []) ⟨1, []⟩ Tryz.func72 (by kernel_rfl) (by kernel_rfl) (by kernel_rfl) FLOk.nil ?_
  intro args k r hk
  unfold ad_z2a at hk
  split at hk <;> try (cases hk; done)
  obtain ⟨x0, rfl, hk0⟩ := GState.dec_spec hk
  obtain ⟨x1, rfl, hk1⟩ := decI_spec hk0
  obtain ⟨x2, rfl, hk2⟩ := decI_spec hk1
  obtain ⟨x3, rfl, hk3⟩ := decI_spec hk2
  have hkz := hk3
  refine ⟨by simp [Ids, Idss], fun v => dR_legal_plain v (fun r0 r1 => k (.tuple [(.int .u64 r0), (.bool r1)])), ?_, fun v hv => ?_⟩
  · rw [ok_z2a]; exact hkz
  · obtain ⟨r0, r1, rfl, hv1⟩ := dR_legal_plain_spec hv; exact ⟨hv1, by simp [Ids, Idss]⟩
abbrev PT_z2q : TE := [(3, ⟨.int .i64 0, 1, 8, .sc (.int .i64), none⟩), (30, ⟨.agg [.ints .u64 32 (fun _ => 0), .int .u64 0, .int .i64 0, .bool false, .ints .u64 29 (fun _ => 0), .int .u64 0], 65, 520, .st [(0, 32, true), (32, 1, false), (33, 1, false), (34, 1, false), (35, 29, true), (64, 1, false)], some (.st [(0, 32, true, .ar 32 1 (.it .u64)), (32, 1, false, .it .u64), (33, 1, false, .it .i64), (34, 1, false, .bl), (35, 29, true, .ar 29 1 (.it .u64)), (64, 1, false, .it .u64)])⟩)]
theorem PT_zam : Prg Tryz.prog PT_z2q := ⟨(.cons pe_3 (.cons pe_30 (TEok.nil _))), by kernel_rfl⟩
noncomputable abbrev PO_z2q {α : Type} (F_z3 : Sg_z3 α) : ORC α := [(128, .pure (ad_z3 F_z3))]
set_option maxRecDepth 100000 in
theorem ok_z2q {α : Type} (F_z3 : Sg_z3 α) (x0 : GState) (x1 : Int) (k : Int → Bool → R α) : bodyL PT_z2q (PO_z2q F_z3) [] ⟨1, []⟩ Tryz.f73 [(GState.sv x0), (.int .i64 x1)] emp (fun v _ => dR_legal_wfi v k) = p_z2q F_z3 x0 x1 k := by kernel_rfl
theorem mk_z2q {α : Type} {I : Imm} {F_z3 : Sg_z3 α} (h_z3 : OrcOk (α := α) Tryz.prog I 128 (.pure (ad_z3 F_z3))) : OrcOk (α := α) Tryz.prog I 73 (.pure (ad_z2q (p_z2q F_z3))) := by
  refine orc_pureK PT_zam (O := PO_z2q F_z3) (OOk.cons h_z3 (OOk.nil)) (L := []) ⟨1, []⟩ Tryz.func73 (by kernel_rfl) (by kernel_rfl) (by kernel_rfl) FLOk.nil ?_
  intro args k r hk
  unfold ad_z2q at hk
  split at hk <;> try (cases hk; done)
  obtain ⟨x0, rfl, hk0⟩ := GState.dec_spec hk
  obtain ⟨x1, rfl, hk1⟩ := decI_spec hk0
  have hkz := hk1
  refine ⟨by simp [Ids, Idss], fun v => dR_legal_wfi v (fun r0 r1 => k (.tuple [(.int .u64 r0), (.bool r1)])), ?_, fun v hv => ?_⟩
  · rw [ok_z2q]; exact hkz
  · obtain ⟨r0, r1, rfl, hv1⟩ := dR_legal_wfi_spec hv; exact ⟨hv1, by simp [Ids, Idss]⟩
abbrev PT_z26 : TE := [(3, ⟨.int .i64 0, 1, 8, .sc (.int .i64), none⟩), (30, ⟨.agg [.ints .u64 32 (fun _ => 0), .int .u64 0, .int .i64 0, .bool false, .ints .u64 29 (fun _ => 0), .int .u64 0], 65, 520, .st [(0, 32, true), (32, 1, false), (33, 1, false), (34, 1, false), (35, 29, true), (64, 1, false)], some (.st [(0, 32, true, .ar 32 1 (.it .u64)), (32, 1, false, .it .u64), (33, 1, false, .it .i64), (34, 1, false, .bl), (35, 29, true, .ar 29 1 (.it .u64)), (64, 1, false, .it .u64)])⟩)]
theorem PT_zan : Prg Tryz.prog PT_z26 := ⟨(.cons pe_3 (.cons pe_30 (TEok.nil _))), by kernel_rfl⟩
noncomputable abbrev PO_z26 {α : Type} (F_z4 : Sg_z4 α) (F_z3 : Sg_z3 α) (F_zb : Sg_zb α) : ORC α := [(59, .pure (ad_z4 F_z4)), (128, .pure (ad_z3 F_z3)), (71, .pure (ad_zb F_zb))]
set_option maxRecDepth 100000 in
theorem ok_z26 {α : Type} (F_z4 : Sg_z4 α) (F_z3 : Sg_z3 α) (F_zb : Sg_zb α) (x0 : GState) (x1 : Int) (x2 : Int) (k : Int → Bool → R α) : bodyL PT_z26 (PO_z26 F_z4 F_z3 F_zb) [] ⟨1, []⟩ Tryz.f74 [(GState.sv x0), (.int .i64 x1), (.int .i64 x2)] emp (fun v _ => dR_legal_guests v k) = p_z26 F_z4 F_z3 F_zb x0 x1 x2 k := by kernel_rfl
theorem mk_z26 {α : Type} {I : Imm} {F_z4 : Sg_z4 α} {F_z3 : Sg_z3 α} {F_zb : Sg_zb α} (h_z4 : OrcOk (α := α) Tryz.prog I 59 (.pure (ad_z4 F_z4))) (h_z3 : OrcOk (α := α) Tryz.prog I 128 (.pure (ad_z3 F_z3))) (h_zb : OrcOk (α := α) Tryz.prog I 71 (.pure (ad_zb F_zb))) : OrcOk (α := α) Tryz.prog I 74 (.pure (ad_z26 (p_z26 F_z4 F_z3 F_zb))) := by
  refine orc_pureK PT_zan (O := PO_z26 F_z4 F_z3 F_zb) (OOk.cons h_z4 (OOk.cons h_z3 (OOk.cons h_zb (OOk.nil)))) (L := []) ⟨1, []⟩ Tryz.func74 (by kernel_rfl) (by kernel_rfl) (by kernel_rfl) FLOk.nil ?_
  intro args k r hk
  unfold ad_z26 at hk
  split at hk <;> try (cases hk; done)
  obtain ⟨x0, rfl, hk0⟩ := GState.dec_spec hk
  obtain ⟨x1, rfl, hk1⟩ := decI_spec hk0
  obtain ⟨x2, rfl, hk2⟩ := decI_spec hk1
  have hkz := hk2
  refine ⟨by simp [Ids, Idss], fun v => dR_legal_guests v (fun r0 r1 => k (.tuple [(.int .u64 r0), (.bool r1)])), ?_, fun v hv => ?_⟩
  · rw [ok_z26]; exact hkz
  · obtain ⟨r0, r1, rfl, hv1⟩ := dR_legal_guests_spec hv; exact ⟨hv1, by simp [Ids, Idss]⟩
abbrev PT_zr : TE := [(3, ⟨.int .i64 0, 1, 8, .sc (.int .i64), none⟩), (30, ⟨.agg [.ints .u64 32 (fun _ => 0), .int .u64 0, .int .i64 0, .bool false, .ints .u64 29 (fun _ => 0), .int .u64 0], 65, 520, .st [(0, 32, true), (32, 1, false), (33, 1, false), (34, 1, false), (35, 29, true), (64, 1, false)], some (.st [(0, 32, true, .ar 32 1 (.it .u64)), (32, 1, false, .it .u64), (33, 1, false, .it .i64), (34, 1, false, .bl), (35, 29, true, .ar 29 1 (.it .u64)), (64, 1, false, .it .u64)])⟩), (36, ⟨.agg [.int .i64 0, .int .i64 0, .int .i64 0, .int .i64 0, .int .i64 0, .int .i64 0], 6, 48, .st [(0, 1, false), (1, 1, false), (2, 1, false), (3, 1, false), (4, 1, false), (5, 1, false)], some (.st [(0, 1, false, .it .i64), (1, 1, false, .it .i64), (2, 1, false, .it .i64), (3, 1, false, .it .i64), (4, 1, false, .it .i64), (5, 1, false, .it .i64)])⟩)]
theorem PT_zao : Prg Tryz.prog PT_zr := ⟨(.cons pe_3 (.cons pe_30 (.cons pe_36 (TEok.nil _)))), by kernel_rfl⟩
noncomputable abbrev PO_zr {α : Type} (F_zc : Sg_zc α) (F_zs : Sg_zs α) (F_z4 : Sg_z4 α) (F_z1d : Sg_z1d α) (F_z2p : Sg_z2p α) (F_zb : Sg_zb α) (F_z2a : Sg_z2a α) (F_z2q : Sg_z2q α) (F_z26 : Sg_z26 α) : ORC α := [(58, .pure (ad_zc F_zc)), (68, .pure (ad_zs F_zs)), (59, .pure (ad_z4 F_z4)), (70, .pure (ad_z1d F_z1d)), (69, .pure (ad_z2p F_z2p)), (71, .pure (ad_zb F_zb)), (72, .pure (ad_z2a F_z2a)), (73, .pure (ad_z2q F_z2q)), (74, .pure (ad_z26 F_z26))]
set_option maxRecDepth 100000 in
theorem ok_zr {α : Type} (F_zc : Sg_zc α) (F_zs : Sg_zs α) (F_z4 : Sg_z4 α) (F_z1d : Sg_z1d α) (F_z2p : Sg_z2p α) (F_zb : Sg_zb α) (F_z2a : Sg_z2a α) (F_z2q : Sg_z2q α) (F_z26 : Sg_z26 α) (x0 : GState) (x1 : GInsn) (k : Int → Bool → R α) : bodyL PT_zr (PO_zr F_zc F_zs F_z4 F_z1d F_z2p F_zb F_z2a F_z2q F_z26) [] ⟨1, []⟩ Tryz.f29 [(GState.sv x0), (GInsn.sv x1)] emp (fun v _ => dR_legal_Insn v k) = p_zr F_zc F_zs F_z4 F_z1d F_z2p F_zb F_z2a F_z2q F_z26 x0 x1 k := by kernel_rfl
theorem mk_zr {α : Type} {I : Imm} {F_zc : Sg_zc α} {F_zs : Sg_zs α} {F_z4 : Sg_z4 α} {F_z1d : Sg_z1d α} {F_z2p : Sg_z2p α} {F_zb : Sg_zb α} {F_z2a : Sg_z2a α} {F_z2q : Sg_z2q α} {F_z26 : Sg_z26 α} (h_zc : OrcOk (α := α) Tryz.prog I 58 (.pure (ad_zc F_zc))) (h_zs : OrcOk (α := α) Tryz.prog I 68 (.pure (ad_zs F_zs))) (h_z4 : OrcOk (α := α) Tryz.prog I 59 (.pure (ad_z4 F_z4))) (h_z1d : OrcOk (α := α) Tryz.prog I 70 (.pure (ad_z1d F_z1d))) (h_z2p : OrcOk (α := α) Tryz.prog I 69 (.pure (ad_z2p F_z2p))) (h_zb : OrcOk (α := α) Tryz.prog I 71 (.pure (ad_zb F_zb))) (h_z2a : OrcOk (α := α) Tryz.prog I 72 (.pure (ad_z2a F_z2a))) (h_z2q : OrcOk (α := α) Tryz.prog I 73 (.pure (ad_z2q F_z2q))) (h_z26 : OrcOk (α := α) Tryz.prog I 74 (.pure (ad_z26 F_z26))) : OrcOk (α := α) Tryz.prog I 29 (.pure (ad_zr (p_zr F_zc F_zs F_z4 F_z1d F_z2p F_zb F_z2a F_z2q F_z26))) := by
  refine orc_pureK PT_zao (O := PO_zr F_zc F_zs F_z4 F_z1d F_z2p F_zb F_z2a F_z2q F_z26) (OOk.cons h_zc (OOk.cons h_zs (OOk.cons h_z4 (OOk.cons h_z1d (OOk.cons h_z2p (OOk.cons h_zb (OOk.cons h_z2a (OOk.cons h_z2q (OOk.cons h_z26 (OOk.nil)))))))))) (L := []) ⟨1, []⟩ Tryz.func29 (by kernel_rfl) (by kernel_rfl) (by kernel_rfl) FLOk.nil ?_
  intro args k r hk
  unfold ad_zr at hk
  split at hk <;> try (cases hk; done)
  obtain ⟨x0, rfl, hk0⟩ := GState.dec_spec hk
  obtain ⟨x1, rfl, hk1⟩ := GInsn.dec_spec hk0
  have hkz := hk1
  refine ⟨by simp [Ids, Idss], fun v => dR_legal_Insn v (fun r0 r1 => k (.tuple [(.int .u64 r0), (.bool r1)])), ?_, fun v hv => ?_⟩
  · rw [ok_zr]; exact hkz
  · obtain ⟨r0, r1, rfl, hv1⟩ := dR_legal_Insn_spec hv; exact ⟨hv1, by simp [Ids, Idss]⟩
theorem pe_91 : TyOk Tryz.prog 91 ⟨.agg [.agg [.ints .u64 32 (fun _ => 0), .int .u64 0, .int .i64 0, .bool false, .ints .u64 29 (fun _ => 0), .int .u64 0], .int .u64 0, .agg [.int .u64 0, .int .u64 0, .int .u64 0, .bool false], .bool false], 71, 568, .st [(0, 65, true), (65, 1, false), (66, 4, true), (70, 1, false)], some (.st [(0, 65, true, .st [(0, 32, true, .ar 32 1 (.it .u64)), (32, 1, false, .it .u64), (33, 1, false, .it .i64), (34, 1, false, .bl), (35, 29, true, .ar 29 1 (.it .u64)), (64, 1, false, .it .u64)]), (65, 1, false, .it .u64), (66, 4, true, .st [(0, 1, false, .it .u64), (1, 1, false, .it .u64), (2, 1, false, .it .u64), (3, 1, false, .bl)]), (70, 1, false, .bl)])⟩ := ⟨fun _ => by kernel_rfl, ⟨rfl, rfl, fun _ _ => by simp [Wf, Wfs]⟩, ⟨_, Tryz.underlying91, by kernel_rfl⟩, fun _ h => by cases h; exact ⟨by kernel_rfl, by kernel_rfl⟩⟩
abbrev PT_zq : TE := [(30, ⟨.agg [.ints .u64 32 (fun _ => 0), .int .u64 0, .int .i64 0, .bool false, .ints .u64 29 (fun _ => 0), .int .u64 0], 65, 520, .st [(0, 32, true), (32, 1, false), (33, 1, false), (34, 1, false), (35, 29, true), (64, 1, false)], some (.st [(0, 32, true, .ar 32 1 (.it .u64)), (32, 1, false, .it .u64), (33, 1, false, .it .i64), (34, 1, false, .bl), (35, 29, true, .ar 29 1 (.it .u64)), (64, 1, false, .it .u64)])⟩), (91, ⟨.agg [.agg [.ints .u64 32 (fun _ => 0), .int .u64 0, .int .i64 0, .bool false, .ints .u64 29 (fun _ => 0), .int .u64 0], .int .u64 0, .agg [.int .u64 0, .int .u64 0, .int .u64 0, .bool false], .bool false], 71, 568, .st [(0, 65, true), (65, 1, false), (66, 4, true), (70, 1, false)], some (.st [(0, 65, true, .st [(0, 32, true, .ar 32 1 (.it .u64)), (32, 1, false, .it .u64), (33, 1, false, .it .i64), (34, 1, false, .bl), (35, 29, true, .ar 29 1 (.it .u64)), (64, 1, false, .it .u64)]), (65, 1, false, .it .u64), (66, 4, true, .st [(0, 1, false, .it .u64), (1, 1, false, .it .u64), (2, 1, false, .it .u64), (3, 1, false, .bl)]), (70, 1, false, .bl)])⟩)]
theorem PT_zap : Prg Tryz.prog PT_zq := ⟨(.cons pe_30 (.cons pe_91 (TEok.nil _))), by kernel_rfl⟩
noncomputable abbrev PO_zq {α : Type}  : ORC α := []
set_option maxRecDepth 100000 in
theorem ok_zq {α : Type}  (x0 : GState) (x1 : Int) (k : GExec_result → R α) : bodyL PT_zq (PO_zq ) [] ⟨1, []⟩ Tryz.f130 [(GState.sv x0), (.int .u64 x1)] emp (fun v _ => dR_exec_done v k) = p_zq  x0 x1 k := by kernel_rfl
theorem mk_zq {α : Type} {I : Imm}  : OrcOk (α := α) Tryz.prog I 130 (.pure (ad_zq (p_zq ))) := by
  refine orc_pureK PT_zap (O := PO_zq ) (OOk.nil) (L := []) ⟨1, []⟩ Tryz.func130 (by kernel_rfl) (by kernel_rfl) (by kernel_rfl) FLOk.nil ?_
  intro args k r hk
  unfold ad_zq at hk
  split at hk <;> try (cases hk; done)
  obtain ⟨x0, rfl, hk0⟩ := GState.dec_spec hk
  obtain ⟨x1, rfl, hk1⟩ := decI_spec hk0
  have hkz := hk1
  refine ⟨by simp [Ids, Idss], fun v => dR_exec_done v (fun r0 => k (GExec_result.sv r0)), ?_, fun v hv => ?_⟩
  · rw [ok_zq]; exact hkz
  · obtain ⟨r0, rfl, hv1⟩ := dR_exec_done_spec hv; exact ⟨hv1, by simp [Ids, Idss]⟩
abbrev PT_zf : TE := [(22, ⟨.int .u64 0, 1, 8, .sc (.int .u64), none⟩), (30, ⟨.agg [.ints .u64 32 (fun _ => 0), .int .u64 0, .int .i64 0, .bool false, .ints .u64 29 (fun _ => 0), .int .u64 0], 65, 520, .st [(0, 32, true), (32, 1, false), (33, 1, false), (34, 1, false), (35, 29, true), (64, 1, false)], some (.st [(0, 32, true, .ar 32 1 (.it .u64)), (32, 1, false, .it .u64), (33, 1, false, .it .i64), (34, 1, false, .bl), (35, 29, true, .ar 29 1 (.it .u64)), (64, 1, false, .it .u64)])⟩), (91, ⟨.agg [.agg [.ints .u64 32 (fun _ => 0), .int .u64 0, .int .i64 0, .bool false, .ints .u64 29 (fun _ => 0), .int .u64 0], .int .u64 0, .agg [.int .u64 0, .int .u64 0, .int .u64 0, .bool false], .bool false], 71, 568, .st [(0, 65, true), (65, 1, false), (66, 4, true), (70, 1, false)], some (.st [(0, 65, true, .st [(0, 32, true, .ar 32 1 (.it .u64)), (32, 1, false, .it .u64), (33, 1, false, .it .i64), (34, 1, false, .bl), (35, 29, true, .ar 29 1 (.it .u64)), (64, 1, false, .it .u64)]), (65, 1, false, .it .u64), (66, 4, true, .st [(0, 1, false, .it .u64), (1, 1, false, .it .u64), (2, 1, false, .it .u64), (3, 1, false, .bl)]), (70, 1, false, .bl)])⟩)]
theorem PT_zaq : Prg Tryz.prog PT_zf := ⟨(.cons pe_22 (.cons pe_30 (.cons pe_91 (TEok.nil _)))), by kernel_rfl⟩
noncomputable abbrev PO_zf {α : Type} (F_zq : Sg_zq α) : ORC α := [(130, .pure (ad_zq F_zq))]
set_option maxRecDepth 100000 in
theorem ok_zf {α : Type} (F_zq : Sg_zq α) (x0 : GState) (x1 : Int) (k : GExec_result → R α) : bodyL PT_zf (PO_zf F_zq) [] ⟨1, []⟩ Tryz.f78 [(GState.sv x0), (.int .u64 x1)] emp (fun v _ => dR_exec_next v k) = p_zf F_zq x0 x1 k := by kernel_rfl
theorem mk_zf {α : Type} {I : Imm} {F_zq : Sg_zq α} (h_zq : OrcOk (α := α) Tryz.prog I 130 (.pure (ad_zq F_zq))) : OrcOk (α := α) Tryz.prog I 78 (.pure (ad_zf (p_zf F_zq))) := by
  refine orc_pureK PT_zaq (O := PO_zf F_zq) (OOk.cons h_zq (OOk.nil)) (L := []) ⟨1, []⟩ Tryz.func78 (by kernel_rfl) (by kernel_rfl) (by kernel_rfl) FLOk.nil ?_
  intro args k r hk
  unfold ad_zf at hk
  split at hk <;> try (cases hk; done)
  obtain ⟨x0, rfl, hk0⟩ := GState.dec_spec hk
  obtain ⟨x1, rfl, hk1⟩ := decI_spec hk0
  have hkz := hk1
  refine ⟨by simp [Ids, Idss], fun v => dR_exec_next v (fun r0 => k (GExec_result.sv r0)), ?_, fun v hv => ?_⟩
  · rw [ok_zf]; exact hkz
  · obtain ⟨r0, rfl, hv1⟩ := dR_exec_next_spec hv; exact ⟨hv1, by simp [Ids, Idss]⟩
abbrev PT_z1f : TE := [(2, ⟨.int .i64 0, 1, 8, .sc (.int .i64), none⟩), (22, ⟨.int .u64 0, 1, 8, .sc (.int .u64), none⟩)]
theorem PT_zar : Prg Tryz.prog PT_z1f := ⟨(.cons pe_2 (.cons pe_22 (TEok.nil _))), by kernel_rfl⟩
noncomputable abbrev PO_z1f {α : Type}  : ORC α := []
set_option maxRecDepth 100000 in
theorem ok_z1f {α : Type}  (x0 : Int) (x1 : Int) (k : Bool → R α) : bodyL PT_z1f (PO_z1f ) [] ⟨1, []⟩ Tryz.f114 [(.int .u64 x0), (.int .u64 x1)] emp (fun v _ => dR_word_High v k) = p_z1f  x0 x1 k := by kernel_rfl
theorem mk_z1f {α : Type} {I : Imm}  : OrcOk (α := α) Tryz.prog I 114 (.pure (ad_z1f (p_z1f ))) := by
  refine orc_pureK PT_zar (O := PO_z1f ) (OOk.nil) (L := []) ⟨1, []⟩ Tryz.func114 (by kernel_rfl) (by kernel_rfl) (by kernel_rfl) FLOk.nil ?_
  intro args k r hk
  unfold ad_z1f at hk
  split at hk <;> try (cases hk; done)
  obtain ⟨x0, rfl, hk0⟩ := decI_spec hk
  obtain ⟨x1, rfl, hk1⟩ := decI_spec hk0
  have hkz := hk1
  refine ⟨by simp [Ids, Idss], fun v => dR_word_High v (fun r0 => k (.bool r0)), ?_, fun v hv => ?_⟩
  · rw [ok_z1f]; exact hkz
  · obtain ⟨r0, rfl, hv1⟩ := dR_word_High_spec hv; exact ⟨hv1, by simp [Ids, Idss]⟩
abbrev PT_z1g : TE := [(3, ⟨.int .i64 0, 1, 8, .sc (.int .i64), none⟩), (22, ⟨.int .u64 0, 1, 8, .sc (.int .u64), none⟩)]
theorem PT_zas : Prg Tryz.prog PT_z1g := ⟨(.cons pe_3 (.cons pe_22 (TEok.nil _))), by kernel_rfl⟩
noncomputable abbrev PO_z1g {α : Type} (F_z1f : Sg_z1f α) : ORC α := [(114, .pure (ad_z1f F_z1f))]
set_option maxRecDepth 100000 in
theorem ok_z1g {α : Type} (F_z1f : Sg_z1f α) (x0 : Int) (x1 : Int) (x2 : Int) (k : Bool → R α) : bodyL PT_z1g (PO_z1g F_z1f) [] ⟨1, []⟩ Tryz.f60 [(.int .i64 x0), (.int .u64 x1), (.int .u64 x2)] emp (fun v _ => dR_alu_Taken v k) = p_z1g F_z1f x0 x1 x2 k := by kernel_rfl
theorem mk_z1g {α : Type} {I : Imm} {F_z1f : Sg_z1f α} (h_z1f : OrcOk (α := α) Tryz.prog I 114 (.pure (ad_z1f F_z1f))) : OrcOk (α := α) Tryz.prog I 60 (.pure (ad_z1g (p_z1g F_z1f))) := by
  refine orc_pureK PT_zas (O := PO_z1g F_z1f) (OOk.cons h_z1f (OOk.nil)) (L := []) ⟨1, []⟩ Tryz.func60 (by kernel_rfl) (by kernel_rfl) (by kernel_rfl) FLOk.nil ?_
  intro args k r hk
  unfold ad_z1g at hk
  split at hk <;> try (cases hk; done)
  obtain ⟨x0, rfl, hk0⟩ := decI_spec hk
  obtain ⟨x1, rfl, hk1⟩ := decI_spec hk0
  obtain ⟨x2, rfl, hk2⟩ := decI_spec hk1
  have hkz := hk2
  refine ⟨by simp [Ids, Idss], fun v => dR_alu_Taken v (fun r0 => k (.bool r0)), ?_, fun v hv => ?_⟩
  · rw [ok_z1g]; exact hkz
  · obtain ⟨r0, rfl, hv1⟩ := dR_alu_Taken_spec hv; exact ⟨hv1, by simp [Ids, Idss]⟩
theorem pe_27 : TyOk Tryz.prog 27 ⟨.ints .u64 32 (fun _ => 0), 32, 256, .ar 32 22 1 false, some (.ar 32 1 (.it .u64))⟩ := ⟨fun _ => by kernel_rfl, ⟨rfl, rfl, fun _ _ => by simp [Wf, Wfs]⟩, ⟨Tryz.underlying27, by kernel_rfl, by kernel_rfl⟩, fun _ h => by cases h; exact ⟨by kernel_rfl, by kernel_rfl⟩⟩
abbrev PT_z6 : TE := [(2, ⟨.int .i64 0, 1, 8, .sc (.int .i64), none⟩), (3, ⟨.int .i64 0, 1, 8, .sc (.int .i64), none⟩), (22, ⟨.int .u64 0, 1, 8, .sc (.int .u64), none⟩), (27, ⟨.ints .u64 32 (fun _ => 0), 32, 256, .ar 32 22 1 false, some (.ar 32 1 (.it .u64))⟩), (30, ⟨.agg [.ints .u64 32 (fun _ => 0), .int .u64 0, .int .i64 0, .bool false, .ints .u64 29 (fun _ => 0), .int .u64 0], 65, 520, .st [(0, 32, true), (32, 1, false), (33, 1, false), (34, 1, false), (35, 29, true), (64, 1, false)], some (.st [(0, 32, true, .ar 32 1 (.it .u64)), (32, 1, false, .it .u64), (33, 1, false, .it .i64), (34, 1, false, .bl), (35, 29, true, .ar 29 1 (.it .u64)), (64, 1, false, .it .u64)])⟩), (36, ⟨.agg [.int .i64 0, .int .i64 0, .int .i64 0, .int .i64 0, .int .i64 0, .int .i64 0], 6, 48, .st [(0, 1, false), (1, 1, false), (2, 1, false), (3, 1, false), (4, 1, false), (5, 1, false)], some (.st [(0, 1, false, .it .i64), (1, 1, false, .it .i64), (2, 1, false, .it .i64), (3, 1, false, .it .i64), (4, 1, false, .it .i64), (5, 1, false, .it .i64)])⟩)]
theorem PT_zat : Prg Tryz.prog PT_z6 := ⟨(.cons pe_2 (.cons pe_3 (.cons pe_22 (.cons pe_27 (.cons pe_30 (.cons pe_36 (TEok.nil _))))))), by kernel_rfl⟩
noncomputable abbrev PO_z6 {α : Type} (F_zc : Sg_zc α) (F_z4 : Sg_z4 α) (F_z1g : Sg_z1g α) : ORC α := [(58, .pure (ad_zc F_zc)), (59, .pure (ad_z4 F_z4)), (60, .pure (ad_z1g F_z1g))]
set_option maxRecDepth 100000 in
theorem ok_z6 {α : Type} (F_zc : Sg_zc α) (F_z4 : Sg_z4 α) (F_z1g : Sg_z1g α) (x0 : GState) (x1 : GInsn) (k : Int → R α) : bodyL PT_z6 (PO_z6 F_zc F_z4 F_z1g) [] ⟨1, []⟩ Tryz.f20 [(GState.sv x0), (GInsn.sv x1)] emp (fun v _ => dR_exec_Goes v k) = p_z6 F_zc F_z4 F_z1g x0 x1 k := by kernel_rfl
theorem mk_z6 {α : Type} {I : Imm} {F_zc : Sg_zc α} {F_z4 : Sg_z4 α} {F_z1g : Sg_z1g α} (h_zc : OrcOk (α := α) Tryz.prog I 58 (.pure (ad_zc F_zc))) (h_z4 : OrcOk (α := α) Tryz.prog I 59 (.pure (ad_z4 F_z4))) (h_z1g : OrcOk (α := α) Tryz.prog I 60 (.pure (ad_z1g F_z1g))) : OrcOk (α := α) Tryz.prog I 20 (.pure (ad_z6 (p_z6 F_zc F_z4 F_z1g))) := by
  refine orc_pureK PT_zat (O := PO_z6 F_zc F_z4 F_z1g) (OOk.cons h_zc (OOk.cons h_z4 (OOk.cons h_z1g (OOk.nil)))) (L := []) ⟨1, []⟩ Tryz.func20 (by kernel_rfl) (by kernel_rfl) (by kernel_rfl) FLOk.nil ?_
  intro args k r hk
  unfold ad_z6 at hk
  split at hk <;> try (cases hk; done)
  obtain ⟨x0, rfl, hk0⟩ := GState.dec_spec hk
  obtain ⟨x1, rfl, hk1⟩ := GInsn.dec_spec hk0
  have hkz := hk1
  refine ⟨by simp [Ids, Idss], fun v => dR_exec_Goes v (fun r0 => k (.int .u64 r0)), ?_, fun v hv => ?_⟩
  · rw [ok_z6]; exact hkz
  · obtain ⟨r0, rfl, hv1⟩ := dR_exec_Goes_spec hv; exact ⟨hv1, by simp [Ids, Idss]⟩
abbrev PT_z16 : TE := [(38, ⟨.agg [.int .u64 0, .int .u64 0, .int .u64 0, .bool false], 4, 32, .st [(0, 1, false), (1, 1, false), (2, 1, false), (3, 1, false)], some (.st [(0, 1, false, .it .u64), (1, 1, false, .it .u64), (2, 1, false, .it .u64), (3, 1, false, .bl)])⟩), (91, ⟨.agg [.agg [.ints .u64 32 (fun _ => 0), .int .u64 0, .int .i64 0, .bool false, .ints .u64 29 (fun _ => 0), .int .u64 0], .int .u64 0, .agg [.int .u64 0, .int .u64 0, .int .u64 0, .bool false], .bool false], 71, 568, .st [(0, 65, true), (65, 1, false), (66, 4, true), (70, 1, false)], some (.st [(0, 65, true, .st [(0, 32, true, .ar 32 1 (.it .u64)), (32, 1, false, .it .u64), (33, 1, false, .it .i64), (34, 1, false, .bl), (35, 29, true, .ar 29 1 (.it .u64)), (64, 1, false, .it .u64)]), (65, 1, false, .it .u64), (66, 4, true, .st [(0, 1, false, .it .u64), (1, 1, false, .it .u64), (2, 1, false, .it .u64), (3, 1, false, .bl)]), (70, 1, false, .bl)])⟩)]
theorem PT_zau : Prg Tryz.prog PT_z16 := ⟨(.cons pe_38 (.cons pe_91 (TEok.nil _))), by kernel_rfl⟩
noncomputable abbrev PO_z16 {α : Type}  : ORC α := []
set_option maxRecDepth 100000 in
theorem ok_z16 {α : Type}  (x0 : GFault) (k : GExec_result → R α) : bodyL PT_z16 (PO_z16 ) [] ⟨1, []⟩ Tryz.f77 [(GFault.sv x0)] emp (fun v _ => dR_exec_failed v k) = p_z16  x0 k := by kernel_rfl
theorem mk_z16 {α : Type} {I : Imm}  : OrcOk (α := α) Tryz.prog I 77 (.pure (ad_z16 (p_z16 ))) := by
  refine orc_pureK PT_zau (O := PO_z16 ) (OOk.nil) (L := []) ⟨1, []⟩ Tryz.func77 (by kernel_rfl) (by kernel_rfl) (by kernel_rfl) FLOk.nil ?_
  intro args k r hk
  unfold ad_z16 at hk
  split at hk <;> try (cases hk; done)
  obtain ⟨x0, rfl, hk0⟩ := GFault.dec_spec hk
  have hkz := hk0
  refine ⟨by simp [Ids, Idss], fun v => dR_exec_failed v (fun r0 => k (GExec_result.sv r0)), ?_, fun v hv => ?_⟩
  · rw [ok_z16]; exact hkz
  · obtain ⟨r0, rfl, hv1⟩ := dR_exec_failed_spec hv; exact ⟨hv1, by simp [Ids, Idss]⟩
abbrev PT_z27 : TE := [(2, ⟨.int .i64 0, 1, 8, .sc (.int .i64), none⟩), (3, ⟨.int .i64 0, 1, 8, .sc (.int .i64), none⟩), (4, ⟨.bool false, 1, 1, .sc (.bool), none⟩), (22, ⟨.int .u64 0, 1, 8, .sc (.int .u64), none⟩), (27, ⟨.ints .u64 32 (fun _ => 0), 32, 256, .ar 32 22 1 false, some (.ar 32 1 (.it .u64))⟩), (30, ⟨.agg [.ints .u64 32 (fun _ => 0), .int .u64 0, .int .i64 0, .bool false, .ints .u64 29 (fun _ => 0), .int .u64 0], 65, 520, .st [(0, 32, true), (32, 1, false), (33, 1, false), (34, 1, false), (35, 29, true), (64, 1, false)], some (.st [(0, 32, true, .ar 32 1 (.it .u64)), (32, 1, false, .it .u64), (33, 1, false, .it .i64), (34, 1, false, .bl), (35, 29, true, .ar 29 1 (.it .u64)), (64, 1, false, .it .u64)])⟩), (36, ⟨.agg [.int .i64 0, .int .i64 0, .int .i64 0, .int .i64 0, .int .i64 0, .int .i64 0], 6, 48, .st [(0, 1, false), (1, 1, false), (2, 1, false), (3, 1, false), (4, 1, false), (5, 1, false)], some (.st [(0, 1, false, .it .i64), (1, 1, false, .it .i64), (2, 1, false, .it .i64), (3, 1, false, .it .i64), (4, 1, false, .it .i64), (5, 1, false, .it .i64)])⟩), (38, ⟨.agg [.int .u64 0, .int .u64 0, .int .u64 0, .bool false], 4, 32, .st [(0, 1, false), (1, 1, false), (2, 1, false), (3, 1, false)], some (.st [(0, 1, false, .it .u64), (1, 1, false, .it .u64), (2, 1, false, .it .u64), (3, 1, false, .bl)])⟩), (91, ⟨.agg [.agg [.ints .u64 32 (fun _ => 0), .int .u64 0, .int .i64 0, .bool false, .ints .u64 29 (fun _ => 0), .int .u64 0], .int .u64 0, .agg [.int .u64 0, .int .u64 0, .int .u64 0, .bool false], .bool false], 71, 568, .st [(0, 65, true), (65, 1, false), (66, 4, true), (70, 1, false)], some (.st [(0, 65, true, .st [(0, 32, true, .ar 32 1 (.it .u64)), (32, 1, false, .it .u64), (33, 1, false, .it .i64), (34, 1, false, .bl), (35, 29, true, .ar 29 1 (.it .u64)), (64, 1, false, .it .u64)]), (65, 1, false, .it .u64), (66, 4, true, .st [(0, 1, false, .it .u64), (1, 1, false, .it .u64), (2, 1, false, .it .u64), (3, 1, false, .bl)]), (70, 1, false, .bl)])⟩)]
theorem PT_zav : Prg Tryz.prog PT_z27 := ⟨(.cons pe_2 (.cons pe_3 (.cons pe_4 (.cons pe_22 (.cons pe_27 (.cons pe_30 (.cons pe_36 (.cons pe_38 (.cons pe_91 (TEok.nil _)))))))))), by kernel_rfl⟩
noncomputable abbrev PO_z27 {α : Type} (F_zf : Sg_zf α) (F_z6 : Sg_z6 α) (F_z4 : Sg_z4 α) (F_z1g : Sg_z1g α) (F_z16 : Sg_z16 α) (F_zq : Sg_zq α) : ORC α := [(78, .pure (ad_zf F_zf)), (20, .pure (ad_z6 F_z6)), (59, .pure (ad_z4 F_z4)), (60, .pure (ad_z1g F_z1g)), (77, .pure (ad_z16 F_z16)), (130, .pure (ad_zq F_zq))]
set_option maxRecDepth 100000 in
theorem ok_z27 {α : Type} (F_zf : Sg_zf α) (F_z6 : Sg_z6 α) (F_z4 : Sg_z4 α) (F_z1g : Sg_z1g α) (F_z16 : Sg_z16 α) (F_zq : Sg_zq α) (x0 : GState) (x1 : GInsn) (k : GExec_result → R α) : bodyL PT_z27 (PO_z27 F_zf F_z6 F_z4 F_z1g F_z16 F_zq) [] ⟨1, []⟩ Tryz.f75 [(GState.sv x0), (GInsn.sv x1)] emp (fun v _ => dR_exec_jumps v k) = p_z27 F_zf F_z6 F_z4 F_z1g F_z16 F_zq x0 x1 k := by kernel_rfl
theorem mk_z27 {α : Type} {I : Imm} {F_zf : Sg_zf α} {F_z6 : Sg_z6 α} {F_z4 : Sg_z4 α} {F_z1g : Sg_z1g α} {F_z16 : Sg_z16 α} {F_zq : Sg_zq α} (h_zf : OrcOk (α := α) Tryz.prog I 78 (.pure (ad_zf F_zf))) (h_z6 : OrcOk (α := α) Tryz.prog I 20 (.pure (ad_z6 F_z6))) (h_z4 : OrcOk (α := α) Tryz.prog I 59 (.pure (ad_z4 F_z4))) (h_z1g : OrcOk (α := α) Tryz.prog I 60 (.pure (ad_z1g F_z1g))) (h_z16 : OrcOk (α := α) Tryz.prog I 77 (.pure (ad_z16 F_z16))) (h_zq : OrcOk (α := α) Tryz.prog I 130 (.pure (ad_zq F_zq))) : OrcOk (α := α) Tryz.prog I 75 (.pure (ad_z27 (p_z27 F_zf F_z6 F_z4 F_z1g F_z16 F_zq))) := by
  refine orc_pureK PT_zav (O := PO_z27 F_zf F_z6 F_z4 F_z1g F_z16 F_zq) (OOk.cons h_zf (OOk.cons h_z6 (OOk.cons h_z4 (OOk.cons h_z1g (OOk.cons h_z16 (OOk.cons h_zq (OOk.nil))))))) (L := []) ⟨1, []⟩ Tryz.func75 (by kernel_rfl) (by kernel_rfl) (by kernel_rfl) FLOk.nil ?_
  intro args k r hk
  unfold ad_z27 at hk
  split at hk <;> try (cases hk; done)
  obtain ⟨x0, rfl, hk0⟩ := GState.dec_spec hk
  obtain ⟨x1, rfl, hk1⟩ := GInsn.dec_spec hk0
  have hkz := hk1
  refine ⟨by simp [Ids, Idss], fun v => dR_exec_jumps v (fun r0 => k (GExec_result.sv r0)), ?_, fun v hv => ?_⟩
  · rw [ok_z27]; exact hkz
  · obtain ⟨r0, rfl, hv1⟩ := dR_exec_jumps_spec hv; exact ⟨hv1, by simp [Ids, Idss]⟩
abbrev PT_z1s : TE := [(22, ⟨.int .u64 0, 1, 8, .sc (.int .u64), none⟩)]
theorem PT_zaw : Prg Tryz.prog PT_z1s := ⟨(.cons pe_22 (TEok.nil _)), by kernel_rfl⟩
noncomputable abbrev PO_z1s {α : Type}  : ORC α := []
set_option maxRecDepth 100000 in
theorem ok_z1s {α : Type}  (x0 : Int) (k : Int → R α) : bodyL PT_z1s (PO_z1s ) [] ⟨1, []⟩ Tryz.f165 [(.int .u64 x0)] emp (fun v _ => dR_access_sort v k) = p_z1s  x0 k := by kernel_rfl
theorem mk_z1s {α : Type} {I : Imm}  : OrcOk (α := α) Tryz.prog I 165 (.pure (ad_z1s (p_z1s ))) := by
  refine orc_pureK PT_zaw (O := PO_z1s ) (OOk.nil) (L := []) ⟨1, []⟩ Tryz.func165 (by kernel_rfl) (by kernel_rfl) (by kernel_rfl) FLOk.nil ?_
  intro args k r hk
  unfold ad_z1s at hk
  split at hk <;> try (cases hk; done)
  obtain ⟨x0, rfl, hk0⟩ := decI_spec hk
  have hkz := hk0
  refine ⟨by simp [Ids, Idss], fun v => dR_access_sort v (fun r0 => k (.int .i64 r0)), ?_, fun v hv => ?_⟩
  · rw [ok_z1s]; exact hkz
  · obtain ⟨r0, rfl, hv1⟩ := dR_access_sort_spec hv; exact ⟨hv1, by simp [Ids, Idss]⟩
abbrev PT_zx : TE := [(3, ⟨.int .i64 0, 1, 8, .sc (.int .i64), none⟩)]
theorem PT_zax : Prg Tryz.prog PT_zx := ⟨(.cons pe_3 (TEok.nil _)), by kernel_rfl⟩
noncomputable abbrev PO_zx {α : Type}  : ORC α := []
set_option maxRecDepth 100000 in
theorem ok_zx {α : Type}  (x0 : Int) (k : Int → R α) : bodyL PT_zx (PO_zx ) [] ⟨1, []⟩ Tryz.f133 [(.int .i64 x0)] emp (fun v _ => dR_insn_Size v k) = p_zx  x0 k := by kernel_rfl
theorem mk_zx {α : Type} {I : Imm}  : OrcOk (α := α) Tryz.prog I 133 (.pure (ad_zx (p_zx ))) := by
  refine orc_pureK PT_zax (O := PO_zx ) (OOk.nil) (L := []) ⟨1, []⟩ Tryz.func133 (by kernel_rfl) (by kernel_rfl) (by kernel_rfl) FLOk.nil ?_
  intro args k r hk
  unfold ad_zx at hk
  split at hk <;> try (cases hk; done)
  obtain ⟨x0, rfl, hk0⟩ := decI_spec hk
  have hkz := hk0
  refine ⟨by simp [Ids, Idss], fun v => dR_insn_Size v (fun r0 => k (.int .i64 r0)), ?_, fun v hv => ?_⟩
  · rw [ok_zx]; exact hkz
  · obtain ⟨r0, rfl, hv1⟩ := dR_insn_Size_spec hv; exact ⟨hv1, by simp [Ids, Idss]⟩
abbrev PT_zy : TE := [(3, ⟨.int .i64 0, 1, 8, .sc (.int .i64), none⟩), (22, ⟨.int .u64 0, 1, 8, .sc (.int .u64), none⟩)]
theorem PT_z4a : Prg Tryz.prog PT_zy := ⟨(.cons pe_3 (.cons pe_22 (TEok.nil _))), by kernel_rfl⟩
noncomputable abbrev PO_zy {α : Type} (F_zn : Sg_zn α) : ORC α := [(156, .pure (ad_zn F_zn))]
set_option maxRecDepth 100000 in
theorem ok_zy {α : Type} (F_zn : Sg_zn α) (x0 : Int) (x1 : Int) (k : Int → R α) : bodyL PT_zy (PO_zy F_zn) [] ⟨1, []⟩ Tryz.f138 [(.int .u64 x0), (.int .i64 x1)] emp (fun v _ => dR_word_Zext v k) = p_zy F_zn x0 x1 k := by kernel_rfl
theorem mk_zy {α : Type} {I : Imm} {F_zn : Sg_zn α} (h_zn : OrcOk (α := α) Tryz.prog I 156 (.pure (ad_zn F_zn))) : OrcOk (α := α) Tryz.prog I 138 (.pure (ad_zy (p_zy F_zn))) := by
  refine orc_pureK PT_z4a (O := PO_zy F_zn) (OOk.cons h_zn (OOk.nil)) (L := []) ⟨1, []⟩ Tryz.func138 (by kernel_rfl) (by kernel_rfl) (by kernel_rfl) FLOk.nil ?_
  intro args k r hk
  unfold ad_zy at hk
  split at hk <;> try (cases hk; done)
  obtain ⟨x0, rfl, hk0⟩ := decI_spec hk
  obtain ⟨x1, rfl, hk1⟩ := decI_spec hk0
  have hkz := hk1
  refine ⟨by simp [Ids, Idss], fun v => dR_word_Zext v (fun r0 => k (.int .u64 r0)), ?_, fun v hv => ?_⟩
  · rw [ok_zy]; exact hkz
  · obtain ⟨r0, rfl, hv1⟩ := dR_word_Zext_spec hv; exact ⟨hv1, by simp [Ids, Idss]⟩
abbrev PT_zo : TE := [(3, ⟨.int .i64 0, 1, 8, .sc (.int .i64), none⟩)]
theorem PT_zay : Prg Tryz.prog PT_zo := ⟨(.cons pe_3 (TEok.nil _)), by kernel_rfl⟩
noncomputable abbrev PO_zo {α : Type} (F_zx : Sg_zx α) (F_zy : Sg_zy α) (F_z8 : Sg_z8 α) : ORC α := [(133, .pure (ad_zx F_zx)), (138, .pure (ad_zy F_zy)), (139, .pure (ad_z8 F_z8))]
set_option maxRecDepth 100000 in
theorem ok_zo {α : Type} (F_zx : Sg_zx α) (F_zy : Sg_zy α) (F_z8 : Sg_z8 α) (x0 : Int) (x1 : Int) (k : Int → R α) : bodyL PT_zo (PO_zo F_zx F_zy F_z8) [] ⟨1, []⟩ Tryz.f134 [(.int .i64 x0), (.int .u64 x1)] emp (fun v _ => dR_alu_Extend v k) = p_zo F_zx F_zy F_z8 x0 x1 k := by kernel_rfl
theorem mk_zo {α : Type} {I : Imm} {F_zx : Sg_zx α} {F_zy : Sg_zy α} {F_z8 : Sg_z8 α} (h_zx : OrcOk (α := α) Tryz.prog I 133 (.pure (ad_zx F_zx))) (h_zy : OrcOk (α := α) Tryz.prog I 138 (.pure (ad_zy F_zy))) (h_z8 : OrcOk (α := α) Tryz.prog I 139 (.pure (ad_z8 F_z8))) : OrcOk (α := α) Tryz.prog I 134 (.pure (ad_zo (p_zo F_zx F_zy F_z8))) := by
  refine orc_pureK PT_zay (O := PO_zo F_zx F_zy F_z8) (OOk.cons h_zx (OOk.cons h_zy (OOk.cons h_z8 (OOk.nil)))) (L := []) ⟨1, []⟩ Tryz.func134 (by kernel_rfl) (by kernel_rfl) (by kernel_rfl) FLOk.nil ?_
  intro args k r hk
  unfold ad_zo at hk
  split at hk <;> try (cases hk; done)
  obtain ⟨x0, rfl, hk0⟩ := decI_spec hk
  obtain ⟨x1, rfl, hk1⟩ := decI_spec hk0
  have hkz := hk1
  refine ⟨by simp [Ids, Idss], fun v => dR_alu_Extend v (fun r0 => k (.int .u64 r0)), ?_, fun v hv => ?_⟩
  · rw [ok_zo]; exact hkz
  · obtain ⟨r0, rfl, hv1⟩ := dR_alu_Extend_spec hv; exact ⟨hv1, by simp [Ids, Idss]⟩
abbrev PT_z15 : TE := [(22, ⟨.int .u64 0, 1, 8, .sc (.int .u64), none⟩), (30, ⟨.agg [.ints .u64 32 (fun _ => 0), .int .u64 0, .int .i64 0, .bool false, .ints .u64 29 (fun _ => 0), .int .u64 0], 65, 520, .st [(0, 32, true), (32, 1, false), (33, 1, false), (34, 1, false), (35, 29, true), (64, 1, false)], some (.st [(0, 32, true, .ar 32 1 (.it .u64)), (32, 1, false, .it .u64), (33, 1, false, .it .i64), (34, 1, false, .bl), (35, 29, true, .ar 29 1 (.it .u64)), (64, 1, false, .it .u64)])⟩), (38, ⟨.agg [.int .u64 0, .int .u64 0, .int .u64 0, .bool false], 4, 32, .st [(0, 1, false), (1, 1, false), (2, 1, false), (3, 1, false)], some (.st [(0, 1, false, .it .u64), (1, 1, false, .it .u64), (2, 1, false, .it .u64), (3, 1, false, .bl)])⟩), (203, ⟨.agg [.bool false, .bool false, .int .i64 0, .int .i64 0, .int .i64 0, .int .i64 0, .int .i64 0, .int .i64 0, .int .i64 0], 9, 64, .st [(0, 1, false), (1, 1, false), (2, 1, false), (3, 1, false), (4, 1, false), (5, 1, false), (6, 1, false), (7, 1, false), (8, 1, false)], some (.st [(0, 1, false, .bl), (1, 1, false, .bl), (2, 1, false, .it .i64), (3, 1, false, .it .i64), (4, 1, false, .it .i64), (5, 1, false, .it .i64), (6, 1, false, .it .i64), (7, 1, false, .it .i64), (8, 1, false, .it .i64)])⟩), (234, ⟨.ints .u64 3 (fun _ => 0), 3, 24, .ar 3 22 1 false, some (.ar 3 1 (.it .u64))⟩)]
theorem PT_z3q : Prg Tryz.prog PT_z15 := ⟨(.cons pe_22 (.cons pe_30 (.cons pe_38 (.cons pe_203 (.cons pe_234 (TEok.nil _)))))), by kernel_rfl⟩
noncomputable abbrev B_z7l {α : Type} (F_zp : Sg_zp α) (F_z10 : Sg_z10 α) (F_z1s : Sg_z1s α) (F_zl : Sg_zl α) (F_zo : Sg_zo α) : FF α := byBody PT_bus_Bus_Mem [] ⟨1, []⟩ Tryz.f51
theorem cB_z7l {α : Type} {I : Imm} {F_zp : Sg_zp α} {F_z10 : Sg_z10 α} {F_z1s : Sg_z1s α} {F_zl : Sg_zl α} {F_zo : Sg_zo α} (h_zp : OrcOk (α := α) Tryz.prog I 163 (.pure (ad_zp F_zp))) (h_z10 : OrcOk (α := α) Tryz.prog I 164 (.full (ad_z10 F_z10))) (h_z1s : OrcOk (α := α) Tryz.prog I 165 (.pure (ad_z1s F_z1s))) (h_zl : OrcOk (α := α) Tryz.prog I 166 (.full (ad_zl F_zl))) (h_zo : OrcOk (α := α) Tryz.prog I 134 (.pure (ad_zo F_zo))) : OrcOk (α := α) Tryz.prog I 51 (.full (B_z7l F_zp F_z10 F_z1s F_zl F_zo)) := orc_body PT_bus_Bus_Mem_ok (OOk.nil) ⟨1, []⟩ Tryz.func51 (by kernel_rfl) (by kernel_rfl) (by kernel_rfl)
noncomputable abbrev PO_z15 {α : Type} (F_zp : Sg_zp α) (F_z10 : Sg_z10 α) (F_z1s : Sg_z1s α) (F_zl : Sg_zl α) (F_zo : Sg_zo α) : ORC α := [(163, .pure (ad_zp F_zp)), (51, .full (B_z7l F_zp F_z10 F_z1s F_zl F_zo)), (164, .full (ad_z10 F_z10)), (165, .pure (ad_z1s F_z1s)), (166, .full (ad_zl F_zl)), (134, .pure (ad_zo F_zo))]
set_option maxRecDepth 100000 in
theorem ok_z15 {α : Type} (F_zp : Sg_zp α) (F_z10 : Sg_z10 α) (F_z1s : Sg_z1s α) (F_zl : Sg_zl α) (F_zo : Sg_zo α) (x0 : GBus) (x1 : GState) (x2 : Int) (x3 : Int) (k : GBus → Int → GFault → Bool → R α) : bodyL PT_z15 (PO_z15 F_zp F_z10 F_z1s F_zl F_zo) [] ⟨1, []⟩ Tryz.f131 (E_z15.encs (x0, x1, x2, x3, ()) (fun i => i) 0) (hp (E_z15.objss (x0, x1, x2, x3, ()) (fun i => i) 0)) (dRo M_z15 Q_z15 false (selN (E_z15.encs (x0, x1, x2, x3, ()) (fun i => i) 0) [0]) (fun y z => k y.1 z.1 z.2.1 z.2.2.1)) = p_z15 F_zp F_z10 F_z1s F_zl F_zo x0 x1 x2 x3 k := by kernel_rfl
theorem mk_z15 {α : Type} {I : Imm} {F_zp : Sg_zp α} {F_z10 : Sg_z10 α} {F_z1s : Sg_z1s α} {F_zl : Sg_zl α} {F_zo : Sg_zo α} (h_zp : OrcOk (α := α) Tryz.prog I 163 (.pure (ad_zp F_zp))) (h_z10 : OrcOk (α := α) Tryz.prog I 164 (.full (ad_z10 F_z10))) (h_z1s : OrcOk (α := α) Tryz.prog I 165 (.pure (ad_z1s F_z1s))) (h_zl : OrcOk (α := α) Tryz.prog I 166 (.full (ad_zl F_zl))) (h_zo : OrcOk (α := α) Tryz.prog I 134 (.pure (ad_zo F_zo))) {F : Sg_z15 α} (hF : ∀ x0 x1 x2 x3 k r, F x0 x1 x2 x3 k = some r → p_z15 F_zp F_z10 F_z1s F_zl F_zo x0 x1 x2 x3 k = some r) : OrcOk (α := α) Tryz.prog I 131 (.full (ad_z15 F)) :=
  orc_obj PT_z3q (O := PO_z15 F_zp F_z10 F_z1s F_zl F_zo) (OOk.cons h_zp (OOk.cons (cB_z7l h_zp h_z10 h_z1s h_zl h_zo) (OOk.cons h_z10 (OOk.cons h_z1s (OOk.cons h_zl (OOk.cons h_zo (OOk.nil))))))) (L := []) ⟨1, []⟩ Tryz.func131 (by kernel_rfl) (by kernel_rfl) (by kernel_rfl) FLOk.nil E_z3q M_z3q Q_z3q rfl (oi := [0]) fun ⟨x0, x1, x2, x3, ()⟩ k r h => (ok_z15 F_zp F_z10 F_z1s F_zl F_zo x0 x1 x2 x3 (fun y0 z0 z1 z2 => k (y0, ()) (z0, z1, z2, ()))).trans (hF x0 x1 x2 x3 _ r h)
abbrev PT_z1j : TE := [(2, ⟨.int .i64 0, 1, 8, .sc (.int .i64), none⟩), (3, ⟨.int .i64 0, 1, 8, .sc (.int .i64), none⟩), (4, ⟨.bool false, 1, 1, .sc (.bool), none⟩), (22, ⟨.int .u64 0, 1, 8, .sc (.int .u64), none⟩), (27, ⟨.ints .u64 32 (fun _ => 0), 32, 256, .ar 32 22 1 false, some (.ar 32 1 (.it .u64))⟩), (30, ⟨.agg [.ints .u64 32 (fun _ => 0), .int .u64 0, .int .i64 0, .bool false, .ints .u64 29 (fun _ => 0), .int .u64 0], 65, 520, .st [(0, 32, true), (32, 1, false), (33, 1, false), (34, 1, false), (35, 29, true), (64, 1, false)], some (.st [(0, 32, true, .ar 32 1 (.it .u64)), (32, 1, false, .it .u64), (33, 1, false, .it .i64), (34, 1, false, .bl), (35, 29, true, .ar 29 1 (.it .u64)), (64, 1, false, .it .u64)])⟩), (36, ⟨.agg [.int .i64 0, .int .i64 0, .int .i64 0, .int .i64 0, .int .i64 0, .int .i64 0], 6, 48, .st [(0, 1, false), (1, 1, false), (2, 1, false), (3, 1, false), (4, 1, false), (5, 1, false)], some (.st [(0, 1, false, .it .i64), (1, 1, false, .it .i64), (2, 1, false, .it .i64), (3, 1, false, .it .i64), (4, 1, false, .it .i64), (5, 1, false, .it .i64)])⟩), (38, ⟨.agg [.int .u64 0, .int .u64 0, .int .u64 0, .bool false], 4, 32, .st [(0, 1, false), (1, 1, false), (2, 1, false), (3, 1, false)], some (.st [(0, 1, false, .it .u64), (1, 1, false, .it .u64), (2, 1, false, .it .u64), (3, 1, false, .bl)])⟩)]
theorem PT_z3r : Prg Tryz.prog PT_z1j := ⟨(.cons pe_2 (.cons pe_3 (.cons pe_4 (.cons pe_22 (.cons pe_27 (.cons pe_30 (.cons pe_36 (.cons pe_38 (TEok.nil _))))))))), by kernel_rfl⟩
noncomputable abbrev PO_z1j {α : Type} (F_z4 : Sg_z4 α) (F_zc : Sg_zc α) (F_z3 : Sg_z3 α) (F_z15 : Sg_z15 α) (F_zx : Sg_zx α) (F_z12 : Sg_z12 α) (F_zo : Sg_zo α) : ORC α := [(59, .pure (ad_z4 F_z4)), (58, .pure (ad_zc F_zc)), (128, .pure (ad_z3 F_z3)), (131, .full (ad_z15 F_z15)), (133, .pure (ad_zx F_zx)), (132, .full (ad_z12 F_z12)), (134, .pure (ad_zo F_zo))]
set_option maxRecDepth 100000 in
theorem ok_z1j {α : Type} (F_z4 : Sg_z4 α) (F_zc : Sg_zc α) (F_z3 : Sg_z3 α) (F_z15 : Sg_z15 α) (F_zx : Sg_zx α) (F_z12 : Sg_z12 α) (F_zo : Sg_zo α) (x0 : GBus) (x1 : GState) (x2 : GInsn) (k : GBus → Int → GFault → Bool → R α) : bodyL PT_z1j (PO_z1j F_z4 F_zc F_z3 F_z15 F_zx F_z12 F_zo) [] ⟨1, []⟩ Tryz.f76 (E_z1j.encs (x0, x1, x2, ()) (fun i => i) 0) (hp (E_z1j.objss (x0, x1, x2, ()) (fun i => i) 0)) (dRo M_z1j Q_z1j false (selN (E_z1j.encs (x0, x1, x2, ()) (fun i => i) 0) [0]) (fun y z => k y.1 z.1 z.2.1 z.2.2.1)) = p_z1j F_z4 F_zc F_z3 F_z15 F_zx F_z12 F_zo x0 x1 x2 k := by kernel_rfl
theorem mk_z1j {α : Type} {I : Imm} {F_z4 : Sg_z4 α} {F_zc : Sg_zc α} {F_z3 : Sg_z3 α} {F_z15 : Sg_z15 α} {F_zx : Sg_zx α} {F_z12 : Sg_z12 α} {F_zo : Sg_zo α} (h_z4 : OrcOk (α := α) Tryz.prog I 59 (.pure (ad_z4 F_z4))) (h_zc : OrcOk (α := α) Tryz.prog I 58 (.pure (ad_zc F_zc))) (h_z3 : OrcOk (α := α) Tryz.prog I 128 (.pure (ad_z3 F_z3))) (h_z15 : OrcOk (α := α) Tryz.prog I 131 (.full (ad_z15 F_z15))) (h_zx : OrcOk (α := α) Tryz.prog I 133 (.pure (ad_zx F_zx))) (h_z12 : OrcOk (α := α) Tryz.prog I 132 (.full (ad_z12 F_z12))) (h_zo : OrcOk (α := α) Tryz.prog I 134 (.pure (ad_zo F_zo))) {F : Sg_z1j α} (hF : ∀ x0 x1 x2 k r, F x0 x1 x2 k = some r → p_z1j F_z4 F_zc F_z3 F_z15 F_zx F_z12 F_zo x0 x1 x2 k = some r) : OrcOk (α := α) Tryz.prog I 76 (.full (ad_z1j F)) :=
  orc_obj PT_z3r (O := PO_z1j F_z4 F_zc F_z3 F_z15 F_zx F_z12 F_zo) (OOk.cons h_z4 (OOk.cons h_zc (OOk.cons h_z3 (OOk.cons h_z15 (OOk.cons h_zx (OOk.cons h_z12 (OOk.cons h_zo (OOk.nil)))))))) (L := []) ⟨1, []⟩ Tryz.func76 (by kernel_rfl) (by kernel_rfl) (by kernel_rfl) FLOk.nil E_z3r M_z3r Q_z3r rfl (oi := [0]) fun ⟨x0, x1, x2, ()⟩ k r h => (ok_z1j F_z4 F_zc F_z3 F_z15 F_zx F_z12 F_zo x0 x1 x2 (fun y0 z0 z1 z2 => k (y0, ()) (z0, z1, z2, ()))).trans (hF x0 x1 x2 _ r h)
abbrev PT_z21 : TE := [(3, ⟨.int .i64 0, 1, 8, .sc (.int .i64), none⟩)]
theorem PT_zaz : Prg Tryz.prog PT_z21 := ⟨(.cons pe_3 (TEok.nil _)), by kernel_rfl⟩
noncomputable abbrev PO_z21 {α : Type}  : ORC α := []
set_option maxRecDepth 100000 in
theorem ok_z21 {α : Type}  (x0 : Int) (k : Bool → R α) : bodyL PT_z21 (PO_z21 ) [] ⟨1, []⟩ Tryz.f135 [(.int .i64 x0)] emp (fun v _ => dR_alu_narrow v k) = p_z21  x0 k := by kernel_rfl
theorem mk_z21 {α : Type} {I : Imm}  : OrcOk (α := α) Tryz.prog I 135 (.pure (ad_z21 (p_z21 ))) := by
  refine orc_pureK PT_zaz (O := PO_z21 ) (OOk.nil) (L := []) ⟨1, []⟩ Tryz.func135 (by kernel_rfl) (by kernel_rfl) (by kernel_rfl) FLOk.nil ?_
  intro args k r hk
  unfold ad_z21 at hk
  split at hk <;> try (cases hk; done)
  obtain ⟨x0, rfl, hk0⟩ := decI_spec hk
  have hkz := hk0
  refine ⟨by simp [Ids, Idss], fun v => dR_alu_narrow v (fun r0 => k (.bool r0)), ?_, fun v hv => ?_⟩
  · rw [ok_z21]; exact hkz
  · obtain ⟨r0, rfl, hv1⟩ := dR_alu_narrow_spec hv; exact ⟨hv1, by simp [Ids, Idss]⟩
theorem pe_237 : TyOk Tryz.prog 237 ⟨.ints .i64 70 (fun _ => 0), 70, 560, .ar 70 3 1 false, some (.ar 70 1 (.it .i64))⟩ := ⟨fun _ => by kernel_rfl, ⟨rfl, rfl, fun _ _ => by simp [Wf, Wfs]⟩, ⟨Tryz.underlying237, by kernel_rfl, by kernel_rfl⟩, fun _ h => by cases h; exact ⟨by kernel_rfl, by kernel_rfl⟩⟩
abbrev PT_z1u : TE := [(3, ⟨.int .i64 0, 1, 8, .sc (.int .i64), none⟩), (237, ⟨.ints .i64 70 (fun _ => 0), 70, 560, .ar 70 3 1 false, some (.ar 70 1 (.it .i64))⟩)]
theorem PT_zb0 : Prg Tryz.prog PT_z1u := ⟨(.cons pe_3 (.cons pe_237 (TEok.nil _))), by kernel_rfl⟩
noncomputable abbrev PO_z1u {α : Type} (F_z4 : Sg_z4 α) : ORC α := [(59, .pure (ad_z4 F_z4))]
set_option maxRecDepth 100000 in
theorem ok_z1u {α : Type} (F_z4 : Sg_z4 α) (x0 : Int) (k : Int → R α) : bodyL PT_z1u (PO_z1u F_z4) [] ⟨1, []⟩ Tryz.f137 [(.int .i64 x0)] emp (fun v _ => dR_alu_plain v k) = p_z1u F_z4 x0 k := by kernel_rfl
theorem mk_z1u {α : Type} {I : Imm} {F_z4 : Sg_z4 α} (h_z4 : OrcOk (α := α) Tryz.prog I 59 (.pure (ad_z4 F_z4))) : OrcOk (α := α) Tryz.prog I 137 (.pure (ad_z1u (p_z1u F_z4))) := by
  refine orc_pureK PT_zb0 (O := PO_z1u F_z4) (OOk.cons h_z4 (OOk.nil)) (L := []) ⟨1, []⟩ Tryz.func137 (by kernel_rfl) (by kernel_rfl) (by kernel_rfl) FLOk.nil ?_
  intro args k r hk
  unfold ad_z1u at hk
  split at hk <;> try (cases hk; done)
  obtain ⟨x0, rfl, hk0⟩ := decI_spec hk
  have hkz := hk0
  refine ⟨by simp [Ids, Idss], fun v => dR_alu_plain v (fun r0 => k (.int .i64 r0)), ?_, fun v hv => ?_⟩
  · rw [ok_z1u]; exact hkz
  · obtain ⟨r0, rfl, hv1⟩ := dR_alu_plain_spec hv; exact ⟨hv1, by simp [Ids, Idss]⟩
abbrev PT_z2b : TE := []
theorem PT_zb1 : Prg Tryz.prog PT_z2b := ⟨(TEok.nil _), by kernel_rfl⟩
noncomputable abbrev PO_z2b {α : Type}  : ORC α := []
set_option maxRecDepth 100000 in
theorem ok_z2b {α : Type}  (x0 : Bool) (k : Int → R α) : bodyL PT_z2b (PO_z2b ) [] ⟨1, []⟩ Tryz.f167 [(.bool x0)] emp (fun v _ => dR_alu_one v k) = p_z2b  x0 k := by kernel_rfl
theorem mk_z2b {α : Type} {I : Imm}  : OrcOk (α := α) Tryz.prog I 167 (.pure (ad_z2b (p_z2b ))) := by
  refine orc_pureK PT_zb1 (O := PO_z2b ) (OOk.nil) (L := []) ⟨1, []⟩ Tryz.func167 (by kernel_rfl) (by kernel_rfl) (by kernel_rfl) FLOk.nil ?_
  intro args k r hk
  unfold ad_z2b at hk
  split at hk <;> try (cases hk; done)
  obtain ⟨x0, rfl, hk0⟩ := decB_spec hk
  have hkz := hk0
  refine ⟨by simp [Ids, Idss], fun v => dR_alu_one v (fun r0 => k (.int .u64 r0)), ?_, fun v hv => ?_⟩
  · rw [ok_z2b]; exact hkz
  · obtain ⟨r0, rfl, hv1⟩ := dR_alu_one_spec hv; exact ⟨hv1, by simp [Ids, Idss]⟩
abbrev PT_z1v : TE := [(2, ⟨.int .i64 0, 1, 8, .sc (.int .i64), none⟩), (3, ⟨.int .i64 0, 1, 8, .sc (.int .i64), none⟩), (22, ⟨.int .u64 0, 1, 8, .sc (.int .u64), none⟩)]
theorem PT_zb2 : Prg Tryz.prog PT_z1v := ⟨(.cons pe_2 (.cons pe_3 (.cons pe_22 (TEok.nil _)))), by kernel_rfl⟩
noncomputable abbrev PO_z1v {α : Type} (F_z1f : Sg_z1f α) (F_z2b : Sg_z2b α) : ORC α := [(114, .pure (ad_z1f F_z1f)), (167, .pure (ad_z2b F_z2b))]
set_option maxRecDepth 100000 in
theorem ok_z1v {α : Type} (F_z1f : Sg_z1f α) (F_z2b : Sg_z2b α) (x0 : Int) (x1 : Int) (x2 : Int) (x3 : Int) (k : Int → R α) : bodyL PT_z1v (PO_z1v F_z1f F_z2b) [] ⟨1, []⟩ Tryz.f136 [(.int .i64 x0), (.int .u64 x1), (.int .u64 x2), (.int .i64 x3)] emp (fun v _ => dR_alu_does v k) = p_z1v F_z1f F_z2b x0 x1 x2 x3 k := by kernel_rfl
theorem mk_z1v {α : Type} {I : Imm} {F_z1f : Sg_z1f α} {F_z2b : Sg_z2b α} (h_z1f : OrcOk (α := α) Tryz.prog I 114 (.pure (ad_z1f F_z1f))) (h_z2b : OrcOk (α := α) Tryz.prog I 167 (.pure (ad_z2b F_z2b))) : OrcOk (α := α) Tryz.prog I 136 (.pure (ad_z1v (p_z1v F_z1f F_z2b))) := by
  refine orc_pureK PT_zb2 (O := PO_z1v F_z1f F_z2b) (OOk.cons h_z1f (OOk.cons h_z2b (OOk.nil))) (L := []) ⟨1, []⟩ Tryz.func136 (by kernel_rfl) (by kernel_rfl) (by kernel_rfl) FLOk.nil ?_
  intro args k r hk
  unfold ad_z1v at hk
  split at hk <;> try (cases hk; done)
  obtain ⟨x0, rfl, hk0⟩ := decI_spec hk
  obtain ⟨x1, rfl, hk1⟩ := decI_spec hk0
  obtain ⟨x2, rfl, hk2⟩ := decI_spec hk1
  obtain ⟨x3, rfl, hk3⟩ := decI_spec hk2
  have hkz := hk3
  refine ⟨by simp [Ids, Idss], fun v => dR_alu_does v (fun r0 => k (.int .u64 r0)), ?_, fun v hv => ?_⟩
  · rw [ok_z1v]; exact hkz
  · obtain ⟨r0, rfl, hv1⟩ := dR_alu_does_spec hv; exact ⟨hv1, by simp [Ids, Idss]⟩
abbrev PT_z28 : TE := [(3, ⟨.int .i64 0, 1, 8, .sc (.int .i64), none⟩)]
theorem PT_zb3 : Prg Tryz.prog PT_z28 := ⟨(.cons pe_3 (TEok.nil _)), by kernel_rfl⟩
noncomputable abbrev PO_z28 {α : Type} (F_z4 : Sg_z4 α) (F_z21 : Sg_z21 α) (F_z1u : Sg_z1u α) (F_z1v : Sg_z1v α) (F_zy : Sg_zy α) (F_z8 : Sg_z8 α) : ORC α := [(59, .pure (ad_z4 F_z4)), (135, .pure (ad_z21 F_z21)), (137, .pure (ad_z1u F_z1u)), (136, .pure (ad_z1v F_z1v)), (138, .pure (ad_zy F_zy)), (139, .pure (ad_z8 F_z8))]
set_option maxRecDepth 100000 in
theorem ok_z28 {α : Type} (F_z4 : Sg_z4 α) (F_z21 : Sg_z21 α) (F_z1u : Sg_z1u α) (F_z1v : Sg_z1v α) (F_zy : Sg_zy α) (F_z8 : Sg_z8 α) (x0 : Int) (x1 : Int) (x2 : Int) (k : Int → R α) : bodyL PT_z28 (PO_z28 F_z4 F_z21 F_z1u F_z1v F_zy F_z8) [] ⟨1, []⟩ Tryz.f79 [(.int .i64 x0), (.int .u64 x1), (.int .u64 x2)] emp (fun v _ => dR_alu_Do v k) = p_z28 F_z4 F_z21 F_z1u F_z1v F_zy F_z8 x0 x1 x2 k := by kernel_rfl
theorem mk_z28 {α : Type} {I : Imm} {F_z4 : Sg_z4 α} {F_z21 : Sg_z21 α} {F_z1u : Sg_z1u α} {F_z1v : Sg_z1v α} {F_zy : Sg_zy α} {F_z8 : Sg_z8 α} (h_z4 : OrcOk (α := α) Tryz.prog I 59 (.pure (ad_z4 F_z4))) (h_z21 : OrcOk (α := α) Tryz.prog I 135 (.pure (ad_z21 F_z21))) (h_z1u : OrcOk (α := α) Tryz.prog I 137 (.pure (ad_z1u F_z1u))) (h_z1v : OrcOk (α := α) Tryz.prog I 136 (.pure (ad_z1v F_z1v))) (h_zy : OrcOk (α := α) Tryz.prog I 138 (.pure (ad_zy F_zy))) (h_z8 : OrcOk (α := α) Tryz.prog I 139 (.pure (ad_z8 F_z8))) : OrcOk (α := α) Tryz.prog I 79 (.pure (ad_z28 (p_z28 F_z4 F_z21 F_z1u F_z1v F_zy F_z8))) := by
  refine orc_pureK PT_zb3 (O := PO_z28 F_z4 F_z21 F_z1u F_z1v F_zy F_z8) (OOk.cons h_z4 (OOk.cons h_z21 (OOk.cons h_z1u (OOk.cons h_z1v (OOk.cons h_zy (OOk.cons h_z8 (OOk.nil))))))) (L := []) ⟨1, []⟩ Tryz.func79 (by kernel_rfl) (by kernel_rfl) (by kernel_rfl) FLOk.nil ?_
  intro args k r hk
  unfold ad_z28 at hk
  split at hk <;> try (cases hk; done)
  obtain ⟨x0, rfl, hk0⟩ := decI_spec hk
  obtain ⟨x1, rfl, hk1⟩ := decI_spec hk0
  obtain ⟨x2, rfl, hk2⟩ := decI_spec hk1
  have hkz := hk2
  refine ⟨by simp [Ids, Idss], fun v => dR_alu_Do v (fun r0 => k (.int .u64 r0)), ?_, fun v hv => ?_⟩
  · rw [ok_z28]; exact hkz
  · obtain ⟨r0, rfl, hv1⟩ := dR_alu_Do_spec hv; exact ⟨hv1, by simp [Ids, Idss]⟩
theorem pe_200 : TyOk Tryz.prog 200 ⟨.ints .u64 6 (fun _ => 0), 6, 48, .ar 6 22 1 false, some (.ar 6 1 (.it .u64))⟩ := ⟨fun _ => by kernel_rfl, ⟨rfl, rfl, fun _ _ => by simp [Wf, Wfs]⟩, ⟨Tryz.underlying200, by kernel_rfl, by kernel_rfl⟩, fun _ h => by cases h; exact ⟨by kernel_rfl, by kernel_rfl⟩⟩
abbrev PT_z2c : TE := [(3, ⟨.int .i64 0, 1, 8, .sc (.int .i64), none⟩), (22, ⟨.int .u64 0, 1, 8, .sc (.int .u64), none⟩), (30, ⟨.agg [.ints .u64 32 (fun _ => 0), .int .u64 0, .int .i64 0, .bool false, .ints .u64 29 (fun _ => 0), .int .u64 0], 65, 520, .st [(0, 32, true), (32, 1, false), (33, 1, false), (34, 1, false), (35, 29, true), (64, 1, false)], some (.st [(0, 32, true, .ar 32 1 (.it .u64)), (32, 1, false, .it .u64), (33, 1, false, .it .i64), (34, 1, false, .bl), (35, 29, true, .ar 29 1 (.it .u64)), (64, 1, false, .it .u64)])⟩), (36, ⟨.agg [.int .i64 0, .int .i64 0, .int .i64 0, .int .i64 0, .int .i64 0, .int .i64 0], 6, 48, .st [(0, 1, false), (1, 1, false), (2, 1, false), (3, 1, false), (4, 1, false), (5, 1, false)], some (.st [(0, 1, false, .it .i64), (1, 1, false, .it .i64), (2, 1, false, .it .i64), (3, 1, false, .it .i64), (4, 1, false, .it .i64), (5, 1, false, .it .i64)])⟩), (38, ⟨.agg [.int .u64 0, .int .u64 0, .int .u64 0, .bool false], 4, 32, .st [(0, 1, false), (1, 1, false), (2, 1, false), (3, 1, false)], some (.st [(0, 1, false, .it .u64), (1, 1, false, .it .u64), (2, 1, false, .it .u64), (3, 1, false, .bl)])⟩), (200, ⟨.ints .u64 6 (fun _ => 0), 6, 48, .ar 6 22 1 false, some (.ar 6 1 (.it .u64))⟩)]
theorem PT_zb4 : Prg Tryz.prog PT_z2c := ⟨(.cons pe_3 (.cons pe_22 (.cons pe_30 (.cons pe_36 (.cons pe_38 (.cons pe_200 (TEok.nil _))))))), by kernel_rfl⟩
noncomputable abbrev PO_z2c {α : Type} (F_zs : Sg_zs α) : ORC α := [(68, .pure (ad_zs F_zs))]
set_option maxRecDepth 100000 in
theorem ok_z2c {α : Type} (F_zs : Sg_zs α) (x0 : GState) (x1 : GInsn) (k : GFault → R α) : bodyL PT_z2c (PO_z2c F_zs) [] ⟨1, []⟩ Tryz.f80 [(GState.sv x0), (GInsn.sv x1)] emp (fun v _ => dR_exec_calls v k) = p_z2c F_zs x0 x1 k := by kernel_rfl
theorem mk_z2c {α : Type} {I : Imm} {F_zs : Sg_zs α} (h_zs : OrcOk (α := α) Tryz.prog I 68 (.pure (ad_zs F_zs))) : OrcOk (α := α) Tryz.prog I 80 (.pure (ad_z2c (p_z2c F_zs))) := by
  refine orc_pureK PT_zb4 (O := PO_z2c F_zs) (OOk.cons h_zs (OOk.nil)) (L := []) ⟨1, []⟩ Tryz.func80 (by kernel_rfl) (by kernel_rfl) (by kernel_rfl) FLOk.nil ?_
  intro args k r hk
  unfold ad_z2c at hk
  split at hk <;> try (cases hk; done)
  obtain ⟨x0, rfl, hk0⟩ := GState.dec_spec hk
  obtain ⟨x1, rfl, hk1⟩ := GInsn.dec_spec hk0
  have hkz := hk1
  refine ⟨by simp [Ids, Idss], fun v => dR_exec_calls v (fun r0 => k (GFault.sv r0)), ?_, fun v hv => ?_⟩
  · rw [ok_z2c]; exact hkz
  · obtain ⟨r0, rfl, hv1⟩ := dR_exec_calls_spec hv; exact ⟨hv1, by simp [Ids, Idss]⟩
abbrev PT_z2r : TE := [(3, ⟨.int .i64 0, 1, 8, .sc (.int .i64), none⟩)]
theorem PT_zb5 : Prg Tryz.prog PT_z2r := ⟨(.cons pe_3 (TEok.nil _)), by kernel_rfl⟩
noncomputable abbrev PO_z2r {α : Type}  : ORC α := []
set_option maxRecDepth 100000 in
theorem ok_z2r {α : Type}  (x0 : Int) (k : Int → R α) : bodyL PT_z2r (PO_z2r ) [] ⟨1, []⟩ Tryz.f140 [(.int .i64 x0)] emp (fun v _ => dR_csr_Redirect v k) = p_z2r  x0 k := by kernel_rfl
theorem mk_z2r {α : Type} {I : Imm}  : OrcOk (α := α) Tryz.prog I 140 (.pure (ad_z2r (p_z2r ))) := by
  refine orc_pureK PT_zb5 (O := PO_z2r ) (OOk.nil) (L := []) ⟨1, []⟩ Tryz.func140 (by kernel_rfl) (by kernel_rfl) (by kernel_rfl) FLOk.nil ?_
  intro args k r hk
  unfold ad_z2r at hk
  split at hk <;> try (cases hk; done)
  obtain ⟨x0, rfl, hk0⟩ := decI_spec hk
  have hkz := hk0
  refine ⟨by simp [Ids, Idss], fun v => dR_csr_Redirect v (fun r0 => k (.int .i64 r0)), ?_, fun v hv => ?_⟩
  · rw [ok_z2r]; exact hkz
  · obtain ⟨r0, rfl, hv1⟩ := dR_csr_Redirect_spec hv; exact ⟨hv1, by simp [Ids, Idss]⟩
abbrev PT_z2d : TE := [(3, ⟨.int .i64 0, 1, 8, .sc (.int .i64), none⟩), (22, ⟨.int .u64 0, 1, 8, .sc (.int .u64), none⟩), (28, ⟨.ints .u64 29 (fun _ => 0), 29, 232, .ar 29 22 1 false, some (.ar 29 1 (.it .u64))⟩), (30, ⟨.agg [.ints .u64 32 (fun _ => 0), .int .u64 0, .int .i64 0, .bool false, .ints .u64 29 (fun _ => 0), .int .u64 0], 65, 520, .st [(0, 32, true), (32, 1, false), (33, 1, false), (34, 1, false), (35, 29, true), (64, 1, false)], some (.st [(0, 32, true, .ar 32 1 (.it .u64)), (32, 1, false, .it .u64), (33, 1, false, .it .i64), (34, 1, false, .bl), (35, 29, true, .ar 29 1 (.it .u64)), (64, 1, false, .it .u64)])⟩), (55, ⟨.nils, 1, 24, .sc (.slice 3), none⟩)]
theorem PT_zb6 : Prg Tryz.prog PT_z2d := ⟨(.cons pe_3 (.cons pe_22 (.cons pe_28 (.cons pe_30 (.cons pe_55 (TEok.nil _)))))), by kernel_rfl⟩
noncomputable abbrev B_z7m {α : Type} (F_z1 : Sg_z1 α) (F_zk : Sg_zk α) : FF α := byBody PT_csr_one [] ⟨3, []⟩ Tryz.f169
theorem cB_z7m {α : Type} {I : Imm} {F_z1 : Sg_z1 α} {F_zk : Sg_zk α} (h_z1 : OrcOk (α := α) Tryz.prog I 168 (.pure (ad_z1 F_z1))) (h_zk : OrcOk (α := α) Tryz.prog I 162 (.pure (ad_zk F_zk))) : OrcOk (α := α) Tryz.prog I 169 (.full (B_z7m F_z1 F_zk)) := orc_body PT_csr_one_ok (OOk.nil) ⟨3, []⟩ Tryz.func169 (by kernel_rfl) (by kernel_rfl) (by kernel_rfl)
noncomputable abbrev PO_z2d {α : Type} (F_z1 : Sg_z1 α) (F_zk : Sg_zk α) : ORC α := [(168, .pure (ad_z1 F_z1)), (169, .full (B_z7m F_z1 F_zk)), (162, .pure (ad_zk F_zk))]
set_option maxRecDepth 100000 in
theorem ok_z2d {α : Type} (F_z1 : Sg_z1 α) (F_zk : Sg_zk α) (x0 : GState) (x1 : Int) (k : Int → Bool → R α) : bodyL PT_z2d (PO_z2d F_z1 F_zk) [] ⟨3, []⟩ Tryz.f141 [(GState.sv x0), (.int .i64 x1)] emp (fun v _ => dR_csr_Read v k) = p_z2d F_z1 F_zk x0 x1 k := by kernel_rfl
theorem mk_z2d {α : Type} {I : Imm} {F_z1 : Sg_z1 α} {F_zk : Sg_zk α} (h_z1 : OrcOk (α := α) Tryz.prog I 168 (.pure (ad_z1 F_z1))) (h_zk : OrcOk (α := α) Tryz.prog I 162 (.pure (ad_zk F_zk))) : OrcOk (α := α) Tryz.prog I 141 (.pure (ad_z2d (p_z2d F_z1 F_zk))) := by
  refine orc_pureK PT_zb6 (O := PO_z2d F_z1 F_zk) (OOk.cons h_z1 (OOk.cons (cB_z7m h_z1 h_zk) (OOk.cons h_zk (OOk.nil)))) (L := []) ⟨3, []⟩ Tryz.func141 (by kernel_rfl) (by kernel_rfl) (by kernel_rfl) FLOk.nil ?_
  intro args k r hk
  unfold ad_z2d at hk
  split at hk <;> try (cases hk; done)
  obtain ⟨x0, rfl, hk0⟩ := GState.dec_spec hk
  obtain ⟨x1, rfl, hk1⟩ := decI_spec hk0
  have hkz := hk1
  refine ⟨by simp [Ids, Idss], fun v => dR_csr_Read v (fun r0 r1 => k (.tuple [(.int .u64 r0), (.bool r1)])), ?_, fun v hv => ?_⟩
  · rw [ok_z2d]; exact hkz
  · obtain ⟨r0, r1, rfl, hv1⟩ := dR_csr_Read_spec hv; exact ⟨hv1, by simp [Ids, Idss]⟩
abbrev PT_z23 : TE := [(3, ⟨.int .i64 0, 1, 8, .sc (.int .i64), none⟩), (22, ⟨.int .u64 0, 1, 8, .sc (.int .u64), none⟩)]
theorem PT_zb7 : Prg Tryz.prog PT_z23 := ⟨(.cons pe_3 (.cons pe_22 (TEok.nil _))), by kernel_rfl⟩
noncomputable abbrev PO_z23 {α : Type}  : ORC α := []
set_option maxRecDepth 100000 in
theorem ok_z23 {α : Type}  (x0 : Int) (x1 : Int) (x2 : Int) (k : Int → R α) : bodyL PT_z23 (PO_z23 ) [] ⟨1, []⟩ Tryz.f143 [(.int .i64 x0), (.int .u64 x1), (.int .u64 x2)] emp (fun v _ => dR_alu_Csr v k) = p_z23  x0 x1 x2 k := by kernel_rfl
theorem mk_z23 {α : Type} {I : Imm}  : OrcOk (α := α) Tryz.prog I 143 (.pure (ad_z23 (p_z23 ))) := by
  refine orc_pureK PT_zb7 (O := PO_z23 ) (OOk.nil) (L := []) ⟨1, []⟩ Tryz.func143 (by kernel_rfl) (by kernel_rfl) (by kernel_rfl) FLOk.nil ?_
  intro args k r hk
  unfold ad_z23 at hk
  split at hk <;> try (cases hk; done)
  obtain ⟨x0, rfl, hk0⟩ := decI_spec hk
  obtain ⟨x1, rfl, hk1⟩ := decI_spec hk0
  obtain ⟨x2, rfl, hk2⟩ := decI_spec hk1
  have hkz := hk2
  refine ⟨by simp [Ids, Idss], fun v => dR_alu_Csr v (fun r0 => k (.int .u64 r0)), ?_, fun v hv => ?_⟩
  · rw [ok_z23]; exact hkz
  · obtain ⟨r0, rfl, hv1⟩ := dR_alu_Csr_spec hv; exact ⟨hv1, by simp [Ids, Idss]⟩
abbrev PT_z1k : TE := [(3, ⟨.int .i64 0, 1, 8, .sc (.int .i64), none⟩), (22, ⟨.int .u64 0, 1, 8, .sc (.int .u64), none⟩), (28, ⟨.ints .u64 29 (fun _ => 0), 29, 232, .ar 29 22 1 false, some (.ar 29 1 (.it .u64))⟩), (30, ⟨.agg [.ints .u64 32 (fun _ => 0), .int .u64 0, .int .i64 0, .bool false, .ints .u64 29 (fun _ => 0), .int .u64 0], 65, 520, .st [(0, 32, true), (32, 1, false), (33, 1, false), (34, 1, false), (35, 29, true), (64, 1, false)], some (.st [(0, 32, true, .ar 32 1 (.it .u64)), (32, 1, false, .it .u64), (33, 1, false, .it .i64), (34, 1, false, .bl), (35, 29, true, .ar 29 1 (.it .u64)), (64, 1, false, .it .u64)])⟩)]
theorem PT_zb8 : Prg Tryz.prog PT_z1k := ⟨(.cons pe_3 (.cons pe_22 (.cons pe_28 (.cons pe_30 (TEok.nil _))))), by kernel_rfl⟩
noncomputable abbrev PO_z1k {α : Type} (F_z2 : Sg_z2 α) (F_zg : Sg_zg α) : ORC α := [(118, .pure (ad_z2 F_z2)), (108, .pure (ad_zg F_zg))]
set_option maxRecDepth 100000 in
theorem ok_z1k {α : Type} (F_z2 : Sg_z2 α) (F_zg : Sg_zg α) (x0 : GState) (x1 : Int) (x2 : Int) (x3 : Int) (k : GState → R α) : bodyL PT_z1k (PO_z1k F_z2 F_zg) [] ⟨1, []⟩ Tryz.f170 [(GState.sv x0), (.int .i64 x1), (.int .u64 x2), (.int .u64 x3)] emp (fun v _ => dR_csr_With v k) = p_z1k F_z2 F_zg x0 x1 x2 x3 k := by kernel_rfl
theorem mk_z1k {α : Type} {I : Imm} {F_z2 : Sg_z2 α} {F_zg : Sg_zg α} (h_z2 : OrcOk (α := α) Tryz.prog I 118 (.pure (ad_z2 F_z2))) (h_zg : OrcOk (α := α) Tryz.prog I 108 (.pure (ad_zg F_zg))) : OrcOk (α := α) Tryz.prog I 170 (.pure (ad_z1k (p_z1k F_z2 F_zg))) := by
  refine orc_pureK PT_zb8 (O := PO_z1k F_z2 F_zg) (OOk.cons h_z2 (OOk.cons h_zg (OOk.nil))) (L := []) ⟨1, []⟩ Tryz.func170 (by kernel_rfl) (by kernel_rfl) (by kernel_rfl) FLOk.nil ?_
  intro args k r hk
  unfold ad_z1k at hk
  split at hk <;> try (cases hk; done)
  obtain ⟨x0, rfl, hk0⟩ := GState.dec_spec hk
  obtain ⟨x1, rfl, hk1⟩ := decI_spec hk0
  obtain ⟨x2, rfl, hk2⟩ := decI_spec hk1
  obtain ⟨x3, rfl, hk3⟩ := decI_spec hk2
  have hkz := hk3
  refine ⟨by simp [Ids, Idss], fun v => dR_csr_With v (fun r0 => k (GState.sv r0)), ?_, fun v hv => ?_⟩
  · rw [ok_z1k]; exact hkz
  · obtain ⟨r0, rfl, hv1⟩ := dR_csr_With_spec hv; exact ⟨hv1, by simp [Ids, Idss]⟩
abbrev PT_zi : TE := [(3, ⟨.int .i64 0, 1, 8, .sc (.int .i64), none⟩), (253, ⟨.agg [.int .i64 0, .int .u64 0], 2, 16, .st [(0, 1, false), (1, 1, false)], some (.st [(0, 1, false, .it .i64), (1, 1, false, .it .u64)])⟩), (254, ⟨.arr 2 29 (fun _ => .agg [.int .i64 0, .int .u64 0]), 58, 464, .ar 29 253 2 true, none⟩)]
theorem PT_zb9 : Prg Tryz.prog PT_zi := ⟨(.cons pe_3 (.cons pe_253 (.cons pe_254 (TEok.nil _)))), by kernel_rfl⟩
noncomputable abbrev B_z7n {α : Type} (F_z1 : Sg_z1 α) : FF α := byBody PT_csr_one [] ⟨15, []⟩ Tryz.f169
theorem cB_z7n {α : Type} {I : Imm} {F_z1 : Sg_z1 α} (h_z1 : OrcOk (α := α) Tryz.prog I 168 (.pure (ad_z1 F_z1))) : OrcOk (α := α) Tryz.prog I 169 (.full (B_z7n F_z1)) := orc_body PT_csr_one_ok (OOk.nil) ⟨15, []⟩ Tryz.func169 (by kernel_rfl) (by kernel_rfl) (by kernel_rfl)
noncomputable abbrev B_z7o {α : Type} (F_z1 : Sg_z1 α) : FF α := byBody PT_csr_rows [(169, .full (B_z7n F_z1)), (168, .pure (ad_z1 F_z1))] ⟨15, []⟩ Tryz.f185
theorem cB_z7o {α : Type} {I : Imm} {F_z1 : Sg_z1 α} (h_z1 : OrcOk (α := α) Tryz.prog I 168 (.pure (ad_z1 F_z1))) : OrcOk (α := α) Tryz.prog I 185 (.full (B_z7o F_z1)) := orc_body PT_csr_rows_ok (OOk.cons (cB_z7n h_z1) (OOk.cons h_z1 (OOk.nil))) ⟨15, []⟩ Tryz.func185 (by kernel_rfl) (by kernel_rfl) (by kernel_rfl)
noncomputable abbrev PO_zi {α : Type} (F_z1 : Sg_z1 α) : ORC α := [(185, .full (B_z7o F_z1))]
set_option maxRecDepth 100000 in
theorem ok_z4j {α : Type} (F_z1 : Sg_z1 α)   (k : Int → R α) : bodyL PT_zi (PO_zi F_z1) [] ⟨15, []⟩ Tryz.f171 [(.int .i64 0)] emp (fun v _ => dR_csr_Mask v k) = p_z4j F_z1  k := by kernel_rfl
set_option maxRecDepth 100000 in
theorem ok_z4k {α : Type} (F_z1 : Sg_z1 α)   (k : Int → R α) : bodyL PT_zi (PO_zi F_z1) [] ⟨15, []⟩ Tryz.f171 [(.int .i64 1)] emp (fun v _ => dR_csr_Mask v k) = p_z4k F_z1  k := by kernel_rfl
set_option maxRecDepth 100000 in
theorem ok_z4l {α : Type} (F_z1 : Sg_z1 α)   (k : Int → R α) : bodyL PT_zi (PO_zi F_z1) [] ⟨15, []⟩ Tryz.f171 [(.int .i64 2)] emp (fun v _ => dR_csr_Mask v k) = p_z4l F_z1  k := by kernel_rfl
set_option maxRecDepth 100000 in
theorem ok_z4m {α : Type} (F_z1 : Sg_z1 α)   (k : Int → R α) : bodyL PT_zi (PO_zi F_z1) [] ⟨15, []⟩ Tryz.f171 [(.int .i64 3)] emp (fun v _ => dR_csr_Mask v k) = p_z4m F_z1  k := by kernel_rfl
set_option maxRecDepth 100000 in
theorem ok_z4n {α : Type} (F_z1 : Sg_z1 α)   (k : Int → R α) : bodyL PT_zi (PO_zi F_z1) [] ⟨15, []⟩ Tryz.f171 [(.int .i64 4)] emp (fun v _ => dR_csr_Mask v k) = p_z4n F_z1  k := by kernel_rfl
set_option maxRecDepth 100000 in
theorem ok_z4o {α : Type} (F_z1 : Sg_z1 α)   (k : Int → R α) : bodyL PT_zi (PO_zi F_z1) [] ⟨15, []⟩ Tryz.f171 [(.int .i64 5)] emp (fun v _ => dR_csr_Mask v k) = p_z4o F_z1  k := by kernel_rfl
set_option maxRecDepth 100000 in
theorem ok_z4p {α : Type} (F_z1 : Sg_z1 α)   (k : Int → R α) : bodyL PT_zi (PO_zi F_z1) [] ⟨15, []⟩ Tryz.f171 [(.int .i64 6)] emp (fun v _ => dR_csr_Mask v k) = p_z4p F_z1  k := by kernel_rfl
set_option maxRecDepth 100000 in
theorem ok_z4q {α : Type} (F_z1 : Sg_z1 α)   (k : Int → R α) : bodyL PT_zi (PO_zi F_z1) [] ⟨15, []⟩ Tryz.f171 [(.int .i64 7)] emp (fun v _ => dR_csr_Mask v k) = p_z4q F_z1  k := by kernel_rfl
set_option maxRecDepth 100000 in
theorem ok_z4r {α : Type} (F_z1 : Sg_z1 α)   (k : Int → R α) : bodyL PT_zi (PO_zi F_z1) [] ⟨15, []⟩ Tryz.f171 [(.int .i64 8)] emp (fun v _ => dR_csr_Mask v k) = p_z4r F_z1  k := by kernel_rfl
set_option maxRecDepth 100000 in
theorem ok_z4s {α : Type} (F_z1 : Sg_z1 α)   (k : Int → R α) : bodyL PT_zi (PO_zi F_z1) [] ⟨15, []⟩ Tryz.f171 [(.int .i64 9)] emp (fun v _ => dR_csr_Mask v k) = p_z4s F_z1  k := by kernel_rfl
set_option maxRecDepth 100000 in
theorem ok_z4t {α : Type} (F_z1 : Sg_z1 α)   (k : Int → R α) : bodyL PT_zi (PO_zi F_z1) [] ⟨15, []⟩ Tryz.f171 [(.int .i64 10)] emp (fun v _ => dR_csr_Mask v k) = p_z4t F_z1  k := by kernel_rfl
set_option maxRecDepth 100000 in
theorem ok_z4u {α : Type} (F_z1 : Sg_z1 α)   (k : Int → R α) : bodyL PT_zi (PO_zi F_z1) [] ⟨15, []⟩ Tryz.f171 [(.int .i64 11)] emp (fun v _ => dR_csr_Mask v k) = p_z4u F_z1  k := by kernel_rfl
set_option maxRecDepth 100000 in
theorem ok_z4v {α : Type} (F_z1 : Sg_z1 α)   (k : Int → R α) : bodyL PT_zi (PO_zi F_z1) [] ⟨15, []⟩ Tryz.f171 [(.int .i64 12)] emp (fun v _ => dR_csr_Mask v k) = p_z4v F_z1  k := by kernel_rfl
set_option maxRecDepth 100000 in
theorem ok_z4w {α : Type} (F_z1 : Sg_z1 α)   (k : Int → R α) : bodyL PT_zi (PO_zi F_z1) [] ⟨15, []⟩ Tryz.f171 [(.int .i64 13)] emp (fun v _ => dR_csr_Mask v k) = p_z4w F_z1  k := by kernel_rfl
set_option maxRecDepth 100000 in
theorem ok_z4x {α : Type} (F_z1 : Sg_z1 α)   (k : Int → R α) : bodyL PT_zi (PO_zi F_z1) [] ⟨15, []⟩ Tryz.f171 [(.int .i64 14)] emp (fun v _ => dR_csr_Mask v k) = p_z4x F_z1  k := by kernel_rfl
set_option maxRecDepth 100000 in
theorem ok_z4y {α : Type} (F_z1 : Sg_z1 α)   (k : Int → R α) : bodyL PT_zi (PO_zi F_z1) [] ⟨15, []⟩ Tryz.f171 [(.int .i64 15)] emp (fun v _ => dR_csr_Mask v k) = p_z4y F_z1  k := by kernel_rfl
set_option maxRecDepth 100000 in
theorem ok_z4z {α : Type} (F_z1 : Sg_z1 α)   (k : Int → R α) : bodyL PT_zi (PO_zi F_z1) [] ⟨15, []⟩ Tryz.f171 [(.int .i64 16)] emp (fun v _ => dR_csr_Mask v k) = p_z4z F_z1  k := by kernel_rfl
set_option maxRecDepth 100000 in
theorem ok_z50 {α : Type} (F_z1 : Sg_z1 α)   (k : Int → R α) : bodyL PT_zi (PO_zi F_z1) [] ⟨15, []⟩ Tryz.f171 [(.int .i64 17)] emp (fun v _ => dR_csr_Mask v k) = p_z50 F_z1  k := by kernel_rfl
set_option maxRecDepth 100000 in
theorem ok_z51 {α : Type} (F_z1 : Sg_z1 α)   (k : Int → R α) : bodyL PT_zi (PO_zi F_z1) [] ⟨15, []⟩ Tryz.f171 [(.int .i64 18)] emp (fun v _ => dR_csr_Mask v k) = p_z51 F_z1  k := by kernel_rfl
set_option maxRecDepth 100000 in
theorem ok_z52 {α : Type} (F_z1 : Sg_z1 α)   (k : Int → R α) : bodyL PT_zi (PO_zi F_z1) [] ⟨15, []⟩ Tryz.f171 [(.int .i64 19)] emp (fun v _ => dR_csr_Mask v k) = p_z52 F_z1  k := by kernel_rfl
set_option maxRecDepth 100000 in
theorem ok_z53 {α : Type} (F_z1 : Sg_z1 α)   (k : Int → R α) : bodyL PT_zi (PO_zi F_z1) [] ⟨15, []⟩ Tryz.f171 [(.int .i64 20)] emp (fun v _ => dR_csr_Mask v k) = p_z53 F_z1  k := by kernel_rfl
set_option maxRecDepth 100000 in
theorem ok_z54 {α : Type} (F_z1 : Sg_z1 α)   (k : Int → R α) : bodyL PT_zi (PO_zi F_z1) [] ⟨15, []⟩ Tryz.f171 [(.int .i64 21)] emp (fun v _ => dR_csr_Mask v k) = p_z54 F_z1  k := by kernel_rfl
set_option maxRecDepth 100000 in
theorem ok_z55 {α : Type} (F_z1 : Sg_z1 α)   (k : Int → R α) : bodyL PT_zi (PO_zi F_z1) [] ⟨15, []⟩ Tryz.f171 [(.int .i64 22)] emp (fun v _ => dR_csr_Mask v k) = p_z55 F_z1  k := by kernel_rfl
set_option maxRecDepth 100000 in
theorem ok_z56 {α : Type} (F_z1 : Sg_z1 α)   (k : Int → R α) : bodyL PT_zi (PO_zi F_z1) [] ⟨15, []⟩ Tryz.f171 [(.int .i64 23)] emp (fun v _ => dR_csr_Mask v k) = p_z56 F_z1  k := by kernel_rfl
set_option maxRecDepth 100000 in
theorem ok_z57 {α : Type} (F_z1 : Sg_z1 α)   (k : Int → R α) : bodyL PT_zi (PO_zi F_z1) [] ⟨15, []⟩ Tryz.f171 [(.int .i64 24)] emp (fun v _ => dR_csr_Mask v k) = p_z57 F_z1  k := by kernel_rfl
set_option maxRecDepth 100000 in
theorem ok_z58 {α : Type} (F_z1 : Sg_z1 α)   (k : Int → R α) : bodyL PT_zi (PO_zi F_z1) [] ⟨15, []⟩ Tryz.f171 [(.int .i64 25)] emp (fun v _ => dR_csr_Mask v k) = p_z58 F_z1  k := by kernel_rfl
set_option maxRecDepth 100000 in
theorem ok_z59 {α : Type} (F_z1 : Sg_z1 α)   (k : Int → R α) : bodyL PT_zi (PO_zi F_z1) [] ⟨15, []⟩ Tryz.f171 [(.int .i64 26)] emp (fun v _ => dR_csr_Mask v k) = p_z59 F_z1  k := by kernel_rfl
set_option maxRecDepth 100000 in
theorem ok_z5a {α : Type} (F_z1 : Sg_z1 α)   (k : Int → R α) : bodyL PT_zi (PO_zi F_z1) [] ⟨15, []⟩ Tryz.f171 [(.int .i64 27)] emp (fun v _ => dR_csr_Mask v k) = p_z5a F_z1  k := by kernel_rfl
set_option maxRecDepth 100000 in
theorem ok_z5b {α : Type} (F_z1 : Sg_z1 α)   (k : Int → R α) : bodyL PT_zi (PO_zi F_z1) [] ⟨15, []⟩ Tryz.f171 [(.int .i64 28)] emp (fun v _ => dR_csr_Mask v k) = p_z5b F_z1  k := by kernel_rfl
theorem ok_zi {α : Type} {F_z1 : Sg_z1 α}  {x0 : Int} {k : Int → R α} {r : α} (h : p_zi F_z1 x0 k = some r) : bodyL PT_zi (PO_zi F_z1) [] ⟨15, []⟩ Tryz.f171 [(.int .i64 x0)] emp (fun v _ => dR_csr_Mask v k) = some r := by
  unfold p_zi at h
  cases e0 : (x0 == 0)
  case true => rw [e0] at h; simp only [cond_true] at h; rw [beq_iff_eq] at e0; subst e0; exact (ok_z4j F_z1   k).trans h
  rw [e0] at h; simp only [cond_false] at h
  cases e1 : (x0 == 1)
  case true => rw [e1] at h; simp only [cond_true] at h; rw [beq_iff_eq] at e1; subst e1; exact (ok_z4k F_z1   k).trans h
  rw [e1] at h; simp only [cond_false] at h
  cases e2 : (x0 == 2)
  case true => rw [e2] at h; simp only [cond_true] at h; rw [beq_iff_eq] at e2; subst e2; exact (ok_z4l F_z1   k).trans h
  rw [e2] at h; simp only [cond_false] at h
  cases e3 : (x0 == 3)
  case true => rw [e3] at h; simp only [cond_true] at h; rw [beq_iff_eq] at e3; subst e3; exact (ok_z4m F_z1   k).trans h
  rw [e3] at h; simp only [cond_false] at h
  cases e4 : (x0 == 4)
  case true => rw [e4] at h; simp only [cond_true] at h; rw [beq_iff_eq] at e4; subst e4; exact (ok_z4n F_z1   k).trans h
  rw [e4] at h; simp only [cond_false] at h
  cases e5 : (x0 == 5)
  case true => rw [e5] at h; simp only [cond_true] at h; rw [beq_iff_eq] at e5; subst e5; exact (ok_z4o F_z1   k).trans h
  rw [e5] at h; simp only [cond_false] at h
  cases e6 : (x0 == 6)
  case true => rw [e6] at h; simp only [cond_true] at h; rw [beq_iff_eq] at e6; subst e6; exact (ok_z4p F_z1   k).trans h
  rw [e6] at h; simp only [cond_false] at h
  cases e7 : (x0 == 7)
  case true => rw [e7] at h; simp only [cond_true] at h; rw [beq_iff_eq] at e7; subst e7; exact (ok_z4q F_z1   k).trans h
  rw [e7] at h; simp only [cond_false] at h
  cases e8 : (x0 == 8)
  case true => rw [e8] at h; simp only [cond_true] at h; rw [beq_iff_eq] at e8; subst e8; exact (ok_z4r F_z1   k).trans h
  rw [e8] at h; simp only [cond_false] at h
  cases e9 : (x0 == 9)
  case true => rw [e9] at h; simp only [cond_true] at h; rw [beq_iff_eq] at e9; subst e9; exact (ok_z4s F_z1   k).trans h
  rw [e9] at h; simp only [cond_false] at h
  cases e10 : (x0 == 10)
  case true => rw [e10] at h; simp only [cond_true] at h; rw [beq_iff_eq] at e10; subst e10; exact (ok_z4t F_z1   k).trans h
  rw [e10] at h; simp only [cond_false] at h
  cases e11 : (x0 == 11)
  case true => rw [e11] at h; simp only [cond_true] at h; rw [beq_iff_eq] at e11; subst e11; exact (ok_z4u F_z1   k).trans h
  rw [e11] at h; simp only [cond_false] at h
  cases e12 : (x0 == 12)
  case true => rw [e12] at h; simp only [cond_true] at h; rw [beq_iff_eq] at e12; subst e12; exact (ok_z4v F_z1   k).trans h
  rw [e12] at h; simp only [cond_false] at h
  cases e13 : (x0 == 13)
  case true => rw [e13] at h; simp only [cond_true] at h; rw [beq_iff_eq] at e13; subst e13; exact (ok_z4w F_z1   k).trans h
  rw [e13] at h; simp only [cond_false] at h
  cases e14 : (x0 == 14)
  case true => rw [e14] at h; simp only [cond_true] at h; rw [beq_iff_eq] at e14; subst e14; exact (ok_z4x F_z1   k).trans h
  rw [e14] at h; simp only [cond_false] at h
  cases e15 : (x0 == 15)
  case true => rw [e15] at h; simp only [cond_true] at h; rw [beq_iff_eq] at e15; subst e15; exact (ok_z4y F_z1   k).trans h
  rw [e15] at h; simp only [cond_false] at h
  cases e16 : (x0 == 16)
  case true => rw [e16] at h; simp only [cond_true] at h; rw [beq_iff_eq] at e16; subst e16; exact (ok_z4z F_z1   k).trans h
  rw [e16] at h; simp only [cond_false] at h
  cases e17 : (x0 == 17)
  case true => rw [e17] at h; simp only [cond_true] at h; rw [beq_iff_eq] at e17; subst e17; exact (ok_z50 F_z1   k).trans h
  rw [e17] at h; simp only [cond_false] at h
  cases e18 : (x0 == 18)
  case true => rw [e18] at h; simp only [cond_true] at h; rw [beq_iff_eq] at e18; subst e18; exact (ok_z51 F_z1   k).trans h
  rw [e18] at h; simp only [cond_false] at h
  cases e19 : (x0 == 19)
  case true => rw [e19] at h; simp only [cond_true] at h; rw [beq_iff_eq] at e19; subst e19; exact (ok_z52 F_z1   k).trans h
  rw [e19] at h; simp only [cond_false] at h
  cases e20 : (x0 == 20)
  case true => rw [e20] at h; simp only [cond_true] at h; rw [beq_iff_eq] at e20; subst e20; exact (ok_z53 F_z1   k).trans h
  rw [e20] at h; simp only [cond_false] at h
  cases e21 : (x0 == 21)
  case true => rw [e21] at h; simp only [cond_true] at h; rw [beq_iff_eq] at e21; subst e21; exact (ok_z54 F_z1   k).trans h
  rw [e21] at h; simp only [cond_false] at h
  cases e22 : (x0 == 22)
  case true => rw [e22] at h; simp only [cond_true] at h; rw [beq_iff_eq] at e22; subst e22; exact (ok_z55 F_z1   k).trans h
  rw [e22] at h; simp only [cond_false] at h
  cases e23 : (x0 == 23)
  case true => rw [e23] at h; simp only [cond_true] at h; rw [beq_iff_eq] at e23; subst e23; exact (ok_z56 F_z1   k).trans h
  rw [e23] at h; simp only [cond_false] at h
  cases e24 : (x0 == 24)
  case true => rw [e24] at h; simp only [cond_true] at h; rw [beq_iff_eq] at e24; subst e24; exact (ok_z57 F_z1   k).trans h
  rw [e24] at h; simp only [cond_false] at h
  cases e25 : (x0 == 25)
  case true => rw [e25] at h; simp only [cond_true] at h; rw [beq_iff_eq] at e25; subst e25; exact (ok_z58 F_z1   k).trans h
  rw [e25] at h; simp only [cond_false] at h
  cases e26 : (x0 == 26)
  case true => rw [e26] at h; simp only [cond_true] at h; rw [beq_iff_eq] at e26; subst e26; exact (ok_z59 F_z1   k).trans h
  rw [e26] at h; simp only [cond_false] at h
  cases e27 : (x0 == 27)
  case true => rw [e27] at h; simp only [cond_true] at h; rw [beq_iff_eq] at e27; subst e27; exact (ok_z5a F_z1   k).trans h
  rw [e27] at h; simp only [cond_false] at h
  cases e28 : (x0 == 28)
  case true => rw [e28] at h; simp only [cond_true] at h; rw [beq_iff_eq] at e28; subst e28; exact (ok_z5b F_z1   k).trans h
  rw [e28] at h; simp only [cond_false] at h
  cases h
theorem mk_zi {α : Type} {I : Imm} {F_z1 : Sg_z1 α} (h_z1 : OrcOk (α := α) Tryz.prog I 168 (.pure (ad_z1 F_z1))) : OrcOk (α := α) Tryz.prog I 171 (.pure (ad_zi (p_zi F_z1))) := by
  refine orc_pureK PT_zb9 (O := PO_zi F_z1) (OOk.cons (cB_z7o h_z1) (OOk.nil)) (L := []) ⟨15, []⟩ Tryz.func171 (by kernel_rfl) (by kernel_rfl) (by kernel_rfl) FLOk.nil ?_
  intro args k r hk
  unfold ad_zi at hk
  split at hk <;> try (cases hk; done)
  obtain ⟨x0, rfl, hk0⟩ := decI_spec hk
  have hkz := hk0
  refine ⟨by simp [Ids, Idss], fun v => dR_csr_Mask v (fun r0 => k (.int .u64 r0)), ?_, fun v hv => ?_⟩
  · exact ok_zi hkz
  · obtain ⟨r0, rfl, hv1⟩ := dR_csr_Mask_spec hv; exact ⟨hv1, by simp [Ids, Idss]⟩
abbrev PT_z24 : TE := [(3, ⟨.int .i64 0, 1, 8, .sc (.int .i64), none⟩), (22, ⟨.int .u64 0, 1, 8, .sc (.int .u64), none⟩), (30, ⟨.agg [.ints .u64 32 (fun _ => 0), .int .u64 0, .int .i64 0, .bool false, .ints .u64 29 (fun _ => 0), .int .u64 0], 65, 520, .st [(0, 32, true), (32, 1, false), (33, 1, false), (34, 1, false), (35, 29, true), (64, 1, false)], some (.st [(0, 32, true, .ar 32 1 (.it .u64)), (32, 1, false, .it .u64), (33, 1, false, .it .i64), (34, 1, false, .bl), (35, 29, true, .ar 29 1 (.it .u64)), (64, 1, false, .it .u64)])⟩), (55, ⟨.nils, 1, 24, .sc (.slice 3), none⟩)]
theorem PT_zba : Prg Tryz.prog PT_z24 := ⟨(.cons pe_3 (.cons pe_22 (.cons pe_30 (.cons pe_55 (TEok.nil _))))), by kernel_rfl⟩
noncomputable abbrev B_z7p {α : Type} (F_z1 : Sg_z1 α) (F_z1k : Sg_z1k α) (F_zk : Sg_zk α) (F_zi : Sg_zi α) : FF α := byBody PT_csr_one [] ⟨3, []⟩ Tryz.f169
theorem cB_z7p {α : Type} {I : Imm} {F_z1 : Sg_z1 α} {F_z1k : Sg_z1k α} {F_zk : Sg_zk α} {F_zi : Sg_zi α} (h_z1 : OrcOk (α := α) Tryz.prog I 168 (.pure (ad_z1 F_z1))) (h_z1k : OrcOk (α := α) Tryz.prog I 170 (.pure (ad_z1k F_z1k))) (h_zk : OrcOk (α := α) Tryz.prog I 162 (.pure (ad_zk F_zk))) (h_zi : OrcOk (α := α) Tryz.prog I 171 (.pure (ad_zi F_zi))) : OrcOk (α := α) Tryz.prog I 169 (.full (B_z7p F_z1 F_z1k F_zk F_zi)) := orc_body PT_csr_one_ok (OOk.nil) ⟨3, []⟩ Tryz.func169 (by kernel_rfl) (by kernel_rfl) (by kernel_rfl)
noncomputable abbrev PO_z24 {α : Type} (F_z1 : Sg_z1 α) (F_z1k : Sg_z1k α) (F_zk : Sg_zk α) (F_zi : Sg_zi α) : ORC α := [(168, .pure (ad_z1 F_z1)), (170, .pure (ad_z1k F_z1k)), (169, .full (B_z7p F_z1 F_z1k F_zk F_zi)), (162, .pure (ad_zk F_zk)), (171, .pure (ad_zi F_zi))]
set_option maxRecDepth 100000 in
theorem ok_z24 {α : Type} (F_z1 : Sg_z1 α) (F_z1k : Sg_z1k α) (F_zk : Sg_zk α) (F_zi : Sg_zi α) (x0 : GState) (x1 : Int) (x2 : Int) (k : GState → Bool → R α) : bodyL PT_z24 (PO_z24 F_z1 F_z1k F_zk F_zi) [] ⟨3, []⟩ Tryz.f142 [(GState.sv x0), (.int .i64 x1), (.int .u64 x2)] emp (fun v _ => dR_csr_Write v k) = p_z24 F_z1 F_z1k F_zk F_zi x0 x1 x2 k := by kernel_rfl
theorem mk_z24 {α : Type} {I : Imm} {F_z1 : Sg_z1 α} {F_z1k : Sg_z1k α} {F_zk : Sg_zk α} {F_zi : Sg_zi α} (h_z1 : OrcOk (α := α) Tryz.prog I 168 (.pure (ad_z1 F_z1))) (h_z1k : OrcOk (α := α) Tryz.prog I 170 (.pure (ad_z1k F_z1k))) (h_zk : OrcOk (α := α) Tryz.prog I 162 (.pure (ad_zk F_zk))) (h_zi : OrcOk (α := α) Tryz.prog I 171 (.pure (ad_zi F_zi))) : OrcOk (α := α) Tryz.prog I 142 (.pure (ad_z24 (p_z24 F_z1 F_z1k F_zk F_zi))) := by
  refine orc_pureK PT_zba (O := PO_z24 F_z1 F_z1k F_zk F_zi) (OOk.cons h_z1 (OOk.cons h_z1k (OOk.cons (cB_z7p h_z1 h_z1k h_zk h_zi) (OOk.cons h_zk (OOk.cons h_zi (OOk.nil)))))) (L := []) ⟨3, []⟩ Tryz.func142 (by kernel_rfl) (by kernel_rfl) (by kernel_rfl) FLOk.nil ?_
  intro args k r hk
  unfold ad_z24 at hk
  split at hk <;> try (cases hk; done)
  obtain ⟨x0, rfl, hk0⟩ := GState.dec_spec hk
  obtain ⟨x1, rfl, hk1⟩ := decI_spec hk0
  obtain ⟨x2, rfl, hk2⟩ := decI_spec hk1
  have hkz := hk2
  refine ⟨by simp [Ids, Idss], fun v => dR_csr_Write v (fun r0 r1 => k (.tuple [(GState.sv r0), (.bool r1)])), ?_, fun v hv => ?_⟩
  · rw [ok_z24]; exact hkz
  · obtain ⟨r0, r1, rfl, hv1⟩ := dR_csr_Write_spec hv; exact ⟨hv1, by simp [Ids, Idss]⟩
abbrev PT_z2e : TE := [(2, ⟨.int .i64 0, 1, 8, .sc (.int .i64), none⟩), (3, ⟨.int .i64 0, 1, 8, .sc (.int .i64), none⟩), (4, ⟨.bool false, 1, 1, .sc (.bool), none⟩), (22, ⟨.int .u64 0, 1, 8, .sc (.int .u64), none⟩), (27, ⟨.ints .u64 32 (fun _ => 0), 32, 256, .ar 32 22 1 false, some (.ar 32 1 (.it .u64))⟩), (30, ⟨.agg [.ints .u64 32 (fun _ => 0), .int .u64 0, .int .i64 0, .bool false, .ints .u64 29 (fun _ => 0), .int .u64 0], 65, 520, .st [(0, 32, true), (32, 1, false), (33, 1, false), (34, 1, false), (35, 29, true), (64, 1, false)], some (.st [(0, 32, true, .ar 32 1 (.it .u64)), (32, 1, false, .it .u64), (33, 1, false, .it .i64), (34, 1, false, .bl), (35, 29, true, .ar 29 1 (.it .u64)), (64, 1, false, .it .u64)])⟩), (36, ⟨.agg [.int .i64 0, .int .i64 0, .int .i64 0, .int .i64 0, .int .i64 0, .int .i64 0], 6, 48, .st [(0, 1, false), (1, 1, false), (2, 1, false), (3, 1, false), (4, 1, false), (5, 1, false)], some (.st [(0, 1, false, .it .i64), (1, 1, false, .it .i64), (2, 1, false, .it .i64), (3, 1, false, .it .i64), (4, 1, false, .it .i64), (5, 1, false, .it .i64)])⟩), (91, ⟨.agg [.agg [.ints .u64 32 (fun _ => 0), .int .u64 0, .int .i64 0, .bool false, .ints .u64 29 (fun _ => 0), .int .u64 0], .int .u64 0, .agg [.int .u64 0, .int .u64 0, .int .u64 0, .bool false], .bool false], 71, 568, .st [(0, 65, true), (65, 1, false), (66, 4, true), (70, 1, false)], some (.st [(0, 65, true, .st [(0, 32, true, .ar 32 1 (.it .u64)), (32, 1, false, .it .u64), (33, 1, false, .it .i64), (34, 1, false, .bl), (35, 29, true, .ar 29 1 (.it .u64)), (64, 1, false, .it .u64)]), (65, 1, false, .it .u64), (66, 4, true, .st [(0, 1, false, .it .u64), (1, 1, false, .it .u64), (2, 1, false, .it .u64), (3, 1, false, .bl)]), (70, 1, false, .bl)])⟩)]
theorem PT_zbb : Prg Tryz.prog PT_z2e := ⟨(.cons pe_2 (.cons pe_3 (.cons pe_4 (.cons pe_22 (.cons pe_27 (.cons pe_30 (.cons pe_36 (.cons pe_91 (TEok.nil _))))))))), by kernel_rfl⟩
noncomputable abbrev PO_z2e {α : Type} (F_z2r : Sg_z2r α) (F_z2d : Sg_z2d α) (F_z1d : Sg_z1d α) (F_z23 : Sg_z23 α) (F_z24 : Sg_z24 α) (F_zf : Sg_zf α) : ORC α := [(140, .pure (ad_z2r F_z2r)), (141, .pure (ad_z2d F_z2d)), (70, .pure (ad_z1d F_z1d)), (143, .pure (ad_z23 F_z23)), (142, .pure (ad_z24 F_z24)), (78, .pure (ad_zf F_zf))]
set_option maxRecDepth 100000 in
theorem ok_z2e {α : Type} (F_z2r : Sg_z2r α) (F_z2d : Sg_z2d α) (F_z1d : Sg_z1d α) (F_z23 : Sg_z23 α) (F_z24 : Sg_z24 α) (F_zf : Sg_zf α) (x0 : GState) (x1 : GInsn) (k : GExec_result → R α) : bodyL PT_z2e (PO_z2e F_z2r F_z2d F_z1d F_z23 F_z24 F_zf) [] ⟨1, []⟩ Tryz.f81 [(GState.sv x0), (GInsn.sv x1)] emp (fun v _ => dR_exec_control v k) = p_z2e F_z2r F_z2d F_z1d F_z23 F_z24 F_zf x0 x1 k := by kernel_rfl
theorem mk_z2e {α : Type} {I : Imm} {F_z2r : Sg_z2r α} {F_z2d : Sg_z2d α} {F_z1d : Sg_z1d α} {F_z23 : Sg_z23 α} {F_z24 : Sg_z24 α} {F_zf : Sg_zf α} (h_z2r : OrcOk (α := α) Tryz.prog I 140 (.pure (ad_z2r F_z2r))) (h_z2d : OrcOk (α := α) Tryz.prog I 141 (.pure (ad_z2d F_z2d))) (h_z1d : OrcOk (α := α) Tryz.prog I 70 (.pure (ad_z1d F_z1d))) (h_z23 : OrcOk (α := α) Tryz.prog I 143 (.pure (ad_z23 F_z23))) (h_z24 : OrcOk (α := α) Tryz.prog I 142 (.pure (ad_z24 F_z24))) (h_zf : OrcOk (α := α) Tryz.prog I 78 (.pure (ad_zf F_zf))) : OrcOk (α := α) Tryz.prog I 81 (.pure (ad_z2e (p_z2e F_z2r F_z2d F_z1d F_z23 F_z24 F_zf))) := by
  refine orc_pureK PT_zbb (O := PO_z2e F_z2r F_z2d F_z1d F_z23 F_z24 F_zf) (OOk.cons h_z2r (OOk.cons h_z2d (OOk.cons h_z1d (OOk.cons h_z23 (OOk.cons h_z24 (OOk.cons h_zf (OOk.nil))))))) (L := []) ⟨1, []⟩ Tryz.func81 (by kernel_rfl) (by kernel_rfl) (by kernel_rfl) FLOk.nil ?_
  intro args k r hk
  unfold ad_z2e at hk
  split at hk <;> try (cases hk; done)
  obtain ⟨x0, rfl, hk0⟩ := GState.dec_spec hk
  obtain ⟨x1, rfl, hk1⟩ := GInsn.dec_spec hk0
  have hkz := hk1
  refine ⟨by simp [Ids, Idss], fun v => dR_exec_control v (fun r0 => k (GExec_result.sv r0)), ?_, fun v hv => ?_⟩
  · rw [ok_z2e]; exact hkz
  · obtain ⟨r0, rfl, hv1⟩ := dR_exec_control_spec hv; exact ⟨hv1, by simp [Ids, Idss]⟩
abbrev PT_z1h : TE := [(3, ⟨.int .i64 0, 1, 8, .sc (.int .i64), none⟩), (30, ⟨.agg [.ints .u64 32 (fun _ => 0), .int .u64 0, .int .i64 0, .bool false, .ints .u64 29 (fun _ => 0), .int .u64 0], 65, 520, .st [(0, 32, true), (32, 1, false), (33, 1, false), (34, 1, false), (35, 29, true), (64, 1, false)], some (.st [(0, 32, true, .ar 32 1 (.it .u64)), (32, 1, false, .it .u64), (33, 1, false, .it .i64), (34, 1, false, .bl), (35, 29, true, .ar 29 1 (.it .u64)), (64, 1, false, .it .u64)])⟩), (178, ⟨.agg [.int .i64 0, .int .i64 0, .int .i64 0], 3, 24, .st [(0, 1, false), (1, 1, false), (2, 1, false)], some (.st [(0, 1, false, .it .i64), (1, 1, false, .it .i64), (2, 1, false, .it .i64)])⟩)]
theorem PT_zbc : Prg Tryz.prog PT_z1h := ⟨(.cons pe_3 (.cons pe_30 (.cons pe_178 (TEok.nil _)))), by kernel_rfl⟩
noncomputable abbrev PO_z1h {α : Type} (F_z3 : Sg_z3 α) (F_za : Sg_za α) : ORC α := [(128, .pure (ad_z3 F_z3)), (109, .pure (ad_za F_za))]
set_option maxRecDepth 100000 in
theorem ok_z1h {α : Type} (F_z3 : Sg_z3 α) (F_za : Sg_za α) (x0 : GTrap_kept) (x1 : GState) (k : GState → R α) : bodyL PT_z1h (PO_z1h F_z3 F_za) [] ⟨1, []⟩ Tryz.f172 [(GTrap_kept.sv x0), (GState.sv x1)] emp (fun v _ => dR_trap_kept_back v k) = p_z1h F_z3 F_za x0 x1 k := by kernel_rfl
theorem mk_z1h {α : Type} {I : Imm} {F_z3 : Sg_z3 α} {F_za : Sg_za α} (h_z3 : OrcOk (α := α) Tryz.prog I 128 (.pure (ad_z3 F_z3))) (h_za : OrcOk (α := α) Tryz.prog I 109 (.pure (ad_za F_za))) : OrcOk (α := α) Tryz.prog I 172 (.pure (ad_z1h (p_z1h F_z3 F_za))) := by
  refine orc_pureK PT_zbc (O := PO_z1h F_z3 F_za) (OOk.cons h_z3 (OOk.cons h_za (OOk.nil))) (L := []) ⟨1, []⟩ Tryz.func172 (by kernel_rfl) (by kernel_rfl) (by kernel_rfl) FLOk.nil ?_
  intro args k r hk
  unfold ad_z1h at hk
  split at hk <;> try (cases hk; done)
  obtain ⟨x0, rfl, hk0⟩ := GTrap_kept.dec_spec hk
  obtain ⟨x1, rfl, hk1⟩ := GState.dec_spec hk0
  have hkz := hk1
  refine ⟨by simp [Ids, Idss], fun v => dR_trap_kept_back v (fun r0 => k (GState.sv r0)), ?_, fun v hv => ?_⟩
  · rw [ok_z1h]; exact hkz
  · obtain ⟨r0, rfl, hv1⟩ := dR_trap_kept_back_spec hv; exact ⟨hv1, by simp [Ids, Idss]⟩
abbrev PT_z2s : TE := [(3, ⟨.int .i64 0, 1, 8, .sc (.int .i64), none⟩), (4, ⟨.bool false, 1, 1, .sc (.bool), none⟩), (22, ⟨.int .u64 0, 1, 8, .sc (.int .u64), none⟩), (28, ⟨.ints .u64 29 (fun _ => 0), 29, 232, .ar 29 22 1 false, some (.ar 29 1 (.it .u64))⟩), (30, ⟨.agg [.ints .u64 32 (fun _ => 0), .int .u64 0, .int .i64 0, .bool false, .ints .u64 29 (fun _ => 0), .int .u64 0], 65, 520, .st [(0, 32, true), (32, 1, false), (33, 1, false), (34, 1, false), (35, 29, true), (64, 1, false)], some (.st [(0, 32, true, .ar 32 1 (.it .u64)), (32, 1, false, .it .u64), (33, 1, false, .it .i64), (34, 1, false, .bl), (35, 29, true, .ar 29 1 (.it .u64)), (64, 1, false, .it .u64)])⟩), (36, ⟨.agg [.int .i64 0, .int .i64 0, .int .i64 0, .int .i64 0, .int .i64 0, .int .i64 0], 6, 48, .st [(0, 1, false), (1, 1, false), (2, 1, false), (3, 1, false), (4, 1, false), (5, 1, false)], some (.st [(0, 1, false, .it .i64), (1, 1, false, .it .i64), (2, 1, false, .it .i64), (3, 1, false, .it .i64), (4, 1, false, .it .i64), (5, 1, false, .it .i64)])⟩), (178, ⟨.agg [.int .i64 0, .int .i64 0, .int .i64 0], 3, 24, .st [(0, 1, false), (1, 1, false), (2, 1, false)], some (.st [(0, 1, false, .it .i64), (1, 1, false, .it .i64), (2, 1, false, .it .i64)])⟩)]
theorem PT_zbd : Prg Tryz.prog PT_z2s := ⟨(.cons pe_3 (.cons pe_4 (.cons pe_22 (.cons pe_28 (.cons pe_30 (.cons pe_36 (.cons pe_178 (TEok.nil _)))))))), by kernel_rfl⟩
noncomputable abbrev PO_z2s {α : Type} (F_zr : Sg_zr α) (F_z2 : Sg_z2 α) (F_z3 : Sg_z3 α) (F_z1h : Sg_z1h α) (F_zg : Sg_zg α) (F_za : Sg_za α) : ORC α := [(29, .pure (ad_zr F_zr)), (118, .pure (ad_z2 F_z2)), (128, .pure (ad_z3 F_z3)), (172, .pure (ad_z1h F_z1h)), (108, .pure (ad_zg F_zg)), (109, .pure (ad_za F_za))]
set_option maxRecDepth 100000 in
theorem ok_z2s {α : Type} (F_zr : Sg_zr α) (F_z2 : Sg_z2 α) (F_z3 : Sg_z3 α) (F_z1h : Sg_z1h α) (F_zg : Sg_zg α) (F_za : Sg_za α) (x0 : GState) (k : GState → Int → Bool → R α) : bodyL PT_z2s (PO_z2s F_zr F_z2 F_z3 F_z1h F_zg F_za) [] ⟨1, []⟩ Tryz.f144 [(GState.sv x0)] emp (fun v _ => dR_trap_Mret v k) = p_z2s F_zr F_z2 F_z3 F_z1h F_zg F_za x0 k := by kernel_rfl
theorem mk_z2s {α : Type} {I : Imm} {F_zr : Sg_zr α} {F_z2 : Sg_z2 α} {F_z3 : Sg_z3 α} {F_z1h : Sg_z1h α} {F_zg : Sg_zg α} {F_za : Sg_za α} (h_zr : OrcOk (α := α) Tryz.prog I 29 (.pure (ad_zr F_zr))) (h_z2 : OrcOk (α := α) Tryz.prog I 118 (.pure (ad_z2 F_z2))) (h_z3 : OrcOk (α := α) Tryz.prog I 128 (.pure (ad_z3 F_z3))) (h_z1h : OrcOk (α := α) Tryz.prog I 172 (.pure (ad_z1h F_z1h))) (h_zg : OrcOk (α := α) Tryz.prog I 108 (.pure (ad_zg F_zg))) (h_za : OrcOk (α := α) Tryz.prog I 109 (.pure (ad_za F_za))) : OrcOk (α := α) Tryz.prog I 144 (.pure (ad_z2s (p_z2s F_zr F_z2 F_z3 F_z1h F_zg F_za))) := by
  refine orc_pureK PT_zbd (O := PO_z2s F_zr F_z2 F_z3 F_z1h F_zg F_za) (OOk.cons h_zr (OOk.cons h_z2 (OOk.cons h_z3 (OOk.cons h_z1h (OOk.cons h_zg (OOk.cons h_za (OOk.nil))))))) (L := []) ⟨1, []⟩ Tryz.func144 (by kernel_rfl) (by kernel_rfl) (by kernel_rfl) FLOk.nil ?_
  intro args k r hk
  unfold ad_z2s at hk
  split at hk <;> try (cases hk; done)
  obtain ⟨x0, rfl, hk0⟩ := GState.dec_spec hk
  have hkz := hk0
  refine ⟨by simp [Ids, Idss], fun v => dR_trap_Mret v (fun r0 r1 r2 => k (.tuple [(GState.sv r0), (.int .u64 r1), (.bool r2)])), ?_, fun v hv => ?_⟩
  · rw [ok_z2s]; exact hkz
  · obtain ⟨r0, r1, r2, rfl, hv1⟩ := dR_trap_Mret_spec hv; exact ⟨hv1, by simp [Ids, Idss]⟩
abbrev PT_z2t : TE := [(3, ⟨.int .i64 0, 1, 8, .sc (.int .i64), none⟩), (4, ⟨.bool false, 1, 1, .sc (.bool), none⟩), (22, ⟨.int .u64 0, 1, 8, .sc (.int .u64), none⟩), (28, ⟨.ints .u64 29 (fun _ => 0), 29, 232, .ar 29 22 1 false, some (.ar 29 1 (.it .u64))⟩), (30, ⟨.agg [.ints .u64 32 (fun _ => 0), .int .u64 0, .int .i64 0, .bool false, .ints .u64 29 (fun _ => 0), .int .u64 0], 65, 520, .st [(0, 32, true), (32, 1, false), (33, 1, false), (34, 1, false), (35, 29, true), (64, 1, false)], some (.st [(0, 32, true, .ar 32 1 (.it .u64)), (32, 1, false, .it .u64), (33, 1, false, .it .i64), (34, 1, false, .bl), (35, 29, true, .ar 29 1 (.it .u64)), (64, 1, false, .it .u64)])⟩), (36, ⟨.agg [.int .i64 0, .int .i64 0, .int .i64 0, .int .i64 0, .int .i64 0, .int .i64 0], 6, 48, .st [(0, 1, false), (1, 1, false), (2, 1, false), (3, 1, false), (4, 1, false), (5, 1, false)], some (.st [(0, 1, false, .it .i64), (1, 1, false, .it .i64), (2, 1, false, .it .i64), (3, 1, false, .it .i64), (4, 1, false, .it .i64), (5, 1, false, .it .i64)])⟩), (178, ⟨.agg [.int .i64 0, .int .i64 0, .int .i64 0], 3, 24, .st [(0, 1, false), (1, 1, false), (2, 1, false)], some (.st [(0, 1, false, .it .i64), (1, 1, false, .it .i64), (2, 1, false, .it .i64)])⟩)]
theorem PT_zbe : Prg Tryz.prog PT_z2t := ⟨(.cons pe_3 (.cons pe_4 (.cons pe_22 (.cons pe_28 (.cons pe_30 (.cons pe_36 (.cons pe_178 (TEok.nil _)))))))), by kernel_rfl⟩
noncomputable abbrev PO_z2t {α : Type} (F_zr : Sg_zr α) (F_z2 : Sg_z2 α) (F_z1h : Sg_z1h α) (F_za : Sg_za α) (F_z3 : Sg_z3 α) : ORC α := [(29, .pure (ad_zr F_zr)), (118, .pure (ad_z2 F_z2)), (172, .pure (ad_z1h F_z1h)), (109, .pure (ad_za F_za)), (128, .pure (ad_z3 F_z3))]
set_option maxRecDepth 100000 in
theorem ok_z2t {α : Type} (F_zr : Sg_zr α) (F_z2 : Sg_z2 α) (F_z1h : Sg_z1h α) (F_za : Sg_za α) (F_z3 : Sg_z3 α) (x0 : GState) (k : GState → Int → Bool → R α) : bodyL PT_z2t (PO_z2t F_zr F_z2 F_z1h F_za F_z3) [] ⟨1, []⟩ Tryz.f145 [(GState.sv x0)] emp (fun v _ => dR_trap_Sret v k) = p_z2t F_zr F_z2 F_z1h F_za F_z3 x0 k := by kernel_rfl
theorem mk_z2t {α : Type} {I : Imm} {F_zr : Sg_zr α} {F_z2 : Sg_z2 α} {F_z1h : Sg_z1h α} {F_za : Sg_za α} {F_z3 : Sg_z3 α} (h_zr : OrcOk (α := α) Tryz.prog I 29 (.pure (ad_zr F_zr))) (h_z2 : OrcOk (α := α) Tryz.prog I 118 (.pure (ad_z2 F_z2))) (h_z1h : OrcOk (α := α) Tryz.prog I 172 (.pure (ad_z1h F_z1h))) (h_za : OrcOk (α := α) Tryz.prog I 109 (.pure (ad_za F_za))) (h_z3 : OrcOk (α := α) Tryz.prog I 128 (.pure (ad_z3 F_z3))) : OrcOk (α := α) Tryz.prog I 145 (.pure (ad_z2t (p_z2t F_zr F_z2 F_z1h F_za F_z3))) := by
  refine orc_pureK PT_zbe (O := PO_z2t F_zr F_z2 F_z1h F_za F_z3) (OOk.cons h_zr (OOk.cons h_z2 (OOk.cons h_z1h (OOk.cons h_za (OOk.cons h_z3 (OOk.nil)))))) (L := []) ⟨1, []⟩ Tryz.func145 (by kernel_rfl) (by kernel_rfl) (by kernel_rfl) FLOk.nil ?_
  intro args k r hk
  unfold ad_z2t at hk
  split at hk <;> try (cases hk; done)
  obtain ⟨x0, rfl, hk0⟩ := GState.dec_spec hk
  have hkz := hk0
  refine ⟨by simp [Ids, Idss], fun v => dR_trap_Sret v (fun r0 r1 r2 => k (.tuple [(GState.sv r0), (.int .u64 r1), (.bool r2)])), ?_, fun v hv => ?_⟩
  · rw [ok_z2t]; exact hkz
  · obtain ⟨r0, r1, r2, rfl, hv1⟩ := dR_trap_Sret_spec hv; exact ⟨hv1, by simp [Ids, Idss]⟩
abbrev PT_z2f : TE := [(3, ⟨.int .i64 0, 1, 8, .sc (.int .i64), none⟩), (30, ⟨.agg [.ints .u64 32 (fun _ => 0), .int .u64 0, .int .i64 0, .bool false, .ints .u64 29 (fun _ => 0), .int .u64 0], 65, 520, .st [(0, 32, true), (32, 1, false), (33, 1, false), (34, 1, false), (35, 29, true), (64, 1, false)], some (.st [(0, 32, true, .ar 32 1 (.it .u64)), (32, 1, false, .it .u64), (33, 1, false, .it .i64), (34, 1, false, .bl), (35, 29, true, .ar 29 1 (.it .u64)), (64, 1, false, .it .u64)])⟩), (36, ⟨.agg [.int .i64 0, .int .i64 0, .int .i64 0, .int .i64 0, .int .i64 0, .int .i64 0], 6, 48, .st [(0, 1, false), (1, 1, false), (2, 1, false), (3, 1, false), (4, 1, false), (5, 1, false)], some (.st [(0, 1, false, .it .i64), (1, 1, false, .it .i64), (2, 1, false, .it .i64), (3, 1, false, .it .i64), (4, 1, false, .it .i64), (5, 1, false, .it .i64)])⟩), (91, ⟨.agg [.agg [.ints .u64 32 (fun _ => 0), .int .u64 0, .int .i64 0, .bool false, .ints .u64 29 (fun _ => 0), .int .u64 0], .int .u64 0, .agg [.int .u64 0, .int .u64 0, .int .u64 0, .bool false], .bool false], 71, 568, .st [(0, 65, true), (65, 1, false), (66, 4, true), (70, 1, false)], some (.st [(0, 65, true, .st [(0, 32, true, .ar 32 1 (.it .u64)), (32, 1, false, .it .u64), (33, 1, false, .it .i64), (34, 1, false, .bl), (35, 29, true, .ar 29 1 (.it .u64)), (64, 1, false, .it .u64)]), (65, 1, false, .it .u64), (66, 4, true, .st [(0, 1, false, .it .u64), (1, 1, false, .it .u64), (2, 1, false, .it .u64), (3, 1, false, .bl)]), (70, 1, false, .bl)])⟩)]
theorem PT_zbf : Prg Tryz.prog PT_z2f := ⟨(.cons pe_3 (.cons pe_30 (.cons pe_36 (.cons pe_91 (TEok.nil _))))), by kernel_rfl⟩
noncomputable abbrev PO_z2f {α : Type} (F_z2s : Sg_z2s α) (F_zq : Sg_zq α) (F_z2t : Sg_z2t α) (F_zf : Sg_zf α) : ORC α := [(144, .pure (ad_z2s F_z2s)), (130, .pure (ad_zq F_zq)), (145, .pure (ad_z2t F_z2t)), (78, .pure (ad_zf F_zf))]
set_option maxRecDepth 100000 in
theorem ok_z2f {α : Type} (F_z2s : Sg_z2s α) (F_zq : Sg_zq α) (F_z2t : Sg_z2t α) (F_zf : Sg_zf α) (x0 : GState) (x1 : GInsn) (k : GExec_result → R α) : bodyL PT_z2f (PO_z2f F_z2s F_zq F_z2t F_zf) [] ⟨1, []⟩ Tryz.f82 [(GState.sv x0), (GInsn.sv x1)] emp (fun v _ => dR_exec_returns v k) = p_z2f F_z2s F_zq F_z2t F_zf x0 x1 k := by kernel_rfl
theorem mk_z2f {α : Type} {I : Imm} {F_z2s : Sg_z2s α} {F_zq : Sg_zq α} {F_z2t : Sg_z2t α} {F_zf : Sg_zf α} (h_z2s : OrcOk (α := α) Tryz.prog I 144 (.pure (ad_z2s F_z2s))) (h_zq : OrcOk (α := α) Tryz.prog I 130 (.pure (ad_zq F_zq))) (h_z2t : OrcOk (α := α) Tryz.prog I 145 (.pure (ad_z2t F_z2t))) (h_zf : OrcOk (α := α) Tryz.prog I 78 (.pure (ad_zf F_zf))) : OrcOk (α := α) Tryz.prog I 82 (.pure (ad_z2f (p_z2f F_z2s F_zq F_z2t F_zf))) := by
  refine orc_pureK PT_zbf (O := PO_z2f F_z2s F_zq F_z2t F_zf) (OOk.cons h_z2s (OOk.cons h_zq (OOk.cons h_z2t (OOk.cons h_zf (OOk.nil))))) (L := []) ⟨1, []⟩ Tryz.func82 (by kernel_rfl) (by kernel_rfl) (by kernel_rfl) FLOk.nil ?_
  intro args k r hk
  unfold ad_z2f at hk
  split at hk <;> try (cases hk; done)
  obtain ⟨x0, rfl, hk0⟩ := GState.dec_spec hk
  obtain ⟨x1, rfl, hk1⟩ := GInsn.dec_spec hk0
  have hkz := hk1
  refine ⟨by simp [Ids, Idss], fun v => dR_exec_returns v (fun r0 => k (GExec_result.sv r0)), ?_, fun v hv => ?_⟩
  · rw [ok_z2f]; exact hkz
  · obtain ⟨r0, rfl, hv1⟩ := dR_exec_returns_spec hv; exact ⟨hv1, by simp [Ids, Idss]⟩
abbrev PT_z1l : TE := [(2, ⟨.int .i64 0, 1, 8, .sc (.int .i64), none⟩), (3, ⟨.int .i64 0, 1, 8, .sc (.int .i64), none⟩), (22, ⟨.int .u64 0, 1, 8, .sc (.int .u64), none⟩), (27, ⟨.ints .u64 32 (fun _ => 0), 32, 256, .ar 32 22 1 false, some (.ar 32 1 (.it .u64))⟩), (30, ⟨.agg [.ints .u64 32 (fun _ => 0), .int .u64 0, .int .i64 0, .bool false, .ints .u64 29 (fun _ => 0), .int .u64 0], 65, 520, .st [(0, 32, true), (32, 1, false), (33, 1, false), (34, 1, false), (35, 29, true), (64, 1, false)], some (.st [(0, 32, true, .ar 32 1 (.it .u64)), (32, 1, false, .it .u64), (33, 1, false, .it .i64), (34, 1, false, .bl), (35, 29, true, .ar 29 1 (.it .u64)), (64, 1, false, .it .u64)])⟩), (36, ⟨.agg [.int .i64 0, .int .i64 0, .int .i64 0, .int .i64 0, .int .i64 0, .int .i64 0], 6, 48, .st [(0, 1, false), (1, 1, false), (2, 1, false), (3, 1, false), (4, 1, false), (5, 1, false)], some (.st [(0, 1, false, .it .i64), (1, 1, false, .it .i64), (2, 1, false, .it .i64), (3, 1, false, .it .i64), (4, 1, false, .it .i64), (5, 1, false, .it .i64)])⟩), (38, ⟨.agg [.int .u64 0, .int .u64 0, .int .u64 0, .bool false], 4, 32, .st [(0, 1, false), (1, 1, false), (2, 1, false), (3, 1, false)], some (.st [(0, 1, false, .it .u64), (1, 1, false, .it .u64), (2, 1, false, .it .u64), (3, 1, false, .bl)])⟩), (91, ⟨.agg [.agg [.ints .u64 32 (fun _ => 0), .int .u64 0, .int .i64 0, .bool false, .ints .u64 29 (fun _ => 0), .int .u64 0], .int .u64 0, .agg [.int .u64 0, .int .u64 0, .int .u64 0, .bool false], .bool false], 71, 568, .st [(0, 65, true), (65, 1, false), (66, 4, true), (70, 1, false)], some (.st [(0, 65, true, .st [(0, 32, true, .ar 32 1 (.it .u64)), (32, 1, false, .it .u64), (33, 1, false, .it .i64), (34, 1, false, .bl), (35, 29, true, .ar 29 1 (.it .u64)), (64, 1, false, .it .u64)]), (65, 1, false, .it .u64), (66, 4, true, .st [(0, 1, false, .it .u64), (1, 1, false, .it .u64), (2, 1, false, .it .u64), (3, 1, false, .bl)]), (70, 1, false, .bl)])⟩)]
theorem PT_z3s : Prg Tryz.prog PT_z1l := ⟨(.cons pe_2 (.cons pe_3 (.cons pe_22 (.cons pe_27 (.cons pe_30 (.cons pe_36 (.cons pe_38 (.cons pe_91 (TEok.nil _))))))))), by kernel_rfl⟩
noncomputable abbrev PO_z1l {α : Type} (F_z4 : Sg_z4 α) (F_z27 : Sg_z27 α) (F_z1j : Sg_z1j α) (F_z16 : Sg_z16 α) (F_zf : Sg_zf α) (F_z28 : Sg_z28 α) (F_z2c : Sg_z2c α) (F_z2e : Sg_z2e α) (F_z2f : Sg_z2f α) : ORC α := [(59, .pure (ad_z4 F_z4)), (75, .pure (ad_z27 F_z27)), (76, .full (ad_z1j F_z1j)), (77, .pure (ad_z16 F_z16)), (78, .pure (ad_zf F_zf)), (79, .pure (ad_z28 F_z28)), (80, .pure (ad_z2c F_z2c)), (81, .pure (ad_z2e F_z2e)), (82, .pure (ad_z2f F_z2f))]
set_option maxRecDepth 100000 in
theorem ok_z1l {α : Type} (F_z4 : Sg_z4 α) (F_z27 : Sg_z27 α) (F_z1j : Sg_z1j α) (F_z16 : Sg_z16 α) (F_zf : Sg_zf α) (F_z28 : Sg_z28 α) (F_z2c : Sg_z2c α) (F_z2e : Sg_z2e α) (F_z2f : Sg_z2f α) (x0 : GBus) (x1 : GState) (x2 : GInsn) (k : GBus → GExec_result → R α) : bodyL PT_z1l (PO_z1l F_z4 F_z27 F_z1j F_z16 F_zf F_z28 F_z2c F_z2e F_z2f) [] ⟨1, []⟩ Tryz.f30 (E_z1l.encs (x0, x1, x2, ()) (fun i => i) 0) (hp (E_z1l.objss (x0, x1, x2, ()) (fun i => i) 0)) (dRo M_z1l Q_z1l true (selN (E_z1l.encs (x0, x1, x2, ()) (fun i => i) 0) [0]) (fun y z => k y.1 z.1)) = p_z1l F_z4 F_z27 F_z1j F_z16 F_zf F_z28 F_z2c F_z2e F_z2f x0 x1 x2 k := by kernel_rfl
theorem mk_z1l {α : Type} {I : Imm} {F_z4 : Sg_z4 α} {F_z27 : Sg_z27 α} {F_z1j : Sg_z1j α} {F_z16 : Sg_z16 α} {F_zf : Sg_zf α} {F_z28 : Sg_z28 α} {F_z2c : Sg_z2c α} {F_z2e : Sg_z2e α} {F_z2f : Sg_z2f α} (h_z4 : OrcOk (α := α) Tryz.prog I 59 (.pure (ad_z4 F_z4))) (h_z27 : OrcOk (α := α) Tryz.prog I 75 (.pure (ad_z27 F_z27))) (h_z1j : OrcOk (α := α) Tryz.prog I 76 (.full (ad_z1j F_z1j))) (h_z16 : OrcOk (α := α) Tryz.prog I 77 (.pure (ad_z16 F_z16))) (h_zf : OrcOk (α := α) Tryz.prog I 78 (.pure (ad_zf F_zf))) (h_z28 : OrcOk (α := α) Tryz.prog I 79 (.pure (ad_z28 F_z28))) (h_z2c : OrcOk (α := α) Tryz.prog I 80 (.pure (ad_z2c F_z2c))) (h_z2e : OrcOk (α := α) Tryz.prog I 81 (.pure (ad_z2e F_z2e))) (h_z2f : OrcOk (α := α) Tryz.prog I 82 (.pure (ad_z2f F_z2f))) {F : Sg_z1l α} (hF : ∀ x0 x1 x2 k r, F x0 x1 x2 k = some r → p_z1l F_z4 F_z27 F_z1j F_z16 F_zf F_z28 F_z2c F_z2e F_z2f x0 x1 x2 k = some r) : OrcOk (α := α) Tryz.prog I 30 (.full (ad_z1l F)) :=
  orc_obj PT_z3s (O := PO_z1l F_z4 F_z27 F_z1j F_z16 F_zf F_z28 F_z2c F_z2e F_z2f) (OOk.cons h_z4 (OOk.cons h_z27 (OOk.cons h_z1j (OOk.cons h_z16 (OOk.cons h_zf (OOk.cons h_z28 (OOk.cons h_z2c (OOk.cons h_z2e (OOk.cons h_z2f (OOk.nil)))))))))) (L := []) ⟨1, []⟩ Tryz.func30 (by kernel_rfl) (by kernel_rfl) (by kernel_rfl) FLOk.nil E_z3s M_z3s Q_z3s rfl (oi := [0]) fun ⟨x0, x1, x2, ()⟩ k r h => (ok_z1l F_z4 F_z27 F_z1j F_z16 F_zf F_z28 F_z2c F_z2e F_z2f x0 x1 x2 (fun y0 z0 => k (y0, ()) (z0, ()))).trans (hF x0 x1 x2 _ r h)
abbrev PT_z2v : TE := [(3, ⟨.int .i64 0, 1, 8, .sc (.int .i64), none⟩), (36, ⟨.agg [.int .i64 0, .int .i64 0, .int .i64 0, .int .i64 0, .int .i64 0, .int .i64 0], 6, 48, .st [(0, 1, false), (1, 1, false), (2, 1, false), (3, 1, false), (4, 1, false), (5, 1, false)], some (.st [(0, 1, false, .it .i64), (1, 1, false, .it .i64), (2, 1, false, .it .i64), (3, 1, false, .it .i64), (4, 1, false, .it .i64), (5, 1, false, .it .i64)])⟩)]
theorem PT_zbg : Prg Tryz.prog PT_z2v := ⟨(.cons pe_3 (.cons pe_36 (TEok.nil _))), by kernel_rfl⟩
noncomputable abbrev PO_z2v {α : Type} (F_zc : Sg_zc α) : ORC α := [(58, .pure (ad_zc F_zc))]
set_option maxRecDepth 100000 in
theorem ok_z2v {α : Type} (F_zc : Sg_zc α) (x0 : GInsn) (k : Int → R α) : bodyL PT_z2v (PO_z2v F_zc) [] ⟨1, []⟩ Tryz.f31 [(GInsn.sv x0)] emp (fun v _ => dR_insn_Writes v k) = p_z2v F_zc x0 k := by kernel_rfl
theorem mk_z2v {α : Type} {I : Imm} {F_zc : Sg_zc α} (h_zc : OrcOk (α := α) Tryz.prog I 58 (.pure (ad_zc F_zc))) : OrcOk (α := α) Tryz.prog I 31 (.pure (ad_z2v (p_z2v F_zc))) := by
  refine orc_pureK PT_zbg (O := PO_z2v F_zc) (OOk.cons h_zc (OOk.nil)) (L := []) ⟨1, []⟩ Tryz.func31 (by kernel_rfl) (by kernel_rfl) (by kernel_rfl) FLOk.nil ?_
  intro args k r hk
  unfold ad_z2v at hk
  split at hk <;> try (cases hk; done)
  obtain ⟨x0, rfl, hk0⟩ := GInsn.dec_spec hk
  have hkz := hk0
  refine ⟨by simp [Ids, Idss], fun v => dR_insn_Writes v (fun r0 => k (.int .i64 r0)), ?_, fun v hv => ?_⟩
  · rw [ok_z2v]; exact hkz
  · obtain ⟨r0, rfl, hv1⟩ := dR_insn_Writes_spec hv; exact ⟨hv1, by simp [Ids, Idss]⟩
abbrev PT_z5 : TE := [(3, ⟨.int .i64 0, 1, 8, .sc (.int .i64), none⟩), (4, ⟨.bool false, 1, 1, .sc (.bool), none⟩), (22, ⟨.int .u64 0, 1, 8, .sc (.int .u64), none⟩), (27, ⟨.ints .u64 32 (fun _ => 0), 32, 256, .ar 32 22 1 false, some (.ar 32 1 (.it .u64))⟩), (30, ⟨.agg [.ints .u64 32 (fun _ => 0), .int .u64 0, .int .i64 0, .bool false, .ints .u64 29 (fun _ => 0), .int .u64 0], 65, 520, .st [(0, 32, true), (32, 1, false), (33, 1, false), (34, 1, false), (35, 29, true), (64, 1, false)], some (.st [(0, 32, true, .ar 32 1 (.it .u64)), (32, 1, false, .it .u64), (33, 1, false, .it .i64), (34, 1, false, .bl), (35, 29, true, .ar 29 1 (.it .u64)), (64, 1, false, .it .u64)])⟩), (32, ⟨.int .u32 0, 1, 4, .sc (.int .u32), none⟩), (36, ⟨.agg [.int .i64 0, .int .i64 0, .int .i64 0, .int .i64 0, .int .i64 0, .int .i64 0], 6, 48, .st [(0, 1, false), (1, 1, false), (2, 1, false), (3, 1, false), (4, 1, false), (5, 1, false)], some (.st [(0, 1, false, .it .i64), (1, 1, false, .it .i64), (2, 1, false, .it .i64), (3, 1, false, .it .i64), (4, 1, false, .it .i64), (5, 1, false, .it .i64)])⟩), (38, ⟨.agg [.int .u64 0, .int .u64 0, .int .u64 0, .bool false], 4, 32, .st [(0, 1, false), (1, 1, false), (2, 1, false), (3, 1, false)], some (.st [(0, 1, false, .it .u64), (1, 1, false, .it .u64), (2, 1, false, .it .u64), (3, 1, false, .bl)])⟩), (40, ⟨.agg [.int .u64 0, .int .u32 0, .int .i64 0, .int .u64 0, .bool false, .agg [.int .u64 0, .int .u64 0, .int .u64 0, .bool false], .int .i64 0, .bool false, .bool false], 12, 88, .st [(0, 1, false), (1, 1, false), (2, 1, false), (3, 1, false), (4, 1, false), (5, 4, true), (9, 1, false), (10, 1, false), (11, 1, false)], some (.st [(0, 1, false, .it .u64), (1, 1, false, .it .u32), (2, 1, false, .it .i64), (3, 1, false, .it .u64), (4, 1, false, .bl), (5, 4, true, .st [(0, 1, false, .it .u64), (1, 1, false, .it .u64), (2, 1, false, .it .u64), (3, 1, false, .bl)]), (9, 1, false, .it .i64), (10, 1, false, .bl), (11, 1, false, .bl)])⟩), (85, ⟨.int .i64 0, 1, 8, .sc (.int .i64), none⟩), (91, ⟨.agg [.agg [.ints .u64 32 (fun _ => 0), .int .u64 0, .int .i64 0, .bool false, .ints .u64 29 (fun _ => 0), .int .u64 0], .int .u64 0, .agg [.int .u64 0, .int .u64 0, .int .u64 0, .bool false], .bool false], 71, 568, .st [(0, 65, true), (65, 1, false), (66, 4, true), (70, 1, false)], some (.st [(0, 65, true, .st [(0, 32, true, .ar 32 1 (.it .u64)), (32, 1, false, .it .u64), (33, 1, false, .it .i64), (34, 1, false, .bl), (35, 29, true, .ar 29 1 (.it .u64)), (64, 1, false, .it .u64)]), (65, 1, false, .it .u64), (66, 4, true, .st [(0, 1, false, .it .u64), (1, 1, false, .it .u64), (2, 1, false, .it .u64), (3, 1, false, .bl)]), (70, 1, false, .bl)])⟩)]
theorem PT_z3t : Prg Tryz.prog PT_z5 := ⟨(.cons pe_3 (.cons pe_4 (.cons pe_22 (.cons pe_27 (.cons pe_30 (.cons pe_32 (.cons pe_36 (.cons pe_38 (.cons pe_40 (.cons pe_85 (.cons pe_91 (TEok.nil _)))))))))))), by kernel_rfl⟩
noncomputable abbrev PO_z5 {α : Type} (F_z29 : Sg_z29 α) (F_z1x : Sg_z1x α) (F_zr : Sg_zr α) (F_z1l : Sg_z1l α) (F_z2v : Sg_z2v α) : ORC α := [(28, .pure (ad_z29 F_z29)), (18, .pure (ad_z1x F_z1x)), (29, .pure (ad_zr F_zr)), (30, .full (ad_z1l F_z1l)), (31, .pure (ad_z2v F_z2v))]
set_option maxRecDepth 100000 in
theorem ok_z5 {α : Type} (F_z29 : Sg_z29 α) (F_z1x : Sg_z1x α) (F_zr : Sg_zr α) (F_z1l : Sg_z1l α) (F_z2v : Sg_z2v α) (x0 : GBus) (x1 : GState) (x2 : Int) (k : GBus → GState → GRetire → R α) : bodyL PT_z5 (PO_z5 F_z29 F_z1x F_zr F_z1l F_z2v) [] ⟨1, []⟩ Tryz.f12 (E_z5.encs (x0, x1, x2, ()) (fun i => i) 0) (hp (E_z5.objss (x0, x1, x2, ()) (fun i => i) 0)) (dRo M_z5 Q_z5 false (selN (E_z5.encs (x0, x1, x2, ()) (fun i => i) 0) [0]) (fun y z => k y.1 z.1 z.2.1)) = p_z5 F_z29 F_z1x F_zr F_z1l F_z2v x0 x1 x2 k := by kernel_rfl
theorem mk_z5 {α : Type} {I : Imm} {F_z29 : Sg_z29 α} {F_z1x : Sg_z1x α} {F_zr : Sg_zr α} {F_z1l : Sg_z1l α} {F_z2v : Sg_z2v α} (h_z29 : OrcOk (α := α) Tryz.prog I 28 (.pure (ad_z29 F_z29))) (h_z1x : OrcOk (α := α) Tryz.prog I 18 (.pure (ad_z1x F_z1x))) (h_zr : OrcOk (α := α) Tryz.prog I 29 (.pure (ad_zr F_zr))) (h_z1l : OrcOk (α := α) Tryz.prog I 30 (.full (ad_z1l F_z1l))) (h_z2v : OrcOk (α := α) Tryz.prog I 31 (.pure (ad_z2v F_z2v))) {F : Sg_z5 α} (hF : ∀ x0 x1 x2 k r, F x0 x1 x2 k = some r → p_z5 F_z29 F_z1x F_zr F_z1l F_z2v x0 x1 x2 k = some r) : OrcOk (α := α) Tryz.prog I 12 (.full (ad_z5 F)) :=
  orc_obj PT_z3t (O := PO_z5 F_z29 F_z1x F_zr F_z1l F_z2v) (OOk.cons h_z29 (OOk.cons h_z1x (OOk.cons h_zr (OOk.cons h_z1l (OOk.cons h_z2v (OOk.nil)))))) (L := []) ⟨1, []⟩ Tryz.func12 (by kernel_rfl) (by kernel_rfl) (by kernel_rfl) FLOk.nil E_z3t M_z3t Q_z3t rfl (oi := [0]) fun ⟨x0, x1, x2, ()⟩ k r h => (ok_z5 F_z29 F_z1x F_zr F_z1l F_z2v x0 x1 x2 (fun y0 z0 z1 => k (y0, ()) (z0, z1, ()))).trans (hF x0 x1 x2 _ r h)
abbrev PT_zd : TE := [(3, ⟨.int .i64 0, 1, 8, .sc (.int .i64), none⟩), (55, ⟨.nils, 1, 24, .sc (.slice 3), none⟩)]
theorem PT_zbh : Prg Tryz.prog PT_zd := ⟨(.cons pe_3 (.cons pe_55 (TEok.nil _))), by kernel_rfl⟩
theorem pe_31 : TyOk Tryz.prog 31 ⟨.int .u64 0, 1, 8, .sc (.int .u64), none⟩ := ⟨fun _ => by kernel_rfl, ⟨rfl, rfl, fun _ _ => by simp [Wf, Wfs]⟩, ⟨Tryz.underlying31, rfl⟩, fun _ h => by cases h⟩
abbrev PT_ref8_bits : TE := [(3, ⟨.int .i64 0, 1, 8, .sc (.int .i64), none⟩), (22, ⟨.int .u64 0, 1, 8, .sc (.int .u64), none⟩), (31, ⟨.int .u64 0, 1, 8, .sc (.int .u64), none⟩), (55, ⟨.nils, 1, 24, .sc (.slice 3), none⟩)]
theorem PT_ref8_bits_ok : Prg Tryz.prog PT_ref8_bits := ⟨(.cons pe_3 (.cons pe_22 (.cons pe_31 (.cons pe_55 (TEok.nil _))))), by kernel_rfl⟩
noncomputable abbrev B_z7q {α : Type}  : FF α := byBody PT_ref8_bits [] ⟨18, []⟩ Tryz.f83
theorem cB_z7q {α : Type} {I : Imm}  : OrcOk (α := α) Tryz.prog I 83 (.full (B_z7q )) := orc_body PT_ref8_bits_ok (OOk.nil) ⟨18, []⟩ Tryz.func83 (by kernel_rfl) (by kernel_rfl) (by kernel_rfl)
noncomputable abbrev PO_zd {α : Type}  : ORC α := [(83, .full (B_z7q ))]
set_option maxRecDepth 100000 in
theorem ok_zd {α : Type}  (x0 : Int) (k : Int → R α) : bodyL PT_zd (PO_zd ) [] ⟨18, []⟩ Tryz.f32 [(.int .i64 x0)] emp (fun v _ => dR_ref8_Mask v k) = p_zd  x0 k := by kernel_rfl
theorem mk_zd {α : Type} {I : Imm}  : OrcOk (α := α) Tryz.prog I 32 (.pure (ad_zd (p_zd ))) := by
  refine orc_pureK PT_zbh (O := PO_zd ) (OOk.cons (cB_z7q ) (OOk.nil)) (L := []) ⟨18, []⟩ Tryz.func32 (by kernel_rfl) (by kernel_rfl) (by kernel_rfl) FLOk.nil ?_
  intro args k r hk
  unfold ad_zd at hk
  split at hk <;> try (cases hk; done)
  obtain ⟨x0, rfl, hk0⟩ := decI_spec hk
  have hkz := hk0
  refine ⟨by simp [Ids, Idss], fun v => dR_ref8_Mask v (fun r0 => k (.int .u64 r0)), ?_, fun v hv => ?_⟩
  · rw [ok_zd]; exact hkz
  · obtain ⟨r0, rfl, hv1⟩ := dR_ref8_Mask_spec hv; exact ⟨hv1, by simp [Ids, Idss]⟩
abbrev PT_z1w : TE := [(22, ⟨.int .u64 0, 1, 8, .sc (.int .u64), none⟩)]
theorem PT_zbi : Prg Tryz.prog PT_z1w := ⟨(.cons pe_22 (TEok.nil _)), by kernel_rfl⟩
noncomputable abbrev PO_z1w {α : Type}  : ORC α := []
set_option maxRecDepth 100000 in
theorem ok_z1w {α : Type}  (x0 : Int) (k : Int → R α) : bodyL PT_z1w (PO_z1w ) [] ⟨1, []⟩ Tryz.f33 [(.int .u64 x0)] emp (fun v _ => dR_ref8_Mpp v k) = p_z1w  x0 k := by kernel_rfl
theorem mk_z1w {α : Type} {I : Imm}  : OrcOk (α := α) Tryz.prog I 33 (.pure (ad_z1w (p_z1w ))) := by
  refine orc_pureK PT_zbi (O := PO_z1w ) (OOk.nil) (L := []) ⟨1, []⟩ Tryz.func33 (by kernel_rfl) (by kernel_rfl) (by kernel_rfl) FLOk.nil ?_
  intro args k r hk
  unfold ad_z1w at hk
  split at hk <;> try (cases hk; done)
  obtain ⟨x0, rfl, hk0⟩ := decI_spec hk
  have hkz := hk0
  refine ⟨by simp [Ids, Idss], fun v => dR_ref8_Mpp v (fun r0 => k (.int .u64 r0)), ?_, fun v hv => ?_⟩
  · rw [ok_z1w]; exact hkz
  · obtain ⟨r0, rfl, hv1⟩ := dR_ref8_Mpp_spec hv; exact ⟨hv1, by simp [Ids, Idss]⟩
abbrev PT_z2u : TE := [(3, ⟨.int .i64 0, 1, 8, .sc (.int .i64), none⟩), (4, ⟨.bool false, 1, 1, .sc (.bool), none⟩), (22, ⟨.int .u64 0, 1, 8, .sc (.int .u64), none⟩), (27, ⟨.ints .u64 32 (fun _ => 0), 32, 256, .ar 32 22 1 false, some (.ar 32 1 (.it .u64))⟩), (28, ⟨.ints .u64 29 (fun _ => 0), 29, 232, .ar 29 22 1 false, some (.ar 29 1 (.it .u64))⟩), (30, ⟨.agg [.ints .u64 32 (fun _ => 0), .int .u64 0, .int .i64 0, .bool false, .ints .u64 29 (fun _ => 0), .int .u64 0], 65, 520, .st [(0, 32, true), (32, 1, false), (33, 1, false), (34, 1, false), (35, 29, true), (64, 1, false)], some (.st [(0, 32, true, .ar 32 1 (.it .u64)), (32, 1, false, .it .u64), (33, 1, false, .it .i64), (34, 1, false, .bl), (35, 29, true, .ar 29 1 (.it .u64)), (64, 1, false, .it .u64)])⟩)]
theorem PT_zbj : Prg Tryz.prog PT_z2u := ⟨(.cons pe_3 (.cons pe_4 (.cons pe_22 (.cons pe_27 (.cons pe_28 (.cons pe_30 (TEok.nil _))))))), by kernel_rfl⟩
noncomputable abbrev PO_z2u {α : Type} (F_zd : Sg_zd α) (F_z1w : Sg_z1w α) : ORC α := [(32, .pure (ad_zd F_zd)), (33, .pure (ad_z1w F_z1w))]
set_option maxRecDepth 100000 in
theorem ok_z2u {α : Type} (F_zd : Sg_zd α) (F_z1w : Sg_z1w α) (x0 : GState) (k : GState → R α) : bodyL PT_z2u (PO_z2u F_zd F_z1w) [] ⟨30, []⟩ Tryz.f13 [(GState.sv x0)] emp (fun v _ => dR_ref18_Clean v k) = p_z2u F_zd F_z1w x0 k := by kernel_rfl
theorem mk_z2u {α : Type} {I : Imm} {F_zd : Sg_zd α} {F_z1w : Sg_z1w α} (h_zd : OrcOk (α := α) Tryz.prog I 32 (.pure (ad_zd F_zd))) (h_z1w : OrcOk (α := α) Tryz.prog I 33 (.pure (ad_z1w F_z1w))) : OrcOk (α := α) Tryz.prog I 13 (.pure (ad_z2u (p_z2u F_zd F_z1w))) := by
  refine orc_pureK PT_zbj (O := PO_z2u F_zd F_z1w) (OOk.cons h_zd (OOk.cons h_z1w (OOk.nil))) (L := []) ⟨30, []⟩ Tryz.func13 (by kernel_rfl) (by kernel_rfl) (by kernel_rfl) FLOk.nil ?_
  intro args k r hk
  unfold ad_z2u at hk
  split at hk <;> try (cases hk; done)
  obtain ⟨x0, rfl, hk0⟩ := GState.dec_spec hk
  have hkz := hk0
  refine ⟨by simp [Ids, Idss], fun v => dR_ref18_Clean v (fun r0 => k (GState.sv r0)), ?_, fun v hv => ?_⟩
  · rw [ok_z2u]; exact hkz
  · obtain ⟨r0, rfl, hv1⟩ := dR_ref18_Clean_spec hv; exact ⟨hv1, by simp [Ids, Idss]⟩
abbrev PT_z1e : TE := [(3, ⟨.int .i64 0, 1, 8, .sc (.int .i64), none⟩)]
theorem PT_z98 : Prg Tryz.prog PT_z1e := ⟨(.cons pe_3 (TEok.nil _)), by kernel_rfl⟩
abbrev PT_ref3_Class : TE := [(3, ⟨.int .i64 0, 1, 8, .sc (.int .i64), none⟩)]
theorem PT_ref3_Class_ok : Prg Tryz.prog PT_ref3_Class := ⟨(.cons pe_3 (TEok.nil _)), by kernel_rfl⟩
noncomputable abbrev B_z7r {α : Type}  : FF α := byBody PT_ref3_Class [] ⟨1, []⟩ Tryz.f27
theorem cB_z7r {α : Type} {I : Imm}  : OrcOk (α := α) Tryz.prog I 27 (.full (B_z7r )) := orc_body PT_ref3_Class_ok (OOk.nil) ⟨1, []⟩ Tryz.func27 (by kernel_rfl) (by kernel_rfl) (by kernel_rfl)
noncomputable abbrev PO_z1e {α : Type}  : ORC α := [(27, .full (B_z7r ))]
set_option maxRecDepth 100000 in
theorem ok_z1e {α : Type}  (x0 : Int) (k : Bool → Bool → Bool → Bool → Bool → R α) : bodyL PT_z1e (PO_z1e ) [] ⟨1, []⟩ Tryz.f63 [(.int .i64 x0)] emp (fun v _ => dR_ref3_Parts v k) = p_z1e  x0 k := by kernel_rfl
theorem mk_z1e {α : Type} {I : Imm}  : OrcOk (α := α) Tryz.prog I 63 (.pure (ad_z1e (p_z1e ))) := by
  refine orc_pureK PT_z98 (O := PO_z1e ) (OOk.cons (cB_z7r ) (OOk.nil)) (L := []) ⟨1, []⟩ Tryz.func63 (by kernel_rfl) (by kernel_rfl) (by kernel_rfl) FLOk.nil ?_
  intro args k r hk
  unfold ad_z1e at hk
  split at hk <;> try (cases hk; done)
  obtain ⟨x0, rfl, hk0⟩ := decI_spec hk
  have hkz := hk0
  refine ⟨by simp [Ids, Idss], fun v => dR_ref3_Parts v (fun r0 r1 r2 r3 r4 => k (.tuple [(.bool r0), (.bool r1), (.bool r2), (.bool r3), (.bool r4)])), ?_, fun v hv => ?_⟩
  · rw [ok_z1e]; exact hkz
  · obtain ⟨r0, r1, r2, r3, r4, rfl, hv1⟩ := dR_ref3_Parts_spec hv; exact ⟨hv1, by simp [Ids, Idss]⟩
abbrev PT_z18 : TE := [(3, ⟨.int .i64 0, 1, 8, .sc (.int .i64), none⟩)]
theorem PT_z99 : Prg Tryz.prog PT_z18 := ⟨(.cons pe_3 (TEok.nil _)), by kernel_rfl⟩
noncomputable abbrev PO_z18 {α : Type}  : ORC α := []
set_option maxRecDepth 100000 in
theorem ok_z18 {α : Type}  (x0 : Int) (x1 : Bool) (k : Bool → R α) : bodyL PT_z18 (PO_z18 ) [] ⟨1, []⟩ Tryz.f64 [(.int .i64 x0), (.bool x1)] emp (fun v _ => dR_ref3_reg v k) = p_z18  x0 x1 k := by kernel_rfl
theorem mk_z18 {α : Type} {I : Imm}  : OrcOk (α := α) Tryz.prog I 64 (.pure (ad_z18 (p_z18 ))) := by
  refine orc_pureK PT_z99 (O := PO_z18 ) (OOk.nil) (L := []) ⟨1, []⟩ Tryz.func64 (by kernel_rfl) (by kernel_rfl) (by kernel_rfl) FLOk.nil ?_
  intro args k r hk
  unfold ad_z18 at hk
  split at hk <;> try (cases hk; done)
  obtain ⟨x0, rfl, hk0⟩ := decI_spec hk
  obtain ⟨x1, rfl, hk1⟩ := decB_spec hk0
  have hkz := hk1
  refine ⟨by simp [Ids, Idss], fun v => dR_ref3_reg v (fun r0 => k (.bool r0)), ?_, fun v hv => ?_⟩
  · rw [ok_z18]; exact hkz
  · obtain ⟨r0, rfl, hv1⟩ := dR_ref3_reg_spec hv; exact ⟨hv1, by simp [Ids, Idss]⟩
abbrev PT_zm : TE := [(2, ⟨.int .i64 0, 1, 8, .sc (.int .i64), none⟩)]
theorem PT_z9a : Prg Tryz.prog PT_zm := ⟨(.cons pe_2 (TEok.nil _)), by kernel_rfl⟩
noncomputable abbrev PO_zm {α : Type}  : ORC α := []
set_option maxRecDepth 100000 in
theorem ok_zm {α : Type}  (x0 : Int) (x1 : Int) (x2 : Int) (x3 : Int) (k : Bool → R α) : bodyL PT_zm (PO_zm ) [] ⟨1, []⟩ Tryz.f116 [(.int .i64 x0), (.int .i64 x1), (.int .i64 x2), (.int .i64 x3)] emp (fun v _ => dR_ref3_within v k) = p_zm  x0 x1 x2 x3 k := by kernel_rfl
theorem mk_zm {α : Type} {I : Imm}  : OrcOk (α := α) Tryz.prog I 116 (.pure (ad_zm (p_zm ))) := by
  refine orc_pureK PT_z9a (O := PO_zm ) (OOk.nil) (L := []) ⟨1, []⟩ Tryz.func116 (by kernel_rfl) (by kernel_rfl) (by kernel_rfl) FLOk.nil ?_
  intro args k r hk
  unfold ad_zm at hk
  split at hk <;> try (cases hk; done)
  obtain ⟨x0, rfl, hk0⟩ := decI_spec hk
  obtain ⟨x1, rfl, hk1⟩ := decI_spec hk0
  obtain ⟨x2, rfl, hk2⟩ := decI_spec hk1
  obtain ⟨x3, rfl, hk3⟩ := decI_spec hk2
  have hkz := hk3
  refine ⟨by simp [Ids, Idss], fun v => dR_ref3_within v (fun r0 => k (.bool r0)), ?_, fun v hv => ?_⟩
  · rw [ok_zm]; exact hkz
  · obtain ⟨r0, rfl, hv1⟩ := dR_ref3_within_spec hv; exact ⟨hv1, by simp [Ids, Idss]⟩
abbrev PT_z1a : TE := [(2, ⟨.int .i64 0, 1, 8, .sc (.int .i64), none⟩), (3, ⟨.int .i64 0, 1, 8, .sc (.int .i64), none⟩), (36, ⟨.agg [.int .i64 0, .int .i64 0, .int .i64 0, .int .i64 0, .int .i64 0, .int .i64 0], 6, 48, .st [(0, 1, false), (1, 1, false), (2, 1, false), (3, 1, false), (4, 1, false), (5, 1, false)], some (.st [(0, 1, false, .it .i64), (1, 1, false, .it .i64), (2, 1, false, .it .i64), (3, 1, false, .it .i64), (4, 1, false, .it .i64), (5, 1, false, .it .i64)])⟩)]
theorem PT_z9b : Prg Tryz.prog PT_z1a := ⟨(.cons pe_2 (.cons pe_3 (.cons pe_36 (TEok.nil _)))), by kernel_rfl⟩
noncomputable abbrev B_z7s {α : Type} (F_zm : Sg_zm α) : FF α := byBody PT_ref3_Class [] ⟨1, []⟩ Tryz.f27
theorem cB_z7s {α : Type} {I : Imm} {F_zm : Sg_zm α} (h_zm : OrcOk (α := α) Tryz.prog I 116 (.pure (ad_zm F_zm))) : OrcOk (α := α) Tryz.prog I 27 (.full (B_z7s F_zm)) := orc_body PT_ref3_Class_ok (OOk.nil) ⟨1, []⟩ Tryz.func27 (by kernel_rfl) (by kernel_rfl) (by kernel_rfl)
noncomputable abbrev PO_z1a {α : Type} (F_zm : Sg_zm α) : ORC α := [(116, .pure (ad_zm F_zm)), (27, .full (B_z7s F_zm))]
set_option maxRecDepth 100000 in
theorem ok_z1a {α : Type} (F_zm : Sg_zm α) (x0 : GInsn) (k : Bool → R α) : bodyL PT_z1a (PO_z1a F_zm) [] ⟨1, []⟩ Tryz.f65 [(GInsn.sv x0)] emp (fun v _ => dR_ref3_number v k) = p_z1a F_zm x0 k := by kernel_rfl
theorem mk_z1a {α : Type} {I : Imm} {F_zm : Sg_zm α} (h_zm : OrcOk (α := α) Tryz.prog I 116 (.pure (ad_zm F_zm))) : OrcOk (α := α) Tryz.prog I 65 (.pure (ad_z1a (p_z1a F_zm))) := by
  refine orc_pureK PT_z9b (O := PO_z1a F_zm) (OOk.cons h_zm (OOk.cons (cB_z7s h_zm) (OOk.nil))) (L := []) ⟨1, []⟩ Tryz.func65 (by kernel_rfl) (by kernel_rfl) (by kernel_rfl) FLOk.nil ?_
  intro args k r hk
  unfold ad_z1a at hk
  split at hk <;> try (cases hk; done)
  obtain ⟨x0, rfl, hk0⟩ := GInsn.dec_spec hk
  have hkz := hk0
  refine ⟨by simp [Ids, Idss], fun v => dR_ref3_number v (fun r0 => k (.bool r0)), ?_, fun v hv => ?_⟩
  · rw [ok_z1a]; exact hkz
  · obtain ⟨r0, rfl, hv1⟩ := dR_ref3_number_spec hv; exact ⟨hv1, by simp [Ids, Idss]⟩
abbrev PT_z1t : TE := [(2, ⟨.int .i64 0, 1, 8, .sc (.int .i64), none⟩), (3, ⟨.int .i64 0, 1, 8, .sc (.int .i64), none⟩), (36, ⟨.agg [.int .i64 0, .int .i64 0, .int .i64 0, .int .i64 0, .int .i64 0, .int .i64 0], 6, 48, .st [(0, 1, false), (1, 1, false), (2, 1, false), (3, 1, false), (4, 1, false), (5, 1, false)], some (.st [(0, 1, false, .it .i64), (1, 1, false, .it .i64), (2, 1, false, .it .i64), (3, 1, false, .it .i64), (4, 1, false, .it .i64), (5, 1, false, .it .i64)])⟩)]
theorem PT_z9c : Prg Tryz.prog PT_z1t := ⟨(.cons pe_2 (.cons pe_3 (.cons pe_36 (TEok.nil _)))), by kernel_rfl⟩
noncomputable abbrev B_z7t {α : Type} (F_z1e : Sg_z1e α) (F_z18 : Sg_z18 α) (F_z1a : Sg_z1a α) : FF α := byBody PT_ref3_Class [] ⟨1, []⟩ Tryz.f27
theorem cB_z7t {α : Type} {I : Imm} {F_z1e : Sg_z1e α} {F_z18 : Sg_z18 α} {F_z1a : Sg_z1a α} (h_z1e : OrcOk (α := α) Tryz.prog I 63 (.pure (ad_z1e F_z1e))) (h_z18 : OrcOk (α := α) Tryz.prog I 64 (.pure (ad_z18 F_z18))) (h_z1a : OrcOk (α := α) Tryz.prog I 65 (.pure (ad_z1a F_z1a))) : OrcOk (α := α) Tryz.prog I 27 (.full (B_z7t F_z1e F_z18 F_z1a)) := orc_body PT_ref3_Class_ok (OOk.nil) ⟨1, []⟩ Tryz.func27 (by kernel_rfl) (by kernel_rfl) (by kernel_rfl)
noncomputable abbrev PO_z1t {α : Type} (F_z1e : Sg_z1e α) (F_z18 : Sg_z18 α) (F_z1a : Sg_z1a α) : ORC α := [(27, .full (B_z7t F_z1e F_z18 F_z1a)), (63, .pure (ad_z1e F_z1e)), (64, .pure (ad_z18 F_z18)), (65, .pure (ad_z1a F_z1a))]
set_option maxRecDepth 100000 in
theorem ok_z1t {α : Type} (F_z1e : Sg_z1e α) (F_z18 : Sg_z18 α) (F_z1a : Sg_z1a α) (x0 : GInsn) (k : Bool → R α) : bodyL PT_z1t (PO_z1t F_z1e F_z18 F_z1a) [] ⟨1, []⟩ Tryz.f24 [(GInsn.sv x0)] emp (fun v _ => dR_ref3_Is v k) = p_z1t F_z1e F_z18 F_z1a x0 k := by kernel_rfl
theorem mk_z1t {α : Type} {I : Imm} {F_z1e : Sg_z1e α} {F_z18 : Sg_z18 α} {F_z1a : Sg_z1a α} (h_z1e : OrcOk (α := α) Tryz.prog I 63 (.pure (ad_z1e F_z1e))) (h_z18 : OrcOk (α := α) Tryz.prog I 64 (.pure (ad_z18 F_z18))) (h_z1a : OrcOk (α := α) Tryz.prog I 65 (.pure (ad_z1a F_z1a))) : OrcOk (α := α) Tryz.prog I 24 (.pure (ad_z1t (p_z1t F_z1e F_z18 F_z1a))) := by
  refine orc_pureK PT_z9c (O := PO_z1t F_z1e F_z18 F_z1a) (OOk.cons (cB_z7t h_z1e h_z18 h_z1a) (OOk.cons h_z1e (OOk.cons h_z18 (OOk.cons h_z1a (OOk.nil))))) (L := []) ⟨1, []⟩ Tryz.func24 (by kernel_rfl) (by kernel_rfl) (by kernel_rfl) FLOk.nil ?_
  intro args k r hk
  unfold ad_z1t at hk
  split at hk <;> try (cases hk; done)
  obtain ⟨x0, rfl, hk0⟩ := GInsn.dec_spec hk
  have hkz := hk0
  refine ⟨by simp [Ids, Idss], fun v => dR_ref3_Is v (fun r0 => k (.bool r0)), ?_, fun v hv => ?_⟩
  · rw [ok_z1t]; exact hkz
  · obtain ⟨r0, rfl, hv1⟩ := dR_ref3_Is_spec hv; exact ⟨hv1, by simp [Ids, Idss]⟩
abbrev PT_z1r : TE := [(3, ⟨.int .i64 0, 1, 8, .sc (.int .i64), none⟩)]
theorem PT_z9d : Prg Tryz.prog PT_z1r := ⟨(.cons pe_3 (TEok.nil _)), by kernel_rfl⟩
noncomputable abbrev PO_z1r {α : Type}  : ORC α := []
set_option maxRecDepth 100000 in
theorem ok_z1r {α : Type}  (x0 : Int) (k : Int → R α) : bodyL PT_z1r (PO_z1r ) [] ⟨1, []⟩ Tryz.f25 [(.int .i64 x0)] emp (fun v _ => dR_ref3_fixed v k) = p_z1r  x0 k := by kernel_rfl
theorem mk_z1r {α : Type} {I : Imm}  : OrcOk (α := α) Tryz.prog I 25 (.pure (ad_z1r (p_z1r ))) := by
  refine orc_pureK PT_z9d (O := PO_z1r ) (OOk.nil) (L := []) ⟨1, []⟩ Tryz.func25 (by kernel_rfl) (by kernel_rfl) (by kernel_rfl) FLOk.nil ?_
  intro args k r hk
  unfold ad_z1r at hk
  split at hk <;> try (cases hk; done)
  obtain ⟨x0, rfl, hk0⟩ := decI_spec hk
  have hkz := hk0
  refine ⟨by simp [Ids, Idss], fun v => dR_ref3_fixed v (fun r0 => k (.int .u32 r0)), ?_, fun v hv => ?_⟩
  · rw [ok_z1r]; exact hkz
  · obtain ⟨r0, rfl, hv1⟩ := dR_ref3_fixed_spec hv; exact ⟨hv1, by simp [Ids, Idss]⟩
theorem pe_127 : TyOk Tryz.prog 127 ⟨.ints .u32 6 (fun _ => 0), 6, 24, .ar 6 32 1 false, some (.ar 6 1 (.it .u32))⟩ := ⟨fun _ => by kernel_rfl, ⟨rfl, rfl, fun _ _ => by simp [Wf, Wfs]⟩, ⟨Tryz.underlying127, by kernel_rfl, by kernel_rfl⟩, fun _ h => by cases h; exact ⟨by kernel_rfl, by kernel_rfl⟩⟩
theorem pe_128 : TyOk Tryz.prog 128 ⟨.ints .u32 2 (fun _ => 0), 2, 8, .ar 2 32 1 false, some (.ar 2 1 (.it .u32))⟩ := ⟨fun _ => by kernel_rfl, ⟨rfl, rfl, fun _ _ => by simp [Wf, Wfs]⟩, ⟨Tryz.underlying128, by kernel_rfl, by kernel_rfl⟩, fun _ h => by cases h; exact ⟨by kernel_rfl, by kernel_rfl⟩⟩
theorem pe_129 : TyOk Tryz.prog 129 ⟨.arr 2 3 (fun _ => .ints .u32 2 (fun _ => 0)), 6, 24, .ar 3 128 2 true, none⟩ := ⟨fun _ => by kernel_rfl, ⟨rfl, rfl, fun _ _ => by simp [Wf, Wfs]⟩, ⟨Tryz.underlying129, by kernel_rfl, by kernel_rfl⟩, fun _ h => by cases h⟩
theorem pe_130 : TyOk Tryz.prog 130 ⟨.arr 2 4 (fun _ => .ints .u32 2 (fun _ => 0)), 8, 32, .ar 4 128 2 true, none⟩ := ⟨fun _ => by kernel_rfl, ⟨rfl, rfl, fun _ _ => by simp [Wf, Wfs]⟩, ⟨Tryz.underlying130, by kernel_rfl, by kernel_rfl⟩, fun _ h => by cases h⟩
theorem pe_131 : TyOk Tryz.prog 131 ⟨.arr 2 10 (fun _ => .ints .u32 2 (fun _ => 0)), 20, 80, .ar 10 128 2 true, none⟩ := ⟨fun _ => by kernel_rfl, ⟨rfl, rfl, fun _ _ => by simp [Wf, Wfs]⟩, ⟨Tryz.underlying131, by kernel_rfl, by kernel_rfl⟩, fun _ h => by cases h⟩
theorem pe_132 : TyOk Tryz.prog 132 ⟨.arr 2 5 (fun _ => .ints .u32 2 (fun _ => 0)), 10, 40, .ar 5 128 2 true, none⟩ := ⟨fun _ => by kernel_rfl, ⟨rfl, rfl, fun _ _ => by simp [Wf, Wfs]⟩, ⟨Tryz.underlying132, by kernel_rfl, by kernel_rfl⟩, fun _ h => by cases h⟩
theorem pe_133 : TyOk Tryz.prog 133 ⟨.ints .u32 3 (fun _ => 0), 3, 12, .ar 3 32 1 false, some (.ar 3 1 (.it .u32))⟩ := ⟨fun _ => by kernel_rfl, ⟨rfl, rfl, fun _ _ => by simp [Wf, Wfs]⟩, ⟨Tryz.underlying133, by kernel_rfl, by kernel_rfl⟩, fun _ h => by cases h; exact ⟨by kernel_rfl, by kernel_rfl⟩⟩
abbrev PT_z7 : TE := [(3, ⟨.int .i64 0, 1, 8, .sc (.int .i64), none⟩), (32, ⟨.int .u32 0, 1, 4, .sc (.int .u32), none⟩), (127, ⟨.ints .u32 6 (fun _ => 0), 6, 24, .ar 6 32 1 false, some (.ar 6 1 (.it .u32))⟩), (128, ⟨.ints .u32 2 (fun _ => 0), 2, 8, .ar 2 32 1 false, some (.ar 2 1 (.it .u32))⟩), (129, ⟨.arr 2 3 (fun _ => .ints .u32 2 (fun _ => 0)), 6, 24, .ar 3 128 2 true, none⟩), (130, ⟨.arr 2 4 (fun _ => .ints .u32 2 (fun _ => 0)), 8, 32, .ar 4 128 2 true, none⟩), (131, ⟨.arr 2 10 (fun _ => .ints .u32 2 (fun _ => 0)), 20, 80, .ar 10 128 2 true, none⟩), (132, ⟨.arr 2 5 (fun _ => .ints .u32 2 (fun _ => 0)), 10, 40, .ar 5 128 2 true, none⟩), (133, ⟨.ints .u32 3 (fun _ => 0), 3, 12, .ar 3 32 1 false, some (.ar 3 1 (.it .u32))⟩)]
theorem PT_z9e : Prg Tryz.prog PT_z7 := ⟨(.cons pe_3 (.cons pe_32 (.cons pe_127 (.cons pe_128 (.cons pe_129 (.cons pe_130 (.cons pe_131 (.cons pe_132 (.cons pe_133 (TEok.nil _)))))))))), by kernel_rfl⟩
noncomputable abbrev B_z7u {α : Type}  : FF α := byBody PT_ref3_Class [] ⟨1, []⟩ Tryz.f27
theorem cB_z7u {α : Type} {I : Imm}  : OrcOk (α := α) Tryz.prog I 27 (.full (B_z7u )) := orc_body PT_ref3_Class_ok (OOk.nil) ⟨1, []⟩ Tryz.func27 (by kernel_rfl) (by kernel_rfl) (by kernel_rfl)
noncomputable abbrev PO_z7 {α : Type}  : ORC α := [(27, .full (B_z7u ))]
set_option maxRecDepth 100000 in
theorem ok_z5c {α : Type}    (k : Int → Int → Int → R α) : bodyL PT_z7 (PO_z7 ) [] ⟨1, []⟩ Tryz.f26 [(.int .i64 1)] emp (fun v _ => dR_ref3_Code v k) = p_z5c   k := by kernel_rfl
set_option maxRecDepth 100000 in
theorem ok_z5d {α : Type}    (k : Int → Int → Int → R α) : bodyL PT_z7 (PO_z7 ) [] ⟨1, []⟩ Tryz.f26 [(.int .i64 2)] emp (fun v _ => dR_ref3_Code v k) = p_z5d   k := by kernel_rfl
set_option maxRecDepth 100000 in
theorem ok_z5e {α : Type}    (k : Int → Int → Int → R α) : bodyL PT_z7 (PO_z7 ) [] ⟨1, []⟩ Tryz.f26 [(.int .i64 3)] emp (fun v _ => dR_ref3_Code v k) = p_z5e   k := by kernel_rfl
set_option maxRecDepth 100000 in
theorem ok_z5f {α : Type}    (k : Int → Int → Int → R α) : bodyL PT_z7 (PO_z7 ) [] ⟨1, []⟩ Tryz.f26 [(.int .i64 4)] emp (fun v _ => dR_ref3_Code v k) = p_z5f   k := by kernel_rfl
set_option maxRecDepth 100000 in
theorem ok_z5g {α : Type}    (k : Int → Int → Int → R α) : bodyL PT_z7 (PO_z7 ) [] ⟨1, []⟩ Tryz.f26 [(.int .i64 5)] emp (fun v _ => dR_ref3_Code v k) = p_z5g   k := by kernel_rfl
set_option maxRecDepth 100000 in
theorem ok_z5h {α : Type}    (k : Int → Int → Int → R α) : bodyL PT_z7 (PO_z7 ) [] ⟨1, []⟩ Tryz.f26 [(.int .i64 6)] emp (fun v _ => dR_ref3_Code v k) = p_z5h   k := by kernel_rfl
set_option maxRecDepth 100000 in
theorem ok_z5i {α : Type}    (k : Int → Int → Int → R α) : bodyL PT_z7 (PO_z7 ) [] ⟨1, []⟩ Tryz.f26 [(.int .i64 7)] emp (fun v _ => dR_ref3_Code v k) = p_z5i   k := by kernel_rfl
set_option maxRecDepth 100000 in
theorem ok_z5j {α : Type}    (k : Int → Int → Int → R α) : bodyL PT_z7 (PO_z7 ) [] ⟨1, []⟩ Tryz.f26 [(.int .i64 8)] emp (fun v _ => dR_ref3_Code v k) = p_z5j   k := by kernel_rfl
set_option maxRecDepth 100000 in
theorem ok_z5k {α : Type}    (k : Int → Int → Int → R α) : bodyL PT_z7 (PO_z7 ) [] ⟨1, []⟩ Tryz.f26 [(.int .i64 9)] emp (fun v _ => dR_ref3_Code v k) = p_z5k   k := by kernel_rfl
set_option maxRecDepth 100000 in
theorem ok_z5l {α : Type}    (k : Int → Int → Int → R α) : bodyL PT_z7 (PO_z7 ) [] ⟨1, []⟩ Tryz.f26 [(.int .i64 10)] emp (fun v _ => dR_ref3_Code v k) = p_z5l   k := by kernel_rfl
set_option maxRecDepth 100000 in
theorem ok_z5m {α : Type}    (k : Int → Int → Int → R α) : bodyL PT_z7 (PO_z7 ) [] ⟨1, []⟩ Tryz.f26 [(.int .i64 11)] emp (fun v _ => dR_ref3_Code v k) = p_z5m   k := by kernel_rfl
set_option maxRecDepth 100000 in
theorem ok_z5n {α : Type}    (k : Int → Int → Int → R α) : bodyL PT_z7 (PO_z7 ) [] ⟨1, []⟩ Tryz.f26 [(.int .i64 12)] emp (fun v _ => dR_ref3_Code v k) = p_z5n   k := by kernel_rfl
set_option maxRecDepth 100000 in
theorem ok_z5o {α : Type}    (k : Int → Int → Int → R α) : bodyL PT_z7 (PO_z7 ) [] ⟨1, []⟩ Tryz.f26 [(.int .i64 13)] emp (fun v _ => dR_ref3_Code v k) = p_z5o   k := by kernel_rfl
set_option maxRecDepth 100000 in
theorem ok_z5p {α : Type}    (k : Int → Int → Int → R α) : bodyL PT_z7 (PO_z7 ) [] ⟨1, []⟩ Tryz.f26 [(.int .i64 14)] emp (fun v _ => dR_ref3_Code v k) = p_z5p   k := by kernel_rfl
set_option maxRecDepth 100000 in
theorem ok_z5q {α : Type}    (k : Int → Int → Int → R α) : bodyL PT_z7 (PO_z7 ) [] ⟨1, []⟩ Tryz.f26 [(.int .i64 15)] emp (fun v _ => dR_ref3_Code v k) = p_z5q   k := by kernel_rfl
set_option maxRecDepth 100000 in
theorem ok_z5r {α : Type}    (k : Int → Int → Int → R α) : bodyL PT_z7 (PO_z7 ) [] ⟨1, []⟩ Tryz.f26 [(.int .i64 16)] emp (fun v _ => dR_ref3_Code v k) = p_z5r   k := by kernel_rfl
set_option maxRecDepth 100000 in
theorem ok_z5s {α : Type}    (k : Int → Int → Int → R α) : bodyL PT_z7 (PO_z7 ) [] ⟨1, []⟩ Tryz.f26 [(.int .i64 17)] emp (fun v _ => dR_ref3_Code v k) = p_z5s   k := by kernel_rfl
set_option maxRecDepth 100000 in
theorem ok_z5t {α : Type}    (k : Int → Int → Int → R α) : bodyL PT_z7 (PO_z7 ) [] ⟨1, []⟩ Tryz.f26 [(.int .i64 18)] emp (fun v _ => dR_ref3_Code v k) = p_z5t   k := by kernel_rfl
set_option maxRecDepth 100000 in
theorem ok_z5u {α : Type}    (k : Int → Int → Int → R α) : bodyL PT_z7 (PO_z7 ) [] ⟨1, []⟩ Tryz.f26 [(.int .i64 19)] emp (fun v _ => dR_ref3_Code v k) = p_z5u   k := by kernel_rfl
set_option maxRecDepth 100000 in
theorem ok_z5v {α : Type}    (k : Int → Int → Int → R α) : bodyL PT_z7 (PO_z7 ) [] ⟨1, []⟩ Tryz.f26 [(.int .i64 20)] emp (fun v _ => dR_ref3_Code v k) = p_z5v   k := by kernel_rfl
set_option maxRecDepth 100000 in
theorem ok_z5w {α : Type}    (k : Int → Int → Int → R α) : bodyL PT_z7 (PO_z7 ) [] ⟨1, []⟩ Tryz.f26 [(.int .i64 21)] emp (fun v _ => dR_ref3_Code v k) = p_z5w   k := by kernel_rfl
set_option maxRecDepth 100000 in
theorem ok_z5x {α : Type}    (k : Int → Int → Int → R α) : bodyL PT_z7 (PO_z7 ) [] ⟨1, []⟩ Tryz.f26 [(.int .i64 22)] emp (fun v _ => dR_ref3_Code v k) = p_z5x   k := by kernel_rfl
set_option maxRecDepth 100000 in
theorem ok_z5y {α : Type}    (k : Int → Int → Int → R α) : bodyL PT_z7 (PO_z7 ) [] ⟨1, []⟩ Tryz.f26 [(.int .i64 23)] emp (fun v _ => dR_ref3_Code v k) = p_z5y   k := by kernel_rfl
set_option maxRecDepth 100000 in
theorem ok_z5z {α : Type}    (k : Int → Int → Int → R α) : bodyL PT_z7 (PO_z7 ) [] ⟨1, []⟩ Tryz.f26 [(.int .i64 24)] emp (fun v _ => dR_ref3_Code v k) = p_z5z   k := by kernel_rfl
set_option maxRecDepth 100000 in
theorem ok_z60 {α : Type}    (k : Int → Int → Int → R α) : bodyL PT_z7 (PO_z7 ) [] ⟨1, []⟩ Tryz.f26 [(.int .i64 25)] emp (fun v _ => dR_ref3_Code v k) = p_z60   k := by kernel_rfl
set_option maxRecDepth 100000 in
theorem ok_z61 {α : Type}    (k : Int → Int → Int → R α) : bodyL PT_z7 (PO_z7 ) [] ⟨1, []⟩ Tryz.f26 [(.int .i64 26)] emp (fun v _ => dR_ref3_Code v k) = p_z61   k := by kernel_rfl
set_option maxRecDepth 100000 in
theorem ok_z62 {α : Type}    (k : Int → Int → Int → R α) : bodyL PT_z7 (PO_z7 ) [] ⟨1, []⟩ Tryz.f26 [(.int .i64 27)] emp (fun v _ => dR_ref3_Code v k) = p_z62   k := by kernel_rfl
set_option maxRecDepth 100000 in
theorem ok_z63 {α : Type}    (k : Int → Int → Int → R α) : bodyL PT_z7 (PO_z7 ) [] ⟨1, []⟩ Tryz.f26 [(.int .i64 28)] emp (fun v _ => dR_ref3_Code v k) = p_z63   k := by kernel_rfl
set_option maxRecDepth 100000 in
theorem ok_z64 {α : Type}    (k : Int → Int → Int → R α) : bodyL PT_z7 (PO_z7 ) [] ⟨1, []⟩ Tryz.f26 [(.int .i64 29)] emp (fun v _ => dR_ref3_Code v k) = p_z64   k := by kernel_rfl
set_option maxRecDepth 100000 in
theorem ok_z65 {α : Type}    (k : Int → Int → Int → R α) : bodyL PT_z7 (PO_z7 ) [] ⟨1, []⟩ Tryz.f26 [(.int .i64 30)] emp (fun v _ => dR_ref3_Code v k) = p_z65   k := by kernel_rfl
set_option maxRecDepth 100000 in
theorem ok_z66 {α : Type}    (k : Int → Int → Int → R α) : bodyL PT_z7 (PO_z7 ) [] ⟨1, []⟩ Tryz.f26 [(.int .i64 31)] emp (fun v _ => dR_ref3_Code v k) = p_z66   k := by kernel_rfl
set_option maxRecDepth 100000 in
theorem ok_z67 {α : Type}    (k : Int → Int → Int → R α) : bodyL PT_z7 (PO_z7 ) [] ⟨1, []⟩ Tryz.f26 [(.int .i64 32)] emp (fun v _ => dR_ref3_Code v k) = p_z67   k := by kernel_rfl
set_option maxRecDepth 100000 in
theorem ok_z68 {α : Type}    (k : Int → Int → Int → R α) : bodyL PT_z7 (PO_z7 ) [] ⟨1, []⟩ Tryz.f26 [(.int .i64 33)] emp (fun v _ => dR_ref3_Code v k) = p_z68   k := by kernel_rfl
set_option maxRecDepth 100000 in
theorem ok_z69 {α : Type}    (k : Int → Int → Int → R α) : bodyL PT_z7 (PO_z7 ) [] ⟨1, []⟩ Tryz.f26 [(.int .i64 34)] emp (fun v _ => dR_ref3_Code v k) = p_z69   k := by kernel_rfl
set_option maxRecDepth 100000 in
theorem ok_z6a {α : Type}    (k : Int → Int → Int → R α) : bodyL PT_z7 (PO_z7 ) [] ⟨1, []⟩ Tryz.f26 [(.int .i64 35)] emp (fun v _ => dR_ref3_Code v k) = p_z6a   k := by kernel_rfl
set_option maxRecDepth 100000 in
theorem ok_z6b {α : Type}    (k : Int → Int → Int → R α) : bodyL PT_z7 (PO_z7 ) [] ⟨1, []⟩ Tryz.f26 [(.int .i64 36)] emp (fun v _ => dR_ref3_Code v k) = p_z6b   k := by kernel_rfl
set_option maxRecDepth 100000 in
theorem ok_z6c {α : Type}    (k : Int → Int → Int → R α) : bodyL PT_z7 (PO_z7 ) [] ⟨1, []⟩ Tryz.f26 [(.int .i64 37)] emp (fun v _ => dR_ref3_Code v k) = p_z6c   k := by kernel_rfl
set_option maxRecDepth 100000 in
theorem ok_z6d {α : Type}    (k : Int → Int → Int → R α) : bodyL PT_z7 (PO_z7 ) [] ⟨1, []⟩ Tryz.f26 [(.int .i64 38)] emp (fun v _ => dR_ref3_Code v k) = p_z6d   k := by kernel_rfl
set_option maxRecDepth 100000 in
theorem ok_z6e {α : Type}    (k : Int → Int → Int → R α) : bodyL PT_z7 (PO_z7 ) [] ⟨1, []⟩ Tryz.f26 [(.int .i64 39)] emp (fun v _ => dR_ref3_Code v k) = p_z6e   k := by kernel_rfl
set_option maxRecDepth 100000 in
theorem ok_z6f {α : Type}    (k : Int → Int → Int → R α) : bodyL PT_z7 (PO_z7 ) [] ⟨1, []⟩ Tryz.f26 [(.int .i64 40)] emp (fun v _ => dR_ref3_Code v k) = p_z6f   k := by kernel_rfl
set_option maxRecDepth 100000 in
theorem ok_z6g {α : Type}    (k : Int → Int → Int → R α) : bodyL PT_z7 (PO_z7 ) [] ⟨1, []⟩ Tryz.f26 [(.int .i64 41)] emp (fun v _ => dR_ref3_Code v k) = p_z6g   k := by kernel_rfl
set_option maxRecDepth 100000 in
theorem ok_z6h {α : Type}    (k : Int → Int → Int → R α) : bodyL PT_z7 (PO_z7 ) [] ⟨1, []⟩ Tryz.f26 [(.int .i64 42)] emp (fun v _ => dR_ref3_Code v k) = p_z6h   k := by kernel_rfl
set_option maxRecDepth 100000 in
theorem ok_z6i {α : Type}    (k : Int → Int → Int → R α) : bodyL PT_z7 (PO_z7 ) [] ⟨1, []⟩ Tryz.f26 [(.int .i64 43)] emp (fun v _ => dR_ref3_Code v k) = p_z6i   k := by kernel_rfl
set_option maxRecDepth 100000 in
theorem ok_z6j {α : Type}    (k : Int → Int → Int → R α) : bodyL PT_z7 (PO_z7 ) [] ⟨1, []⟩ Tryz.f26 [(.int .i64 44)] emp (fun v _ => dR_ref3_Code v k) = p_z6j   k := by kernel_rfl
set_option maxRecDepth 100000 in
theorem ok_z6k {α : Type}    (k : Int → Int → Int → R α) : bodyL PT_z7 (PO_z7 ) [] ⟨1, []⟩ Tryz.f26 [(.int .i64 45)] emp (fun v _ => dR_ref3_Code v k) = p_z6k   k := by kernel_rfl
set_option maxRecDepth 100000 in
theorem ok_z6l {α : Type}    (k : Int → Int → Int → R α) : bodyL PT_z7 (PO_z7 ) [] ⟨1, []⟩ Tryz.f26 [(.int .i64 46)] emp (fun v _ => dR_ref3_Code v k) = p_z6l   k := by kernel_rfl
set_option maxRecDepth 100000 in
theorem ok_z6m {α : Type}    (k : Int → Int → Int → R α) : bodyL PT_z7 (PO_z7 ) [] ⟨1, []⟩ Tryz.f26 [(.int .i64 47)] emp (fun v _ => dR_ref3_Code v k) = p_z6m   k := by kernel_rfl
set_option maxRecDepth 100000 in
theorem ok_z6n {α : Type}    (k : Int → Int → Int → R α) : bodyL PT_z7 (PO_z7 ) [] ⟨1, []⟩ Tryz.f26 [(.int .i64 48)] emp (fun v _ => dR_ref3_Code v k) = p_z6n   k := by kernel_rfl
set_option maxRecDepth 100000 in
theorem ok_z6o {α : Type}    (k : Int → Int → Int → R α) : bodyL PT_z7 (PO_z7 ) [] ⟨1, []⟩ Tryz.f26 [(.int .i64 49)] emp (fun v _ => dR_ref3_Code v k) = p_z6o   k := by kernel_rfl
set_option maxRecDepth 100000 in
theorem ok_z6p {α : Type}    (k : Int → Int → Int → R α) : bodyL PT_z7 (PO_z7 ) [] ⟨1, []⟩ Tryz.f26 [(.int .i64 50)] emp (fun v _ => dR_ref3_Code v k) = p_z6p   k := by kernel_rfl
set_option maxRecDepth 100000 in
theorem ok_z6q {α : Type}    (k : Int → Int → Int → R α) : bodyL PT_z7 (PO_z7 ) [] ⟨1, []⟩ Tryz.f26 [(.int .i64 51)] emp (fun v _ => dR_ref3_Code v k) = p_z6q   k := by kernel_rfl
set_option maxRecDepth 100000 in
theorem ok_z6r {α : Type}    (k : Int → Int → Int → R α) : bodyL PT_z7 (PO_z7 ) [] ⟨1, []⟩ Tryz.f26 [(.int .i64 52)] emp (fun v _ => dR_ref3_Code v k) = p_z6r   k := by kernel_rfl
set_option maxRecDepth 100000 in
theorem ok_z6s {α : Type}    (k : Int → Int → Int → R α) : bodyL PT_z7 (PO_z7 ) [] ⟨1, []⟩ Tryz.f26 [(.int .i64 53)] emp (fun v _ => dR_ref3_Code v k) = p_z6s   k := by kernel_rfl
set_option maxRecDepth 100000 in
theorem ok_z6t {α : Type}    (k : Int → Int → Int → R α) : bodyL PT_z7 (PO_z7 ) [] ⟨1, []⟩ Tryz.f26 [(.int .i64 54)] emp (fun v _ => dR_ref3_Code v k) = p_z6t   k := by kernel_rfl
set_option maxRecDepth 100000 in
theorem ok_z6u {α : Type}    (k : Int → Int → Int → R α) : bodyL PT_z7 (PO_z7 ) [] ⟨1, []⟩ Tryz.f26 [(.int .i64 55)] emp (fun v _ => dR_ref3_Code v k) = p_z6u   k := by kernel_rfl
set_option maxRecDepth 100000 in
theorem ok_z6v {α : Type}    (k : Int → Int → Int → R α) : bodyL PT_z7 (PO_z7 ) [] ⟨1, []⟩ Tryz.f26 [(.int .i64 56)] emp (fun v _ => dR_ref3_Code v k) = p_z6v   k := by kernel_rfl
set_option maxRecDepth 100000 in
theorem ok_z6w {α : Type}    (k : Int → Int → Int → R α) : bodyL PT_z7 (PO_z7 ) [] ⟨1, []⟩ Tryz.f26 [(.int .i64 57)] emp (fun v _ => dR_ref3_Code v k) = p_z6w   k := by kernel_rfl
set_option maxRecDepth 100000 in
theorem ok_z6x {α : Type}    (k : Int → Int → Int → R α) : bodyL PT_z7 (PO_z7 ) [] ⟨1, []⟩ Tryz.f26 [(.int .i64 58)] emp (fun v _ => dR_ref3_Code v k) = p_z6x   k := by kernel_rfl
set_option maxRecDepth 100000 in
theorem ok_z6y {α : Type}    (k : Int → Int → Int → R α) : bodyL PT_z7 (PO_z7 ) [] ⟨1, []⟩ Tryz.f26 [(.int .i64 59)] emp (fun v _ => dR_ref3_Code v k) = p_z6y   k := by kernel_rfl
set_option maxRecDepth 100000 in
theorem ok_z6z {α : Type}    (k : Int → Int → Int → R α) : bodyL PT_z7 (PO_z7 ) [] ⟨1, []⟩ Tryz.f26 [(.int .i64 60)] emp (fun v _ => dR_ref3_Code v k) = p_z6z   k := by kernel_rfl
set_option maxRecDepth 100000 in
theorem ok_z70 {α : Type}    (k : Int → Int → Int → R α) : bodyL PT_z7 (PO_z7 ) [] ⟨1, []⟩ Tryz.f26 [(.int .i64 61)] emp (fun v _ => dR_ref3_Code v k) = p_z70   k := by kernel_rfl
set_option maxRecDepth 100000 in
theorem ok_z71 {α : Type}    (k : Int → Int → Int → R α) : bodyL PT_z7 (PO_z7 ) [] ⟨1, []⟩ Tryz.f26 [(.int .i64 62)] emp (fun v _ => dR_ref3_Code v k) = p_z71   k := by kernel_rfl
set_option maxRecDepth 100000 in
theorem ok_z72 {α : Type}    (k : Int → Int → Int → R α) : bodyL PT_z7 (PO_z7 ) [] ⟨1, []⟩ Tryz.f26 [(.int .i64 63)] emp (fun v _ => dR_ref3_Code v k) = p_z72   k := by kernel_rfl
set_option maxRecDepth 100000 in
theorem ok_z73 {α : Type}    (k : Int → Int → Int → R α) : bodyL PT_z7 (PO_z7 ) [] ⟨1, []⟩ Tryz.f26 [(.int .i64 64)] emp (fun v _ => dR_ref3_Code v k) = p_z73   k := by kernel_rfl
set_option maxRecDepth 100000 in
theorem ok_z74 {α : Type}    (k : Int → Int → Int → R α) : bodyL PT_z7 (PO_z7 ) [] ⟨1, []⟩ Tryz.f26 [(.int .i64 65)] emp (fun v _ => dR_ref3_Code v k) = p_z74   k := by kernel_rfl
set_option maxRecDepth 100000 in
theorem ok_z75 {α : Type}    (k : Int → Int → Int → R α) : bodyL PT_z7 (PO_z7 ) [] ⟨1, []⟩ Tryz.f26 [(.int .i64 66)] emp (fun v _ => dR_ref3_Code v k) = p_z75   k := by kernel_rfl
set_option maxRecDepth 100000 in
theorem ok_z76 {α : Type}    (k : Int → Int → Int → R α) : bodyL PT_z7 (PO_z7 ) [] ⟨1, []⟩ Tryz.f26 [(.int .i64 67)] emp (fun v _ => dR_ref3_Code v k) = p_z76   k := by kernel_rfl
set_option maxRecDepth 100000 in
theorem ok_z77 {α : Type}    (k : Int → Int → Int → R α) : bodyL PT_z7 (PO_z7 ) [] ⟨1, []⟩ Tryz.f26 [(.int .i64 68)] emp (fun v _ => dR_ref3_Code v k) = p_z77   k := by kernel_rfl
set_option maxRecDepth 100000 in
theorem ok_z78 {α : Type}    (k : Int → Int → Int → R α) : bodyL PT_z7 (PO_z7 ) [] ⟨1, []⟩ Tryz.f26 [(.int .i64 69)] emp (fun v _ => dR_ref3_Code v k) = p_z78   k := by kernel_rfl
theorem ok_z7 {α : Type}   {x0 : Int} {k : Int → Int → Int → R α} {r : α} (h : p_z7  x0 k = some r) : bodyL PT_z7 (PO_z7 ) [] ⟨1, []⟩ Tryz.f26 [(.int .i64 x0)] emp (fun v _ => dR_ref3_Code v k) = some r := by
  unfold p_z7 at h
  cases e0 : (x0 == 1)
  case true => rw [e0] at h; simp only [cond_true] at h; rw [beq_iff_eq] at e0; subst e0; exact (ok_z5c    k).trans h
  rw [e0] at h; simp only [cond_false] at h
  cases e1 : (x0 == 2)
  case true => rw [e1] at h; simp only [cond_true] at h; rw [beq_iff_eq] at e1; subst e1; exact (ok_z5d    k).trans h
  rw [e1] at h; simp only [cond_false] at h
  cases e2 : (x0 == 3)
  case true => rw [e2] at h; simp only [cond_true] at h; rw [beq_iff_eq] at e2; subst e2; exact (ok_z5e    k).trans h
  rw [e2] at h; simp only [cond_false] at h
  cases e3 : (x0 == 4)
  case true => rw [e3] at h; simp only [cond_true] at h; rw [beq_iff_eq] at e3; subst e3; exact (ok_z5f    k).trans h
  rw [e3] at h; simp only [cond_false] at h
  cases e4 : (x0 == 5)
  case true => rw [e4] at h; simp only [cond_true] at h; rw [beq_iff_eq] at e4; subst e4; exact (ok_z5g    k).trans h
  rw [e4] at h; simp only [cond_false] at h
  cases e5 : (x0 == 6)
  case true => rw [e5] at h; simp only [cond_true] at h; rw [beq_iff_eq] at e5; subst e5; exact (ok_z5h    k).trans h
  rw [e5] at h; simp only [cond_false] at h
  cases e6 : (x0 == 7)
  case true => rw [e6] at h; simp only [cond_true] at h; rw [beq_iff_eq] at e6; subst e6; exact (ok_z5i    k).trans h
  rw [e6] at h; simp only [cond_false] at h
  cases e7 : (x0 == 8)
  case true => rw [e7] at h; simp only [cond_true] at h; rw [beq_iff_eq] at e7; subst e7; exact (ok_z5j    k).trans h
  rw [e7] at h; simp only [cond_false] at h
  cases e8 : (x0 == 9)
  case true => rw [e8] at h; simp only [cond_true] at h; rw [beq_iff_eq] at e8; subst e8; exact (ok_z5k    k).trans h
  rw [e8] at h; simp only [cond_false] at h
  cases e9 : (x0 == 10)
  case true => rw [e9] at h; simp only [cond_true] at h; rw [beq_iff_eq] at e9; subst e9; exact (ok_z5l    k).trans h
  rw [e9] at h; simp only [cond_false] at h
  cases e10 : (x0 == 11)
  case true => rw [e10] at h; simp only [cond_true] at h; rw [beq_iff_eq] at e10; subst e10; exact (ok_z5m    k).trans h
  rw [e10] at h; simp only [cond_false] at h
  cases e11 : (x0 == 12)
  case true => rw [e11] at h; simp only [cond_true] at h; rw [beq_iff_eq] at e11; subst e11; exact (ok_z5n    k).trans h
  rw [e11] at h; simp only [cond_false] at h
  cases e12 : (x0 == 13)
  case true => rw [e12] at h; simp only [cond_true] at h; rw [beq_iff_eq] at e12; subst e12; exact (ok_z5o    k).trans h
  rw [e12] at h; simp only [cond_false] at h
  cases e13 : (x0 == 14)
  case true => rw [e13] at h; simp only [cond_true] at h; rw [beq_iff_eq] at e13; subst e13; exact (ok_z5p    k).trans h
  rw [e13] at h; simp only [cond_false] at h
  cases e14 : (x0 == 15)
  case true => rw [e14] at h; simp only [cond_true] at h; rw [beq_iff_eq] at e14; subst e14; exact (ok_z5q    k).trans h
  rw [e14] at h; simp only [cond_false] at h
  cases e15 : (x0 == 16)
  case true => rw [e15] at h; simp only [cond_true] at h; rw [beq_iff_eq] at e15; subst e15; exact (ok_z5r    k).trans h
  rw [e15] at h; simp only [cond_false] at h
  cases e16 : (x0 == 17)
  case true => rw [e16] at h; simp only [cond_true] at h; rw [beq_iff_eq] at e16; subst e16; exact (ok_z5s    k).trans h
  rw [e16] at h; simp only [cond_false] at h
  cases e17 : (x0 == 18)
  case true => rw [e17] at h; simp only [cond_true] at h; rw [beq_iff_eq] at e17; subst e17; exact (ok_z5t    k).trans h
  rw [e17] at h; simp only [cond_false] at h
  cases e18 : (x0 == 19)
  case true => rw [e18] at h; simp only [cond_true] at h; rw [beq_iff_eq] at e18; subst e18; exact (ok_z5u    k).trans h
  rw [e18] at h; simp only [cond_false] at h
  cases e19 : (x0 == 20)
  case true => rw [e19] at h; simp only [cond_true] at h; rw [beq_iff_eq] at e19; subst e19; exact (ok_z5v    k).trans h
  rw [e19] at h; simp only [cond_false] at h
  cases e20 : (x0 == 21)
  case true => rw [e20] at h; simp only [cond_true] at h; rw [beq_iff_eq] at e20; subst e20; exact (ok_z5w    k).trans h
  rw [e20] at h; simp only [cond_false] at h
  cases e21 : (x0 == 22)
  case true => rw [e21] at h; simp only [cond_true] at h; rw [beq_iff_eq] at e21; subst e21; exact (ok_z5x    k).trans h
  rw [e21] at h; simp only [cond_false] at h
  cases e22 : (x0 == 23)
  case true => rw [e22] at h; simp only [cond_true] at h; rw [beq_iff_eq] at e22; subst e22; exact (ok_z5y    k).trans h
  rw [e22] at h; simp only [cond_false] at h
  cases e23 : (x0 == 24)
  case true => rw [e23] at h; simp only [cond_true] at h; rw [beq_iff_eq] at e23; subst e23; exact (ok_z5z    k).trans h
  rw [e23] at h; simp only [cond_false] at h
  cases e24 : (x0 == 25)
  case true => rw [e24] at h; simp only [cond_true] at h; rw [beq_iff_eq] at e24; subst e24; exact (ok_z60    k).trans h
  rw [e24] at h; simp only [cond_false] at h
  cases e25 : (x0 == 26)
  case true => rw [e25] at h; simp only [cond_true] at h; rw [beq_iff_eq] at e25; subst e25; exact (ok_z61    k).trans h
  rw [e25] at h; simp only [cond_false] at h
  cases e26 : (x0 == 27)
  case true => rw [e26] at h; simp only [cond_true] at h; rw [beq_iff_eq] at e26; subst e26; exact (ok_z62    k).trans h
  rw [e26] at h; simp only [cond_false] at h
  cases e27 : (x0 == 28)
  case true => rw [e27] at h; simp only [cond_true] at h; rw [beq_iff_eq] at e27; subst e27; exact (ok_z63    k).trans h
  rw [e27] at h; simp only [cond_false] at h
  cases e28 : (x0 == 29)
  case true => rw [e28] at h; simp only [cond_true] at h; rw [beq_iff_eq] at e28; subst e28; exact (ok_z64    k).trans h
  rw [e28] at h; simp only [cond_false] at h
  cases e29 : (x0 == 30)
  case true => rw [e29] at h; simp only [cond_true] at h; rw [beq_iff_eq] at e29; subst e29; exact (ok_z65    k).trans h
  rw [e29] at h; simp only [cond_false] at h
  cases e30 : (x0 == 31)
  case true => rw [e30] at h; simp only [cond_true] at h; rw [beq_iff_eq] at e30; subst e30; exact (ok_z66    k).trans h
  rw [e30] at h; simp only [cond_false] at h
  cases e31 : (x0 == 32)
  case true => rw [e31] at h; simp only [cond_true] at h; rw [beq_iff_eq] at e31; subst e31; exact (ok_z67    k).trans h
  rw [e31] at h; simp only [cond_false] at h
  cases e32 : (x0 == 33)
  case true => rw [e32] at h; simp only [cond_true] at h; rw [beq_iff_eq] at e32; subst e32; exact (ok_z68    k).trans h
  rw [e32] at h; simp only [cond_false] at h
  cases e33 : (x0 == 34)
  case true => rw [e33] at h; simp only [cond_true] at h; rw [beq_iff_eq] at e33; subst e33; exact (ok_z69    k).trans h
  rw [e33] at h; simp only [cond_false] at h
  cases e34 : (x0 == 35)
  case true => rw [e34] at h; simp only [cond_true] at h; rw [beq_iff_eq] at e34; subst e34; exact (ok_z6a    k).trans h
  rw [e34] at h; simp only [cond_false] at h
  cases e35 : (x0 == 36)
  case true => rw [e35] at h; simp only [cond_true] at h; rw [beq_iff_eq] at e35; subst e35; exact (ok_z6b    k).trans h
  rw [e35] at h; simp only [cond_false] at h
  cases e36 : (x0 == 37)
  case true => rw [e36] at h; simp only [cond_true] at h; rw [beq_iff_eq] at e36; subst e36; exact (ok_z6c    k).trans h
  rw [e36] at h; simp only [cond_false] at h
  cases e37 : (x0 == 38)
  case true => rw [e37] at h; simp only [cond_true] at h; rw [beq_iff_eq] at e37; subst e37; exact (ok_z6d    k).trans h
  rw [e37] at h; simp only [cond_false] at h
  cases e38 : (x0 == 39)
  case true => rw [e38] at h; simp only [cond_true] at h; rw [beq_iff_eq] at e38; subst e38; exact (ok_z6e    k).trans h
  rw [e38] at h; simp only [cond_false] at h
  cases e39 : (x0 == 40)
  case true => rw [e39] at h; simp only [cond_true] at h; rw [beq_iff_eq] at e39; subst e39; exact (ok_z6f    k).trans h
  rw [e39] at h; simp only [cond_false] at h
  cases e40 : (x0 == 41)
  case true => rw [e40] at h; simp only [cond_true] at h; rw [beq_iff_eq] at e40; subst e40; exact (ok_z6g    k).trans h
  rw [e40] at h; simp only [cond_false] at h
  cases e41 : (x0 == 42)
  case true => rw [e41] at h; simp only [cond_true] at h; rw [beq_iff_eq] at e41; subst e41; exact (ok_z6h    k).trans h
  rw [e41] at h; simp only [cond_false] at h
  cases e42 : (x0 == 43)
  case true => rw [e42] at h; simp only [cond_true] at h; rw [beq_iff_eq] at e42; subst e42; exact (ok_z6i    k).trans h
  rw [e42] at h; simp only [cond_false] at h
  cases e43 : (x0 == 44)
  case true => rw [e43] at h; simp only [cond_true] at h; rw [beq_iff_eq] at e43; subst e43; exact (ok_z6j    k).trans h
  rw [e43] at h; simp only [cond_false] at h
  cases e44 : (x0 == 45)
  case true => rw [e44] at h; simp only [cond_true] at h; rw [beq_iff_eq] at e44; subst e44; exact (ok_z6k    k).trans h
  rw [e44] at h; simp only [cond_false] at h
  cases e45 : (x0 == 46)
  case true => rw [e45] at h; simp only [cond_true] at h; rw [beq_iff_eq] at e45; subst e45; exact (ok_z6l    k).trans h
  rw [e45] at h; simp only [cond_false] at h
  cases e46 : (x0 == 47)
  case true => rw [e46] at h; simp only [cond_true] at h; rw [beq_iff_eq] at e46; subst e46; exact (ok_z6m    k).trans h
  rw [e46] at h; simp only [cond_false] at h
  cases e47 : (x0 == 48)
  case true => rw [e47] at h; simp only [cond_true] at h; rw [beq_iff_eq] at e47; subst e47; exact (ok_z6n    k).trans h
  rw [e47] at h; simp only [cond_false] at h
  cases e48 : (x0 == 49)
  case true => rw [e48] at h; simp only [cond_true] at h; rw [beq_iff_eq] at e48; subst e48; exact (ok_z6o    k).trans h
  rw [e48] at h; simp only [cond_false] at h
  cases e49 : (x0 == 50)
  case true => rw [e49] at h; simp only [cond_true] at h; rw [beq_iff_eq] at e49; subst e49; exact (ok_z6p    k).trans h
  rw [e49] at h; simp only [cond_false] at h
  cases e50 : (x0 == 51)
  case true => rw [e50] at h; simp only [cond_true] at h; rw [beq_iff_eq] at e50; subst e50; exact (ok_z6q    k).trans h
  rw [e50] at h; simp only [cond_false] at h
  cases e51 : (x0 == 52)
  case true => rw [e51] at h; simp only [cond_true] at h; rw [beq_iff_eq] at e51; subst e51; exact (ok_z6r    k).trans h
  rw [e51] at h; simp only [cond_false] at h
  cases e52 : (x0 == 53)
  case true => rw [e52] at h; simp only [cond_true] at h; rw [beq_iff_eq] at e52; subst e52; exact (ok_z6s    k).trans h
  rw [e52] at h; simp only [cond_false] at h
  cases e53 : (x0 == 54)
  case true => rw [e53] at h; simp only [cond_true] at h; rw [beq_iff_eq] at e53; subst e53; exact (ok_z6t    k).trans h
  rw [e53] at h; simp only [cond_false] at h
  cases e54 : (x0 == 55)
  case true => rw [e54] at h; simp only [cond_true] at h; rw [beq_iff_eq] at e54; subst e54; exact (ok_z6u    k).trans h
  rw [e54] at h; simp only [cond_false] at h
  cases e55 : (x0 == 56)
  case true => rw [e55] at h; simp only [cond_true] at h; rw [beq_iff_eq] at e55; subst e55; exact (ok_z6v    k).trans h
  rw [e55] at h; simp only [cond_false] at h
  cases e56 : (x0 == 57)
  case true => rw [e56] at h; simp only [cond_true] at h; rw [beq_iff_eq] at e56; subst e56; exact (ok_z6w    k).trans h
  rw [e56] at h; simp only [cond_false] at h
  cases e57 : (x0 == 58)
  case true => rw [e57] at h; simp only [cond_true] at h; rw [beq_iff_eq] at e57; subst e57; exact (ok_z6x    k).trans h
  rw [e57] at h; simp only [cond_false] at h
  cases e58 : (x0 == 59)
  case true => rw [e58] at h; simp only [cond_true] at h; rw [beq_iff_eq] at e58; subst e58; exact (ok_z6y    k).trans h
  rw [e58] at h; simp only [cond_false] at h
  cases e59 : (x0 == 60)
  case true => rw [e59] at h; simp only [cond_true] at h; rw [beq_iff_eq] at e59; subst e59; exact (ok_z6z    k).trans h
  rw [e59] at h; simp only [cond_false] at h
  cases e60 : (x0 == 61)
  case true => rw [e60] at h; simp only [cond_true] at h; rw [beq_iff_eq] at e60; subst e60; exact (ok_z70    k).trans h
  rw [e60] at h; simp only [cond_false] at h
  cases e61 : (x0 == 62)
  case true => rw [e61] at h; simp only [cond_true] at h; rw [beq_iff_eq] at e61; subst e61; exact (ok_z71    k).trans h
  rw [e61] at h; simp only [cond_false] at h
  cases e62 : (x0 == 63)
  case true => rw [e62] at h; simp only [cond_true] at h; rw [beq_iff_eq] at e62; subst e62; exact (ok_z72    k).trans h
  rw [e62] at h; simp only [cond_false] at h
  cases e63 : (x0 == 64)
  case true => rw [e63] at h; simp only [cond_true] at h; rw [beq_iff_eq] at e63; subst e63; exact (ok_z73    k).trans h
  rw [e63] at h; simp only [cond_false] at h
  cases e64 : (x0 == 65)
  case true => rw [e64] at h; simp only [cond_true] at h; rw [beq_iff_eq] at e64; subst e64; exact (ok_z74    k).trans h
  rw [e64] at h; simp only [cond_false] at h
  cases e65 : (x0 == 66)
  case true => rw [e65] at h; simp only [cond_true] at h; rw [beq_iff_eq] at e65; subst e65; exact (ok_z75    k).trans h
  rw [e65] at h; simp only [cond_false] at h
  cases e66 : (x0 == 67)
  case true => rw [e66] at h; simp only [cond_true] at h; rw [beq_iff_eq] at e66; subst e66; exact (ok_z76    k).trans h
  rw [e66] at h; simp only [cond_false] at h
  cases e67 : (x0 == 68)
  case true => rw [e67] at h; simp only [cond_true] at h; rw [beq_iff_eq] at e67; subst e67; exact (ok_z77    k).trans h
  rw [e67] at h; simp only [cond_false] at h
  cases e68 : (x0 == 69)
  case true => rw [e68] at h; simp only [cond_true] at h; rw [beq_iff_eq] at e68; subst e68; exact (ok_z78    k).trans h
  rw [e68] at h; simp only [cond_false] at h
  cases h
theorem mk_z7 {α : Type} {I : Imm}  : OrcOk (α := α) Tryz.prog I 26 (.pure (ad_z7 (p_z7 ))) := by
  refine orc_pureK PT_z9e (O := PO_z7 ) (OOk.cons (cB_z7u ) (OOk.nil)) (L := []) ⟨1, []⟩ Tryz.func26 (by kernel_rfl) (by kernel_rfl) (by kernel_rfl) FLOk.nil ?_
  intro args k r hk
  unfold ad_z7 at hk
  split at hk <;> try (cases hk; done)
  obtain ⟨x0, rfl, hk0⟩ := decI_spec hk
  have hkz := hk0
  refine ⟨by simp [Ids, Idss], fun v => dR_ref3_Code v (fun r0 r1 r2 => k (.tuple [(.int .u32 r0), (.int .u32 r1), (.int .u32 r2)])), ?_, fun v hv => ?_⟩
  · exact ok_z7 hkz
  · obtain ⟨r0, r1, r2, rfl, hv1⟩ := dR_ref3_Code_spec hv; exact ⟨hv1, by simp [Ids, Idss]⟩
abbrev PT_z2g : TE := [(2, ⟨.int .i64 0, 1, 8, .sc (.int .i64), none⟩), (3, ⟨.int .i64 0, 1, 8, .sc (.int .i64), none⟩), (32, ⟨.int .u32 0, 1, 4, .sc (.int .u32), none⟩), (36, ⟨.agg [.int .i64 0, .int .i64 0, .int .i64 0, .int .i64 0, .int .i64 0, .int .i64 0], 6, 48, .st [(0, 1, false), (1, 1, false), (2, 1, false), (3, 1, false), (4, 1, false), (5, 1, false)], some (.st [(0, 1, false, .it .i64), (1, 1, false, .it .i64), (2, 1, false, .it .i64), (3, 1, false, .it .i64), (4, 1, false, .it .i64), (5, 1, false, .it .i64)])⟩)]
theorem PT_z9f : Prg Tryz.prog PT_z2g := ⟨(.cons pe_2 (.cons pe_3 (.cons pe_32 (.cons pe_36 (TEok.nil _))))), by kernel_rfl⟩
noncomputable abbrev B_z7v {α : Type} (F_z1t : Sg_z1t α) (F_z1r : Sg_z1r α) (F_z7 : Sg_z7 α) : FF α := byBody PT_ref3_Class [] ⟨1, []⟩ Tryz.f27
theorem cB_z7v {α : Type} {I : Imm} {F_z1t : Sg_z1t α} {F_z1r : Sg_z1r α} {F_z7 : Sg_z7 α} (h_z1t : OrcOk (α := α) Tryz.prog I 24 (.pure (ad_z1t F_z1t))) (h_z1r : OrcOk (α := α) Tryz.prog I 25 (.pure (ad_z1r F_z1r))) (h_z7 : OrcOk (α := α) Tryz.prog I 26 (.pure (ad_z7 F_z7))) : OrcOk (α := α) Tryz.prog I 27 (.full (B_z7v F_z1t F_z1r F_z7)) := orc_body PT_ref3_Class_ok (OOk.nil) ⟨1, []⟩ Tryz.func27 (by kernel_rfl) (by kernel_rfl) (by kernel_rfl)
noncomputable abbrev PO_z2g {α : Type} (F_z1t : Sg_z1t α) (F_z1r : Sg_z1r α) (F_z7 : Sg_z7 α) : ORC α := [(24, .pure (ad_z1t F_z1t)), (25, .pure (ad_z1r F_z1r)), (26, .pure (ad_z7 F_z7)), (27, .full (B_z7v F_z1t F_z1r F_z7))]
set_option maxRecDepth 100000 in
theorem ok_z2g {α : Type} (F_z1t : Sg_z1t α) (F_z1r : Sg_z1r α) (F_z7 : Sg_z7 α) (x0 : GInsn) (k : Int → Bool → R α) : bodyL PT_z2g (PO_z2g F_z1t F_z1r F_z7) [] ⟨1, []⟩ Tryz.f11 [(GInsn.sv x0)] emp (fun v _ => dR_ref3_Encode v k) = p_z2g F_z1t F_z1r F_z7 x0 k := by kernel_rfl
theorem mk_z2g {α : Type} {I : Imm} {F_z1t : Sg_z1t α} {F_z1r : Sg_z1r α} {F_z7 : Sg_z7 α} (h_z1t : OrcOk (α := α) Tryz.prog I 24 (.pure (ad_z1t F_z1t))) (h_z1r : OrcOk (α := α) Tryz.prog I 25 (.pure (ad_z1r F_z1r))) (h_z7 : OrcOk (α := α) Tryz.prog I 26 (.pure (ad_z7 F_z7))) : OrcOk (α := α) Tryz.prog I 11 (.pure (ad_z2g (p_z2g F_z1t F_z1r F_z7))) := by
  refine orc_pureK PT_z9f (O := PO_z2g F_z1t F_z1r F_z7) (OOk.cons h_z1t (OOk.cons h_z1r (OOk.cons h_z7 (OOk.cons (cB_z7v h_z1t h_z1r h_z7) (OOk.nil))))) (L := []) ⟨1, []⟩ Tryz.func11 (by kernel_rfl) (by kernel_rfl) (by kernel_rfl) FLOk.nil ?_
  intro args k r hk
  unfold ad_z2g at hk
  split at hk <;> try (cases hk; done)
  obtain ⟨x0, rfl, hk0⟩ := GInsn.dec_spec hk
  have hkz := hk0
  refine ⟨by simp [Ids, Idss], fun v => dR_ref3_Encode v (fun r0 r1 => k (.tuple [(.int .u32 r0), (.bool r1)])), ?_, fun v hv => ?_⟩
  · rw [ok_z2g]; exact hkz
  · obtain ⟨r0, r1, rfl, hv1⟩ := dR_ref3_Encode_spec hv; exact ⟨hv1, by simp [Ids, Idss]⟩
theorem pe_152 : TyOk Tryz.prog 152 ⟨.agg [.nils], 1, 24, .st [(0, 1, false)], none⟩ := ⟨fun _ => by kernel_rfl, ⟨rfl, rfl, fun _ _ => by simp [Wf, Wfs]⟩, ⟨_, Tryz.underlying152, by kernel_rfl⟩, fun _ h => by cases h⟩
abbrev PT_z1y : TE := [(3, ⟨.int .i64 0, 1, 8, .sc (.int .i64), none⟩), (5, ⟨.int .u8 0, 1, 1, .sc (.int .u8), none⟩), (22, ⟨.int .u64 0, 1, 8, .sc (.int .u64), none⟩), (74, ⟨.nils, 1, 24, .sc (.slice 5), none⟩), (152, ⟨.agg [.nils], 1, 24, .st [(0, 1, false)], none⟩)]
theorem PT_zbk : Prg Tryz.prog PT_z1y := ⟨(.cons pe_3 (.cons pe_5 (.cons pe_22 (.cons pe_74 (.cons pe_152 (TEok.nil _)))))), by kernel_rfl⟩
noncomputable abbrev PO_z1y {α : Type}  : ORC α := []
set_option maxRecDepth 100000 in
theorem ok_z1y {α : Type}  (g0 g1 : Option Nat) (x0 : (Nat → Int)) (x1 : Int) (x2 : Int) (k : Int → R α) : bodyL PT_z1y (PO_z1y ) [] ⟨1, []⟩ Tryz.f35 [.ptr 0 [], (.int .u64 x1), (.int .i64 x2)] (hp [memO 1 g0, byO g1 x0]) (fun v σ1 => dR_ref1_Mem_Code v σ1 k) = p_z1y  x0 x1 x2 k := by kernel_rfl
theorem mk_z1y {α : Type} {I : Imm}  : OrcOk (α := α) Tryz.prog I 35 (.full (ad_z1y (p_z1y ))) := by
  refine orc_canonK PT_zbk (O := PO_z1y ) (OOk.nil) (L := []) ⟨1, []⟩ Tryz.func35 (by kernel_rfl) (by kernel_rfl) (by kernel_rfl) FLOk.nil ?_
  intro args σ k r hk
  unfold ad_z1y at hk
  split at hk <;> try (cases hk; done)
  obtain ⟨b, b1, g0, g1, x0, rfl, h0, h1, hne, hk0⟩ := withMem_spec hk
  obtain ⟨x1, rfl, hk1⟩ := decI_spec hk0
  obtain ⟨x2, rfl, hk2⟩ := decI_spec hk1
  have hkz := hk2
  refine ⟨[b, b1], [memO 1 g0, byO g1 x0], [.ptr 0 [], (.int .u64 x1), (.int .i64 x2)], lay_mk rfl (nodup2 hne) rfl ⟨h0, h1, trivial⟩ (by simp [AllL, Ids, Idss]) (by simp [AllL, OIds, Ids, Idss]), fun v σ1 => dR_ref1_Mem_Code v σ1 (fun r0 => k (.int .i64 r0) σ), ?_, fun v σ1 hg hv => ?_⟩
  · rw [ok_z1y]; exact hkz
  · unfold dR_ref1_Mem_Code at hv
    obtain ⟨hc, hv0⟩ := bif_some hv
    obtain ⟨r0, rfl, w0⟩ := decI_spec hv0
    exact ⟨[], [], pub_keep hg (by simp [SObj.live]) hc (by simp [Ids, Idss]), w0⟩
abbrev PT_z1p : TE := [(3, ⟨.int .i64 0, 1, 8, .sc (.int .i64), none⟩), (5, ⟨.int .u8 0, 1, 1, .sc (.int .u8), none⟩), (22, ⟨.int .u64 0, 1, 8, .sc (.int .u64), none⟩), (31, ⟨.int .u64 0, 1, 8, .sc (.int .u64), none⟩), (74, ⟨.nils, 1, 24, .sc (.slice 5), none⟩), (152, ⟨.agg [.nils], 1, 24, .st [(0, 1, false)], none⟩)]
theorem PT_zbl : Prg Tryz.prog PT_z1p := ⟨(.cons pe_3 (.cons pe_5 (.cons pe_22 (.cons pe_31 (.cons pe_74 (.cons pe_152 (TEok.nil _))))))), by kernel_rfl⟩
noncomputable abbrev PO_z1p {α : Type}  : ORC α := []
set_option maxRecDepth 100000 in
theorem ok_z42 {α : Type}  (g0 g1 : Option Nat) (x0 : (Nat → Int)) (x1 : Int) (x3 : Int) (k : Option Nat → (Nat → Int) → R α) : bodyL PT_z1p (PO_z1p ) [] ⟨9, []⟩ Tryz.f37 [.ptr 0 [], (.int .u64 x1), (.int .i64 8), (.int .u64 x3)] (hp [memO 1 g0, byO g1 x0]) (fun v σ1 => dR_ref1_Mem_Write v σ1 k) = p_z42  x0 x1 x3 (fun fm => k g1 fm) := by kernel_rfl
set_option maxRecDepth 100000 in
theorem ok_z43 {α : Type}  (g0 g1 : Option Nat) (x0 : (Nat → Int)) (x1 : Int) (x3 : Int) (k : Option Nat → (Nat → Int) → R α) : bodyL PT_z1p (PO_z1p ) [] ⟨9, []⟩ Tryz.f37 [.ptr 0 [], (.int .u64 x1), (.int .i64 4), (.int .u64 x3)] (hp [memO 1 g0, byO g1 x0]) (fun v σ1 => dR_ref1_Mem_Write v σ1 k) = p_z43  x0 x1 x3 (fun fm => k g1 fm) := by kernel_rfl
set_option maxRecDepth 100000 in
theorem ok_z44 {α : Type}  (g0 g1 : Option Nat) (x0 : (Nat → Int)) (x1 : Int) (x3 : Int) (k : Option Nat → (Nat → Int) → R α) : bodyL PT_z1p (PO_z1p ) [] ⟨9, []⟩ Tryz.f37 [.ptr 0 [], (.int .u64 x1), (.int .i64 2), (.int .u64 x3)] (hp [memO 1 g0, byO g1 x0]) (fun v σ1 => dR_ref1_Mem_Write v σ1 k) = p_z44  x0 x1 x3 (fun fm => k g1 fm) := by kernel_rfl
set_option maxRecDepth 100000 in
theorem ok_z45 {α : Type}  (g0 g1 : Option Nat) (x0 : (Nat → Int)) (x1 : Int) (x3 : Int) (k : Option Nat → (Nat → Int) → R α) : bodyL PT_z1p (PO_z1p ) [] ⟨9, []⟩ Tryz.f37 [.ptr 0 [], (.int .u64 x1), (.int .i64 1), (.int .u64 x3)] (hp [memO 1 g0, byO g1 x0]) (fun v σ1 => dR_ref1_Mem_Write v σ1 k) = p_z45  x0 x1 x3 (fun fm => k g1 fm) := by kernel_rfl
theorem ok_z1p {α : Type}  {g0 g1 : Option Nat} {x0 : (Nat → Int)} {x1 : Int} {x2 : Int} {x3 : Int} {k : Option Nat → (Nat → Int) → R α} {r : α} (h : p_z1p  x0 x1 x2 x3 (fun fm => k g1 fm) = some r) : bodyL PT_z1p (PO_z1p ) [] ⟨9, []⟩ Tryz.f37 [.ptr 0 [], (.int .u64 x1), (.int .i64 x2), (.int .u64 x3)] (hp [memO 1 g0, byO g1 x0]) (fun v σ1 => dR_ref1_Mem_Write v σ1 k) = some r := by
  unfold p_z1p at h
  cases e0 : (x2 == 8)
  case true => rw [e0] at h; simp only [cond_true] at h; rw [beq_iff_eq] at e0; subst e0; exact (ok_z42  g0 g1 x0 x1 x3 k).trans h
  rw [e0] at h; simp only [cond_false] at h
  cases e1 : (x2 == 4)
  case true => rw [e1] at h; simp only [cond_true] at h; rw [beq_iff_eq] at e1; subst e1; exact (ok_z43  g0 g1 x0 x1 x3 k).trans h
  rw [e1] at h; simp only [cond_false] at h
  cases e2 : (x2 == 2)
  case true => rw [e2] at h; simp only [cond_true] at h; rw [beq_iff_eq] at e2; subst e2; exact (ok_z44  g0 g1 x0 x1 x3 k).trans h
  rw [e2] at h; simp only [cond_false] at h
  cases e3 : (x2 == 1)
  case true => rw [e3] at h; simp only [cond_true] at h; rw [beq_iff_eq] at e3; subst e3; exact (ok_z45  g0 g1 x0 x1 x3 k).trans h
  rw [e3] at h; simp only [cond_false] at h
  cases h
theorem mk_z1p {α : Type} {I : Imm}  : OrcOk (α := α) Tryz.prog I 37 (.full (ad_z1p (p_z1p ))) := by
  refine orc_canonK PT_zbl (O := PO_z1p ) (OOk.nil) (L := []) ⟨9, []⟩ Tryz.func37 (by kernel_rfl) (by kernel_rfl) (by kernel_rfl) FLOk.nil ?_
  intro args σ k r hk
  unfold ad_z1p at hk
  split at hk <;> try (cases hk; done)
  obtain ⟨b, b1, g0, g1, x0, rfl, h0, h1, hne, hk0⟩ := withMem_spec hk
  obtain ⟨x1, rfl, hk1⟩ := decI_spec hk0
  obtain ⟨x2, rfl, hk2⟩ := decI_spec hk1
  obtain ⟨x3, rfl, hk3⟩ := decI_spec hk2
  have hkz := hk3
  refine ⟨[b, b1], [memO 1 g0, byO g1 x0], [.ptr 0 [], (.int .u64 x1), (.int .i64 x2), (.int .u64 x3)], lay_mk rfl (nodup2 hne) rfl ⟨h0, h1, trivial⟩ (by simp [AllL, Ids, Idss]) (by simp [AllL, OIds, Ids, Idss]), fun v σ1 => dR_ref1_Mem_Write v σ1 (fun g fm => k (.tuple []) ⟨σ.next, [(b1, byO g fm)] ++ σ.blocks⟩), ?_, fun v σ1 hg hv => ?_⟩
  · exact ok_z1p hkz
  · unfold dR_ref1_Mem_Write at hv
    obtain ⟨hc, hv0⟩ := bif_some hv
    obtain ⟨g, fm, hnow, hv1⟩ := nowAt_spec hv0
    split at hv1 <;> try (cases hv1; done)
    exact ⟨[], [(1, byO g fm)], pub_write hg (by simp [SObj.live]) hc (by simp) hnow (by simp [Ids, Idss]), hv1⟩
theorem pe_49 : TyOk Tryz.prog 49 ⟨.nils, 1, 24, .sc (.slice 100), none⟩ := ⟨fun _ => by kernel_rfl, ⟨rfl, rfl, fun _ _ => by simp [Wf, Wfs]⟩, ⟨Tryz.underlying49, rfl⟩, fun _ h => by cases h⟩
theorem pe_100 : TyOk Tryz.prog 100 ⟨.agg [.int .u64 0, .int .u64 0], 2, 16, .st [(0, 1, false), (1, 1, false)], some (.st [(0, 1, false, .it .u64), (1, 1, false, .it .u64)])⟩ := ⟨fun _ => by kernel_rfl, ⟨rfl, rfl, fun _ _ => by simp [Wf, Wfs]⟩, ⟨_, Tryz.underlying100, by kernel_rfl⟩, fun _ h => by cases h; exact ⟨by kernel_rfl, by kernel_rfl⟩⟩
abbrev PT_z1q : TE := [(3, ⟨.int .i64 0, 1, 8, .sc (.int .i64), none⟩), (22, ⟨.int .u64 0, 1, 8, .sc (.int .u64), none⟩), (49, ⟨.nils, 1, 24, .sc (.slice 100), none⟩), (100, ⟨.agg [.int .u64 0, .int .u64 0], 2, 16, .st [(0, 1, false), (1, 1, false)], some (.st [(0, 1, false, .it .u64), (1, 1, false, .it .u64)])⟩)]
theorem PT_z39 : Prg Tryz.prog PT_z1q := ⟨(.cons pe_3 (.cons pe_22 (.cons pe_49 (.cons pe_100 (TEok.nil _))))), by kernel_rfl⟩
abbrev PT_bus_New : TE := [(67, ⟨.nilp, 1, 8, .sc (.pointer 123), none⟩), (79, ⟨.agg [.nilp, .agg [.agg [], .agg [], .int .u64 0], .int .u64 0, .arr 3 4 (fun _ => .agg [.nils, .nils, .int .i64 0])], 15, 248, .st [(0, 1, false), (1, 1, true), (2, 1, false), (3, 12, true)], none⟩)]
theorem PT_bus_New_ok : Prg Tryz.prog PT_bus_New := ⟨(.cons pe_67 (.cons pe_79 (TEok.nil _))), by kernel_rfl⟩
noncomputable abbrev PO_lp_law18_both_3 {α : Type} (F_z1y : Sg_z1y α) (F_z1m : Sg_z1m α) (F_z1p : Sg_z1p α) : ORC α := [(35, .full (ad_z1y F_z1y)), (36, .full (ad_z1m F_z1m)), (37, .full (ad_z1p F_z1p))]
set_option maxRecDepth 100000 in
theorem okb_law18_both_3 {α : Type} (F_z1y : Sg_z1y α) (F_z1m : Sg_z1m α) (F_z1p : Sg_z1p α) (s : S_z9) (kn : S_z9 → R α) (k0 : X_z31 → R α) : seval PT_z1q (PO_lp_law18_both_3 F_z1y F_z1m F_z1p) [] Tryz.f15.ntmps ⟨1, []⟩ (loopNo Tryz.f15 0) (E_z9 s) (hp (OS_z9 s)) (dL_z9 kn k0) = b_z9 F_z1y F_z1m F_z1p s kn k0 := by kernel_rfl
theorem snd_z9 {α : Type} {I : Imm} {F_z1y : Sg_z1y (S_z9 ⊕ X_z9)} {F_z1m : Sg_z1m (S_z9 ⊕ X_z9)} {F_z1p : Sg_z1p (S_z9 ⊕ X_z9)} (h_z1y : OrcOk (α := (S_z9 ⊕ X_z9)) Tryz.prog I 35 (.full (ad_z1y F_z1y))) (h_z1m : OrcOk (α := (S_z9 ⊕ X_z9)) Tryz.prog I 36 (.full (ad_z1m F_z1m))) (h_z1p : OrcOk (α := (S_z9 ⊕ X_z9)) Tryz.prog I 37 (.full (ad_z1p F_z1p))) {L : SgL_z9 α} (hL : LoopOk (α := α) (fun (s : S_z9) => b_z9 F_z1y F_z1m F_z1p s (fun s => some (.inl s)) (fun x => some (.inr x))) (fun (s : S_z9) (k : X_z9 → R α) => L s (fun x => k x))) : SoundC Tryz.prog I Tryz.f15.ntmps (.loop (loopNo Tryz.f15 0)) (Lf_z9 L) := by
  have run := fun (s : S_z9) (z : (S_z9 ⊕ X_z9)) (h : (fun (s : S_z9) => b_z9 F_z1y F_z1m F_z1p s (fun s => some (.inl s)) (fun x => some (.inr x))) s = some z) => seval_spec (α := (S_z9 ⊕ X_z9)) (I := I) PT_z39.te PT_z39.mix (O := PO_lp_law18_both_3 F_z1y F_z1m F_z1p) (OOk.cons h_z1y (OOk.cons h_z1m (OOk.cons h_z1p (OOk.nil)))) (L := []) (N := Tryz.f15.ntmps) (n := ⟨1, []⟩) (loopNo Tryz.f15 0) (by kernel_rfl) (LOk.nil) (E_z9 s) (hp (OS_z9 s)) _ z ((okb_law18_both_3 F_z1y F_z1m F_z1p s (fun s => some (.inl s)) (fun x => some (.inr x))).trans h)
  refine loop_law_same (stp := fun (s : S_z9) => b_z9 F_z1y F_z1m F_z1p s (fun s => some (.inl s)) (fun x => some (.inr x))) (E := E_z9) (os := OS_z9) (EX := EX_z9) (osX := OX_z9) (xx := xx_z9) (fun s o ho => ?_) (fun x o ho => ?_) (fun x => ?_) (fun s s1 hs => ?_) (fun s x hs => ?_) (fun env σ k r h => ?_)
  · simp only [OS_z9, List.mem_cons, List.not_mem_nil, or_false] at ho
    rcases ho with rfl | rfl | rfl | rfl <;> rfl
  · simp only [OX_z9, OX_z31, List.mem_cons, List.not_mem_nil, or_false] at ho
    rcases ho with rfl | rfl | rfl | rfl <;> rfl
  · simp [xx_z9]
  · obtain ⟨x, env1, σ1, h1, h2, h3⟩ := run s _ hs
    rcases dL_z96 h1 with ⟨rfl, s2, e1, e2, e3⟩ | ⟨rfl, s2, e1, e2, e3⟩
    · simp only [Option.some.injEq, Sum.inl.injEq] at e3
      subst e3
      exact ⟨rfl, env1, σ1, h3, e1, e2, (fun o ho => by simp only [OS_z9, List.mem_cons, List.not_mem_nil, or_false] at ho; rcases ho with rfl | rfl | rfl | rfl <;> simp [OIds, Ids, Idss, OS_z9])⟩
    · simp at e3
  · obtain ⟨x1, env1, σ1, h1, h2, h3⟩ := run s _ hs
    rcases dL_z96 h1 with ⟨rfl, s2, e1, e2, e3⟩ | ⟨rfl, s2, e1, e2, e3⟩
    · simp at e3
    · simp only [Option.some.injEq, Sum.inr.injEq] at e3
      subst e3
      exact ⟨rfl, env1, σ1, h3, e1, e2, (fun o ho => by simp only [OX_z9, OX_z31, List.mem_cons, List.not_mem_nil, or_false] at ho; rcases ho with rfl | rfl | rfl | rfl <;> simp [OIds, Ids, Idss, OS_z9])⟩
  · skip
    unfold Lf_z9 at h
    obtain ⟨hlt, h0⟩ := bif_some h
    obtain ⟨w1, w2, w3⟩ := decT_spec h0
    obtain ⟨v0, rfl, w4⟩ := decV_st_int_u64_int_u64_spec w3
    obtain ⟨w5, w6, w7⟩ := decT_spec w4
    obtain ⟨rfl, w8⟩ := decP_spec w7
    obtain ⟨w9, w10, w11⟩ := decT_spec w8
    obtain ⟨rfl, w12⟩ := decP_spec w11
    obtain ⟨w13, w14, w15⟩ := decT_spec w12
    obtain ⟨v1, rfl, w16⟩ := decI_spec w15
    obtain ⟨w17, w18, w19⟩ := decO_spec w16
    split at w19 <;> try (cases w19; done)
    obtain ⟨rfl, w20⟩ := decSl_spec w19
    obtain ⟨w21, w22, w23⟩ := decO_spec w20
    split at w23 <;> try (cases w23; done)
    obtain ⟨rfl, w24⟩ := decSl_spec w23
    obtain ⟨w25, w26, w27⟩ := decO_spec w24
    obtain ⟨v2, rfl, w28⟩ := decA_spec w27
    obtain ⟨w29, w30, w31⟩ := decO_spec w28
    obtain ⟨v3, rfl, w32⟩ := decA_spec w31
    obtain ⟨n, x, hn, hk⟩ := hL _ (fun x => k (xx_z9 x) (envOf [1, 3, 0, 2] (EX_z9 x)) (heapOf [1, 3, 0, 2] (OX_z9 x) σ)) r (show (fun (s : S_z9) (k : X_z9 → R α) => L s (fun x => k x)) ⟨v0, v1, v2, v3⟩ (fun x => k (xx_z9 x) (envOf [1, 3, 0, 2] (EX_z9 x)) (heapOf [1, 3, 0, 2] (OX_z9 x) σ)) = some r from w32)
    refine ⟨n, ⟨v0, v1, v2, v3⟩, x, [1, 3, 0, 2], hn, ⟨rfl, by decide, env_ren ⟨⟨by simp [Ids, Idss, OS_z9], w2⟩, ⟨by simp [Ids, Idss, OS_z9], w6⟩, ⟨by simp [Ids, Idss, OS_z9], w10⟩, ⟨by simp [Ids, Idss, OS_z9], w14⟩, trivial⟩, enum_all ⟨w18, w22, w26, w30, trivial⟩, (fun o ho => by simp only [OS_z9, List.mem_cons, List.not_mem_nil, or_false] at ho; rcases ho with rfl | rfl | rfl | rfl <;> simp [OIds, Ids, Idss, OS_z9]), fun i hi => ?_⟩, hk⟩
    exact Nat.le_of_ble_eq_true (allB_iff.1 hlt i hi)
noncomputable abbrev B_z7w {α : Type} (L_z9 : SgL_z9 α) : FF α := byBody PT_bus_New [] ⟨1, []⟩ Tryz.f10
theorem cB_z7w {α : Type} {I : Imm} (h_z1n : OrcOk (α := α) Tryz.prog I 23 (.full newF)) (h_ref1_New : OrcOk (α := α) Tryz.prog I 34 (.full newF)) {L_z9 : SgL_z9 α} (h_L_law18_both_3 : SoundC (α := α) Tryz.prog I Tryz.f15.ntmps (.loop (loopNo Tryz.f15 0)) (Lf_z9 L_z9)) : OrcOk (α := α) Tryz.prog I 10 (.full (B_z7w L_z9)) := orc_body PT_bus_New_ok (OOk.nil) ⟨1, []⟩ Tryz.func10 (by kernel_rfl) (by kernel_rfl) (by kernel_rfl)
theorem pe_116 : TyOk Tryz.prog 116 ⟨.agg [.nilp, .int .u64 0, .int .u64 0, .arr 1 4 (fun _ => .str .empty), .ints .i64 4 (fun _ => 0), .arr 1 4 (fun _ => .str .empty), .bool false], 16, 192, .st [(0, 1, false), (1, 1, false), (2, 1, false), (3, 4, true), (7, 4, true), (11, 4, true), (15, 1, false)], none⟩ := ⟨fun _ => by kernel_rfl, ⟨rfl, rfl, fun _ _ => by simp [Wf, Wfs]⟩, ⟨_, Tryz.underlying116, by kernel_rfl⟩, fun _ h => by cases h⟩
abbrev PT_ref18_NewBus : TE := [(116, ⟨.agg [.nilp, .int .u64 0, .int .u64 0, .arr 1 4 (fun _ => .str .empty), .ints .i64 4 (fun _ => 0), .arr 1 4 (fun _ => .str .empty), .bool false], 16, 192, .st [(0, 1, false), (1, 1, false), (2, 1, false), (3, 4, true), (7, 4, true), (11, 4, true), (15, 1, false)], none⟩)]
theorem PT_ref18_NewBus_ok : Prg Tryz.prog PT_ref18_NewBus := ⟨(.cons pe_116 (TEok.nil _)), by kernel_rfl⟩
noncomputable abbrev B_z7x {α : Type} (L_z9 : SgL_z9 α) : FF α := byBody PT_ref18_NewBus [] ⟨1, []⟩ Tryz.f38
theorem cB_z7x {α : Type} {I : Imm} (h_z1n : OrcOk (α := α) Tryz.prog I 23 (.full newF)) (h_ref1_New : OrcOk (α := α) Tryz.prog I 34 (.full newF)) {L_z9 : SgL_z9 α} (h_L_law18_both_3 : SoundC (α := α) Tryz.prog I Tryz.f15.ntmps (.loop (loopNo Tryz.f15 0)) (Lf_z9 L_z9)) : OrcOk (α := α) Tryz.prog I 38 (.full (B_z7x L_z9)) := orc_body PT_ref18_NewBus_ok (OOk.nil) ⟨1, []⟩ Tryz.func38 (by kernel_rfl) (by kernel_rfl) (by kernel_rfl)
noncomputable abbrev B_z7y {α : Type} (L_z9 : SgL_z9 α) : FF α := byBody PT_bus_Bus_port [] ⟨1, []⟩ Tryz.f86
theorem cB_z7y {α : Type} {I : Imm} (h_z1n : OrcOk (α := α) Tryz.prog I 23 (.full newF)) (h_ref1_New : OrcOk (α := α) Tryz.prog I 34 (.full newF)) {L_z9 : SgL_z9 α} (h_L_law18_both_3 : SoundC (α := α) Tryz.prog I Tryz.f15.ntmps (.loop (loopNo Tryz.f15 0)) (Lf_z9 L_z9)) : OrcOk (α := α) Tryz.prog I 86 (.full (B_z7y L_z9)) := orc_body PT_bus_Bus_port_ok (OOk.nil) ⟨1, []⟩ Tryz.func86 (by kernel_rfl) (by kernel_rfl) (by kernel_rfl)
abbrev PT_bytes_Clone : TE := [(5, ⟨.int .u8 0, 1, 1, .sc (.int .u8), none⟩), (74, ⟨.nils, 1, 24, .sc (.slice 5), none⟩)]
theorem PT_bytes_Clone_ok : Prg Tryz.prog PT_bytes_Clone := ⟨(.cons pe_5 (.cons pe_74 (TEok.nil _))), by kernel_rfl⟩
noncomputable abbrev B_z7z {α : Type} (L_z9 : SgL_z9 α) : FF α := byBody PT_bytes_Clone [] ⟨1, []⟩ Tryz.f87
theorem cB_z7z {α : Type} {I : Imm} (h_z1n : OrcOk (α := α) Tryz.prog I 23 (.full newF)) (h_ref1_New : OrcOk (α := α) Tryz.prog I 34 (.full newF)) {L_z9 : SgL_z9 α} (h_L_law18_both_3 : SoundC (α := α) Tryz.prog I Tryz.f15.ntmps (.loop (loopNo Tryz.f15 0)) (Lf_z9 L_z9)) : OrcOk (α := α) Tryz.prog I 87 (.full (B_z7z L_z9)) := orc_body PT_bytes_Clone_ok (OOk.nil) ⟨1, []⟩ Tryz.func87 (by kernel_rfl) (by kernel_rfl) (by kernel_rfl)
theorem pe_9 : TyOk Tryz.prog 9 ⟨.str .empty, 1, 16, .sc (.string), none⟩ := ⟨fun _ => by kernel_rfl, ⟨rfl, rfl, fun _ _ => by simp [Wf, Wfs]⟩, ⟨Tryz.underlying9, rfl⟩, fun _ h => by cases h⟩
abbrev PT_bus_Bus_Type : TE := [(3, ⟨.int .i64 0, 1, 8, .sc (.int .i64), none⟩), (5, ⟨.int .u8 0, 1, 1, .sc (.int .u8), none⟩), (9, ⟨.str .empty, 1, 16, .sc (.string), none⟩), (22, ⟨.int .u64 0, 1, 8, .sc (.int .u64), none⟩), (74, ⟨.nils, 1, 24, .sc (.slice 5), none⟩), (76, ⟨.agg [.nils, .nils, .int .i64 0], 3, 56, .st [(0, 1, false), (1, 1, false), (2, 1, false)], none⟩), (155, ⟨.nilp, 1, 8, .sc (.pointer 76), none⟩)]
theorem PT_bus_Bus_Type_ok : Prg Tryz.prog PT_bus_Bus_Type := ⟨(.cons pe_3 (.cons pe_5 (.cons pe_9 (.cons pe_22 (.cons pe_74 (.cons pe_76 (.cons pe_155 (TEok.nil _)))))))), by kernel_rfl⟩
noncomputable abbrev B_z80 {α : Type} (L_z9 : SgL_z9 α) : FF α := byBody PT_bus_Bus_Type [(86, .full (B_z7y L_z9)), (87, .full (B_z7z L_z9))] ⟨1, []⟩ Tryz.f39
theorem cB_z80 {α : Type} {I : Imm} (h_z1n : OrcOk (α := α) Tryz.prog I 23 (.full newF)) (h_ref1_New : OrcOk (α := α) Tryz.prog I 34 (.full newF)) {L_z9 : SgL_z9 α} (h_L_law18_both_3 : SoundC (α := α) Tryz.prog I Tryz.f15.ntmps (.loop (loopNo Tryz.f15 0)) (Lf_z9 L_z9)) : OrcOk (α := α) Tryz.prog I 39 (.full (B_z80 L_z9)) := orc_body PT_bus_Bus_Type_ok (OOk.cons (cB_z7y h_z1n h_ref1_New h_L_law18_both_3) (OOk.cons (cB_z7z h_z1n h_ref1_New h_L_law18_both_3) (OOk.nil))) ⟨1, []⟩ Tryz.func39 (by kernel_rfl) (by kernel_rfl) (by kernel_rfl)
theorem pe_113 : TyOk Tryz.prog 113 ⟨.arr 1 4 (fun _ => .str .empty), 4, 64, .ar 4 9 1 false, none⟩ := ⟨fun _ => by kernel_rfl, ⟨rfl, rfl, fun _ _ => by simp [Wf, Wfs]⟩, ⟨Tryz.underlying113, by kernel_rfl, by kernel_rfl⟩, fun _ h => by cases h⟩
abbrev PT_ref18_Bus_Type : TE := [(3, ⟨.int .i64 0, 1, 8, .sc (.int .i64), none⟩), (9, ⟨.str .empty, 1, 16, .sc (.string), none⟩), (113, ⟨.arr 1 4 (fun _ => .str .empty), 4, 64, .ar 4 9 1 false, none⟩), (114, ⟨.ints .i64 4 (fun _ => 0), 4, 32, .ar 4 3 1 false, some (.ar 4 1 (.it .i64))⟩), (116, ⟨.agg [.nilp, .int .u64 0, .int .u64 0, .arr 1 4 (fun _ => .str .empty), .ints .i64 4 (fun _ => 0), .arr 1 4 (fun _ => .str .empty), .bool false], 16, 192, .st [(0, 1, false), (1, 1, false), (2, 1, false), (3, 4, true), (7, 4, true), (11, 4, true), (15, 1, false)], none⟩)]
theorem PT_ref18_Bus_Type_ok : Prg Tryz.prog PT_ref18_Bus_Type := ⟨(.cons pe_3 (.cons pe_9 (.cons pe_113 (.cons pe_114 (.cons pe_116 (TEok.nil _)))))), by kernel_rfl⟩
noncomputable abbrev B_z81 {α : Type} (L_z9 : SgL_z9 α) : FF α := byBody PT_ref18_Bus_Type [] ⟨1, []⟩ Tryz.f40
theorem cB_z81 {α : Type} {I : Imm} (h_z1n : OrcOk (α := α) Tryz.prog I 23 (.full newF)) (h_ref1_New : OrcOk (α := α) Tryz.prog I 34 (.full newF)) {L_z9 : SgL_z9 α} (h_L_law18_both_3 : SoundC (α := α) Tryz.prog I Tryz.f15.ntmps (.loop (loopNo Tryz.f15 0)) (Lf_z9 L_z9)) : OrcOk (α := α) Tryz.prog I 40 (.full (B_z81 L_z9)) := orc_body PT_ref18_Bus_Type_ok (OOk.nil) ⟨1, []⟩ Tryz.func40 (by kernel_rfl) (by kernel_rfl) (by kernel_rfl)
noncomputable abbrev PO_z1q {α : Type} (L_z9 : SgL_z9 α) : ORC α := [(23, .full newF), (34, .full newF), (10, .full (B_z7w L_z9)), (38, .full (B_z7x L_z9)), (39, .full (B_z80 L_z9)), (40, .full (B_z81 L_z9))]
set_option maxRecDepth 100000 in
theorem ok_z1q {α : Type} (L_z9 : SgL_z9 α) (x0 : (Bool × Addr × Nat × Nat × (Nat → (Int × Int × Unit)))) (k : GBus → GRBus → R α) : bodyL PT_z1q (PO_z1q L_z9) [(3, Lf_z9 L_z9)] ⟨1, []⟩ Tryz.f15 (E_z1q.encs (x0, ()) (fun i => i) 0) (hp (E_z1q.objss (x0, ()) (fun i => i) 0)) (dRo M_z1q Q_z1q false (selN (E_z1q.encs (x0, ()) (fun i => i) 0) []) (fun _ z => k z.1 z.2.1)) = p_z1q L_z9 x0 k := by kernel_rfl
theorem mk_z1q {α : Type} {I : Imm} (h_z1n : OrcOk (α := α) Tryz.prog I 23 (.full newF)) (h_ref1_New : OrcOk (α := α) Tryz.prog I 34 (.full newF)) {L_z9 : SgL_z9 α} (h_L_law18_both_3 : SoundC (α := α) Tryz.prog I Tryz.f15.ntmps (.loop (loopNo Tryz.f15 0)) (Lf_z9 L_z9)) {F : Sg_z1q α} (hF : ∀ x0 k r, F x0 k = some r → p_z1q L_z9 x0 k = some r) : OrcOk (α := α) Tryz.prog I 15 (.full (ad_z1q F)) :=
  orc_obj PT_z39 (O := PO_z1q L_z9) (OOk.cons h_z1n (OOk.cons h_ref1_New (OOk.cons (cB_z7w h_z1n h_ref1_New h_L_law18_both_3) (OOk.cons (cB_z7x h_z1n h_ref1_New h_L_law18_both_3) (OOk.cons (cB_z80 h_z1n h_ref1_New h_L_law18_both_3) (OOk.cons (cB_z81 h_z1n h_ref1_New h_L_law18_both_3) (OOk.nil))))))) (L := [(3, Lf_z9 L_z9)]) ⟨1, []⟩ Tryz.func15 (by kernel_rfl) (by kernel_rfl) (by kernel_rfl) (flok_of (l := [loopNo Tryz.f15 0]) (by kernel_rfl) ⟨lk_yes (by kernel_rfl) h_L_law18_both_3, trivial⟩) E_z39 M_z39 Q_z39 rfl (oi := []) fun ⟨x0, ()⟩ k r h => (ok_z1q L_z9 x0 (fun z0 z1 => k () (z0, z1, ()))).trans (hF x0 _ r h)
abbrev PT_z2x : TE := [(3, ⟨.int .i64 0, 1, 8, .sc (.int .i64), none⟩), (49, ⟨.nils, 1, 24, .sc (.slice 100), none⟩), (100, ⟨.agg [.int .u64 0, .int .u64 0], 2, 16, .st [(0, 1, false), (1, 1, false)], some (.st [(0, 1, false, .it .u64), (1, 1, false, .it .u64)])⟩)]
theorem PT_zbm : Prg Tryz.prog PT_z2x := ⟨(.cons pe_3 (.cons pe_49 (.cons pe_100 (TEok.nil _)))), by kernel_rfl⟩
noncomputable abbrev PO_z2x {α : Type}  : ORC α := []
set_option maxRecDepth 100000 in
theorem ok_z2x {α : Type}  (x0 : (Bool × Addr × Nat × Nat × (Nat → (Int × Int × Unit)))) (k : Bool → R α) : bodyL PT_z2x (PO_z2x ) [] ⟨1, []⟩ Tryz.f14 [(.vslc (.st [(.int .u64), (.int .u64)]) x0.1 x0.2.1 x0.2.2.1 x0.2.2.2.1 x0.2.2.2.2)] emp (fun v _ => dR_law18_few v k) = p_z2x  x0 k := by kernel_rfl
theorem mk_z2x {α : Type} {I : Imm}  : OrcOk (α := α) Tryz.prog I 14 (.pure (ad_z2x (p_z2x ))) := by
  refine orc_pureK PT_zbm (O := PO_z2x ) (OOk.nil) (L := []) ⟨1, []⟩ Tryz.func14 (by kernel_rfl) (by kernel_rfl) (by kernel_rfl) FLOk.nil ?_
  intro args k r hk
  unfold ad_z2x at hk
  split at hk <;> try (cases hk; done)
  obtain ⟨x0, rfl, hk0⟩ := decV_st_int_u64_int_u64_spec hk
  have hkz := hk0
  refine ⟨by simp [Ids, Idss], fun v => dR_law18_few v (fun r0 => k (.bool r0)), ?_, fun v hv => ?_⟩
  · rw [ok_z2x]; exact hkz
  · obtain ⟨r0, rfl, hv1⟩ := dR_law18_few_spec hv; exact ⟨hv1, by simp [Ids, Idss]⟩
end Go.Proofs.YtlijlabaopiicaaGreat
