/-
  The bus at places of memory (printed by wip/pr/pr.py): the functions come to just that.
-/
import Derived.Test.YtigomjcmpafeeaaFnP12
import Derived.Test.YtigomjcmpafeeaaFnM17
import Derived.Test.YtigomjcmpafeeaaSpB17
namespace Go.Proofs.Ytigomjcmpafeeaa
open Go Go.Sh Go.Proofs
set_option linter.unusedVariables false
set_option linter.unusedSimpArgs false
abbrev PT_bus_Bus_console_nil : TE := [(3, ⟨.int .i64 0, 1, 8, .sc (.int .i64), none⟩), (33, ⟨.int .u64 0, 1, 8, .sc (.int .u64), none⟩)]
theorem PT_bus_Bus_console_nil_ok : Prg Try.prog PT_bus_Bus_console_nil := ⟨(.cons pe_3 (.cons pe_33 (TEok.nil _))), by kernel_rfl⟩

theorem pe_146 : TyOk Try.prog 146 ⟨.arr 3 4 (fun _ => .agg [.nils, .nils, .int .i64 0]), 12, 224, .ar 4 145 3 true, none⟩ := ⟨fun _ => by kernel_rfl, ⟨rfl, rfl, fun _ _ => by simp [Wf, Wfs]⟩, ⟨Try.underlying146, by kernel_rfl, by kernel_rfl⟩, fun _ h => by cases h⟩
abbrev PT_bus_Bus_port : TE := [(33, ⟨.int .u64 0, 1, 8, .sc (.int .u64), none⟩), (146, ⟨.arr 3 4 (fun _ => .agg [.nils, .nils, .int .i64 0]), 12, 224, .ar 4 145 3 true, none⟩), (148, ⟨.agg [.nilp, .agg [.agg [], .agg [], .int .u64 0], .int .u64 0, .arr 3 4 (fun _ => .agg [.nils, .nils, .int .i64 0])], 15, 248, .st [(0, 1, false), (1, 1, true), (2, 1, false), (3, 12, true)], none⟩)]
theorem PT_bus_Bus_port_ok : Prg Try.prog PT_bus_Bus_port := ⟨(.cons pe_33 (.cons pe_146 (.cons pe_148 (TEok.nil _)))), by kernel_rfl⟩
noncomputable abbrev B_bus_Bus_console_nil_bus_Bus_port {α : Type}  : FF α := byBody PT_bus_Bus_port [] ⟨1, []⟩ Try.f128
theorem cB_bus_Bus_console_nil_bus_Bus_port {α : Type} {I : Imm}  : OrcOk (α := α) Try.prog I 128 (.full (B_bus_Bus_console_nil_bus_Bus_port )) := orc_body PT_bus_Bus_port_ok (OOk.nil) ⟨1, []⟩ Try.func128 (by kernel_rfl) (by kernel_rfl) (by kernel_rfl)
noncomputable abbrev PO_bus_Bus_console_nil {α : Type}  : ORC α := [(128, .full (B_bus_Bus_console_nil_bus_Bus_port ))]
set_option maxRecDepth 100000 in
theorem ok_bus_Bus_console_nil {α : Type}  (g g0 g1 : Option Nat) (f : Nat → Int) (tm al : Int) (x1 : Int) (x2 : Int) (k : R α) : bodyL PT_bus_Bus_console_nil (PO_bus_Bus_console_nil ) [] ⟨1, []⟩ Try.f122 [.ptr 0 [], (.int .u64 x1), (.int .i64 x2)] (hp [busO 1 g tm al, memO 2 g0, byO g1 f]) (fun v σ1 => dR_bus_Bus_console_nil v σ1 k) = p_bus_Bus_console_nil  f tm al x1 x2 k := by kernel_rfl
theorem mk_bus_Bus_console_nil {α : Type} {I : Imm}  : OrcOk (α := α) Try.prog I 122 (.full (ad_bus_Bus_console_nil (p_bus_Bus_console_nil ))) := by
  refine orc_canonK PT_bus_Bus_console_nil_ok (O := PO_bus_Bus_console_nil ) (OOk.cons (cB_bus_Bus_console_nil_bus_Bus_port ) (OOk.nil)) (L := []) ⟨1, []⟩ Try.func122 (by kernel_rfl) (by kernel_rfl) (by kernel_rfl) FLOk.nil ?_
  intro args σ k r hk
  unfold ad_bus_Bus_console_nil at hk
  split at hk <;> try (cases hk; done)
  obtain ⟨b, g, m, tm, al, b1, g0, g1, f, rfl, hb, hm, hb1, hne, hne2, hne3, hk0⟩ := withBus_spec hk
  obtain ⟨x1, rfl, hk1⟩ := decI_spec hk0
  obtain ⟨x2, rfl, hk2⟩ := decI_spec hk1
  have hkz := hk2
  refine ⟨[b, m, b1], [busO 1 g tm al, memO 2 g0, byO g1 f], [.ptr 0 [], (.int .u64 x1), (.int .i64 x2)], lay_mk rfl (by simp [hne, hne2, hne3]) rfl ⟨hb, hm, hb1, trivial⟩ (by simp [AllL, Ids, Idss]) (by simp [AllL, OIds, Ids, Idss, freshP]), fun v σ1 => dR_bus_Bus_console_nil v σ1 (k .nilp σ), ?_, fun v σ1 hg hv => ?_⟩
  · rw [ok_bus_Bus_console_nil]; exact hkz
  · unfold dR_bus_Bus_console_nil at hv
    obtain ⟨hc, hv0⟩ := bif_some hv
    obtain ⟨rfl, hv1⟩ := decN_spec hv0
    exact ⟨[], [], pub_keep hg (by simp [SObj.live]) hc (by simp [Ids, Idss]), hv1⟩
theorem pe_29 : TyOk Try.prog 29 ⟨.int .i64 0, 1, 8, .sc (.int .i64), none⟩ := ⟨fun _ => by kernel_rfl, ⟨rfl, rfl, fun _ _ => by simp [Wf, Wfs]⟩, ⟨Try.underlying29, rfl⟩, fun _ h => by cases h⟩
theorem pe_145 : TyOk Try.prog 145 ⟨.agg [.nils, .nils, .int .i64 0], 3, 56, .st [(0, 1, false), (1, 1, false), (2, 1, false)], none⟩ := ⟨fun _ => by kernel_rfl, ⟨rfl, rfl, fun _ _ => by simp [Wf, Wfs]⟩, ⟨_, Try.underlying145, by kernel_rfl⟩, fun _ h => by cases h⟩
theorem pe_193 : TyOk Try.prog 193 ⟨.nilp, 1, 8, .sc (.pointer 145), none⟩ := ⟨fun _ => by kernel_rfl, ⟨rfl, rfl, fun _ _ => by simp [Wf, Wfs]⟩, ⟨Try.underlying193, rfl⟩, fun _ h => by cases h⟩
abbrev PT_bus_Bus_Read_ok : TE := [(3, ⟨.int .i64 0, 1, 8, .sc (.int .i64), none⟩), (5, ⟨.int .u8 0, 1, 1, .sc (.int .u8), none⟩), (28, ⟨.nilp, 1, 8, .sc (.pointer 102), none⟩), (29, ⟨.int .i64 0, 1, 8, .sc (.int .i64), none⟩), (33, ⟨.int .u64 0, 1, 8, .sc (.int .u64), none⟩), (37, ⟨.nils, 1, 24, .sc (.slice 5), none⟩), (145, ⟨.agg [.nils, .nils, .int .i64 0], 3, 56, .st [(0, 1, false), (1, 1, false), (2, 1, false)], none⟩), (148, ⟨.agg [.nilp, .agg [.agg [], .agg [], .int .u64 0], .int .u64 0, .arr 3 4 (fun _ => .agg [.nils, .nils, .int .i64 0])], 15, 248, .st [(0, 1, false), (1, 1, true), (2, 1, false), (3, 12, true)], none⟩), (193, ⟨.nilp, 1, 8, .sc (.pointer 145), none⟩)]
theorem PT_bus_Bus_Read_ok_ok : Prg Try.prog PT_bus_Bus_Read_ok := ⟨(.cons pe_3 (.cons pe_5 (.cons pe_28 (.cons pe_29 (.cons pe_33 (.cons pe_37 (.cons pe_145 (.cons pe_148 (.cons pe_193 (TEok.nil _)))))))))), by kernel_rfl⟩

noncomputable abbrev PO_bus_Bus_Read_ok {α : Type} (F_bus_Bus_console_nil : Sg_bus_Bus_console_nil α) (F_mem_Memory_Read : Sg_mem_Memory_Read α) : ORC α := [(123, .pure (fun _ _ => none)), (122, .full (ad_bus_Bus_console_nil F_bus_Bus_console_nil)), (124, .full (ad_mem_Memory_Read F_mem_Memory_Read))]
set_option maxRecDepth 100000 in
theorem ok_bus_Bus_Read_ok {α : Type} (F_bus_Bus_console_nil : Sg_bus_Bus_console_nil α) (F_mem_Memory_Read : Sg_mem_Memory_Read α) (g g0 g1 : Option Nat) (f : Nat → Int) (tm al : Int) (x1 : Int) (x2 : Int) (k : Int → R α) : bodyL PT_bus_Bus_Read_ok (PO_bus_Bus_Read_ok F_bus_Bus_console_nil F_mem_Memory_Read) [] ⟨1, []⟩ Try.f107 [.ptr 0 [], (.int .u64 x1), (.int .i64 x2)] (hp [busO 1 g tm al, memO 2 g0, byO g1 f]) (fun v σ1 => dR_bus_Bus_Read_ok v σ1 k) = p_bus_Bus_Read_ok F_bus_Bus_console_nil F_mem_Memory_Read f tm al x1 x2 k := by kernel_rfl
theorem mk_bus_Bus_Read_ok {α : Type} {I : Imm} {F_bus_Bus_console_nil : Sg_bus_Bus_console_nil α} {F_mem_Memory_Read : Sg_mem_Memory_Read α} (h_sync_atomic_Uint64_Load : OrcOk (α := α) Try.prog I 123 (.pure (fun _ _ => none))) (h_bus_Bus_console_nil : OrcOk (α := α) Try.prog I 122 (.full (ad_bus_Bus_console_nil F_bus_Bus_console_nil))) (h_mem_Memory_Read : OrcOk (α := α) Try.prog I 124 (.full (ad_mem_Memory_Read F_mem_Memory_Read))) : OrcOk (α := α) Try.prog I 107 (.full (ad_bus_Bus_Read_ok (p_bus_Bus_Read_ok F_bus_Bus_console_nil F_mem_Memory_Read))) := by
  refine orc_canonK PT_bus_Bus_Read_ok_ok (O := PO_bus_Bus_Read_ok F_bus_Bus_console_nil F_mem_Memory_Read) (OOk.cons h_sync_atomic_Uint64_Load (OOk.cons h_bus_Bus_console_nil (OOk.cons h_mem_Memory_Read (OOk.nil)))) (L := []) ⟨1, []⟩ Try.func107 (by kernel_rfl) (by kernel_rfl) (by kernel_rfl) FLOk.nil ?_
  intro args σ k r hk
  unfold ad_bus_Bus_Read_ok at hk
  split at hk <;> try (cases hk; done)
  obtain ⟨b, g, m, tm, al, b1, g0, g1, f, rfl, hb, hm, hb1, hne, hne2, hne3, hk0⟩ := withBus_spec hk
  obtain ⟨x1, rfl, hk1⟩ := decI_spec hk0
  obtain ⟨x2, rfl, hk2⟩ := decI_spec hk1
  have hkz := hk2
  refine ⟨[b, m, b1], [busO 1 g tm al, memO 2 g0, byO g1 f], [.ptr 0 [], (.int .u64 x1), (.int .i64 x2)], lay_mk rfl (by simp [hne, hne2, hne3]) rfl ⟨hb, hm, hb1, trivial⟩ (by simp [AllL, Ids, Idss]) (by simp [AllL, OIds, Ids, Idss, freshP]), fun v σ1 => dR_bus_Bus_Read_ok v σ1 (fun r0 => k (.tuple [(.int .u64 r0), (.bool true)]) σ), ?_, fun v σ1 hg hv => ?_⟩
  · rw [ok_bus_Bus_Read_ok]; exact hkz
  · unfold dR_bus_Bus_Read_ok at hv
    obtain ⟨hc, hv0⟩ := bif_some hv
    split at hv0 <;> try (cases hv0; done)
    obtain ⟨r0, rfl, hv1⟩ := decI_spec hv0
    obtain ⟨y1, rfl, hv2⟩ := decB_spec hv1
    obtain ⟨hy1, hv3⟩ := bif_some hv2
    subst hy1
    exact ⟨[], [], pub_keep hg (by simp [SObj.live]) hc (by simp [Ids, Idss]), hv3⟩
abbrev PT_bus_Bus_Write_ok : TE := [(3, ⟨.int .i64 0, 1, 8, .sc (.int .i64), none⟩), (5, ⟨.int .u8 0, 1, 1, .sc (.int .u8), none⟩), (28, ⟨.nilp, 1, 8, .sc (.pointer 102), none⟩), (29, ⟨.int .i64 0, 1, 8, .sc (.int .i64), none⟩), (33, ⟨.int .u64 0, 1, 8, .sc (.int .u64), none⟩), (37, ⟨.nils, 1, 24, .sc (.slice 5), none⟩), (145, ⟨.agg [.nils, .nils, .int .i64 0], 3, 56, .st [(0, 1, false), (1, 1, false), (2, 1, false)], none⟩), (148, ⟨.agg [.nilp, .agg [.agg [], .agg [], .int .u64 0], .int .u64 0, .arr 3 4 (fun _ => .agg [.nils, .nils, .int .i64 0])], 15, 248, .st [(0, 1, false), (1, 1, true), (2, 1, false), (3, 12, true)], none⟩), (193, ⟨.nilp, 1, 8, .sc (.pointer 145), none⟩)]
theorem PT_bus_Bus_Write_ok_ok : Prg Try.prog PT_bus_Bus_Write_ok := ⟨(.cons pe_3 (.cons pe_5 (.cons pe_28 (.cons pe_29 (.cons pe_33 (.cons pe_37 (.cons pe_145 (.cons pe_148 (.cons pe_193 (TEok.nil _)))))))))), by kernel_rfl⟩

noncomputable abbrev PO_bus_Bus_Write_ok {α : Type} (F_bus_Bus_console_nil : Sg_bus_Bus_console_nil α) (F_mem_Memory_Write : Sg_mem_Memory_Write α) : ORC α := [(122, .full (ad_bus_Bus_console_nil F_bus_Bus_console_nil)), (31, .full (ad_mem_Memory_Write F_mem_Memory_Write))]
set_option maxRecDepth 100000 in
theorem ok_bus_Bus_Write_ok {α : Type} (F_bus_Bus_console_nil : Sg_bus_Bus_console_nil α) (F_mem_Memory_Write : Sg_mem_Memory_Write α) (g g0 g1 : Option Nat) (f : Nat → Int) (tm al : Int) (x1 : Int) (x2 : Int) (x3 : Int) (k : Option Nat → (Nat → Int) → R α) : bodyL PT_bus_Bus_Write_ok (PO_bus_Bus_Write_ok F_bus_Bus_console_nil F_mem_Memory_Write) [] ⟨1, []⟩ Try.f106 [.ptr 0 [], (.int .u64 x1), (.int .i64 x2), (.int .u64 x3)] (hp [busO 1 g tm al, memO 2 g0, byO g1 f]) (fun v σ1 => dR_bus_Bus_Write_ok v σ1 k) = p_bus_Bus_Write_ok F_bus_Bus_console_nil F_mem_Memory_Write f tm al x1 x2 x3 (fun fm => k g1 fm) := by kernel_rfl
theorem mk_bus_Bus_Write_ok {α : Type} {I : Imm} {F_bus_Bus_console_nil : Sg_bus_Bus_console_nil α} {F_mem_Memory_Write : Sg_mem_Memory_Write α} (h_bus_Bus_console_nil : OrcOk (α := α) Try.prog I 122 (.full (ad_bus_Bus_console_nil F_bus_Bus_console_nil))) (h_mem_Memory_Write : OrcOk (α := α) Try.prog I 31 (.full (ad_mem_Memory_Write F_mem_Memory_Write))) : OrcOk (α := α) Try.prog I 106 (.full (ad_bus_Bus_Write_ok (p_bus_Bus_Write_ok F_bus_Bus_console_nil F_mem_Memory_Write))) := by
  refine orc_canonK PT_bus_Bus_Write_ok_ok (O := PO_bus_Bus_Write_ok F_bus_Bus_console_nil F_mem_Memory_Write) (OOk.cons h_bus_Bus_console_nil (OOk.cons h_mem_Memory_Write (OOk.nil))) (L := []) ⟨1, []⟩ Try.func106 (by kernel_rfl) (by kernel_rfl) (by kernel_rfl) FLOk.nil ?_
  intro args σ k r hk
  unfold ad_bus_Bus_Write_ok at hk
  split at hk <;> try (cases hk; done)
  obtain ⟨b, g, m, tm, al, b1, g0, g1, f, rfl, hb, hm, hb1, hne, hne2, hne3, hk0⟩ := withBus_spec hk
  obtain ⟨x1, rfl, hk1⟩ := decI_spec hk0
  obtain ⟨x2, rfl, hk2⟩ := decI_spec hk1
  obtain ⟨x3, rfl, hk3⟩ := decI_spec hk2
  have hkz := hk3
  refine ⟨[b, m, b1], [busO 1 g tm al, memO 2 g0, byO g1 f], [.ptr 0 [], (.int .u64 x1), (.int .i64 x2), (.int .u64 x3)], lay_mk rfl (by simp [hne, hne2, hne3]) rfl ⟨hb, hm, hb1, trivial⟩ (by simp [AllL, Ids, Idss]) (by simp [AllL, OIds, Ids, Idss, freshP]), fun v σ1 => dR_bus_Bus_Write_ok v σ1 (fun g1 fm => k (.bool true) ⟨σ.next, [(b1, byO g1 fm)] ++ σ.blocks⟩), ?_, fun v σ1 hg hv => ?_⟩
  · rw [ok_bus_Bus_Write_ok]; exact hkz
  · unfold dR_bus_Bus_Write_ok at hv
    obtain ⟨hc, hv0⟩ := bif_some hv
    obtain ⟨g, fm, hnow, hv1⟩ := nowAt_spec hv0
    obtain ⟨y0, rfl, hv2⟩ := decB_spec hv1
    obtain ⟨hy0, hv3⟩ := bif_some hv2
    subst hy0
    exact ⟨[], [(2, byO g fm)], pub_write hg (by simp [SObj.live]) hc (by simp) hnow (by simp [Ids, Idss]), hv3⟩
end Go.Proofs.Ytigomjcmpafeeaa
