/-
  Reading and writing, and the law AccessTells (printed by wip/pr/pr.py): the functions come to just that.
-/
import Derived.Test.YtemkfjnmaljmeaaGreatGnBus
import Derived.Test.YtemkfjnmaljmeaaGreatGnTwo
import Derived.Test.YtemkfjnmaljmeaaGreatSpA17
namespace Go.Proofs.YtemkfjnmaljmeaaGreat
open Go Go.Sh Go.Proofs
set_option linter.unusedVariables false
set_option linter.unusedSimpArgs false
abbrev PT_zt : TE := [(3, ⟨.int .i64 0, 1, 8, .sc (.int .i64), none⟩), (23, ⟨.int .u64 0, 1, 8, .sc (.int .u64), none⟩), (237, ⟨.ints .u64 3 (fun _ => 0), 3, 24, .ar 3 23 1 false, some (.ar 3 1 (.it .u64))⟩)]
theorem PT_z5c : Prg Tryz.prog PT_zt := ⟨(.cons pe_3 (.cons pe_23 (.cons pe_237 (TEok.nil _)))), by kernel_rfl⟩
noncomputable abbrev PO_zt {α : Type}  : ORC α := []
set_option maxRecDepth 100000 in
theorem ok_zt {α : Type}  (x0 : Int) (x1 : (Nat → Int)) (k : Int → R α) : bodyL PT_zt (PO_zt ) [] ⟨1, []⟩ Tryz.f147 [(.int .i64 x0), (.ints .u64 3 x1)] emp (fun v _ => dR_access_cause v k) = p_zt  x0 x1 k := by kernel_rfl
theorem mk_zt {α : Type} {I : Imm}  : OrcOk (α := α) Tryz.prog I 147 (.pure (ad_zt (p_zt ))) := by
  refine orc_pureK PT_z5c (O := PO_zt ) (OOk.nil) (L := []) ⟨1, []⟩ Tryz.func147 (by kernel_rfl) (by kernel_rfl) (by kernel_rfl) FLOk.nil ?_
  intro args k r hk
  unfold ad_zt at hk
  split at hk <;> try (cases hk; done)
  obtain ⟨x0, rfl, hk0⟩ := decI_spec hk
  obtain ⟨x1, rfl, hk1⟩ := decA_spec hk0
  have hkz := hk1
  refine ⟨by simp [Ids, Idss], fun v => dR_access_cause v (fun r0 => k (.int .u64 r0)), ?_, fun v hv => ?_⟩
  · rw [ok_zt]; exact hkz
  · obtain ⟨r0, rfl, hv1⟩ := dR_access_cause_spec hv; exact ⟨hv1, by simp [Ids, Idss]⟩
abbrev PT_zn : TE := [(36, ⟨.agg [.int .u64 0, .int .u64 0, .int .u64 0, .bool false], 4, 32, .st [(0, 1, false), (1, 1, false), (2, 1, false), (3, 1, false)], some (.st [(0, 1, false, .it .u64), (1, 1, false, .it .u64), (2, 1, false, .it .u64), (3, 1, false, .bl)])⟩), (237, ⟨.ints .u64 3 (fun _ => 0), 3, 24, .ar 3 23 1 false, some (.ar 3 1 (.it .u64))⟩)]
theorem PT_z5d : Prg Tryz.prog PT_zn := ⟨(.cons pe_36 (.cons pe_237 (TEok.nil _))), by kernel_rfl⟩
noncomputable abbrev PO_zn {α : Type} (F_zt : Sg_zt α) : ORC α := [(147, .pure (ad_zt F_zt))]
set_option maxRecDepth 100000 in
theorem ok_zn {α : Type} (F_zt : Sg_zt α) (x0 : Int) (x1 : Int) (x2 : Bool) (k : GFault → R α) : bodyL PT_zn (PO_zn F_zt) [] ⟨1, []⟩ Tryz.f146 [(.int .u64 x0), (.int .i64 x1), (.bool x2)] emp (fun v _ => dR_access_Bad v k) = p_zn F_zt x0 x1 x2 k := by kernel_rfl
theorem mk_zn {α : Type} {I : Imm} {F_zt : Sg_zt α} (h_zt : OrcOk (α := α) Tryz.prog I 147 (.pure (ad_zt F_zt))) : OrcOk (α := α) Tryz.prog I 146 (.pure (ad_zn (p_zn F_zt))) := by
  refine orc_pureK PT_z5d (O := PO_zn F_zt) (OOk.cons h_zt (OOk.nil)) (L := []) ⟨1, []⟩ Tryz.func146 (by kernel_rfl) (by kernel_rfl) (by kernel_rfl) FLOk.nil ?_
  intro args k r hk
  unfold ad_zn at hk
  split at hk <;> try (cases hk; done)
  obtain ⟨x0, rfl, hk0⟩ := decI_spec hk
  obtain ⟨x1, rfl, hk1⟩ := decI_spec hk0
  obtain ⟨x2, rfl, hk2⟩ := decB_spec hk1
  have hkz := hk2
  refine ⟨by simp [Ids, Idss], fun v => dR_access_Bad v (fun r0 => k (GFault.sv r0)), ?_, fun v hv => ?_⟩
  · rw [ok_zn]; exact hkz
  · obtain ⟨r0, rfl, hv1⟩ := dR_access_Bad_spec hv; exact ⟨hv1, by simp [Ids, Idss]⟩
abbrev PT_zf : TE := [(3, ⟨.int .i64 0, 1, 8, .sc (.int .i64), none⟩), (36, ⟨.agg [.int .u64 0, .int .u64 0, .int .u64 0, .bool false], 4, 32, .st [(0, 1, false), (1, 1, false), (2, 1, false), (3, 1, false)], some (.st [(0, 1, false, .it .u64), (1, 1, false, .it .u64), (2, 1, false, .it .u64), (3, 1, false, .bl)])⟩)]
theorem PT_z2g : Prg Tryz.prog PT_zf := ⟨(.cons pe_3 (.cons pe_36 (TEok.nil _))), by kernel_rfl⟩
abbrev PT_bus_Bus_IsDevice : TE := [(23, ⟨.int .u64 0, 1, 8, .sc (.int .u64), none⟩)]
theorem PT_bus_Bus_IsDevice_ok : Prg Tryz.prog PT_bus_Bus_IsDevice := ⟨(.cons pe_23 (TEok.nil _)), by kernel_rfl⟩
noncomputable abbrev B_z3d {α : Type} (F_zn : Sg_zn α) (F_zv : Sg_zv α) (F_zu : Sg_zu α) : FF α := byBody PT_bus_Bus_IsDevice [] ⟨1, []⟩ Tryz.f154
theorem cB_z3d {α : Type} {I : Imm} {F_zn : Sg_zn α} {F_zv : Sg_zv α} {F_zu : Sg_zu α} (h_zn : OrcOk (α := α) Tryz.prog I 146 (.pure (ad_zn F_zn))) (h_zv : OrcOk (α := α) Tryz.prog I 46 (.full (ad_zv F_zv))) (h_zu : OrcOk (α := α) Tryz.prog I 155 (.full (ad_zu F_zu))) : OrcOk (α := α) Tryz.prog I 154 (.full (B_z3d F_zn F_zv F_zu)) := orc_body PT_bus_Bus_IsDevice_ok (OOk.nil) ⟨1, []⟩ Tryz.func154 (by kernel_rfl) (by kernel_rfl) (by kernel_rfl)
noncomputable abbrev PO_zf {α : Type} (F_zn : Sg_zn α) (F_zv : Sg_zv α) (F_zu : Sg_zu α) : ORC α := [(154, .full (B_z3d F_zn F_zv F_zu)), (146, .pure (ad_zn F_zn)), (46, .full (ad_zv F_zv)), (155, .full (ad_zu F_zu))]
set_option maxRecDepth 100000 in
theorem ok_zf {α : Type} (F_zn : Sg_zn α) (F_zv : Sg_zv α) (F_zu : Sg_zu α) (x0 : GBus) (x1 : Int) (x2 : Int) (x3 : Int) (x4 : Int) (x5 : Int) (x6 : Bool) (k : GBus → Int → GFault → Bool → R α) : bodyL PT_zf (PO_zf F_zn F_zv F_zu) [] ⟨1, []⟩ Tryz.f79 (E_zf.encs (x0, x1, x2, x3, x4, x5, x6, ()) (fun i => i) 0) (hp (E_zf.objss (x0, x1, x2, x3, x4, x5, x6, ()) (fun i => i) 0)) (dRo M_zf Q_zf false (selN (E_zf.encs (x0, x1, x2, x3, x4, x5, x6, ()) (fun i => i) 0) [0]) (fun y z => k y.1 z.1 z.2.1 z.2.2.1)) = p_zf F_zn F_zv F_zu x0 x1 x2 x3 x4 x5 x6 k := by kernel_rfl
theorem mk_zf {α : Type} {I : Imm} {F_zn : Sg_zn α} {F_zv : Sg_zv α} {F_zu : Sg_zu α} (h_zn : OrcOk (α := α) Tryz.prog I 146 (.pure (ad_zn F_zn))) (h_zv : OrcOk (α := α) Tryz.prog I 46 (.full (ad_zv F_zv))) (h_zu : OrcOk (α := α) Tryz.prog I 155 (.full (ad_zu F_zu))) {F : Sg_zf α} (hF : ∀ x0 x1 x2 x3 x4 x5 x6 k r, F x0 x1 x2 x3 x4 x5 x6 k = some r → p_zf F_zn F_zv F_zu x0 x1 x2 x3 x4 x5 x6 k = some r) : OrcOk (α := α) Tryz.prog I 79 (.full (ad_zf F)) :=
  orc_obj PT_z2g (O := PO_zf F_zn F_zv F_zu) (OOk.cons (cB_z3d h_zn h_zv h_zu) (OOk.cons h_zn (OOk.cons h_zv (OOk.cons h_zu (OOk.nil))))) (L := []) ⟨1, []⟩ Tryz.func79 (by kernel_rfl) (by kernel_rfl) (by kernel_rfl) FLOk.nil E_z2g M_z2g Q_z2g rfl (oi := [0]) fun ⟨x0, x1, x2, x3, x4, x5, x6, ()⟩ k r h => (ok_zf F_zn F_zv F_zu x0 x1 x2 x3 x4 x5 x6 (fun y0 z0 z1 z2 => k (y0, ()) (z0, z1, z2, ()))).trans (hF x0 x1 x2 x3 x4 x5 x6 _ r h)
abbrev PT_zl : TE := [(3, ⟨.int .i64 0, 1, 8, .sc (.int .i64), none⟩), (23, ⟨.int .u64 0, 1, 8, .sc (.int .u64), none⟩), (36, ⟨.agg [.int .u64 0, .int .u64 0, .int .u64 0, .bool false], 4, 32, .st [(0, 1, false), (1, 1, false), (2, 1, false), (3, 1, false)], some (.st [(0, 1, false, .it .u64), (1, 1, false, .it .u64), (2, 1, false, .it .u64), (3, 1, false, .bl)])⟩), (237, ⟨.ints .u64 3 (fun _ => 0), 3, 24, .ar 3 23 1 false, some (.ar 3 1 (.it .u64))⟩)]
theorem PT_z5e : Prg Tryz.prog PT_zl := ⟨(.cons pe_3 (.cons pe_23 (.cons pe_36 (.cons pe_237 (TEok.nil _))))), by kernel_rfl⟩
noncomputable abbrev PO_zl {α : Type} (F_zn : Sg_zn α) (F_zt : Sg_zt α) : ORC α := [(146, .pure (ad_zn F_zn)), (147, .pure (ad_zt F_zt))]
set_option maxRecDepth 100000 in
theorem ok_zl {α : Type} (F_zn : Sg_zn α) (F_zt : Sg_zt α) (x0 : Int) (x1 : Int) (x2 : Int) (x3 : Bool) (k : GFault → Bool → R α) : bodyL PT_zl (PO_zl F_zn F_zt) [] ⟨1, []⟩ Tryz.f77 [(.int .u64 x0), (.int .i64 x1), (.int .i64 x2), (.bool x3)] emp (fun v _ => dR_access_Aligned v k) = p_zl F_zn F_zt x0 x1 x2 x3 k := by kernel_rfl
theorem mk_zl {α : Type} {I : Imm} {F_zn : Sg_zn α} {F_zt : Sg_zt α} (h_zn : OrcOk (α := α) Tryz.prog I 146 (.pure (ad_zn F_zn))) (h_zt : OrcOk (α := α) Tryz.prog I 147 (.pure (ad_zt F_zt))) : OrcOk (α := α) Tryz.prog I 77 (.pure (ad_zl (p_zl F_zn F_zt))) := by
  refine orc_pureK PT_z5e (O := PO_zl F_zn F_zt) (OOk.cons h_zn (OOk.cons h_zt (OOk.nil))) (L := []) ⟨1, []⟩ Tryz.func77 (by kernel_rfl) (by kernel_rfl) (by kernel_rfl) FLOk.nil ?_
  intro args k r hk
  unfold ad_zl at hk
  split at hk <;> try (cases hk; done)
  obtain ⟨x0, rfl, hk0⟩ := decI_spec hk
  obtain ⟨x1, rfl, hk1⟩ := decI_spec hk0
  obtain ⟨x2, rfl, hk2⟩ := decI_spec hk1
  obtain ⟨x3, rfl, hk3⟩ := decB_spec hk2
  have hkz := hk3
  refine ⟨by simp [Ids, Idss], fun v => dR_access_Aligned v (fun r0 r1 => k (.tuple [(GFault.sv r0), (.bool r1)])), ?_, fun v hv => ?_⟩
  · rw [ok_zl]; exact hkz
  · obtain ⟨r0, r1, rfl, hv1⟩ := dR_access_Aligned_spec hv; exact ⟨hv1, by simp [Ids, Idss]⟩
abbrev PT_z5 : TE := [(27, ⟨.agg [.ints .u64 32 (fun _ => 0), .int .u64 0, .int .i64 0, .bool false, .ints .u64 29 (fun _ => 0), .int .u64 0], 65, 520, .st [(0, 32, true), (32, 1, false), (33, 1, false), (34, 1, false), (35, 29, true), (64, 1, false)], some (.st [(0, 32, true, .ar 32 1 (.it .u64)), (32, 1, false, .it .u64), (33, 1, false, .it .i64), (34, 1, false, .bl), (35, 29, true, .ar 29 1 (.it .u64)), (64, 1, false, .it .u64)])⟩), (36, ⟨.agg [.int .u64 0, .int .u64 0, .int .u64 0, .bool false], 4, 32, .st [(0, 1, false), (1, 1, false), (2, 1, false), (3, 1, false)], some (.st [(0, 1, false, .it .u64), (1, 1, false, .it .u64), (2, 1, false, .it .u64), (3, 1, false, .bl)])⟩), (139, ⟨.agg [.bool false, .bool false, .int .i64 0, .int .i64 0, .int .i64 0, .int .i64 0, .int .i64 0, .int .i64 0, .int .i64 0], 9, 64, .st [(0, 1, false), (1, 1, false), (2, 1, false), (3, 1, false), (4, 1, false), (5, 1, false), (6, 1, false), (7, 1, false), (8, 1, false)], some (.st [(0, 1, false, .bl), (1, 1, false, .bl), (2, 1, false, .it .i64), (3, 1, false, .it .i64), (4, 1, false, .it .i64), (5, 1, false, .it .i64), (6, 1, false, .it .i64), (7, 1, false, .it .i64), (8, 1, false, .it .i64)])⟩)]
theorem PT_z2h : Prg Tryz.prog PT_z5 := ⟨(.cons pe_27 (.cons pe_36 (.cons pe_139 (TEok.nil _)))), by kernel_rfl⟩
abbrev PT_bus_Bus_Mem : TE := [(92, ⟨.nilp, 1, 8, .sc (.pointer 201), none⟩), (161, ⟨.agg [.nilp, .agg [.agg [], .agg [], .int .u64 0], .int .u64 0, .arr 3 4 (fun _ => .agg [.nils, .nils, .int .i64 0])], 15, 248, .st [(0, 1, false), (1, 1, true), (2, 1, false), (3, 12, true)], none⟩)]
theorem PT_bus_Bus_Mem_ok : Prg Tryz.prog PT_bus_Bus_Mem := ⟨(.cons pe_92 (.cons pe_161 (TEok.nil _))), by kernel_rfl⟩
noncomputable abbrev B_z3e {α : Type} (F_zl : Sg_zl α) (F_zq : Sg_zq α) (F_zf : Sg_zf α) : FF α := byBody PT_bus_Bus_Mem [] ⟨1, []⟩ Tryz.f49
theorem cB_z3e {α : Type} {I : Imm} {F_zl : Sg_zl α} {F_zq : Sg_zq α} {F_zf : Sg_zf α} (h_zl : OrcOk (α := α) Tryz.prog I 77 (.pure (ad_zl F_zl))) (h_zq : OrcOk (α := α) Tryz.prog I 78 (.full (ad_zq F_zq))) (h_zf : OrcOk (α := α) Tryz.prog I 79 (.full (ad_zf F_zf))) : OrcOk (α := α) Tryz.prog I 49 (.full (B_z3e F_zl F_zq F_zf)) := orc_body PT_bus_Bus_Mem_ok (OOk.nil) ⟨1, []⟩ Tryz.func49 (by kernel_rfl) (by kernel_rfl) (by kernel_rfl)
noncomputable abbrev PO_z5 {α : Type} (F_zl : Sg_zl α) (F_zq : Sg_zq α) (F_zf : Sg_zf α) : ORC α := [(77, .pure (ad_zl F_zl)), (49, .full (B_z3e F_zl F_zq F_zf)), (78, .full (ad_zq F_zq)), (79, .full (ad_zf F_zf))]
set_option maxRecDepth 100000 in
theorem ok_z5 {α : Type} (F_zl : Sg_zl α) (F_zq : Sg_zq α) (F_zf : Sg_zf α) (x0 : GBus) (x1 : GState) (x2 : Int) (x3 : Int) (x4 : Int) (x5 : Int) (x6 : Int) (x7 : Bool) (k : GBus → Int → GFault → Bool → R α) : bodyL PT_z5 (PO_z5 F_zl F_zq F_zf) [] ⟨1, []⟩ Tryz.f24 (E_z5.encs (x0, x1, x2, x3, x4, x5, x6, x7, ()) (fun i => i) 0) (hp (E_z5.objss (x0, x1, x2, x3, x4, x5, x6, x7, ()) (fun i => i) 0)) (dRo M_z5 Q_z5 false (selN (E_z5.encs (x0, x1, x2, x3, x4, x5, x6, x7, ()) (fun i => i) 0) [0]) (fun y z => k y.1 z.1 z.2.1 z.2.2.1)) = p_z5 F_zl F_zq F_zf x0 x1 x2 x3 x4 x5 x6 x7 k := by kernel_rfl
theorem mk_z5 {α : Type} {I : Imm} {F_zl : Sg_zl α} {F_zq : Sg_zq α} {F_zf : Sg_zf α} (h_zl : OrcOk (α := α) Tryz.prog I 77 (.pure (ad_zl F_zl))) (h_zq : OrcOk (α := α) Tryz.prog I 78 (.full (ad_zq F_zq))) (h_zf : OrcOk (α := α) Tryz.prog I 79 (.full (ad_zf F_zf))) {F : Sg_z5 α} (hF : ∀ x0 x1 x2 x3 x4 x5 x6 x7 k r, F x0 x1 x2 x3 x4 x5 x6 x7 k = some r → p_z5 F_zl F_zq F_zf x0 x1 x2 x3 x4 x5 x6 x7 k = some r) : OrcOk (α := α) Tryz.prog I 24 (.full (ad_z5 F)) :=
  orc_obj PT_z2h (O := PO_z5 F_zl F_zq F_zf) (OOk.cons h_zl (OOk.cons (cB_z3e h_zl h_zq h_zf) (OOk.cons h_zq (OOk.cons h_zf (OOk.nil))))) (L := []) ⟨1, []⟩ Tryz.func24 (by kernel_rfl) (by kernel_rfl) (by kernel_rfl) FLOk.nil E_z2h M_z2h Q_z2h rfl (oi := [0]) fun ⟨x0, x1, x2, x3, x4, x5, x6, x7, ()⟩ k r h => (ok_z5 F_zl F_zq F_zf x0 x1 x2 x3 x4 x5 x6 x7 (fun y0 z0 z1 z2 => k (y0, ()) (z0, z1, z2, ()))).trans (hF x0 x1 x2 x3 x4 x5 x6 x7 _ r h)
abbrev PT_z1t : TE := [(3, ⟨.int .i64 0, 1, 8, .sc (.int .i64), none⟩), (23, ⟨.int .u64 0, 1, 8, .sc (.int .u64), none⟩)]
theorem PT_z5f : Prg Tryz.prog PT_z1t := ⟨(.cons pe_3 (.cons pe_23 (TEok.nil _))), by kernel_rfl⟩
noncomputable abbrev PO_z1t {α : Type}  : ORC α := []
set_option maxRecDepth 100000 in
theorem ok_z1t {α : Type}  (x0 : Int) (k : Int → R α) : bodyL PT_z1t (PO_z1t ) [] ⟨1, []⟩ Tryz.f162 [(.int .u64 x0)] emp (fun v _ => dR_ref18_port_i v k) = p_z1t  x0 k := by kernel_rfl
theorem mk_z1t {α : Type} {I : Imm}  : OrcOk (α := α) Tryz.prog I 162 (.pure (ad_z1t (p_z1t ))) := by
  refine orc_pureK PT_z5f (O := PO_z1t ) (OOk.nil) (L := []) ⟨1, []⟩ Tryz.func162 (by kernel_rfl) (by kernel_rfl) (by kernel_rfl) FLOk.nil ?_
  intro args k r hk
  unfold ad_z1t at hk
  split at hk <;> try (cases hk; done)
  obtain ⟨x0, rfl, hk0⟩ := decI_spec hk
  have hkz := hk0
  refine ⟨by simp [Ids, Idss], fun v => dR_ref18_port_i v (fun r0 => k (.int .i64 r0)), ?_, fun v hv => ?_⟩
  · rw [ok_z1t]; exact hkz
  · obtain ⟨r0, rfl, hv1⟩ := dR_ref18_port_i_spec hv; exact ⟨hv1, by simp [Ids, Idss]⟩
theorem d_z1c {α : Type} {I : Imm} : OrcOk (α := α) Tryz.prog I 162 (.pure (ad_port fun x km k0 k1 k2 k3 => p_z1t x (selP km k0 k1 k2 k3))) := orc_le mk_z1t fun args k r hk => port_le (F := p_z1t) (G := ad_z1t) (fun _ _ => rfl) (fun x kp kp' r h hk => mono_z1t h hk) hk
theorem pe_9 : TyOk Tryz.prog 9 ⟨.str .empty, 1, 16, .sc (.string), none⟩ := ⟨fun _ => by kernel_rfl, ⟨rfl, rfl, fun _ _ => by simp [Wf, Wfs]⟩, ⟨Tryz.underlying9, rfl⟩, fun _ h => by cases h⟩
theorem pe_95 : TyOk Tryz.prog 95 ⟨.nilp, 1, 8, .sc (.pointer 203), none⟩ := ⟨fun _ => by kernel_rfl, ⟨rfl, rfl, fun _ _ => by simp [Wf, Wfs]⟩, ⟨Tryz.underlying95, rfl⟩, fun _ h => by cases h⟩
theorem pe_96 : TyOk Tryz.prog 96 ⟨.arr 1 4 (fun _ => .str .empty), 4, 64, .ar 4 9 1 false, none⟩ := ⟨fun _ => by kernel_rfl, ⟨rfl, rfl, fun _ _ => by simp [Wf, Wfs]⟩, ⟨Tryz.underlying96, by kernel_rfl, by kernel_rfl⟩, fun _ h => by cases h⟩
theorem pe_99 : TyOk Tryz.prog 99 ⟨.agg [.nilp, .int .u64 0, .int .u64 0, .arr 1 4 (fun _ => .str .empty), .ints .i64 4 (fun _ => 0), .arr 1 4 (fun _ => .str .empty), .bool false], 16, 192, .st [(0, 1, false), (1, 1, false), (2, 1, false), (3, 4, true), (7, 4, true), (11, 4, true), (15, 1, false)], none⟩ := ⟨fun _ => by kernel_rfl, ⟨rfl, rfl, fun _ _ => by simp [Wf, Wfs]⟩, ⟨_, Tryz.underlying99, by kernel_rfl⟩, fun _ h => by cases h⟩
abbrev PT_zh : TE := [(3, ⟨.int .i64 0, 1, 8, .sc (.int .i64), none⟩), (4, ⟨.bool false, 1, 1, .sc (.bool), none⟩), (5, ⟨.int .u8 0, 1, 1, .sc (.int .u8), none⟩), (9, ⟨.str .empty, 1, 16, .sc (.string), none⟩), (23, ⟨.int .u64 0, 1, 8, .sc (.int .u64), none⟩), (95, ⟨.nilp, 1, 8, .sc (.pointer 203), none⟩), (96, ⟨.arr 1 4 (fun _ => .str .empty), 4, 64, .ar 4 9 1 false, none⟩), (99, ⟨.agg [.nilp, .int .u64 0, .int .u64 0, .arr 1 4 (fun _ => .str .empty), .ints .i64 4 (fun _ => 0), .arr 1 4 (fun _ => .str .empty), .bool false], 16, 192, .st [(0, 1, false), (1, 1, false), (2, 1, false), (3, 4, true), (7, 4, true), (11, 4, true), (15, 1, false)], none⟩)]
theorem PT_z2i : Prg Tryz.prog PT_zh := ⟨(.cons pe_3 (.cons pe_4 (.cons pe_5 (.cons pe_9 (.cons pe_23 (.cons pe_95 (.cons pe_96 (.cons pe_99 (TEok.nil _))))))))), by kernel_rfl⟩
noncomputable abbrev PO_zh {α : Type} (F_z7 : Sg_z7 α) (F_z8 : Sg_z8 α) (F_z1c : Sg_z1c α) : ORC α := [(69, .full (ad_z7 F_z7)), (164, .full (ad_z8 F_z8)), (162, .pure (ad_port F_z1c))]
set_option maxRecDepth 100000 in
theorem ok_zh {α : Type} (F_z7 : Sg_z7 α) (F_z8 : Sg_z8 α) (F_z1c : Sg_z1c α) (x0 : GRBus) (x1 : Int) (x2 : Int) (k : GRBus → Int → Bool → R α) : bodyL PT_zh (PO_zh F_z7 F_z8 F_z1c) [] ⟨1, []⟩ Tryz.f85 (E_zh.encs (x0, x1, x2, ()) (fun i => i) 0) (hp (E_zh.objss (x0, x1, x2, ()) (fun i => i) 0)) (dRo M_zh Q_zh false (selN (E_zh.encs (x0, x1, x2, ()) (fun i => i) 0) [0]) (fun y z => k y.1 z.1 z.2.1)) = p_zh F_z7 F_z8 F_z1c x0 x1 x2 k := by kernel_rfl
theorem mk_zh {α : Type} {I : Imm} {F_z7 : Sg_z7 α} {F_z8 : Sg_z8 α} {F_z1c : Sg_z1c α} (h_z7 : OrcOk (α := α) Tryz.prog I 69 (.full (ad_z7 F_z7))) (h_z8 : OrcOk (α := α) Tryz.prog I 164 (.full (ad_z8 F_z8))) (h_z1c : OrcOk (α := α) Tryz.prog I 162 (.pure (ad_port F_z1c))) {F : Sg_zh α} (hF : ∀ x0 x1 x2 k r, F x0 x1 x2 k = some r → p_zh F_z7 F_z8 F_z1c x0 x1 x2 k = some r) : OrcOk (α := α) Tryz.prog I 85 (.full (ad_zh F)) :=
  orc_obj PT_z2i (O := PO_zh F_z7 F_z8 F_z1c) (OOk.cons h_z7 (OOk.cons h_z8 (OOk.cons h_z1c (OOk.nil)))) (L := []) ⟨1, []⟩ Tryz.func85 (by kernel_rfl) (by kernel_rfl) (by kernel_rfl) FLOk.nil E_z2i M_z2i Q_z2i rfl (oi := [0]) fun ⟨x0, x1, x2, ()⟩ k r h => (ok_zh F_z7 F_z8 F_z1c x0 x1 x2 (fun y0 z0 z1 => k (y0, ()) (z0, z1, ()))).trans (hF x0 x1 x2 _ r h)
abbrev PT_zi : TE := [(3, ⟨.int .i64 0, 1, 8, .sc (.int .i64), none⟩), (4, ⟨.bool false, 1, 1, .sc (.bool), none⟩), (5, ⟨.int .u8 0, 1, 1, .sc (.int .u8), none⟩), (23, ⟨.int .u64 0, 1, 8, .sc (.int .u64), none⟩), (95, ⟨.nilp, 1, 8, .sc (.pointer 203), none⟩), (99, ⟨.agg [.nilp, .int .u64 0, .int .u64 0, .arr 1 4 (fun _ => .str .empty), .ints .i64 4 (fun _ => 0), .arr 1 4 (fun _ => .str .empty), .bool false], 16, 192, .st [(0, 1, false), (1, 1, false), (2, 1, false), (3, 4, true), (7, 4, true), (11, 4, true), (15, 1, false)], none⟩)]
theorem PT_z2j : Prg Tryz.prog PT_zi := ⟨(.cons pe_3 (.cons pe_4 (.cons pe_5 (.cons pe_23 (.cons pe_95 (.cons pe_99 (TEok.nil _))))))), by kernel_rfl⟩
abbrev PT_ref18_Bus_Put : TE := [(3, ⟨.int .i64 0, 1, 8, .sc (.int .i64), none⟩), (5, ⟨.int .u8 0, 1, 1, .sc (.int .u8), none⟩), (9, ⟨.str .empty, 1, 16, .sc (.string), none⟩), (96, ⟨.arr 1 4 (fun _ => .str .empty), 4, 64, .ar 4 9 1 false, none⟩), (99, ⟨.agg [.nilp, .int .u64 0, .int .u64 0, .arr 1 4 (fun _ => .str .empty), .ints .i64 4 (fun _ => 0), .arr 1 4 (fun _ => .str .empty), .bool false], 16, 192, .st [(0, 1, false), (1, 1, false), (2, 1, false), (3, 4, true), (7, 4, true), (11, 4, true), (15, 1, false)], none⟩), (156, ⟨.nils, 1, 24, .sc (.slice 5), none⟩)]
theorem PT_ref18_Bus_Put_ok : Prg Tryz.prog PT_ref18_Bus_Put := ⟨(.cons pe_3 (.cons pe_5 (.cons pe_9 (.cons pe_96 (.cons pe_99 (.cons pe_156 (TEok.nil _))))))), by kernel_rfl⟩
noncomputable abbrev B_z3f {α : Type} (F_z7 : Sg_z7 α) (F_zk : Sg_zk α) (F_z1c : Sg_z1c α) : FF α := byBody PT_ref18_Bus_Put [] ⟨1, []⟩ Tryz.f163
theorem cB_z3f {α : Type} {I : Imm} {F_z7 : Sg_z7 α} {F_zk : Sg_zk α} {F_z1c : Sg_z1c α} (h_z7 : OrcOk (α := α) Tryz.prog I 69 (.full (ad_z7 F_z7))) (h_zk : OrcOk (α := α) Tryz.prog I 71 (.full (ad_zk F_zk))) (h_z1c : OrcOk (α := α) Tryz.prog I 162 (.pure (ad_port F_z1c))) : OrcOk (α := α) Tryz.prog I 163 (.full (B_z3f F_z7 F_zk F_z1c)) := orc_body PT_ref18_Bus_Put_ok (OOk.nil) ⟨1, []⟩ Tryz.func163 (by kernel_rfl) (by kernel_rfl) (by kernel_rfl)
noncomputable abbrev PO_zi {α : Type} (F_z7 : Sg_z7 α) (F_zk : Sg_zk α) (F_z1c : Sg_z1c α) : ORC α := [(69, .full (ad_z7 F_z7)), (71, .full (ad_zk F_zk)), (162, .pure (ad_port F_z1c)), (163, .full (B_z3f F_z7 F_zk F_z1c))]
set_option maxRecDepth 100000 in
theorem ok_zi {α : Type} (F_z7 : Sg_z7 α) (F_zk : Sg_zk α) (F_z1c : Sg_z1c α) (x0 : GRBus) (x1 : Int) (x2 : Int) (x3 : Int) (k : GRBus → Bool → R α) : bodyL PT_zi (PO_zi F_z7 F_zk F_z1c) [] ⟨1, []⟩ Tryz.f84 (E_zi.encs (x0, x1, x2, x3, ()) (fun i => i) 0) (hp (E_zi.objss (x0, x1, x2, x3, ()) (fun i => i) 0)) (dRo M_zi Q_zi true (selN (E_zi.encs (x0, x1, x2, x3, ()) (fun i => i) 0) [0]) (fun y z => k y.1 z.1)) = p_zi F_z7 F_zk F_z1c x0 x1 x2 x3 k := by kernel_rfl
theorem mk_zi {α : Type} {I : Imm} {F_z7 : Sg_z7 α} {F_zk : Sg_zk α} {F_z1c : Sg_z1c α} (h_z7 : OrcOk (α := α) Tryz.prog I 69 (.full (ad_z7 F_z7))) (h_zk : OrcOk (α := α) Tryz.prog I 71 (.full (ad_zk F_zk))) (h_z1c : OrcOk (α := α) Tryz.prog I 162 (.pure (ad_port F_z1c))) {F : Sg_zi α} (hF : ∀ x0 x1 x2 x3 k r, F x0 x1 x2 x3 k = some r → p_zi F_z7 F_zk F_z1c x0 x1 x2 x3 k = some r) : OrcOk (α := α) Tryz.prog I 84 (.full (ad_zi F)) :=
  orc_obj PT_z2j (O := PO_zi F_z7 F_zk F_z1c) (OOk.cons h_z7 (OOk.cons h_zk (OOk.cons h_z1c (OOk.cons (cB_z3f h_z7 h_zk h_z1c) (OOk.nil))))) (L := []) ⟨1, []⟩ Tryz.func84 (by kernel_rfl) (by kernel_rfl) (by kernel_rfl) FLOk.nil E_z2j M_z2j Q_z2j rfl (oi := [0]) fun ⟨x0, x1, x2, x3, ()⟩ k r h => (ok_zi F_z7 F_zk F_z1c x0 x1 x2 x3 (fun y0 z0 => k (y0, ()) (z0, ()))).trans (hF x0 x1 x2 x3 _ r h)
abbrev PT_zz : TE := [(23, ⟨.int .u64 0, 1, 8, .sc (.int .u64), none⟩), (237, ⟨.ints .u64 3 (fun _ => 0), 3, 24, .ar 3 23 1 false, some (.ar 3 1 (.it .u64))⟩)]
theorem PT_z5g : Prg Tryz.prog PT_zz := ⟨(.cons pe_23 (.cons pe_237 (TEok.nil _))), by kernel_rfl⟩
noncomputable abbrev PO_zz {α : Type}  : ORC α := []
set_option maxRecDepth 100000 in
theorem ok_zz {α : Type}  (x0 : Int) (k : Int → R α) : bodyL PT_zz (PO_zz ) [] ⟨1, []⟩ Tryz.f81 [(.int .i64 x0)] emp (fun v _ => dR_ref18_mis v k) = p_zz  x0 k := by kernel_rfl
theorem mk_zz {α : Type} {I : Imm}  : OrcOk (α := α) Tryz.prog I 81 (.pure (ad_zz (p_zz ))) := by
  refine orc_pureK PT_z5g (O := PO_zz ) (OOk.nil) (L := []) ⟨1, []⟩ Tryz.func81 (by kernel_rfl) (by kernel_rfl) (by kernel_rfl) FLOk.nil ?_
  intro args k r hk
  unfold ad_zz at hk
  split at hk <;> try (cases hk; done)
  obtain ⟨x0, rfl, hk0⟩ := decI_spec hk
  have hkz := hk0
  refine ⟨by simp [Ids, Idss], fun v => dR_ref18_mis v (fun r0 => k (.int .u64 r0)), ?_, fun v hv => ?_⟩
  · rw [ok_zz]; exact hkz
  · obtain ⟨r0, rfl, hv1⟩ := dR_ref18_mis_spec hv; exact ⟨hv1, by simp [Ids, Idss]⟩
theorem pe_41 : TyOk Tryz.prog 41 ⟨.agg [.int .u64 0, .agg [.int .u64 0, .int .u64 0, .int .u64 0, .bool false], .bool false, .int .u64 0, .nils], 8, 80, .st [(0, 1, false), (1, 4, true), (5, 1, false), (6, 1, false), (7, 1, false)], none⟩ := ⟨fun _ => by kernel_rfl, ⟨rfl, rfl, fun _ _ => by simp [Wf, Wfs]⟩, ⟨_, Tryz.underlying41, by kernel_rfl⟩, fun _ h => by cases h⟩
abbrev PT_z14 : TE := [(3, ⟨.int .i64 0, 1, 8, .sc (.int .i64), none⟩), (4, ⟨.bool false, 1, 1, .sc (.bool), none⟩), (23, ⟨.int .u64 0, 1, 8, .sc (.int .u64), none⟩), (27, ⟨.agg [.ints .u64 32 (fun _ => 0), .int .u64 0, .int .i64 0, .bool false, .ints .u64 29 (fun _ => 0), .int .u64 0], 65, 520, .st [(0, 32, true), (32, 1, false), (33, 1, false), (34, 1, false), (35, 29, true), (64, 1, false)], some (.st [(0, 32, true, .ar 32 1 (.it .u64)), (32, 1, false, .it .u64), (33, 1, false, .it .i64), (34, 1, false, .bl), (35, 29, true, .ar 29 1 (.it .u64)), (64, 1, false, .it .u64)])⟩), (36, ⟨.agg [.int .u64 0, .int .u64 0, .int .u64 0, .bool false], 4, 32, .st [(0, 1, false), (1, 1, false), (2, 1, false), (3, 1, false)], some (.st [(0, 1, false, .it .u64), (1, 1, false, .it .u64), (2, 1, false, .it .u64), (3, 1, false, .bl)])⟩), (39, ⟨.nils, 1, 24, .sc (.slice 3), none⟩), (41, ⟨.agg [.int .u64 0, .agg [.int .u64 0, .int .u64 0, .int .u64 0, .bool false], .bool false, .int .u64 0, .nils], 8, 80, .st [(0, 1, false), (1, 4, true), (5, 1, false), (6, 1, false), (7, 1, false)], none⟩), (95, ⟨.nilp, 1, 8, .sc (.pointer 203), none⟩), (99, ⟨.agg [.nilp, .int .u64 0, .int .u64 0, .arr 1 4 (fun _ => .str .empty), .ints .i64 4 (fun _ => 0), .arr 1 4 (fun _ => .str .empty), .bool false], 16, 192, .st [(0, 1, false), (1, 1, false), (2, 1, false), (3, 4, true), (7, 4, true), (11, 4, true), (15, 1, false)], none⟩), (144, ⟨.agg [.int .u64 0, .agg [.bool false, .bool false, .int .i64 0, .int .i64 0, .int .i64 0, .int .i64 0, .int .i64 0, .int .i64 0, .int .i64 0], .agg [.int .u64 0, .int .u64 0, .int .u64 0, .bool false], .bool false, .nils], 16, 136, .st [(0, 1, false), (1, 9, true), (10, 4, true), (14, 1, false), (15, 1, false)], none⟩)]
theorem PT_z2k : Prg Tryz.prog PT_z14 := ⟨(.cons pe_3 (.cons pe_4 (.cons pe_23 (.cons pe_27 (.cons pe_36 (.cons pe_39 (.cons pe_41 (.cons pe_95 (.cons pe_99 (.cons pe_144 (TEok.nil _))))))))))), by kernel_rfl⟩
abbrev PT_ref18_Bus_IsDevice : TE := [(4, ⟨.bool false, 1, 1, .sc (.bool), none⟩), (23, ⟨.int .u64 0, 1, 8, .sc (.int .u64), none⟩), (99, ⟨.agg [.nilp, .int .u64 0, .int .u64 0, .arr 1 4 (fun _ => .str .empty), .ints .i64 4 (fun _ => 0), .arr 1 4 (fun _ => .str .empty), .bool false], 16, 192, .st [(0, 1, false), (1, 1, false), (2, 1, false), (3, 4, true), (7, 4, true), (11, 4, true), (15, 1, false)], none⟩)]
theorem PT_ref18_Bus_IsDevice_ok : Prg Tryz.prog PT_ref18_Bus_IsDevice := ⟨(.cons pe_4 (.cons pe_23 (.cons pe_99 (TEok.nil _)))), by kernel_rfl⟩
noncomputable abbrev B_z3g {α : Type} (F_z2 : Sg_z2 α) (F_zz : Sg_zz α) (F_zy : Sg_zy α) (F_zi : Sg_zi α) (F_zh : Sg_zh α) : FF α := byBody PT_ref18_Bus_IsDevice [] ⟨1, []⟩ Tryz.f83
theorem cB_z3g {α : Type} {I : Imm} {F_z2 : Sg_z2 α} {F_zz : Sg_zz α} {F_zy : Sg_zy α} {F_zi : Sg_zi α} {F_zh : Sg_zh α} (h_z2 : OrcOk (α := α) Tryz.prog I 80 (.pure (ad_z2 F_z2))) (h_zz : OrcOk (α := α) Tryz.prog I 81 (.pure (ad_zz F_zz))) (h_zy : OrcOk (α := α) Tryz.prog I 82 (.full (ad_zy F_zy))) (h_zi : OrcOk (α := α) Tryz.prog I 84 (.full (ad_zi F_zi))) (h_zh : OrcOk (α := α) Tryz.prog I 85 (.full (ad_zh F_zh))) : OrcOk (α := α) Tryz.prog I 83 (.full (B_z3g F_z2 F_zz F_zy F_zi F_zh)) := orc_body PT_ref18_Bus_IsDevice_ok (OOk.nil) ⟨1, []⟩ Tryz.func83 (by kernel_rfl) (by kernel_rfl) (by kernel_rfl)
noncomputable abbrev PO_z14 {α : Type} (F_z2 : Sg_z2 α) (F_zz : Sg_zz α) (F_zy : Sg_zy α) (F_zi : Sg_zi α) (F_zh : Sg_zh α) : ORC α := [(80, .pure (ad_z2 F_z2)), (81, .pure (ad_zz F_zz)), (82, .full (ad_zy F_zy)), (83, .full (B_z3g F_z2 F_zz F_zy F_zi F_zh)), (84, .full (ad_zi F_zi)), (85, .full (ad_zh F_zh))]
set_option maxRecDepth 100000 in
theorem ok_z14 {α : Type} (F_z2 : Sg_z2 α) (F_zz : Sg_zz α) (F_zy : Sg_zy α) (F_zi : Sg_zi α) (F_zh : Sg_zh α) (x0 : GRBus) (x1 : GState) (x2 : Int) (x3 : Int) (x4 : Int) (x5 : Int) (x6 : Int) (x7 : Bool) (x8 : Bool) (k : GRBus → GDone → R α) : bodyL PT_z14 (PO_z14 F_z2 F_zz F_zy F_zi F_zh) [] ⟨1, []⟩ Tryz.f25 (E_z14.encs (x0, x1, x2, x3, x4, x5, x6, x7, x8, ()) (fun i => i) 0) (hp (E_z14.objss (x0, x1, x2, x3, x4, x5, x6, x7, x8, ()) (fun i => i) 0)) (dRo M_z14 Q_z14 true (selN (E_z14.encs (x0, x1, x2, x3, x4, x5, x6, x7, x8, ()) (fun i => i) 0) [0]) (fun y z => k y.1 z.1)) = p_z14 F_z2 F_zz F_zy F_zi F_zh x0 x1 x2 x3 x4 x5 x6 x7 x8 k := by kernel_rfl
theorem mk_z14 {α : Type} {I : Imm} {F_z2 : Sg_z2 α} {F_zz : Sg_zz α} {F_zy : Sg_zy α} {F_zi : Sg_zi α} {F_zh : Sg_zh α} (h_z2 : OrcOk (α := α) Tryz.prog I 80 (.pure (ad_z2 F_z2))) (h_zz : OrcOk (α := α) Tryz.prog I 81 (.pure (ad_zz F_zz))) (h_zy : OrcOk (α := α) Tryz.prog I 82 (.full (ad_zy F_zy))) (h_zi : OrcOk (α := α) Tryz.prog I 84 (.full (ad_zi F_zi))) (h_zh : OrcOk (α := α) Tryz.prog I 85 (.full (ad_zh F_zh))) {F : Sg_z14 α} (hF : ∀ x0 x1 x2 x3 x4 x5 x6 x7 x8 k r, F x0 x1 x2 x3 x4 x5 x6 x7 x8 k = some r → p_z14 F_z2 F_zz F_zy F_zi F_zh x0 x1 x2 x3 x4 x5 x6 x7 x8 k = some r) : OrcOk (α := α) Tryz.prog I 25 (.full (ad_z14 F)) :=
  orc_obj PT_z2k (O := PO_z14 F_z2 F_zz F_zy F_zi F_zh) (OOk.cons h_z2 (OOk.cons h_zz (OOk.cons h_zy (OOk.cons (cB_z3g h_z2 h_zz h_zy h_zi h_zh) (OOk.cons h_zi (OOk.cons h_zh (OOk.nil))))))) (L := []) ⟨1, []⟩ Tryz.func25 (by kernel_rfl) (by kernel_rfl) (by kernel_rfl) FLOk.nil E_z2k M_z2k Q_z2k rfl (oi := [0]) fun ⟨x0, x1, x2, x3, x4, x5, x6, x7, x8, ()⟩ k r h => (ok_z14 F_z2 F_zz F_zy F_zi F_zh x0 x1 x2 x3 x4 x5 x6 x7 x8 (fun y0 z0 => k (y0, ()) (z0, ()))).trans (hF x0 x1 x2 x3 x4 x5 x6 x7 x8 _ r h)
theorem pe_22 : TyOk Tryz.prog 22 ⟨.nils, 1, 24, .sc (.slice 128), none⟩ := ⟨fun _ => by kernel_rfl, ⟨rfl, rfl, fun _ _ => by simp [Wf, Wfs]⟩, ⟨Tryz.underlying22, rfl⟩, fun _ h => by cases h⟩
theorem pe_128 : TyOk Tryz.prog 128 ⟨.agg [.int .u64 0, .int .u64 0], 2, 16, .st [(0, 1, false), (1, 1, false)], some (.st [(0, 1, false, .it .u64), (1, 1, false, .it .u64)])⟩ := ⟨fun _ => by kernel_rfl, ⟨rfl, rfl, fun _ _ => by simp [Wf, Wfs]⟩, ⟨_, Tryz.underlying128, by kernel_rfl⟩, fun _ h => by cases h; exact ⟨by kernel_rfl, by kernel_rfl⟩⟩
abbrev PT_z15 : TE := [(3, ⟨.int .i64 0, 1, 8, .sc (.int .i64), none⟩), (22, ⟨.nils, 1, 24, .sc (.slice 128), none⟩), (23, ⟨.int .u64 0, 1, 8, .sc (.int .u64), none⟩), (128, ⟨.agg [.int .u64 0, .int .u64 0], 2, 16, .st [(0, 1, false), (1, 1, false)], some (.st [(0, 1, false, .it .u64), (1, 1, false, .it .u64)])⟩)]
theorem PT_z20 : Prg Tryz.prog PT_z15 := ⟨(.cons pe_3 (.cons pe_22 (.cons pe_23 (.cons pe_128 (TEok.nil _))))), by kernel_rfl⟩
abbrev PT_bus_New : TE := [(92, ⟨.nilp, 1, 8, .sc (.pointer 201), none⟩), (161, ⟨.agg [.nilp, .agg [.agg [], .agg [], .int .u64 0], .int .u64 0, .arr 3 4 (fun _ => .agg [.nils, .nils, .int .i64 0])], 15, 248, .st [(0, 1, false), (1, 1, true), (2, 1, false), (3, 12, true)], none⟩)]
theorem PT_bus_New_ok : Prg Tryz.prog PT_bus_New := ⟨(.cons pe_92 (.cons pe_161 (TEok.nil _))), by kernel_rfl⟩
noncomputable abbrev PO_lp_law17_both_3 {α : Type} (F_z7 : Sg_z7 α) (F_z13 : Sg_z13 α) (F_zk : Sg_zk α) : ORC α := [(69, .full (ad_z7 F_z7)), (70, .full (ad_z13 F_z13)), (71, .full (ad_zk F_zk))]
set_option maxRecDepth 100000 in
theorem okb_law17_both_3 {α : Type} (F_z7 : Sg_z7 α) (F_z13 : Sg_z13 α) (F_zk : Sg_zk α) (s : S_z3) (kn : S_z3 → R α) (k0 : X_z1u → R α) : seval PT_z15 (PO_lp_law17_both_3 F_z7 F_z13 F_zk) [] Tryz.f22.ntmps ⟨1, []⟩ (loopNo Tryz.f22 0) (E_z3 s) (hp (OS_z3 s)) (dL_z3 kn k0) = b_z3 F_z7 F_z13 F_zk s kn k0 := by kernel_rfl
theorem snd_z3 {α : Type} {I : Imm} {F_z7 : Sg_z7 (S_z3 ⊕ X_z3)} {F_z13 : Sg_z13 (S_z3 ⊕ X_z3)} {F_zk : Sg_zk (S_z3 ⊕ X_z3)} (h_z7 : OrcOk (α := (S_z3 ⊕ X_z3)) Tryz.prog I 69 (.full (ad_z7 F_z7))) (h_z13 : OrcOk (α := (S_z3 ⊕ X_z3)) Tryz.prog I 70 (.full (ad_z13 F_z13))) (h_zk : OrcOk (α := (S_z3 ⊕ X_z3)) Tryz.prog I 71 (.full (ad_zk F_zk))) {L : SgL_z3 α} (hL : LoopOk (α := α) (fun (s : S_z3) => b_z3 F_z7 F_z13 F_zk s (fun s => some (.inl s)) (fun x => some (.inr x))) (fun (s : S_z3) (k : X_z3 → R α) => L s (fun x => k x))) : SoundC Tryz.prog I Tryz.f22.ntmps (.loop (loopNo Tryz.f22 0)) (Lf_z3 L) := by
  have run := fun (s : S_z3) (z : (S_z3 ⊕ X_z3)) (h : (fun (s : S_z3) => b_z3 F_z7 F_z13 F_zk s (fun s => some (.inl s)) (fun x => some (.inr x))) s = some z) => seval_spec (α := (S_z3 ⊕ X_z3)) (I := I) PT_z20.te PT_z20.mix (O := PO_lp_law17_both_3 F_z7 F_z13 F_zk) (OOk.cons h_z7 (OOk.cons h_z13 (OOk.cons h_zk (OOk.nil)))) (L := []) (N := Tryz.f22.ntmps) (n := ⟨1, []⟩) (loopNo Tryz.f22 0) (by kernel_rfl) (LOk.nil) (E_z3 s) (hp (OS_z3 s)) _ z ((okb_law17_both_3 F_z7 F_z13 F_zk s (fun s => some (.inl s)) (fun x => some (.inr x))).trans h)
  refine loop_law_same (stp := fun (s : S_z3) => b_z3 F_z7 F_z13 F_zk s (fun s => some (.inl s)) (fun x => some (.inr x))) (E := E_z3) (os := OS_z3) (EX := EX_z3) (osX := OX_z3) (xx := xx_z3) (fun s o ho => ?_) (fun x o ho => ?_) (fun x => ?_) (fun s s1 hs => ?_) (fun s x hs => ?_) (fun env σ k r h => ?_)
  · simp only [OS_z3, List.mem_cons, List.not_mem_nil, or_false] at ho
    rcases ho with rfl | rfl | rfl | rfl <;> rfl
  · simp only [OX_z3, OX_z1u, List.mem_cons, List.not_mem_nil, or_false] at ho
    rcases ho with rfl | rfl | rfl | rfl <;> rfl
  · simp [xx_z3]
  · obtain ⟨x, env1, σ1, h1, h2, h3⟩ := run s _ hs
    rcases dL_z4p h1 with ⟨rfl, s2, e1, e2, e3⟩ | ⟨rfl, s2, e1, e2, e3⟩
    · simp only [Option.some.injEq, Sum.inl.injEq] at e3
      subst e3
      exact ⟨rfl, env1, σ1, h3, e1, e2, (fun o ho => by simp only [OS_z3, List.mem_cons, List.not_mem_nil, or_false] at ho; rcases ho with rfl | rfl | rfl | rfl <;> simp [OIds, Ids, Idss, OS_z3])⟩
    · simp at e3
  · obtain ⟨x1, env1, σ1, h1, h2, h3⟩ := run s _ hs
    rcases dL_z4p h1 with ⟨rfl, s2, e1, e2, e3⟩ | ⟨rfl, s2, e1, e2, e3⟩
    · simp at e3
    · simp only [Option.some.injEq, Sum.inr.injEq] at e3
      subst e3
      exact ⟨rfl, env1, σ1, h3, e1, e2, (fun o ho => by simp only [OX_z3, OX_z1u, List.mem_cons, List.not_mem_nil, or_false] at ho; rcases ho with rfl | rfl | rfl | rfl <;> simp [OIds, Ids, Idss, OS_z3])⟩
  · skip
    unfold Lf_z3 at h
    obtain ⟨hlt, h0⟩ := bif_some h
    obtain ⟨w1, w2, w3⟩ := decT_spec h0
    obtain ⟨v0, rfl, w4⟩ := decV_st_int_u64_int_u64_spec w3
    obtain ⟨w5, w6, w7⟩ := decT_spec w4
    obtain ⟨rfl, w8⟩ := decP_spec w7
    obtain ⟨w9, w10, w11⟩ := decT_spec w8
    obtain ⟨rfl, w12⟩ := decP_spec w11
    obtain ⟨w13, w14, w15⟩ := decT_spec w12
    obtain ⟨v1, rfl, w16⟩ := decI_spec w15
    obtain ⟨w17, w18, w19⟩ := decO_spec w16
    split at w19 <;> try (cases w19; done)
    obtain ⟨rfl, w20⟩ := decSl_spec w19
    obtain ⟨w21, w22, w23⟩ := decO_spec w20
    split at w23 <;> try (cases w23; done)
    obtain ⟨rfl, w24⟩ := decSl_spec w23
    obtain ⟨w25, w26, w27⟩ := decO_spec w24
    obtain ⟨v2, rfl, w28⟩ := decA_spec w27
    obtain ⟨w29, w30, w31⟩ := decO_spec w28
    obtain ⟨v3, rfl, w32⟩ := decA_spec w31
    obtain ⟨n, x, hn, hk⟩ := hL _ (fun x => k (xx_z3 x) (envOf [1, 3, 0, 2] (EX_z3 x)) (heapOf [1, 3, 0, 2] (OX_z3 x) σ)) r (show (fun (s : S_z3) (k : X_z3 → R α) => L s (fun x => k x)) ⟨v0, v1, v2, v3⟩ (fun x => k (xx_z3 x) (envOf [1, 3, 0, 2] (EX_z3 x)) (heapOf [1, 3, 0, 2] (OX_z3 x) σ)) = some r from w32)
    refine ⟨n, ⟨v0, v1, v2, v3⟩, x, [1, 3, 0, 2], hn, ⟨rfl, by decide, env_ren ⟨⟨by simp [Ids, Idss, OS_z3], w2⟩, ⟨by simp [Ids, Idss, OS_z3], w6⟩, ⟨by simp [Ids, Idss, OS_z3], w10⟩, ⟨by simp [Ids, Idss, OS_z3], w14⟩, trivial⟩, enum_all ⟨w18, w22, w26, w30, trivial⟩, (fun o ho => by simp only [OS_z3, List.mem_cons, List.not_mem_nil, or_false] at ho; rcases ho with rfl | rfl | rfl | rfl <;> simp [OIds, Ids, Idss, OS_z3]), fun i hi => ?_⟩, hk⟩
    exact Nat.le_of_ble_eq_true (allB_iff.1 hlt i hi)
noncomputable abbrev B_z3h {α : Type} (L_z3 : SgL_z3 α) : FF α := byBody PT_bus_New [] ⟨1, []⟩ Tryz.f28
theorem cB_z3h {α : Type} {I : Imm} (h_z1s : OrcOk (α := α) Tryz.prog I 67 (.full newF)) (h_ref1_New : OrcOk (α := α) Tryz.prog I 68 (.full newF)) {L_z3 : SgL_z3 α} (h_L_law17_both_3 : SoundC (α := α) Tryz.prog I Tryz.f22.ntmps (.loop (loopNo Tryz.f22 0)) (Lf_z3 L_z3)) : OrcOk (α := α) Tryz.prog I 28 (.full (B_z3h L_z3)) := orc_body PT_bus_New_ok (OOk.nil) ⟨1, []⟩ Tryz.func28 (by kernel_rfl) (by kernel_rfl) (by kernel_rfl)
abbrev PT_ref18_NewBus : TE := [(99, ⟨.agg [.nilp, .int .u64 0, .int .u64 0, .arr 1 4 (fun _ => .str .empty), .ints .i64 4 (fun _ => 0), .arr 1 4 (fun _ => .str .empty), .bool false], 16, 192, .st [(0, 1, false), (1, 1, false), (2, 1, false), (3, 4, true), (7, 4, true), (11, 4, true), (15, 1, false)], none⟩)]
theorem PT_ref18_NewBus_ok : Prg Tryz.prog PT_ref18_NewBus := ⟨(.cons pe_99 (TEok.nil _)), by kernel_rfl⟩
noncomputable abbrev B_z3i {α : Type} (L_z3 : SgL_z3 α) : FF α := byBody PT_ref18_NewBus [] ⟨1, []⟩ Tryz.f72
theorem cB_z3i {α : Type} {I : Imm} (h_z1s : OrcOk (α := α) Tryz.prog I 67 (.full newF)) (h_ref1_New : OrcOk (α := α) Tryz.prog I 68 (.full newF)) {L_z3 : SgL_z3 α} (h_L_law17_both_3 : SoundC (α := α) Tryz.prog I Tryz.f22.ntmps (.loop (loopNo Tryz.f22 0)) (Lf_z3 L_z3)) : OrcOk (α := α) Tryz.prog I 72 (.full (B_z3i L_z3)) := orc_body PT_ref18_NewBus_ok (OOk.nil) ⟨1, []⟩ Tryz.func72 (by kernel_rfl) (by kernel_rfl) (by kernel_rfl)
noncomputable abbrev B_z3j {α : Type} (L_z3 : SgL_z3 α) : FF α := byBody PT_bus_Bus_port [] ⟨1, []⟩ Tryz.f121
theorem cB_z3j {α : Type} {I : Imm} (h_z1s : OrcOk (α := α) Tryz.prog I 67 (.full newF)) (h_ref1_New : OrcOk (α := α) Tryz.prog I 68 (.full newF)) {L_z3 : SgL_z3 α} (h_L_law17_both_3 : SoundC (α := α) Tryz.prog I Tryz.f22.ntmps (.loop (loopNo Tryz.f22 0)) (Lf_z3 L_z3)) : OrcOk (α := α) Tryz.prog I 121 (.full (B_z3j L_z3)) := orc_body PT_bus_Bus_port_ok (OOk.nil) ⟨1, []⟩ Tryz.func121 (by kernel_rfl) (by kernel_rfl) (by kernel_rfl)
abbrev PT_bytes_Clone : TE := [(5, ⟨.int .u8 0, 1, 1, .sc (.int .u8), none⟩), (156, ⟨.nils, 1, 24, .sc (.slice 5), none⟩)]
theorem PT_bytes_Clone_ok : Prg Tryz.prog PT_bytes_Clone := ⟨(.cons pe_5 (.cons pe_156 (TEok.nil _))), by kernel_rfl⟩
noncomputable abbrev B_z3k {α : Type} (L_z3 : SgL_z3 α) : FF α := byBody PT_bytes_Clone [] ⟨1, []⟩ Tryz.f144
theorem cB_z3k {α : Type} {I : Imm} (h_z1s : OrcOk (α := α) Tryz.prog I 67 (.full newF)) (h_ref1_New : OrcOk (α := α) Tryz.prog I 68 (.full newF)) {L_z3 : SgL_z3 α} (h_L_law17_both_3 : SoundC (α := α) Tryz.prog I Tryz.f22.ntmps (.loop (loopNo Tryz.f22 0)) (Lf_z3 L_z3)) : OrcOk (α := α) Tryz.prog I 144 (.full (B_z3k L_z3)) := orc_body PT_bytes_Clone_ok (OOk.nil) ⟨1, []⟩ Tryz.func144 (by kernel_rfl) (by kernel_rfl) (by kernel_rfl)
abbrev PT_bus_Bus_Type : TE := [(3, ⟨.int .i64 0, 1, 8, .sc (.int .i64), none⟩), (5, ⟨.int .u8 0, 1, 1, .sc (.int .u8), none⟩), (9, ⟨.str .empty, 1, 16, .sc (.string), none⟩), (23, ⟨.int .u64 0, 1, 8, .sc (.int .u64), none⟩), (156, ⟨.nils, 1, 24, .sc (.slice 5), none⟩), (158, ⟨.agg [.nils, .nils, .int .i64 0], 3, 56, .st [(0, 1, false), (1, 1, false), (2, 1, false)], none⟩), (197, ⟨.nilp, 1, 8, .sc (.pointer 158), none⟩)]
theorem PT_bus_Bus_Type_ok : Prg Tryz.prog PT_bus_Bus_Type := ⟨(.cons pe_3 (.cons pe_5 (.cons pe_9 (.cons pe_23 (.cons pe_156 (.cons pe_158 (.cons pe_197 (TEok.nil _)))))))), by kernel_rfl⟩
noncomputable abbrev B_z3l {α : Type} (L_z3 : SgL_z3 α) : FF α := byBody PT_bus_Bus_Type [(121, .full (B_z3j L_z3)), (144, .full (B_z3k L_z3))] ⟨1, []⟩ Tryz.f73
theorem cB_z3l {α : Type} {I : Imm} (h_z1s : OrcOk (α := α) Tryz.prog I 67 (.full newF)) (h_ref1_New : OrcOk (α := α) Tryz.prog I 68 (.full newF)) {L_z3 : SgL_z3 α} (h_L_law17_both_3 : SoundC (α := α) Tryz.prog I Tryz.f22.ntmps (.loop (loopNo Tryz.f22 0)) (Lf_z3 L_z3)) : OrcOk (α := α) Tryz.prog I 73 (.full (B_z3l L_z3)) := orc_body PT_bus_Bus_Type_ok (OOk.cons (cB_z3j h_z1s h_ref1_New h_L_law17_both_3) (OOk.cons (cB_z3k h_z1s h_ref1_New h_L_law17_both_3) (OOk.nil))) ⟨1, []⟩ Tryz.func73 (by kernel_rfl) (by kernel_rfl) (by kernel_rfl)
theorem pe_97 : TyOk Tryz.prog 97 ⟨.ints .i64 4 (fun _ => 0), 4, 32, .ar 4 3 1 false, some (.ar 4 1 (.it .i64))⟩ := ⟨fun _ => by kernel_rfl, ⟨rfl, rfl, fun _ _ => by simp [Wf, Wfs]⟩, ⟨Tryz.underlying97, by kernel_rfl, by kernel_rfl⟩, fun _ h => by cases h; exact ⟨by kernel_rfl, by kernel_rfl⟩⟩
abbrev PT_ref18_Bus_Type : TE := [(3, ⟨.int .i64 0, 1, 8, .sc (.int .i64), none⟩), (9, ⟨.str .empty, 1, 16, .sc (.string), none⟩), (96, ⟨.arr 1 4 (fun _ => .str .empty), 4, 64, .ar 4 9 1 false, none⟩), (97, ⟨.ints .i64 4 (fun _ => 0), 4, 32, .ar 4 3 1 false, some (.ar 4 1 (.it .i64))⟩), (99, ⟨.agg [.nilp, .int .u64 0, .int .u64 0, .arr 1 4 (fun _ => .str .empty), .ints .i64 4 (fun _ => 0), .arr 1 4 (fun _ => .str .empty), .bool false], 16, 192, .st [(0, 1, false), (1, 1, false), (2, 1, false), (3, 4, true), (7, 4, true), (11, 4, true), (15, 1, false)], none⟩)]
theorem PT_ref18_Bus_Type_ok : Prg Tryz.prog PT_ref18_Bus_Type := ⟨(.cons pe_3 (.cons pe_9 (.cons pe_96 (.cons pe_97 (.cons pe_99 (TEok.nil _)))))), by kernel_rfl⟩
noncomputable abbrev B_z3m {α : Type} (L_z3 : SgL_z3 α) : FF α := byBody PT_ref18_Bus_Type [] ⟨1, []⟩ Tryz.f74
theorem cB_z3m {α : Type} {I : Imm} (h_z1s : OrcOk (α := α) Tryz.prog I 67 (.full newF)) (h_ref1_New : OrcOk (α := α) Tryz.prog I 68 (.full newF)) {L_z3 : SgL_z3 α} (h_L_law17_both_3 : SoundC (α := α) Tryz.prog I Tryz.f22.ntmps (.loop (loopNo Tryz.f22 0)) (Lf_z3 L_z3)) : OrcOk (α := α) Tryz.prog I 74 (.full (B_z3m L_z3)) := orc_body PT_ref18_Bus_Type_ok (OOk.nil) ⟨1, []⟩ Tryz.func74 (by kernel_rfl) (by kernel_rfl) (by kernel_rfl)
noncomputable abbrev PO_z15 {α : Type} (L_z3 : SgL_z3 α) : ORC α := [(67, .full newF), (68, .full newF), (28, .full (B_z3h L_z3)), (72, .full (B_z3i L_z3)), (73, .full (B_z3l L_z3)), (74, .full (B_z3m L_z3))]
set_option maxRecDepth 100000 in
theorem ok_z15 {α : Type} (L_z3 : SgL_z3 α) (x0 : (Bool × Addr × Nat × Nat × (Nat → (Int × Int × Unit)))) (k : GBus → GRBus → R α) : bodyL PT_z15 (PO_z15 L_z3) [(3, Lf_z3 L_z3)] ⟨1, []⟩ Tryz.f22 (E_z15.encs (x0, ()) (fun i => i) 0) (hp (E_z15.objss (x0, ()) (fun i => i) 0)) (dRo M_z15 Q_z15 false (selN (E_z15.encs (x0, ()) (fun i => i) 0) []) (fun _ z => k z.1 z.2.1)) = p_z15 L_z3 x0 k := by kernel_rfl
theorem mk_z15 {α : Type} {I : Imm} (h_z1s : OrcOk (α := α) Tryz.prog I 67 (.full newF)) (h_ref1_New : OrcOk (α := α) Tryz.prog I 68 (.full newF)) {L_z3 : SgL_z3 α} (h_L_law17_both_3 : SoundC (α := α) Tryz.prog I Tryz.f22.ntmps (.loop (loopNo Tryz.f22 0)) (Lf_z3 L_z3)) {F : Sg_z15 α} (hF : ∀ x0 k r, F x0 k = some r → p_z15 L_z3 x0 k = some r) : OrcOk (α := α) Tryz.prog I 22 (.full (ad_z15 F)) :=
  orc_obj PT_z20 (O := PO_z15 L_z3) (OOk.cons h_z1s (OOk.cons h_ref1_New (OOk.cons (cB_z3h h_z1s h_ref1_New h_L_law17_both_3) (OOk.cons (cB_z3i h_z1s h_ref1_New h_L_law17_both_3) (OOk.cons (cB_z3l h_z1s h_ref1_New h_L_law17_both_3) (OOk.cons (cB_z3m h_z1s h_ref1_New h_L_law17_both_3) (OOk.nil))))))) (L := [(3, Lf_z3 L_z3)]) ⟨1, []⟩ Tryz.func22 (by kernel_rfl) (by kernel_rfl) (by kernel_rfl) (flok_of (l := [loopNo Tryz.f22 0]) (by kernel_rfl) ⟨lk_yes (by kernel_rfl) h_L_law17_both_3, trivial⟩) E_z20 M_z20 Q_z20 rfl (oi := []) fun ⟨x0, ()⟩ k r h => (ok_z15 L_z3 x0 (fun z0 z1 => k () (z0, z1, ()))).trans (hF x0 _ r h)
theorem pe_201 : TyOk Tryz.prog 201 ⟨.agg [.nils], 1, 24, .st [(0, 1, false)], none⟩ := ⟨fun _ => by kernel_rfl, ⟨rfl, rfl, fun _ _ => by simp [Wf, Wfs]⟩, ⟨_, Tryz.underlying201, by kernel_rfl⟩, fun _ h => by cases h⟩
abbrev PT_zc : TE := [(3, ⟨.int .i64 0, 1, 8, .sc (.int .i64), none⟩), (5, ⟨.int .u8 0, 1, 1, .sc (.int .u8), none⟩), (9, ⟨.str .empty, 1, 16, .sc (.string), none⟩), (156, ⟨.nils, 1, 24, .sc (.slice 5), none⟩), (201, ⟨.agg [.nils], 1, 24, .st [(0, 1, false)], none⟩)]
theorem PT_z5h : Prg Tryz.prog PT_zc := ⟨(.cons pe_3 (.cons pe_5 (.cons pe_9 (.cons pe_156 (.cons pe_201 (TEok.nil _)))))), by kernel_rfl⟩
noncomputable abbrev PO_zc {α : Type}  : ORC α := []
set_option maxRecDepth 100000 in
theorem ok_zc {α : Type}  (g0 g1 : Option Nat) (x0 : (Nat → Int)) (x1 : Int) (k : ByteArray → R α) : bodyL PT_zc (PO_zc ) [] ⟨1, []⟩ Tryz.f50 [.ptr 0 [], (.int .i64 x1)] (hp [memO 1 g0, byO g1 x0]) (fun v σ1 => dR_mem_Memory_Frame v σ1 k) = p_zc  x0 x1 k := by kernel_rfl
theorem mk_zc {α : Type} {I : Imm}  : OrcOk (α := α) Tryz.prog I 50 (.full (ad_zc (p_zc ))) := by
  refine orc_canonK PT_z5h (O := PO_zc ) (OOk.nil) (L := []) ⟨1, []⟩ Tryz.func50 (by kernel_rfl) (by kernel_rfl) (by kernel_rfl) FLOk.nil ?_
  intro args σ k r hk
  unfold ad_zc at hk
  split at hk <;> try (cases hk; done)
  obtain ⟨b, b1, g0, g1, x0, rfl, h0, h1, hne, hk0⟩ := withMem_spec hk
  obtain ⟨x1, rfl, hk1⟩ := decI_spec hk0
  have hkz := hk1
  refine ⟨[b, b1], [memO 1 g0, byO g1 x0], [.ptr 0 [], (.int .i64 x1)], lay_mk rfl (nodup2 hne) rfl ⟨h0, h1, trivial⟩ (by simp [AllL, Ids, Idss]) (by simp [AllL, OIds, Ids, Idss]), fun v σ1 => dR_mem_Memory_Frame v σ1 (fun r0 => k (.str r0) σ), ?_, fun v σ1 hg hv => ?_⟩
  · rw [ok_zc]; exact hkz
  · unfold dR_mem_Memory_Frame at hv
    obtain ⟨hc, hv0⟩ := bif_some hv
    obtain ⟨r0, rfl, w0⟩ := decS_spec hv0
    exact ⟨[], [], pub_keep hg (by simp [SObj.live]) hc (by simp [Ids, Idss]), w0⟩
abbrev PT_zd : TE := [(3, ⟨.int .i64 0, 1, 8, .sc (.int .i64), none⟩), (5, ⟨.int .u8 0, 1, 1, .sc (.int .u8), none⟩), (9, ⟨.str .empty, 1, 16, .sc (.string), none⟩), (156, ⟨.nils, 1, 24, .sc (.slice 5), none⟩), (203, ⟨.agg [.nils], 1, 24, .st [(0, 1, false)], none⟩)]
theorem PT_z5i : Prg Tryz.prog PT_zd := ⟨(.cons pe_3 (.cons pe_5 (.cons pe_9 (.cons pe_156 (.cons pe_203 (TEok.nil _)))))), by kernel_rfl⟩
noncomputable abbrev PO_zd {α : Type}  : ORC α := []
set_option maxRecDepth 100000 in
theorem ok_zd {α : Type}  (g0 g1 : Option Nat) (x0 : (Nat → Int)) (x1 : Int) (k : ByteArray → R α) : bodyL PT_zd (PO_zd ) [] ⟨1, []⟩ Tryz.f51 [.ptr 0 [], (.int .i64 x1)] (hp [memO 1 g0, byO g1 x0]) (fun v σ1 => dR_ref1_Mem_Frame v σ1 k) = p_zd  x0 x1 k := by kernel_rfl
theorem mk_zd {α : Type} {I : Imm}  : OrcOk (α := α) Tryz.prog I 51 (.full (ad_zd (p_zd ))) := by
  refine orc_canonK PT_z5i (O := PO_zd ) (OOk.nil) (L := []) ⟨1, []⟩ Tryz.func51 (by kernel_rfl) (by kernel_rfl) (by kernel_rfl) FLOk.nil ?_
  intro args σ k r hk
  unfold ad_zd at hk
  split at hk <;> try (cases hk; done)
  obtain ⟨b, b1, g0, g1, x0, rfl, h0, h1, hne, hk0⟩ := withMem_spec hk
  obtain ⟨x1, rfl, hk1⟩ := decI_spec hk0
  have hkz := hk1
  refine ⟨[b, b1], [memO 1 g0, byO g1 x0], [.ptr 0 [], (.int .i64 x1)], lay_mk rfl (nodup2 hne) rfl ⟨h0, h1, trivial⟩ (by simp [AllL, Ids, Idss]) (by simp [AllL, OIds, Ids, Idss]), fun v σ1 => dR_ref1_Mem_Frame v σ1 (fun r0 => k (.str r0) σ), ?_, fun v σ1 hg hv => ?_⟩
  · rw [ok_zd]; exact hkz
  · unfold dR_ref1_Mem_Frame at hv
    obtain ⟨hc, hv0⟩ := bif_some hv
    obtain ⟨r0, rfl, w0⟩ := decS_spec hv0
    exact ⟨[], [], pub_keep hg (by simp [SObj.live]) hc (by simp [Ids, Idss]), w0⟩
abbrev PT_z16 : TE := [(3, ⟨.int .i64 0, 1, 8, .sc (.int .i64), none⟩), (4, ⟨.bool false, 1, 1, .sc (.bool), none⟩), (9, ⟨.str .empty, 1, 16, .sc (.string), none⟩), (23, ⟨.int .u64 0, 1, 8, .sc (.int .u64), none⟩), (95, ⟨.nilp, 1, 8, .sc (.pointer 203), none⟩), (96, ⟨.arr 1 4 (fun _ => .str .empty), 4, 64, .ar 4 9 1 false, none⟩), (99, ⟨.agg [.nilp, .int .u64 0, .int .u64 0, .arr 1 4 (fun _ => .str .empty), .ints .i64 4 (fun _ => 0), .arr 1 4 (fun _ => .str .empty), .bool false], 16, 192, .st [(0, 1, false), (1, 1, false), (2, 1, false), (3, 4, true), (7, 4, true), (11, 4, true), (15, 1, false)], none⟩)]
theorem PT_z2l : Prg Tryz.prog PT_z16 := ⟨(.cons pe_3 (.cons pe_4 (.cons pe_9 (.cons pe_23 (.cons pe_95 (.cons pe_96 (.cons pe_99 (TEok.nil _)))))))), by kernel_rfl⟩
noncomputable abbrev B_z3n {α : Type} (F_zc : Sg_zc α) (F_zd : Sg_zd α) : FF α := byBody PT_bus_Bus_port [] ⟨1, []⟩ Tryz.f121
theorem cB_z3n {α : Type} {I : Imm} {F_zc : Sg_zc α} {F_zd : Sg_zd α} (h_sync_atomic_LoadUint64 : OrcOk (α := α) Tryz.prog I 252 (.ext (xLoad .u64))) (h_zc : OrcOk (α := α) Tryz.prog I 50 (.full (ad_zc F_zc))) (h_zd : OrcOk (α := α) Tryz.prog I 51 (.full (ad_zd F_zd))) : OrcOk (α := α) Tryz.prog I 121 (.full (B_z3n F_zc F_zd)) := orc_body PT_bus_Bus_port_ok (OOk.nil) ⟨1, []⟩ Tryz.func121 (by kernel_rfl) (by kernel_rfl) (by kernel_rfl)
abbrev PT_bus_Bus_Output : TE := [(3, ⟨.int .i64 0, 1, 8, .sc (.int .i64), none⟩), (5, ⟨.int .u8 0, 1, 1, .sc (.int .u8), none⟩), (9, ⟨.str .empty, 1, 16, .sc (.string), none⟩), (23, ⟨.int .u64 0, 1, 8, .sc (.int .u64), none⟩), (156, ⟨.nils, 1, 24, .sc (.slice 5), none⟩), (158, ⟨.agg [.nils, .nils, .int .i64 0], 3, 56, .st [(0, 1, false), (1, 1, false), (2, 1, false)], none⟩), (197, ⟨.nilp, 1, 8, .sc (.pointer 158), none⟩)]
theorem PT_bus_Bus_Output_ok : Prg Tryz.prog PT_bus_Bus_Output := ⟨(.cons pe_3 (.cons pe_5 (.cons pe_9 (.cons pe_23 (.cons pe_156 (.cons pe_158 (.cons pe_197 (TEok.nil _)))))))), by kernel_rfl⟩
noncomputable abbrev B_z3o {α : Type} (F_zc : Sg_zc α) (F_zd : Sg_zd α) : FF α := byBody PT_bus_Bus_Output [(121, .full (B_z3n F_zc F_zd))] ⟨1, []⟩ Tryz.f52
theorem cB_z3o {α : Type} {I : Imm} {F_zc : Sg_zc α} {F_zd : Sg_zd α} (h_sync_atomic_LoadUint64 : OrcOk (α := α) Tryz.prog I 252 (.ext (xLoad .u64))) (h_zc : OrcOk (α := α) Tryz.prog I 50 (.full (ad_zc F_zc))) (h_zd : OrcOk (α := α) Tryz.prog I 51 (.full (ad_zd F_zd))) : OrcOk (α := α) Tryz.prog I 52 (.full (B_z3o F_zc F_zd)) := orc_body PT_bus_Bus_Output_ok (OOk.cons (cB_z3n h_sync_atomic_LoadUint64 h_zc h_zd) (OOk.nil)) ⟨1, []⟩ Tryz.func52 (by kernel_rfl) (by kernel_rfl) (by kernel_rfl)
noncomputable abbrev B_z3p {α : Type} (F_zc : Sg_zc α) (F_zd : Sg_zd α) : FF α := byBody PT_sync_atomic_Uint64_Load [(252, .ext (xLoad .u64))] ⟨1, []⟩ Tryz.f165
theorem cB_z3p {α : Type} {I : Imm} {F_zc : Sg_zc α} {F_zd : Sg_zd α} (h_sync_atomic_LoadUint64 : OrcOk (α := α) Tryz.prog I 252 (.ext (xLoad .u64))) (h_zc : OrcOk (α := α) Tryz.prog I 50 (.full (ad_zc F_zc))) (h_zd : OrcOk (α := α) Tryz.prog I 51 (.full (ad_zd F_zd))) : OrcOk (α := α) Tryz.prog I 165 (.full (B_z3p F_zc F_zd)) := orc_body PT_sync_atomic_Uint64_Load_ok (OOk.cons h_sync_atomic_LoadUint64 (OOk.nil)) ⟨1, []⟩ Tryz.func165 (by kernel_rfl) (by kernel_rfl) (by kernel_rfl)
abbrev PT_bus_Bus_Timer : TE := [(23, ⟨.int .u64 0, 1, 8, .sc (.int .u64), none⟩), (161, ⟨.agg [.nilp, .agg [.agg [], .agg [], .int .u64 0], .int .u64 0, .arr 3 4 (fun _ => .agg [.nils, .nils, .int .i64 0])], 15, 248, .st [(0, 1, false), (1, 1, true), (2, 1, false), (3, 12, true)], none⟩)]
theorem PT_bus_Bus_Timer_ok : Prg Tryz.prog PT_bus_Bus_Timer := ⟨(.cons pe_23 (.cons pe_161 (TEok.nil _))), by kernel_rfl⟩
noncomputable abbrev B_z3q {α : Type} (F_zc : Sg_zc α) (F_zd : Sg_zd α) : FF α := byBody PT_bus_Bus_Timer [(165, .full (B_z3p F_zc F_zd))] ⟨1, []⟩ Tryz.f86
theorem cB_z3q {α : Type} {I : Imm} {F_zc : Sg_zc α} {F_zd : Sg_zd α} (h_sync_atomic_LoadUint64 : OrcOk (α := α) Tryz.prog I 252 (.ext (xLoad .u64))) (h_zc : OrcOk (α := α) Tryz.prog I 50 (.full (ad_zc F_zc))) (h_zd : OrcOk (α := α) Tryz.prog I 51 (.full (ad_zd F_zd))) : OrcOk (α := α) Tryz.prog I 86 (.full (B_z3q F_zc F_zd)) := orc_body PT_bus_Bus_Timer_ok (OOk.cons (cB_z3p h_sync_atomic_LoadUint64 h_zc h_zd) (OOk.nil)) ⟨1, []⟩ Tryz.func86 (by kernel_rfl) (by kernel_rfl) (by kernel_rfl)
abbrev PT_ref18_Bus_Timer : TE := [(23, ⟨.int .u64 0, 1, 8, .sc (.int .u64), none⟩), (99, ⟨.agg [.nilp, .int .u64 0, .int .u64 0, .arr 1 4 (fun _ => .str .empty), .ints .i64 4 (fun _ => 0), .arr 1 4 (fun _ => .str .empty), .bool false], 16, 192, .st [(0, 1, false), (1, 1, false), (2, 1, false), (3, 4, true), (7, 4, true), (11, 4, true), (15, 1, false)], none⟩)]
theorem PT_ref18_Bus_Timer_ok : Prg Tryz.prog PT_ref18_Bus_Timer := ⟨(.cons pe_23 (.cons pe_99 (TEok.nil _))), by kernel_rfl⟩
noncomputable abbrev B_z3r {α : Type} (F_zc : Sg_zc α) (F_zd : Sg_zd α) : FF α := byBody PT_ref18_Bus_Timer [] ⟨1, []⟩ Tryz.f87
theorem cB_z3r {α : Type} {I : Imm} {F_zc : Sg_zc α} {F_zd : Sg_zd α} (h_sync_atomic_LoadUint64 : OrcOk (α := α) Tryz.prog I 252 (.ext (xLoad .u64))) (h_zc : OrcOk (α := α) Tryz.prog I 50 (.full (ad_zc F_zc))) (h_zd : OrcOk (α := α) Tryz.prog I 51 (.full (ad_zd F_zd))) : OrcOk (α := α) Tryz.prog I 87 (.full (B_z3r F_zc F_zd)) := orc_body PT_ref18_Bus_Timer_ok (OOk.nil) ⟨1, []⟩ Tryz.func87 (by kernel_rfl) (by kernel_rfl) (by kernel_rfl)
noncomputable abbrev B_z3s {α : Type} (F_zc : Sg_zc α) (F_zd : Sg_zd α) : FF α := byBody PT_bus_Bus_Mem [] ⟨1, []⟩ Tryz.f49
theorem cB_z3s {α : Type} {I : Imm} {F_zc : Sg_zc α} {F_zd : Sg_zd α} (h_sync_atomic_LoadUint64 : OrcOk (α := α) Tryz.prog I 252 (.ext (xLoad .u64))) (h_zc : OrcOk (α := α) Tryz.prog I 50 (.full (ad_zc F_zc))) (h_zd : OrcOk (α := α) Tryz.prog I 51 (.full (ad_zd F_zd))) : OrcOk (α := α) Tryz.prog I 49 (.full (B_z3s F_zc F_zd)) := orc_body PT_bus_Bus_Mem_ok (OOk.nil) ⟨1, []⟩ Tryz.func49 (by kernel_rfl) (by kernel_rfl) (by kernel_rfl)
noncomputable abbrev PO_z16 {α : Type} (F_zc : Sg_zc α) (F_zd : Sg_zd α) : ORC α := [(52, .full (B_z3o F_zc F_zd)), (86, .full (B_z3q F_zc F_zd)), (87, .full (B_z3r F_zc F_zd)), (49, .full (B_z3s F_zc F_zd)), (50, .full (ad_zc F_zc)), (51, .full (ad_zd F_zd))]
set_option maxRecDepth 100000 in
theorem ok_z16 {α : Type} (F_zc : Sg_zc α) (F_zd : Sg_zd α) (x0 : GBus) (x1 : GRBus) (x2 : Int) (k : GBus → GRBus → Bool → R α) : bodyL PT_z16 (PO_z16 F_zc F_zd) [] ⟨1, []⟩ Tryz.f26 (E_z16.encs (x0, x1, x2, ()) (fun i => i) 0) (hp (E_z16.objss (x0, x1, x2, ()) (fun i => i) 0)) (dRo M_z16 Q_z16 true (selN (E_z16.encs (x0, x1, x2, ()) (fun i => i) 0) [0, 1]) (fun y z => k y.1 y.2.1 z.1)) = p_z16 F_zc F_zd x0 x1 x2 k := by kernel_rfl
theorem mk_z16 {α : Type} {I : Imm} {F_zc : Sg_zc α} {F_zd : Sg_zd α} (h_sync_atomic_LoadUint64 : OrcOk (α := α) Tryz.prog I 252 (.ext (xLoad .u64))) (h_zc : OrcOk (α := α) Tryz.prog I 50 (.full (ad_zc F_zc))) (h_zd : OrcOk (α := α) Tryz.prog I 51 (.full (ad_zd F_zd))) {F : Sg_z16 α} (hF : ∀ x0 x1 x2 k r, F x0 x1 x2 k = some r → p_z16 F_zc F_zd x0 x1 x2 k = some r) : OrcOk (α := α) Tryz.prog I 26 (.full (ad_z16 F)) :=
  orc_obj PT_z2l (O := PO_z16 F_zc F_zd) (OOk.cons (cB_z3o h_sync_atomic_LoadUint64 h_zc h_zd) (OOk.cons (cB_z3q h_sync_atomic_LoadUint64 h_zc h_zd) (OOk.cons (cB_z3r h_sync_atomic_LoadUint64 h_zc h_zd) (OOk.cons (cB_z3s h_sync_atomic_LoadUint64 h_zc h_zd) (OOk.cons h_zc (OOk.cons h_zd (OOk.nil))))))) (L := []) ⟨1, []⟩ Tryz.func26 (by kernel_rfl) (by kernel_rfl) (by kernel_rfl) FLOk.nil E_z2l M_z2l Q_z2l rfl (oi := [0, 1]) fun ⟨x0, x1, x2, ()⟩ k r h => (ok_z16 F_zc F_zd x0 x1 x2 (fun y0 y1 z0 => k (y0, y1, ()) (z0, ()))).trans (hF x0 x1 x2 _ r h)
abbrev PT_z1m : TE := [(3, ⟨.int .i64 0, 1, 8, .sc (.int .i64), none⟩), (22, ⟨.nils, 1, 24, .sc (.slice 128), none⟩), (128, ⟨.agg [.int .u64 0, .int .u64 0], 2, 16, .st [(0, 1, false), (1, 1, false)], some (.st [(0, 1, false, .it .u64), (1, 1, false, .it .u64)])⟩)]
theorem PT_z5j : Prg Tryz.prog PT_z1m := ⟨(.cons pe_3 (.cons pe_22 (.cons pe_128 (TEok.nil _)))), by kernel_rfl⟩
noncomputable abbrev PO_z1m {α : Type}  : ORC α := []
set_option maxRecDepth 100000 in
theorem ok_z1m {α : Type}  (x0 : (Bool × Addr × Nat × Nat × (Nat → (Int × Int × Unit)))) (k : Bool → R α) : bodyL PT_z1m (PO_z1m ) [] ⟨1, []⟩ Tryz.f21 [(.vslc (.st [(.int .u64), (.int .u64)]) x0.1 x0.2.1 x0.2.2.1 x0.2.2.2.1 x0.2.2.2.2)] emp (fun v _ => dR_law17_few v k) = p_z1m  x0 k := by kernel_rfl
theorem mk_z1m {α : Type} {I : Imm}  : OrcOk (α := α) Tryz.prog I 21 (.pure (ad_z1m (p_z1m ))) := by
  refine orc_pureK PT_z5j (O := PO_z1m ) (OOk.nil) (L := []) ⟨1, []⟩ Tryz.func21 (by kernel_rfl) (by kernel_rfl) (by kernel_rfl) FLOk.nil ?_
  intro args k r hk
  unfold ad_z1m at hk
  split at hk <;> try (cases hk; done)
  obtain ⟨x0, rfl, hk0⟩ := decV_st_int_u64_int_u64_spec hk
  have hkz := hk0
  refine ⟨by simp [Ids, Idss], fun v => dR_law17_few v (fun r0 => k (.bool r0)), ?_, fun v hv => ?_⟩
  · rw [ok_z1m]; exact hkz
  · obtain ⟨r0, rfl, hv1⟩ := dR_law17_few_spec hv; exact ⟨hv1, by simp [Ids, Idss]⟩
theorem pe_306 : TyOk Tryz.prog 306 ⟨.ints .i64 12 (fun _ => 0), 12, 96, .ar 12 3 1 false, some (.ar 12 1 (.it .i64))⟩ := ⟨fun _ => by kernel_rfl, ⟨rfl, rfl, fun _ _ => by simp [Wf, Wfs]⟩, ⟨Tryz.underlying306, by kernel_rfl, by kernel_rfl⟩, fun _ h => by cases h; exact ⟨by kernel_rfl, by kernel_rfl⟩⟩
abbrev PT_zj : TE := [(3, ⟨.int .i64 0, 1, 8, .sc (.int .i64), none⟩), (306, ⟨.ints .i64 12 (fun _ => 0), 12, 96, .ar 12 3 1 false, some (.ar 12 1 (.it .i64))⟩)]
theorem PT_z5k : Prg Tryz.prog PT_zj := ⟨(.cons pe_3 (.cons pe_306 (TEok.nil _))), by kernel_rfl⟩
noncomputable abbrev PO_zj {α : Type}  : ORC α := []
set_option maxRecDepth 100000 in
theorem ok_zj {α : Type}  (x0 : Int) (k : Int → R α) : bodyL PT_zj (PO_zj ) [] ⟨13, []⟩ Tryz.f109 [(.int .i64 x0)] emp (fun v _ => dR_insn_Class v k) = p_zj  x0 k := by kernel_rfl
theorem mk_zj {α : Type} {I : Imm}  : OrcOk (α := α) Tryz.prog I 109 (.pure (ad_zj (p_zj ))) := by
  refine orc_pureK PT_z5k (O := PO_zj ) (OOk.nil) (L := []) ⟨13, []⟩ Tryz.func109 (by kernel_rfl) (by kernel_rfl) (by kernel_rfl) FLOk.nil ?_
  intro args k r hk
  unfold ad_zj at hk
  split at hk <;> try (cases hk; done)
  obtain ⟨x0, rfl, hk0⟩ := decI_spec hk
  have hkz := hk0
  refine ⟨by simp [Ids, Idss], fun v => dR_insn_Class v (fun r0 => k (.int .i64 r0)), ?_, fun v hv => ?_⟩
  · rw [ok_zj]; exact hkz
  · obtain ⟨r0, rfl, hv1⟩ := dR_insn_Class_spec hv; exact ⟨hv1, by simp [Ids, Idss]⟩
theorem pe_303 : TyOk Tryz.prog 303 ⟨.agg [.bool false, .bool false, .bool false, .bool false, .int .i64 0, .int .i64 0, .int .i64 0], 7, 32, .st [(0, 1, false), (1, 1, false), (2, 1, false), (3, 1, false), (4, 1, false), (5, 1, false), (6, 1, false)], some (.st [(0, 1, false, .bl), (1, 1, false, .bl), (2, 1, false, .bl), (3, 1, false, .bl), (4, 1, false, .it .i64), (5, 1, false, .it .i64), (6, 1, false, .it .i64)])⟩ := ⟨fun _ => by kernel_rfl, ⟨rfl, rfl, fun _ _ => by simp [Wf, Wfs]⟩, ⟨_, Tryz.underlying303, by kernel_rfl⟩, fun _ h => by cases h; exact ⟨by kernel_rfl, by kernel_rfl⟩⟩
abbrev PT_z1o : TE := [(3, ⟨.int .i64 0, 1, 8, .sc (.int .i64), none⟩), (303, ⟨.agg [.bool false, .bool false, .bool false, .bool false, .int .i64 0, .int .i64 0, .int .i64 0], 7, 32, .st [(0, 1, false), (1, 1, false), (2, 1, false), (3, 1, false), (4, 1, false), (5, 1, false), (6, 1, false)], some (.st [(0, 1, false, .bl), (1, 1, false, .bl), (2, 1, false, .bl), (3, 1, false, .bl), (4, 1, false, .it .i64), (5, 1, false, .it .i64), (6, 1, false, .it .i64)])⟩)]
theorem PT_z5l : Prg Tryz.prog PT_z1o := ⟨(.cons pe_3 (.cons pe_303 (TEok.nil _))), by kernel_rfl⟩
noncomputable abbrev PO_z1o {α : Type}  : ORC α := []
set_option maxRecDepth 100000 in
theorem ok_z1o {α : Type}  (x0 : Int) (k : GInsn_Fields → R α) : bodyL PT_z1o (PO_z1o ) [] ⟨1, []⟩ Tryz.f280 [(.int .i64 x0)] emp (fun v _ => dR_insn_jumps v k) = p_z1o  x0 k := by kernel_rfl
theorem mk_z1o {α : Type} {I : Imm}  : OrcOk (α := α) Tryz.prog I 280 (.pure (ad_z1o (p_z1o ))) := by
  refine orc_pureK PT_z5l (O := PO_z1o ) (OOk.nil) (L := []) ⟨1, []⟩ Tryz.func280 (by kernel_rfl) (by kernel_rfl) (by kernel_rfl) FLOk.nil ?_
  intro args k r hk
  unfold ad_z1o at hk
  split at hk <;> try (cases hk; done)
  obtain ⟨x0, rfl, hk0⟩ := decI_spec hk
  have hkz := hk0
  refine ⟨by simp [Ids, Idss], fun v => dR_insn_jumps v (fun r0 => k (GInsn_Fields.sv r0)), ?_, fun v hv => ?_⟩
  · rw [ok_z1o]; exact hkz
  · obtain ⟨r0, rfl, hv1⟩ := dR_insn_jumps_spec hv; exact ⟨hv1, by simp [Ids, Idss]⟩
theorem pe_2 : TyOk Tryz.prog 2 ⟨.int .i64 0, 1, 8, .sc (.int .i64), none⟩ := ⟨fun _ => by kernel_rfl, ⟨rfl, rfl, fun _ _ => by simp [Wf, Wfs]⟩, ⟨Tryz.underlying2, rfl⟩, fun _ h => by cases h⟩
abbrev PT_z1p : TE := [(2, ⟨.int .i64 0, 1, 8, .sc (.int .i64), none⟩), (3, ⟨.int .i64 0, 1, 8, .sc (.int .i64), none⟩), (303, ⟨.agg [.bool false, .bool false, .bool false, .bool false, .int .i64 0, .int .i64 0, .int .i64 0], 7, 32, .st [(0, 1, false), (1, 1, false), (2, 1, false), (3, 1, false), (4, 1, false), (5, 1, false), (6, 1, false)], some (.st [(0, 1, false, .bl), (1, 1, false, .bl), (2, 1, false, .bl), (3, 1, false, .bl), (4, 1, false, .it .i64), (5, 1, false, .it .i64), (6, 1, false, .it .i64)])⟩)]
theorem PT_z5m : Prg Tryz.prog PT_z1p := ⟨(.cons pe_2 (.cons pe_3 (.cons pe_303 (TEok.nil _)))), by kernel_rfl⟩
noncomputable abbrev PO_z1p {α : Type}  : ORC α := []
set_option maxRecDepth 100000 in
theorem ok_z1p {α : Type}  (x0 : Int) (k : GInsn_Fields → R α) : bodyL PT_z1p (PO_z1p ) [] ⟨1, []⟩ Tryz.f281 [(.int .i64 x0)] emp (fun v _ => dR_insn_withNumber v k) = p_z1p  x0 k := by kernel_rfl
theorem mk_z1p {α : Type} {I : Imm}  : OrcOk (α := α) Tryz.prog I 281 (.pure (ad_z1p (p_z1p ))) := by
  refine orc_pureK PT_z5m (O := PO_z1p ) (OOk.nil) (L := []) ⟨1, []⟩ Tryz.func281 (by kernel_rfl) (by kernel_rfl) (by kernel_rfl) FLOk.nil ?_
  intro args k r hk
  unfold ad_z1p at hk
  split at hk <;> try (cases hk; done)
  obtain ⟨x0, rfl, hk0⟩ := decI_spec hk
  have hkz := hk0
  refine ⟨by simp [Ids, Idss], fun v => dR_insn_withNumber v (fun r0 => k (GInsn_Fields.sv r0)), ?_, fun v hv => ?_⟩
  · rw [ok_z1p]; exact hkz
  · obtain ⟨r0, rfl, hv1⟩ := dR_insn_withNumber_spec hv; exact ⟨hv1, by simp [Ids, Idss]⟩
abbrev PT_z1q : TE := [(3, ⟨.int .i64 0, 1, 8, .sc (.int .i64), none⟩), (303, ⟨.agg [.bool false, .bool false, .bool false, .bool false, .int .i64 0, .int .i64 0, .int .i64 0], 7, 32, .st [(0, 1, false), (1, 1, false), (2, 1, false), (3, 1, false), (4, 1, false), (5, 1, false), (6, 1, false)], some (.st [(0, 1, false, .bl), (1, 1, false, .bl), (2, 1, false, .bl), (3, 1, false, .bl), (4, 1, false, .it .i64), (5, 1, false, .it .i64), (6, 1, false, .it .i64)])⟩)]
theorem PT_z5n : Prg Tryz.prog PT_z1q := ⟨(.cons pe_3 (.cons pe_303 (TEok.nil _))), by kernel_rfl⟩
noncomputable abbrev PO_z1q {α : Type} (F_zj : Sg_zj α) (F_z1o : Sg_z1o α) (F_z1p : Sg_z1p α) : ORC α := [(109, .pure (ad_zj F_zj)), (280, .pure (ad_z1o F_z1o)), (281, .pure (ad_z1p F_z1p))]
set_option maxRecDepth 100000 in
theorem ok_z1q {α : Type} (F_zj : Sg_zj α) (F_z1o : Sg_z1o α) (F_z1p : Sg_z1p α) (x0 : Int) (k : GInsn_Fields → R α) : bodyL PT_z1q (PO_z1q F_zj F_z1o F_z1p) [] ⟨1, []⟩ Tryz.f208 [(.int .i64 x0)] emp (fun v _ => dR_insn_Of v k) = p_z1q F_zj F_z1o F_z1p x0 k := by kernel_rfl
theorem mk_z1q {α : Type} {I : Imm} {F_zj : Sg_zj α} {F_z1o : Sg_z1o α} {F_z1p : Sg_z1p α} (h_zj : OrcOk (α := α) Tryz.prog I 109 (.pure (ad_zj F_zj))) (h_z1o : OrcOk (α := α) Tryz.prog I 280 (.pure (ad_z1o F_z1o))) (h_z1p : OrcOk (α := α) Tryz.prog I 281 (.pure (ad_z1p F_z1p))) : OrcOk (α := α) Tryz.prog I 208 (.pure (ad_z1q (p_z1q F_zj F_z1o F_z1p))) := by
  refine orc_pureK PT_z5n (O := PO_z1q F_zj F_z1o F_z1p) (OOk.cons h_zj (OOk.cons h_z1o (OOk.cons h_z1p (OOk.nil)))) (L := []) ⟨1, []⟩ Tryz.func208 (by kernel_rfl) (by kernel_rfl) (by kernel_rfl) FLOk.nil ?_
  intro args k r hk
  unfold ad_z1q at hk
  split at hk <;> try (cases hk; done)
  obtain ⟨x0, rfl, hk0⟩ := decI_spec hk
  have hkz := hk0
  refine ⟨by simp [Ids, Idss], fun v => dR_insn_Of v (fun r0 => k (GInsn_Fields.sv r0)), ?_, fun v hv => ?_⟩
  · rw [ok_z1q]; exact hkz
  · obtain ⟨r0, rfl, hv1⟩ := dR_insn_Of_spec hv; exact ⟨hv1, by simp [Ids, Idss]⟩
abbrev PT_z12 : TE := [(3, ⟨.int .i64 0, 1, 8, .sc (.int .i64), none⟩)]
theorem PT_z5o : Prg Tryz.prog PT_z12 := ⟨(.cons pe_3 (TEok.nil _)), by kernel_rfl⟩
noncomputable abbrev PO_z12 {α : Type}  : ORC α := []
set_option maxRecDepth 100000 in
theorem ok_z12 {α : Type}  (x0 : Bool) (x1 : Int) (x2 : Int) (k : Bool → R α) : bodyL PT_z12 (PO_z12 ) [] ⟨1, []⟩ Tryz.f209 [(.bool x0), (.int .i64 x1), (.int .i64 x2)] emp (fun v _ => dR_insn_field v k) = p_z12  x0 x1 x2 k := by kernel_rfl
theorem mk_z12 {α : Type} {I : Imm}  : OrcOk (α := α) Tryz.prog I 209 (.pure (ad_z12 (p_z12 ))) := by
  refine orc_pureK PT_z5o (O := PO_z12 ) (OOk.nil) (L := []) ⟨1, []⟩ Tryz.func209 (by kernel_rfl) (by kernel_rfl) (by kernel_rfl) FLOk.nil ?_
  intro args k r hk
  unfold ad_z12 at hk
  split at hk <;> try (cases hk; done)
  obtain ⟨x0, rfl, hk0⟩ := decB_spec hk
  obtain ⟨x1, rfl, hk1⟩ := decI_spec hk0
  obtain ⟨x2, rfl, hk2⟩ := decI_spec hk1
  have hkz := hk2
  refine ⟨by simp [Ids, Idss], fun v => dR_insn_field v (fun r0 => k (.bool r0)), ?_, fun v hv => ?_⟩
  · rw [ok_z12]; exact hkz
  · obtain ⟨r0, rfl, hv1⟩ := dR_insn_field_spec hv; exact ⟨hv1, by simp [Ids, Idss]⟩
theorem pe_52 : TyOk Tryz.prog 52 ⟨.agg [.int .i64 0, .int .i64 0, .int .i64 0, .int .i64 0, .int .i64 0, .int .i64 0], 6, 48, .st [(0, 1, false), (1, 1, false), (2, 1, false), (3, 1, false), (4, 1, false), (5, 1, false)], some (.st [(0, 1, false, .it .i64), (1, 1, false, .it .i64), (2, 1, false, .it .i64), (3, 1, false, .it .i64), (4, 1, false, .it .i64), (5, 1, false, .it .i64)])⟩ := ⟨fun _ => by kernel_rfl, ⟨rfl, rfl, fun _ _ => by simp [Wf, Wfs]⟩, ⟨_, Tryz.underlying52, by kernel_rfl⟩, fun _ h => by cases h; exact ⟨by kernel_rfl, by kernel_rfl⟩⟩
abbrev PT_z1n : TE := [(2, ⟨.int .i64 0, 1, 8, .sc (.int .i64), none⟩), (3, ⟨.int .i64 0, 1, 8, .sc (.int .i64), none⟩), (4, ⟨.bool false, 1, 1, .sc (.bool), none⟩), (52, ⟨.agg [.int .i64 0, .int .i64 0, .int .i64 0, .int .i64 0, .int .i64 0, .int .i64 0], 6, 48, .st [(0, 1, false), (1, 1, false), (2, 1, false), (3, 1, false), (4, 1, false), (5, 1, false)], some (.st [(0, 1, false, .it .i64), (1, 1, false, .it .i64), (2, 1, false, .it .i64), (3, 1, false, .it .i64), (4, 1, false, .it .i64), (5, 1, false, .it .i64)])⟩), (303, ⟨.agg [.bool false, .bool false, .bool false, .bool false, .int .i64 0, .int .i64 0, .int .i64 0], 7, 32, .st [(0, 1, false), (1, 1, false), (2, 1, false), (3, 1, false), (4, 1, false), (5, 1, false), (6, 1, false)], some (.st [(0, 1, false, .bl), (1, 1, false, .bl), (2, 1, false, .bl), (3, 1, false, .bl), (4, 1, false, .it .i64), (5, 1, false, .it .i64), (6, 1, false, .it .i64)])⟩)]
theorem PT_z5p : Prg Tryz.prog PT_z1n := ⟨(.cons pe_2 (.cons pe_3 (.cons pe_4 (.cons pe_52 (.cons pe_303 (TEok.nil _)))))), by kernel_rfl⟩
noncomputable abbrev PO_z1n {α : Type} (F_zj : Sg_zj α) (F_z1q : Sg_z1q α) (F_z12 : Sg_z12 α) : ORC α := [(109, .pure (ad_zj F_zj)), (208, .pure (ad_z1q F_z1q)), (209, .pure (ad_z12 F_z12))]
set_option maxRecDepth 100000 in
theorem ok_z1n {α : Type} (F_zj : Sg_zj α) (F_z1q : Sg_z1q α) (F_z12 : Sg_z12 α) (x0 : GInsn) (k : Bool → R α) : bodyL PT_z1n (PO_z1n F_zj F_z1q F_z12) [] ⟨1, []⟩ Tryz.f108 [(GInsn.sv x0)] emp (fun v _ => dR_insn_Is v k) = p_z1n F_zj F_z1q F_z12 x0 k := by kernel_rfl
theorem mk_z1n {α : Type} {I : Imm} {F_zj : Sg_zj α} {F_z1q : Sg_z1q α} {F_z12 : Sg_z12 α} (h_zj : OrcOk (α := α) Tryz.prog I 109 (.pure (ad_zj F_zj))) (h_z1q : OrcOk (α := α) Tryz.prog I 208 (.pure (ad_z1q F_z1q))) (h_z12 : OrcOk (α := α) Tryz.prog I 209 (.pure (ad_z12 F_z12))) : OrcOk (α := α) Tryz.prog I 108 (.pure (ad_z1n (p_z1n F_zj F_z1q F_z12))) := by
  refine orc_pureK PT_z5p (O := PO_z1n F_zj F_z1q F_z12) (OOk.cons h_zj (OOk.cons h_z1q (OOk.cons h_z12 (OOk.nil)))) (L := []) ⟨1, []⟩ Tryz.func108 (by kernel_rfl) (by kernel_rfl) (by kernel_rfl) FLOk.nil ?_
  intro args k r hk
  unfold ad_z1n at hk
  split at hk <;> try (cases hk; done)
  obtain ⟨x0, rfl, hk0⟩ := GInsn.dec_spec hk
  have hkz := hk0
  refine ⟨by simp [Ids, Idss], fun v => dR_insn_Is v (fun r0 => k (.bool r0)), ?_, fun v hv => ?_⟩
  · rw [ok_z1n]; exact hkz
  · obtain ⟨r0, rfl, hv1⟩ := dR_insn_Is_spec hv; exact ⟨hv1, by simp [Ids, Idss]⟩
abbrev PT_z1a : TE := [(3, ⟨.int .i64 0, 1, 8, .sc (.int .i64), none⟩)]
theorem PT_z37 : Prg Tryz.prog PT_z1a := ⟨(.cons pe_3 (TEok.nil _)), by kernel_rfl⟩
noncomputable abbrev PO_z1a {α : Type}  : ORC α := []
set_option maxRecDepth 100000 in
theorem ok_z1a {α : Type}  (x0 : Int) (x1 : Int) (k : Int → Int → R α) : bodyL PT_z1a (PO_z1a ) [] ⟨1, []⟩ Tryz.f278 [(.int .i64 x0), (.int .i64 x1)] emp (fun v _ => dR_word_part v k) = p_z1a  x0 x1 k := by kernel_rfl
theorem mk_z1a {α : Type} {I : Imm}  : OrcOk (α := α) Tryz.prog I 278 (.pure (ad_z1a (p_z1a ))) := by
  refine orc_pureK PT_z37 (O := PO_z1a ) (OOk.nil) (L := []) ⟨1, []⟩ Tryz.func278 (by kernel_rfl) (by kernel_rfl) (by kernel_rfl) FLOk.nil ?_
  intro args k r hk
  unfold ad_z1a at hk
  split at hk <;> try (cases hk; done)
  obtain ⟨x0, rfl, hk0⟩ := decI_spec hk
  obtain ⟨x1, rfl, hk1⟩ := decI_spec hk0
  have hkz := hk1
  refine ⟨by simp [Ids, Idss], fun v => dR_word_part v (fun r0 r1 => k (.tuple [(.int .i64 r0), (.int .i64 r1)])), ?_, fun v hv => ?_⟩
  · rw [ok_z1a]; exact hkz
  · obtain ⟨r0, r1, rfl, hv1⟩ := dR_word_part_spec hv; exact ⟨hv1, by simp [Ids, Idss]⟩
abbrev PT_zo : TE := [(3, ⟨.int .i64 0, 1, 8, .sc (.int .i64), none⟩), (23, ⟨.int .u64 0, 1, 8, .sc (.int .u64), none⟩)]
theorem PT_z35 : Prg Tryz.prog PT_zo := ⟨(.cons pe_3 (.cons pe_23 (TEok.nil _))), by kernel_rfl⟩
noncomputable abbrev PO_zo {α : Type}  : ORC α := []
set_option maxRecDepth 100000 in
theorem ok_zo {α : Type}  (x0 : Int) (k : Int → R α) : bodyL PT_zo (PO_zo ) [] ⟨1, []⟩ Tryz.f279 [(.int .i64 x0)] emp (fun v _ => dR_word_mask v k) = p_zo  x0 k := by kernel_rfl
theorem mk_zo {α : Type} {I : Imm}  : OrcOk (α := α) Tryz.prog I 279 (.pure (ad_zo (p_zo ))) := by
  refine orc_pureK PT_z35 (O := PO_zo ) (OOk.nil) (L := []) ⟨1, []⟩ Tryz.func279 (by kernel_rfl) (by kernel_rfl) (by kernel_rfl) FLOk.nil ?_
  intro args k r hk
  unfold ad_zo at hk
  split at hk <;> try (cases hk; done)
  obtain ⟨x0, rfl, hk0⟩ := decI_spec hk
  have hkz := hk0
  refine ⟨by simp [Ids, Idss], fun v => dR_word_mask v (fun r0 => k (.int .u64 r0)), ?_, fun v hv => ?_⟩
  · rw [ok_zo]; exact hkz
  · obtain ⟨r0, rfl, hv1⟩ := dR_word_mask_spec hv; exact ⟨hv1, by simp [Ids, Idss]⟩
abbrev PT_z18 : TE := [(23, ⟨.int .u64 0, 1, 8, .sc (.int .u64), none⟩)]
theorem PT_z38 : Prg Tryz.prog PT_z18 := ⟨(.cons pe_23 (TEok.nil _)), by kernel_rfl⟩
noncomputable abbrev PO_z18 {α : Type} (F_z1a : Sg_z1a α) (F_zo : Sg_zo α) : ORC α := [(278, .pure (ad_z1a F_z1a)), (279, .pure (ad_zo F_zo))]
set_option maxRecDepth 100000 in
theorem ok_z18 {α : Type} (F_z1a : Sg_z1a α) (F_zo : Sg_zo α) (x0 : Int) (x1 : Int) (x2 : Int) (k : Int → R α) : bodyL PT_z18 (PO_z18 F_z1a F_zo) [] ⟨1, []⟩ Tryz.f217 [(.int .u64 x0), (.int .i64 x1), (.int .i64 x2)] emp (fun v _ => dR_word_Bits v k) = p_z18 F_z1a F_zo x0 x1 x2 k := by kernel_rfl
theorem mk_z18 {α : Type} {I : Imm} {F_z1a : Sg_z1a α} {F_zo : Sg_zo α} (h_z1a : OrcOk (α := α) Tryz.prog I 278 (.pure (ad_z1a F_z1a))) (h_zo : OrcOk (α := α) Tryz.prog I 279 (.pure (ad_zo F_zo))) : OrcOk (α := α) Tryz.prog I 217 (.pure (ad_z18 (p_z18 F_z1a F_zo))) := by
  refine orc_pureK PT_z38 (O := PO_z18 F_z1a F_zo) (OOk.cons h_z1a (OOk.cons h_zo (OOk.nil))) (L := []) ⟨1, []⟩ Tryz.func217 (by kernel_rfl) (by kernel_rfl) (by kernel_rfl) FLOk.nil ?_
  intro args k r hk
  unfold ad_z18 at hk
  split at hk <;> try (cases hk; done)
  obtain ⟨x0, rfl, hk0⟩ := decI_spec hk
  obtain ⟨x1, rfl, hk1⟩ := decI_spec hk0
  obtain ⟨x2, rfl, hk2⟩ := decI_spec hk1
  have hkz := hk2
  refine ⟨by simp [Ids, Idss], fun v => dR_word_Bits v (fun r0 => k (.int .u64 r0)), ?_, fun v hv => ?_⟩
  · rw [ok_z18]; exact hkz
  · obtain ⟨r0, rfl, hv1⟩ := dR_word_Bits_spec hv; exact ⟨hv1, by simp [Ids, Idss]⟩
abbrev PT_z11 : TE := [(23, ⟨.int .u64 0, 1, 8, .sc (.int .u64), none⟩), (25, ⟨.ints .u64 29 (fun _ => 0), 29, 232, .ar 29 23 1 false, some (.ar 29 1 (.it .u64))⟩), (27, ⟨.agg [.ints .u64 32 (fun _ => 0), .int .u64 0, .int .i64 0, .bool false, .ints .u64 29 (fun _ => 0), .int .u64 0], 65, 520, .st [(0, 32, true), (32, 1, false), (33, 1, false), (34, 1, false), (35, 29, true), (64, 1, false)], some (.st [(0, 32, true, .ar 32 1 (.it .u64)), (32, 1, false, .it .u64), (33, 1, false, .it .i64), (34, 1, false, .bl), (35, 29, true, .ar 29 1 (.it .u64)), (64, 1, false, .it .u64)])⟩)]
theorem PT_z39 : Prg Tryz.prog PT_z11 := ⟨(.cons pe_23 (.cons pe_25 (.cons pe_27 (TEok.nil _)))), by kernel_rfl⟩
noncomputable abbrev PO_z11 {α : Type} (F_z18 : Sg_z18 α) : ORC α := [(217, .pure (ad_z18 F_z18))]
set_option maxRecDepth 100000 in
theorem ok_z11 {α : Type} (F_z18 : Sg_z18 α) (x0 : GState) (x1 : Int) (x2 : Int) (k : Bool → R α) : bodyL PT_z11 (PO_z11 F_z18) [] ⟨1, []⟩ Tryz.f138 [(GState.sv x0), (.int .i64 x1), (.int .i64 x2)] emp (fun v _ => dR_csr_Bit v k) = p_z11 F_z18 x0 x1 x2 k := by kernel_rfl
theorem mk_z11 {α : Type} {I : Imm} {F_z18 : Sg_z18 α} (h_z18 : OrcOk (α := α) Tryz.prog I 217 (.pure (ad_z18 F_z18))) : OrcOk (α := α) Tryz.prog I 138 (.pure (ad_z11 (p_z11 F_z18))) := by
  refine orc_pureK PT_z39 (O := PO_z11 F_z18) (OOk.cons h_z18 (OOk.nil)) (L := []) ⟨1, []⟩ Tryz.func138 (by kernel_rfl) (by kernel_rfl) (by kernel_rfl) FLOk.nil ?_
  intro args k r hk
  unfold ad_z11 at hk
  split at hk <;> try (cases hk; done)
  obtain ⟨x0, rfl, hk0⟩ := GState.dec_spec hk
  obtain ⟨x1, rfl, hk1⟩ := decI_spec hk0
  obtain ⟨x2, rfl, hk2⟩ := decI_spec hk1
  have hkz := hk2
  refine ⟨by simp [Ids, Idss], fun v => dR_csr_Bit v (fun r0 => k (.bool r0)), ?_, fun v hv => ?_⟩
  · rw [ok_z11]; exact hkz
  · obtain ⟨r0, rfl, hv1⟩ := dR_csr_Bit_spec hv; exact ⟨hv1, by simp [Ids, Idss]⟩
abbrev PT_z19 : TE := [(23, ⟨.int .u64 0, 1, 8, .sc (.int .u64), none⟩)]
theorem PT_z5q : Prg Tryz.prog PT_z19 := ⟨(.cons pe_23 (TEok.nil _)), by kernel_rfl⟩
noncomputable abbrev PO_z19 {α : Type}  : ORC α := []
set_option maxRecDepth 100000 in
theorem ok_z19 {α : Type}  (x0 : Int) (k : Int → R α) : bodyL PT_z19 (PO_z19 ) [] ⟨1, []⟩ Tryz.f234 [(.int .u64 x0)] emp (fun v _ => dR_access_sort v k) = p_z19  x0 k := by kernel_rfl
theorem mk_z19 {α : Type} {I : Imm}  : OrcOk (α := α) Tryz.prog I 234 (.pure (ad_z19 (p_z19 ))) := by
  refine orc_pureK PT_z5q (O := PO_z19 ) (OOk.nil) (L := []) ⟨1, []⟩ Tryz.func234 (by kernel_rfl) (by kernel_rfl) (by kernel_rfl) FLOk.nil ?_
  intro args k r hk
  unfold ad_z19 at hk
  split at hk <;> try (cases hk; done)
  obtain ⟨x0, rfl, hk0⟩ := decI_spec hk
  have hkz := hk0
  refine ⟨by simp [Ids, Idss], fun v => dR_access_sort v (fun r0 => k (.int .i64 r0)), ?_, fun v hv => ?_⟩
  · rw [ok_z19]; exact hkz
  · obtain ⟨r0, rfl, hv1⟩ := dR_access_sort_spec hv; exact ⟨hv1, by simp [Ids, Idss]⟩
abbrev PT_zg : TE := [(3, ⟨.int .i64 0, 1, 8, .sc (.int .i64), none⟩)]
theorem PT_z5r : Prg Tryz.prog PT_zg := ⟨(.cons pe_3 (TEok.nil _)), by kernel_rfl⟩
noncomputable abbrev PO_zg {α : Type}  : ORC α := []
set_option maxRecDepth 100000 in
theorem ok_zg {α : Type}  (x0 : Int) (k : Int → R α) : bodyL PT_zg (PO_zg ) [] ⟨1, []⟩ Tryz.f140 [(.int .i64 x0)] emp (fun v _ => dR_insn_Size v k) = p_zg  x0 k := by kernel_rfl
theorem mk_zg {α : Type} {I : Imm}  : OrcOk (α := α) Tryz.prog I 140 (.pure (ad_zg (p_zg ))) := by
  refine orc_pureK PT_z5r (O := PO_zg ) (OOk.nil) (L := []) ⟨1, []⟩ Tryz.func140 (by kernel_rfl) (by kernel_rfl) (by kernel_rfl) FLOk.nil ?_
  intro args k r hk
  unfold ad_zg at hk
  split at hk <;> try (cases hk; done)
  obtain ⟨x0, rfl, hk0⟩ := decI_spec hk
  have hkz := hk0
  refine ⟨by simp [Ids, Idss], fun v => dR_insn_Size v (fun r0 => k (.int .i64 r0)), ?_, fun v hv => ?_⟩
  · rw [ok_zg]; exact hkz
  · obtain ⟨r0, rfl, hv1⟩ := dR_insn_Size_spec hv; exact ⟨hv1, by simp [Ids, Idss]⟩
abbrev PT_z10 : TE := [(3, ⟨.int .i64 0, 1, 8, .sc (.int .i64), none⟩), (23, ⟨.int .u64 0, 1, 8, .sc (.int .u64), none⟩)]
theorem PT_z36 : Prg Tryz.prog PT_z10 := ⟨(.cons pe_3 (.cons pe_23 (TEok.nil _))), by kernel_rfl⟩
noncomputable abbrev PO_z10 {α : Type} (F_zo : Sg_zo α) : ORC α := [(279, .pure (ad_zo F_zo))]
set_option maxRecDepth 100000 in
theorem ok_z10 {α : Type} (F_zo : Sg_zo α) (x0 : Int) (x1 : Int) (k : Int → R α) : bodyL PT_z10 (PO_z10 F_zo) [] ⟨1, []⟩ Tryz.f235 [(.int .u64 x0), (.int .i64 x1)] emp (fun v _ => dR_word_Zext v k) = p_z10 F_zo x0 x1 k := by kernel_rfl
theorem mk_z10 {α : Type} {I : Imm} {F_zo : Sg_zo α} (h_zo : OrcOk (α := α) Tryz.prog I 279 (.pure (ad_zo F_zo))) : OrcOk (α := α) Tryz.prog I 235 (.pure (ad_z10 (p_z10 F_zo))) := by
  refine orc_pureK PT_z36 (O := PO_z10 F_zo) (OOk.cons h_zo (OOk.nil)) (L := []) ⟨1, []⟩ Tryz.func235 (by kernel_rfl) (by kernel_rfl) (by kernel_rfl) FLOk.nil ?_
  intro args k r hk
  unfold ad_z10 at hk
  split at hk <;> try (cases hk; done)
  obtain ⟨x0, rfl, hk0⟩ := decI_spec hk
  obtain ⟨x1, rfl, hk1⟩ := decI_spec hk0
  have hkz := hk1
  refine ⟨by simp [Ids, Idss], fun v => dR_word_Zext v (fun r0 => k (.int .u64 r0)), ?_, fun v hv => ?_⟩
  · rw [ok_z10]; exact hkz
  · obtain ⟨r0, rfl, hv1⟩ := dR_word_Zext_spec hv; exact ⟨hv1, by simp [Ids, Idss]⟩
abbrev PT_z1b : TE := [(2, ⟨.int .i64 0, 1, 8, .sc (.int .i64), none⟩), (3, ⟨.int .i64 0, 1, 8, .sc (.int .i64), none⟩), (23, ⟨.int .u64 0, 1, 8, .sc (.int .u64), none⟩)]
theorem PT_z5s : Prg Tryz.prog PT_z1b := ⟨(.cons pe_2 (.cons pe_3 (.cons pe_23 (TEok.nil _)))), by kernel_rfl⟩
noncomputable abbrev PO_z1b {α : Type}  : ORC α := []
set_option maxRecDepth 100000 in
theorem ok_z1b {α : Type}  (x0 : Int) (x1 : Int) (k : Int → R α) : bodyL PT_z1b (PO_z1b ) [] ⟨1, []⟩ Tryz.f236 [(.int .u64 x0), (.int .i64 x1)] emp (fun v _ => dR_word_Sext v k) = p_z1b  x0 x1 k := by kernel_rfl
theorem mk_z1b {α : Type} {I : Imm}  : OrcOk (α := α) Tryz.prog I 236 (.pure (ad_z1b (p_z1b ))) := by
  refine orc_pureK PT_z5s (O := PO_z1b ) (OOk.nil) (L := []) ⟨1, []⟩ Tryz.func236 (by kernel_rfl) (by kernel_rfl) (by kernel_rfl) FLOk.nil ?_
  intro args k r hk
  unfold ad_z1b at hk
  split at hk <;> try (cases hk; done)
  obtain ⟨x0, rfl, hk0⟩ := decI_spec hk
  obtain ⟨x1, rfl, hk1⟩ := decI_spec hk0
  have hkz := hk1
  refine ⟨by simp [Ids, Idss], fun v => dR_word_Sext v (fun r0 => k (.int .u64 r0)), ?_, fun v hv => ?_⟩
  · rw [ok_z1b]; exact hkz
  · obtain ⟨r0, rfl, hv1⟩ := dR_word_Sext_spec hv; exact ⟨hv1, by simp [Ids, Idss]⟩
abbrev PT_ze : TE := [(3, ⟨.int .i64 0, 1, 8, .sc (.int .i64), none⟩)]
theorem PT_z5t : Prg Tryz.prog PT_ze := ⟨(.cons pe_3 (TEok.nil _)), by kernel_rfl⟩
noncomputable abbrev PO_ze {α : Type} (F_zg : Sg_zg α) (F_z10 : Sg_z10 α) (F_z1b : Sg_z1b α) : ORC α := [(140, .pure (ad_zg F_zg)), (235, .pure (ad_z10 F_z10)), (236, .pure (ad_z1b F_z1b))]
set_option maxRecDepth 100000 in
theorem ok_ze {α : Type} (F_zg : Sg_zg α) (F_z10 : Sg_z10 α) (F_z1b : Sg_z1b α) (x0 : Int) (x1 : Int) (k : Int → R α) : bodyL PT_ze (PO_ze F_zg F_z10 F_z1b) [] ⟨1, []⟩ Tryz.f141 [(.int .i64 x0), (.int .u64 x1)] emp (fun v _ => dR_alu_Extend v k) = p_ze F_zg F_z10 F_z1b x0 x1 k := by kernel_rfl
theorem mk_ze {α : Type} {I : Imm} {F_zg : Sg_zg α} {F_z10 : Sg_z10 α} {F_z1b : Sg_z1b α} (h_zg : OrcOk (α := α) Tryz.prog I 140 (.pure (ad_zg F_zg))) (h_z10 : OrcOk (α := α) Tryz.prog I 235 (.pure (ad_z10 F_z10))) (h_z1b : OrcOk (α := α) Tryz.prog I 236 (.pure (ad_z1b F_z1b))) : OrcOk (α := α) Tryz.prog I 141 (.pure (ad_ze (p_ze F_zg F_z10 F_z1b))) := by
  refine orc_pureK PT_z5t (O := PO_ze F_zg F_z10 F_z1b) (OOk.cons h_zg (OOk.cons h_z10 (OOk.cons h_z1b (OOk.nil)))) (L := []) ⟨1, []⟩ Tryz.func141 (by kernel_rfl) (by kernel_rfl) (by kernel_rfl) FLOk.nil ?_
  intro args k r hk
  unfold ad_ze at hk
  split at hk <;> try (cases hk; done)
  obtain ⟨x0, rfl, hk0⟩ := decI_spec hk
  obtain ⟨x1, rfl, hk1⟩ := decI_spec hk0
  have hkz := hk1
  refine ⟨by simp [Ids, Idss], fun v => dR_alu_Extend v (fun r0 => k (.int .u64 r0)), ?_, fun v hv => ?_⟩
  · rw [ok_ze]; exact hkz
  · obtain ⟨r0, rfl, hv1⟩ := dR_alu_Extend_spec hv; exact ⟨hv1, by simp [Ids, Idss]⟩
abbrev PT_zp : TE := [(23, ⟨.int .u64 0, 1, 8, .sc (.int .u64), none⟩), (27, ⟨.agg [.ints .u64 32 (fun _ => 0), .int .u64 0, .int .i64 0, .bool false, .ints .u64 29 (fun _ => 0), .int .u64 0], 65, 520, .st [(0, 32, true), (32, 1, false), (33, 1, false), (34, 1, false), (35, 29, true), (64, 1, false)], some (.st [(0, 32, true, .ar 32 1 (.it .u64)), (32, 1, false, .it .u64), (33, 1, false, .it .i64), (34, 1, false, .bl), (35, 29, true, .ar 29 1 (.it .u64)), (64, 1, false, .it .u64)])⟩), (36, ⟨.agg [.int .u64 0, .int .u64 0, .int .u64 0, .bool false], 4, 32, .st [(0, 1, false), (1, 1, false), (2, 1, false), (3, 1, false)], some (.st [(0, 1, false, .it .u64), (1, 1, false, .it .u64), (2, 1, false, .it .u64), (3, 1, false, .bl)])⟩), (139, ⟨.agg [.bool false, .bool false, .int .i64 0, .int .i64 0, .int .i64 0, .int .i64 0, .int .i64 0, .int .i64 0, .int .i64 0], 9, 64, .st [(0, 1, false), (1, 1, false), (2, 1, false), (3, 1, false), (4, 1, false), (5, 1, false), (6, 1, false), (7, 1, false), (8, 1, false)], some (.st [(0, 1, false, .bl), (1, 1, false, .bl), (2, 1, false, .it .i64), (3, 1, false, .it .i64), (4, 1, false, .it .i64), (5, 1, false, .it .i64), (6, 1, false, .it .i64), (7, 1, false, .it .i64), (8, 1, false, .it .i64)])⟩), (237, ⟨.ints .u64 3 (fun _ => 0), 3, 24, .ar 3 23 1 false, some (.ar 3 1 (.it .u64))⟩)]
theorem PT_z2m : Prg Tryz.prog PT_zp := ⟨(.cons pe_23 (.cons pe_27 (.cons pe_36 (.cons pe_139 (.cons pe_237 (TEok.nil _)))))), by kernel_rfl⟩
noncomputable abbrev B_z3t {α : Type} (F_zl : Sg_zl α) (F_zq : Sg_zq α) (F_z19 : Sg_z19 α) (F_zf : Sg_zf α) (F_ze : Sg_ze α) : FF α := byBody PT_bus_Bus_Mem [] ⟨1, []⟩ Tryz.f49
theorem cB_z3t {α : Type} {I : Imm} {F_zl : Sg_zl α} {F_zq : Sg_zq α} {F_z19 : Sg_z19 α} {F_zf : Sg_zf α} {F_ze : Sg_ze α} (h_zl : OrcOk (α := α) Tryz.prog I 77 (.pure (ad_zl F_zl))) (h_zq : OrcOk (α := α) Tryz.prog I 78 (.full (ad_zq F_zq))) (h_z19 : OrcOk (α := α) Tryz.prog I 234 (.pure (ad_z19 F_z19))) (h_zf : OrcOk (α := α) Tryz.prog I 79 (.full (ad_zf F_zf))) (h_ze : OrcOk (α := α) Tryz.prog I 141 (.pure (ad_ze F_ze))) : OrcOk (α := α) Tryz.prog I 49 (.full (B_z3t F_zl F_zq F_z19 F_zf F_ze)) := orc_body PT_bus_Bus_Mem_ok (OOk.nil) ⟨1, []⟩ Tryz.func49 (by kernel_rfl) (by kernel_rfl) (by kernel_rfl)
noncomputable abbrev PO_zp {α : Type} (F_zl : Sg_zl α) (F_zq : Sg_zq α) (F_z19 : Sg_z19 α) (F_zf : Sg_zf α) (F_ze : Sg_ze α) : ORC α := [(77, .pure (ad_zl F_zl)), (49, .full (B_z3t F_zl F_zq F_z19 F_zf F_ze)), (78, .full (ad_zq F_zq)), (234, .pure (ad_z19 F_z19)), (79, .full (ad_zf F_zf)), (141, .pure (ad_ze F_ze))]
set_option maxRecDepth 100000 in
theorem ok_zp {α : Type} (F_zl : Sg_zl α) (F_zq : Sg_zq α) (F_z19 : Sg_z19 α) (F_zf : Sg_zf α) (F_ze : Sg_ze α) (x0 : GBus) (x1 : GState) (x2 : Int) (x3 : Int) (k : GBus → Int → GFault → Bool → R α) : bodyL PT_zp (PO_zp F_zl F_zq F_z19 F_zf F_ze) [] ⟨1, []⟩ Tryz.f139 (E_zp.encs (x0, x1, x2, x3, ()) (fun i => i) 0) (hp (E_zp.objss (x0, x1, x2, x3, ()) (fun i => i) 0)) (dRo M_zp Q_zp false (selN (E_zp.encs (x0, x1, x2, x3, ()) (fun i => i) 0) [0]) (fun y z => k y.1 z.1 z.2.1 z.2.2.1)) = p_zp F_zl F_zq F_z19 F_zf F_ze x0 x1 x2 x3 k := by kernel_rfl
theorem mk_zp {α : Type} {I : Imm} {F_zl : Sg_zl α} {F_zq : Sg_zq α} {F_z19 : Sg_z19 α} {F_zf : Sg_zf α} {F_ze : Sg_ze α} (h_zl : OrcOk (α := α) Tryz.prog I 77 (.pure (ad_zl F_zl))) (h_zq : OrcOk (α := α) Tryz.prog I 78 (.full (ad_zq F_zq))) (h_z19 : OrcOk (α := α) Tryz.prog I 234 (.pure (ad_z19 F_z19))) (h_zf : OrcOk (α := α) Tryz.prog I 79 (.full (ad_zf F_zf))) (h_ze : OrcOk (α := α) Tryz.prog I 141 (.pure (ad_ze F_ze))) {F : Sg_zp α} (hF : ∀ x0 x1 x2 x3 k r, F x0 x1 x2 x3 k = some r → p_zp F_zl F_zq F_z19 F_zf F_ze x0 x1 x2 x3 k = some r) : OrcOk (α := α) Tryz.prog I 139 (.full (ad_zp F)) :=
  orc_obj PT_z2m (O := PO_zp F_zl F_zq F_z19 F_zf F_ze) (OOk.cons h_zl (OOk.cons (cB_z3t h_zl h_zq h_z19 h_zf h_ze) (OOk.cons h_zq (OOk.cons h_z19 (OOk.cons h_zf (OOk.cons h_ze (OOk.nil))))))) (L := []) ⟨1, []⟩ Tryz.func139 (by kernel_rfl) (by kernel_rfl) (by kernel_rfl) FLOk.nil E_z2m M_z2m Q_z2m rfl (oi := [0]) fun ⟨x0, x1, x2, x3, ()⟩ k r h => (ok_zp F_zl F_zq F_z19 F_zf F_ze x0 x1 x2 x3 (fun y0 z0 z1 z2 => k (y0, ()) (z0, z1, z2, ()))).trans (hF x0 x1 x2 x3 _ r h)
abbrev PT_zw : TE := [(2, ⟨.int .i64 0, 1, 8, .sc (.int .i64), none⟩), (3, ⟨.int .i64 0, 1, 8, .sc (.int .i64), none⟩), (4, ⟨.bool false, 1, 1, .sc (.bool), none⟩), (23, ⟨.int .u64 0, 1, 8, .sc (.int .u64), none⟩), (24, ⟨.ints .u64 32 (fun _ => 0), 32, 256, .ar 32 23 1 false, some (.ar 32 1 (.it .u64))⟩), (27, ⟨.agg [.ints .u64 32 (fun _ => 0), .int .u64 0, .int .i64 0, .bool false, .ints .u64 29 (fun _ => 0), .int .u64 0], 65, 520, .st [(0, 32, true), (32, 1, false), (33, 1, false), (34, 1, false), (35, 29, true), (64, 1, false)], some (.st [(0, 32, true, .ar 32 1 (.it .u64)), (32, 1, false, .it .u64), (33, 1, false, .it .i64), (34, 1, false, .bl), (35, 29, true, .ar 29 1 (.it .u64)), (64, 1, false, .it .u64)])⟩), (36, ⟨.agg [.int .u64 0, .int .u64 0, .int .u64 0, .bool false], 4, 32, .st [(0, 1, false), (1, 1, false), (2, 1, false), (3, 1, false)], some (.st [(0, 1, false, .it .u64), (1, 1, false, .it .u64), (2, 1, false, .it .u64), (3, 1, false, .bl)])⟩), (52, ⟨.agg [.int .i64 0, .int .i64 0, .int .i64 0, .int .i64 0, .int .i64 0, .int .i64 0], 6, 48, .st [(0, 1, false), (1, 1, false), (2, 1, false), (3, 1, false), (4, 1, false), (5, 1, false)], some (.st [(0, 1, false, .it .i64), (1, 1, false, .it .i64), (2, 1, false, .it .i64), (3, 1, false, .it .i64), (4, 1, false, .it .i64), (5, 1, false, .it .i64)])⟩)]
theorem PT_z2n : Prg Tryz.prog PT_zw := ⟨(.cons pe_2 (.cons pe_3 (.cons pe_4 (.cons pe_23 (.cons pe_24 (.cons pe_27 (.cons pe_36 (.cons pe_52 (TEok.nil _))))))))), by kernel_rfl⟩
noncomputable abbrev PO_zw {α : Type} (F_zj : Sg_zj α) (F_z1n : Sg_z1n α) (F_z11 : Sg_z11 α) (F_zp : Sg_zp α) (F_zg : Sg_zg α) (F_z5 : Sg_z5 α) (F_ze : Sg_ze α) : ORC α := [(109, .pure (ad_zj F_zj)), (108, .pure (ad_z1n F_z1n)), (138, .pure (ad_z11 F_z11)), (139, .full (ad_zp F_zp)), (140, .pure (ad_zg F_zg)), (24, .full (ad_z5 F_z5)), (141, .pure (ad_ze F_ze))]
set_option maxRecDepth 100000 in
theorem ok_zw {α : Type} (F_zj : Sg_zj α) (F_z1n : Sg_z1n α) (F_z11 : Sg_z11 α) (F_zp : Sg_zp α) (F_zg : Sg_zg α) (F_z5 : Sg_z5 α) (F_ze : Sg_ze α) (x0 : GBus) (x1 : GState) (x2 : GInsn) (k : GBus → Int → GFault → Bool → R α) : bodyL PT_zw (PO_zw F_zj F_z1n F_z11 F_zp F_zg F_z5 F_ze) [] ⟨1, []⟩ Tryz.f65 (E_zw.encs (x0, x1, x2, ()) (fun i => i) 0) (hp (E_zw.objss (x0, x1, x2, ()) (fun i => i) 0)) (dRo M_zw Q_zw false (selN (E_zw.encs (x0, x1, x2, ()) (fun i => i) 0) [0]) (fun y z => k y.1 z.1 z.2.1 z.2.2.1)) = p_zw F_zj F_z1n F_z11 F_zp F_zg F_z5 F_ze x0 x1 x2 k := by kernel_rfl
theorem mk_zw {α : Type} {I : Imm} {F_zj : Sg_zj α} {F_z1n : Sg_z1n α} {F_z11 : Sg_z11 α} {F_zp : Sg_zp α} {F_zg : Sg_zg α} {F_z5 : Sg_z5 α} {F_ze : Sg_ze α} (h_zj : OrcOk (α := α) Tryz.prog I 109 (.pure (ad_zj F_zj))) (h_z1n : OrcOk (α := α) Tryz.prog I 108 (.pure (ad_z1n F_z1n))) (h_z11 : OrcOk (α := α) Tryz.prog I 138 (.pure (ad_z11 F_z11))) (h_zp : OrcOk (α := α) Tryz.prog I 139 (.full (ad_zp F_zp))) (h_zg : OrcOk (α := α) Tryz.prog I 140 (.pure (ad_zg F_zg))) (h_z5 : OrcOk (α := α) Tryz.prog I 24 (.full (ad_z5 F_z5))) (h_ze : OrcOk (α := α) Tryz.prog I 141 (.pure (ad_ze F_ze))) {F : Sg_zw α} (hF : ∀ x0 x1 x2 k r, F x0 x1 x2 k = some r → p_zw F_zj F_z1n F_z11 F_zp F_zg F_z5 F_ze x0 x1 x2 k = some r) : OrcOk (α := α) Tryz.prog I 65 (.full (ad_zw F)) :=
  orc_obj PT_z2n (O := PO_zw F_zj F_z1n F_z11 F_zp F_zg F_z5 F_ze) (OOk.cons h_zj (OOk.cons h_z1n (OOk.cons h_z11 (OOk.cons h_zp (OOk.cons h_zg (OOk.cons h_z5 (OOk.cons h_ze (OOk.nil)))))))) (L := []) ⟨1, []⟩ Tryz.func65 (by kernel_rfl) (by kernel_rfl) (by kernel_rfl) FLOk.nil E_z2n M_z2n Q_z2n rfl (oi := [0]) fun ⟨x0, x1, x2, ()⟩ k r h => (ok_zw F_zj F_z1n F_z11 F_zp F_zg F_z5 F_ze x0 x1 x2 (fun y0 z0 z1 z2 => k (y0, ()) (z0, z1, z2, ()))).trans (hF x0 x1 x2 _ r h)
theorem pe_48 : TyOk Tryz.prog 48 ⟨.int .u32 0, 1, 4, .sc (.int .u32), none⟩ := ⟨fun _ => by kernel_rfl, ⟨rfl, rfl, fun _ _ => by simp [Wf, Wfs]⟩, ⟨Tryz.underlying48, rfl⟩, fun _ h => by cases h⟩
abbrev PT_zx : TE := [(3, ⟨.int .i64 0, 1, 8, .sc (.int .i64), none⟩), (4, ⟨.bool false, 1, 1, .sc (.bool), none⟩), (23, ⟨.int .u64 0, 1, 8, .sc (.int .u64), none⟩), (27, ⟨.agg [.ints .u64 32 (fun _ => 0), .int .u64 0, .int .i64 0, .bool false, .ints .u64 29 (fun _ => 0), .int .u64 0], 65, 520, .st [(0, 32, true), (32, 1, false), (33, 1, false), (34, 1, false), (35, 29, true), (64, 1, false)], some (.st [(0, 32, true, .ar 32 1 (.it .u64)), (32, 1, false, .it .u64), (33, 1, false, .it .i64), (34, 1, false, .bl), (35, 29, true, .ar 29 1 (.it .u64)), (64, 1, false, .it .u64)])⟩), (36, ⟨.agg [.int .u64 0, .int .u64 0, .int .u64 0, .bool false], 4, 32, .st [(0, 1, false), (1, 1, false), (2, 1, false), (3, 1, false)], some (.st [(0, 1, false, .it .u64), (1, 1, false, .it .u64), (2, 1, false, .it .u64), (3, 1, false, .bl)])⟩), (48, ⟨.int .u32 0, 1, 4, .sc (.int .u32), none⟩)]
theorem PT_z2o : Prg Tryz.prog PT_zx := ⟨(.cons pe_3 (.cons pe_4 (.cons pe_23 (.cons pe_27 (.cons pe_36 (.cons pe_48 (TEok.nil _))))))), by kernel_rfl⟩
noncomputable abbrev PO_zx {α : Type} (F_z5 : Sg_z5 α) : ORC α := [(24, .full (ad_z5 F_z5))]
set_option maxRecDepth 100000 in
theorem ok_zx {α : Type} (F_z5 : Sg_z5 α) (x0 : GBus) (x1 : GState) (k : GBus → Int → GFault → Bool → R α) : bodyL PT_zx (PO_zx F_z5) [] ⟨1, []⟩ Tryz.f66 (E_zx.encs (x0, x1, ()) (fun i => i) 0) (hp (E_zx.objss (x0, x1, ()) (fun i => i) 0)) (dRo M_zx Q_zx false (selN (E_zx.encs (x0, x1, ()) (fun i => i) 0) [0]) (fun y z => k y.1 z.1 z.2.1 z.2.2.1)) = p_zx F_z5 x0 x1 k := by kernel_rfl
theorem mk_zx {α : Type} {I : Imm} {F_z5 : Sg_z5 α} (h_z5 : OrcOk (α := α) Tryz.prog I 24 (.full (ad_z5 F_z5))) {F : Sg_zx α} (hF : ∀ x0 x1 k r, F x0 x1 k = some r → p_zx F_z5 x0 x1 k = some r) : OrcOk (α := α) Tryz.prog I 66 (.full (ad_zx F)) :=
  orc_obj PT_z2o (O := PO_zx F_z5) (OOk.cons h_z5 (OOk.nil)) (L := []) ⟨1, []⟩ Tryz.func66 (by kernel_rfl) (by kernel_rfl) (by kernel_rfl) FLOk.nil E_z2o M_z2o Q_z2o rfl (oi := [0]) fun ⟨x0, x1, ()⟩ k r h => (ok_zx F_z5 x0 x1 (fun y0 z0 z1 z2 => k (y0, ()) (z0, z1, z2, ()))).trans (hF x0 x1 _ r h)
abbrev PT_z1i : TE := [(23, ⟨.int .u64 0, 1, 8, .sc (.int .u64), none⟩), (24, ⟨.ints .u64 32 (fun _ => 0), 32, 256, .ar 32 23 1 false, some (.ar 32 1 (.it .u64))⟩), (27, ⟨.agg [.ints .u64 32 (fun _ => 0), .int .u64 0, .int .i64 0, .bool false, .ints .u64 29 (fun _ => 0), .int .u64 0], 65, 520, .st [(0, 32, true), (32, 1, false), (33, 1, false), (34, 1, false), (35, 29, true), (64, 1, false)], some (.st [(0, 32, true, .ar 32 1 (.it .u64)), (32, 1, false, .it .u64), (33, 1, false, .it .i64), (34, 1, false, .bl), (35, 29, true, .ar 29 1 (.it .u64)), (64, 1, false, .it .u64)])⟩), (36, ⟨.agg [.int .u64 0, .int .u64 0, .int .u64 0, .bool false], 4, 32, .st [(0, 1, false), (1, 1, false), (2, 1, false), (3, 1, false)], some (.st [(0, 1, false, .it .u64), (1, 1, false, .it .u64), (2, 1, false, .it .u64), (3, 1, false, .bl)])⟩), (48, ⟨.int .u32 0, 1, 4, .sc (.int .u32), none⟩), (52, ⟨.agg [.int .i64 0, .int .i64 0, .int .i64 0, .int .i64 0, .int .i64 0, .int .i64 0], 6, 48, .st [(0, 1, false), (1, 1, false), (2, 1, false), (3, 1, false), (4, 1, false), (5, 1, false)], some (.st [(0, 1, false, .it .i64), (1, 1, false, .it .i64), (2, 1, false, .it .i64), (3, 1, false, .it .i64), (4, 1, false, .it .i64), (5, 1, false, .it .i64)])⟩)]
theorem PT_z5u : Prg Tryz.prog PT_z1i := ⟨(.cons pe_23 (.cons pe_24 (.cons pe_27 (.cons pe_36 (.cons pe_48 (.cons pe_52 (TEok.nil _))))))), by kernel_rfl⟩
noncomputable abbrev B_z3u {α : Type} (F_z5 : Sg_z5 α) (F_zw : Sg_zw α) (F_zx : Sg_zx α) : FF α := byBody PT_bus_New [(67, .full newF)] ⟨1, []⟩ Tryz.f28
theorem cB_z3u {α : Type} {I : Imm} {F_z5 : Sg_z5 α} {F_zw : Sg_zw α} {F_zx : Sg_zx α} (h_z1s : OrcOk (α := α) Tryz.prog I 67 (.full newF)) (h_z5 : OrcOk (α := α) Tryz.prog I 24 (.full (ad_z5 F_z5))) (h_zw : OrcOk (α := α) Tryz.prog I 65 (.full (ad_zw F_zw))) (h_zx : OrcOk (α := α) Tryz.prog I 66 (.full (ad_zx F_zx))) : OrcOk (α := α) Tryz.prog I 28 (.full (B_z3u F_z5 F_zw F_zx)) := orc_body PT_bus_New_ok (OOk.cons h_z1s (OOk.nil)) ⟨1, []⟩ Tryz.func28 (by kernel_rfl) (by kernel_rfl) (by kernel_rfl)
noncomputable abbrev PO_z1i {α : Type} (F_z5 : Sg_z5 α) (F_zw : Sg_zw α) (F_zx : Sg_zx α) : ORC α := [(28, .full (B_z3u F_z5 F_zw F_zx)), (24, .full (ad_z5 F_z5)), (65, .full (ad_zw F_zw)), (66, .full (ad_zx F_zx))]
set_option maxRecDepth 100000 in
theorem ok_z1i {α : Type} (F_z5 : Sg_z5 α) (F_zw : Sg_zw α) (F_zx : Sg_zx α)  (k : Bool → R α) : bodyL PT_z1i (PO_z1i F_z5 F_zw F_zx) [] ⟨1, []⟩ Tryz.f20 [] emp (fun v _ => dR_law17_known v k) = p_z1i F_z5 F_zw F_zx  k := by kernel_rfl
theorem mk_z1i {α : Type} {I : Imm} {F_z5 : Sg_z5 α} {F_zw : Sg_zw α} {F_zx : Sg_zx α} (h_z1s : OrcOk (α := α) Tryz.prog I 67 (.full newF)) (h_z5 : OrcOk (α := α) Tryz.prog I 24 (.full (ad_z5 F_z5))) (h_zw : OrcOk (α := α) Tryz.prog I 65 (.full (ad_zw F_zw))) (h_zx : OrcOk (α := α) Tryz.prog I 66 (.full (ad_zx F_zx))) : OrcOk (α := α) Tryz.prog I 20 (.pure (ad_z1i (p_z1i F_z5 F_zw F_zx))) := by
  refine orc_pureK PT_z5u (O := PO_z1i F_z5 F_zw F_zx) (OOk.cons (cB_z3u h_z1s h_z5 h_zw h_zx) (OOk.cons h_z5 (OOk.cons h_zw (OOk.cons h_zx (OOk.nil))))) (L := []) ⟨1, []⟩ Tryz.func20 (by kernel_rfl) (by kernel_rfl) (by kernel_rfl) FLOk.nil ?_
  intro args k r hk
  unfold ad_z1i at hk
  split at hk <;> try (cases hk; done)
  have hkz := hk
  refine ⟨by simp [Ids, Idss], fun v => dR_law17_known v (fun r0 => k (.bool r0)), ?_, fun v hv => ?_⟩
  · rw [ok_z1i]; exact hkz
  · obtain ⟨r0, rfl, hv1⟩ := dR_law17_known_spec hv; exact ⟨hv1, by simp [Ids, Idss]⟩
abbrev PT_z1r : TE := [(3, ⟨.int .i64 0, 1, 8, .sc (.int .i64), none⟩), (4, ⟨.bool false, 1, 1, .sc (.bool), none⟩), (5, ⟨.int .u8 0, 1, 1, .sc (.int .u8), none⟩), (23, ⟨.int .u64 0, 1, 8, .sc (.int .u64), none⟩), (27, ⟨.agg [.ints .u64 32 (fun _ => 0), .int .u64 0, .int .i64 0, .bool false, .ints .u64 29 (fun _ => 0), .int .u64 0], 65, 520, .st [(0, 32, true), (32, 1, false), (33, 1, false), (34, 1, false), (35, 29, true), (64, 1, false)], some (.st [(0, 32, true, .ar 32 1 (.it .u64)), (32, 1, false, .it .u64), (33, 1, false, .it .i64), (34, 1, false, .bl), (35, 29, true, .ar 29 1 (.it .u64)), (64, 1, false, .it .u64)])⟩), (36, ⟨.agg [.int .u64 0, .int .u64 0, .int .u64 0, .bool false], 4, 32, .st [(0, 1, false), (1, 1, false), (2, 1, false), (3, 1, false)], some (.st [(0, 1, false, .it .u64), (1, 1, false, .it .u64), (2, 1, false, .it .u64), (3, 1, false, .bl)])⟩), (41, ⟨.agg [.int .u64 0, .agg [.int .u64 0, .int .u64 0, .int .u64 0, .bool false], .bool false, .int .u64 0, .nils], 8, 80, .st [(0, 1, false), (1, 4, true), (5, 1, false), (6, 1, false), (7, 1, false)], none⟩)]
theorem PT_z5v : Prg Tryz.prog PT_z1r := ⟨(.cons pe_3 (.cons pe_4 (.cons pe_5 (.cons pe_23 (.cons pe_27 (.cons pe_36 (.cons pe_41 (TEok.nil _)))))))), by kernel_rfl⟩
noncomputable abbrev PO_z1r {α : Type} (F_z1i : Sg_z1i α) (F_z1m : Sg_z1m α) (F_z15 : Sg_z15 α) (F_z1h : Sg_z1h α) (F_z5 : Sg_z5 α) (F_z14 : Sg_z14 α) (F_z16 : Sg_z16 α) : ORC α := [(20, .pure (ad_z1i F_z1i)), (21, .pure (ad_z1m F_z1m)), (22, .full (ad_z15 F_z15)), (23, .pure (ad_z1h F_z1h)), (24, .full (ad_z5 F_z5)), (25, .full (ad_z14 F_z14)), (26, .full (ad_z16 F_z16))]
set_option maxRecDepth 100000 in
theorem ok_z1r {α : Type} (F_z1i : Sg_z1i α) (F_z1m : Sg_z1m α) (F_z15 : Sg_z15 α) (F_z1h : Sg_z1h α) (F_z5 : Sg_z5 α) (F_z14 : Sg_z14 α) (F_z16 : Sg_z16 α) (x0 : (Bool × Addr × Nat × Nat × (Nat → (Int × Int × Unit)))) (x1 : GState) (x2 : Int) (x3 : Int) (x4 : Int) (x5 : Int) (x6 : Bool) (x7 : Bool) (k : Bool → R α) : bodyL PT_z1r (PO_z1r F_z1i F_z1m F_z15 F_z1h F_z5 F_z14 F_z16) [] ⟨1, []⟩ Tryz.f3 [(.vslc (.st [(.int .u64), (.int .u64)]) x0.1 x0.2.1 x0.2.2.1 x0.2.2.2.1 x0.2.2.2.2), (GState.sv x1), (.int .u64 x2), (.int .i64 x3), (.int .u8 x4), (.int .u64 x5), (.bool x6), (.bool x7)] emp (fun v _ => dR_law17_AccessTells v k) = p_z1r F_z1i F_z1m F_z15 F_z1h F_z5 F_z14 F_z16 x0 x1 x2 x3 x4 x5 x6 x7 k := by kernel_rfl
theorem mk_z1r {α : Type} {I : Imm} {F_z1i : Sg_z1i α} {F_z1m : Sg_z1m α} {F_z15 : Sg_z15 α} {F_z1h : Sg_z1h α} {F_z5 : Sg_z5 α} {F_z14 : Sg_z14 α} {F_z16 : Sg_z16 α} (h_z1i : OrcOk (α := α) Tryz.prog I 20 (.pure (ad_z1i F_z1i))) (h_z1m : OrcOk (α := α) Tryz.prog I 21 (.pure (ad_z1m F_z1m))) (h_z15 : OrcOk (α := α) Tryz.prog I 22 (.full (ad_z15 F_z15))) (h_z1h : OrcOk (α := α) Tryz.prog I 23 (.pure (ad_z1h F_z1h))) (h_z5 : OrcOk (α := α) Tryz.prog I 24 (.full (ad_z5 F_z5))) (h_z14 : OrcOk (α := α) Tryz.prog I 25 (.full (ad_z14 F_z14))) (h_z16 : OrcOk (α := α) Tryz.prog I 26 (.full (ad_z16 F_z16))) : OrcOk (α := α) Tryz.prog I 3 (.pure (ad_z1r (p_z1r F_z1i F_z1m F_z15 F_z1h F_z5 F_z14 F_z16))) := by
  refine orc_pureK PT_z5v (O := PO_z1r F_z1i F_z1m F_z15 F_z1h F_z5 F_z14 F_z16) (OOk.cons h_z1i (OOk.cons h_z1m (OOk.cons h_z15 (OOk.cons h_z1h (OOk.cons h_z5 (OOk.cons h_z14 (OOk.cons h_z16 (OOk.nil)))))))) (L := []) ⟨1, []⟩ Tryz.func3 (by kernel_rfl) (by kernel_rfl) (by kernel_rfl) FLOk.nil ?_
  intro args k r hk
  unfold ad_z1r at hk
  split at hk <;> try (cases hk; done)
  obtain ⟨x0, rfl, hk0⟩ := decV_st_int_u64_int_u64_spec hk
  obtain ⟨x1, rfl, hk1⟩ := GState.dec_spec hk0
  obtain ⟨x2, rfl, hk2⟩ := decI_spec hk1
  obtain ⟨x3, rfl, hk3⟩ := decI_spec hk2
  obtain ⟨x4, rfl, hk4⟩ := decI_spec hk3
  obtain ⟨x5, rfl, hk5⟩ := decI_spec hk4
  obtain ⟨x6, rfl, hk6⟩ := decB_spec hk5
  obtain ⟨x7, rfl, hk7⟩ := decB_spec hk6
  have hkz := hk7
  refine ⟨by simp [Ids, Idss], fun v => dR_law17_AccessTells v (fun r0 => k (.bool r0)), ?_, fun v hv => ?_⟩
  · rw [ok_z1r]; exact hkz
  · obtain ⟨r0, rfl, hv1⟩ := dR_law17_AccessTells_spec hv; exact ⟨hv1, by simp [Ids, Idss]⟩
end Go.Proofs.YtemkfjnmaljmeaaGreat
