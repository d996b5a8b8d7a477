/-
  The bus, accesses, the law AccessPlain (printed by wip/pr/pr.py): the functions come to just that.
-/
import Derived.Test.YthcpbmgbehidlaaTnMem
import Derived.Test.YthcpbmgbehidlaaTnTwo
import Derived.Test.YthcpbmgbehidlaaSpP17
namespace Go.Proofs.Ythcpbmgbehidlaa
open Go Go.Sh Go.Proofs
set_option linter.unusedVariables false
set_option linter.unusedSimpArgs false
theorem pe_3 : TyOk Try.prog 3 ⟨.int .i64 0, 1, 8, .sc (.int .i64), none⟩ := ⟨fun _ => by kernel_rfl, ⟨rfl, rfl, fun _ _ => by simp [Wf, Wfs]⟩, ⟨Try.underlying3, rfl⟩, fun _ h => by cases h⟩
theorem pe_33 : TyOk Try.prog 33 ⟨.int .u64 0, 1, 8, .sc (.int .u64), none⟩ := ⟨fun _ => by kernel_rfl, ⟨rfl, rfl, fun _ _ => by simp [Wf, Wfs]⟩, ⟨Try.underlying33, rfl⟩, fun _ h => by cases h⟩
abbrev PT_zb : TE := [(3, ⟨.int .i64 0, 1, 8, .sc (.int .i64), none⟩), (33, ⟨.int .u64 0, 1, 8, .sc (.int .u64), none⟩)]
theorem PT_z30 : Prg Try.prog PT_zb := ⟨(.cons pe_3 (.cons pe_33 (TEok.nil _))), by kernel_rfl⟩
theorem pe_103 : TyOk Try.prog 103 ⟨.arr 3 4 (fun _ => .agg [.nils, .nils, .int .i64 0]), 12, 224, .ar 4 102 3 true, none⟩ := ⟨fun _ => by kernel_rfl, ⟨rfl, rfl, fun _ _ => by simp [Wf, Wfs]⟩, ⟨Try.underlying103, by kernel_rfl, by kernel_rfl⟩, fun _ h => by cases h⟩
theorem pe_105 : TyOk Try.prog 105 ⟨.agg [.nilp, .agg [.agg [], .agg [], .int .u64 0], .int .u64 0, .arr 3 4 (fun _ => .agg [.nils, .nils, .int .i64 0])], 15, 248, .st [(0, 1, false), (1, 1, true), (2, 1, false), (3, 12, true)], none⟩ := ⟨fun _ => by kernel_rfl, ⟨rfl, rfl, fun _ _ => by simp [Wf, Wfs]⟩, ⟨_, Try.underlying105, by kernel_rfl⟩, fun _ h => by cases h⟩
abbrev PT_bus_Bus_port : TE := [(33, ⟨.int .u64 0, 1, 8, .sc (.int .u64), none⟩), (103, ⟨.arr 3 4 (fun _ => .agg [.nils, .nils, .int .i64 0]), 12, 224, .ar 4 102 3 true, none⟩), (105, ⟨.agg [.nilp, .agg [.agg [], .agg [], .int .u64 0], .int .u64 0, .arr 3 4 (fun _ => .agg [.nils, .nils, .int .i64 0])], 15, 248, .st [(0, 1, false), (1, 1, true), (2, 1, false), (3, 12, true)], none⟩)]
theorem PT_bus_Bus_port_ok : Prg Try.prog PT_bus_Bus_port := ⟨(.cons pe_33 (.cons pe_103 (.cons pe_105 (TEok.nil _)))), by kernel_rfl⟩
noncomputable abbrev B_z1z {α : Type}  : FF α := byBody PT_bus_Bus_port [] ⟨1, []⟩ Try.f94
theorem cB_z1z {α : Type} {I : Imm}  : OrcOk (α := α) Try.prog I 94 (.full (B_z1z )) := orc_body PT_bus_Bus_port_ok (OOk.nil) ⟨1, []⟩ Try.func94 (by kernel_rfl) (by kernel_rfl) (by kernel_rfl)
noncomputable abbrev PO_zb {α : Type} : ORC α := [(94, .full (B_z1z ))]
set_option maxRecDepth 100000 in
theorem ok_zb {α : Type} (b : Nat) (x1 x2 : Int) (σ : Heap) (k : SV → Heap → R α) : bodyL PT_zb PO_zb [] ⟨1, []⟩ Try.f88 [.ptr b [], .int .u64 x1, .int .i64 x2] σ k = p_zb x1 x2 (k .nilp σ) (fun i => k (.ptr b [.fld 3 3, .idx i 3]) σ) := by kernel_rfl
theorem mk_zb {α : Type} {I : Imm} : OrcOk (α := α) Try.prog I 88 (.full (ad_console fun x1 x2 kn k0 k1 k2 k3 => p_zb x1 x2 kn (sel4 k0 k1 k2 k3))) :=
  con_of (orc_bodyL PT_z30 (O := PO_zb) (OOk.cons (cB_z1z ) (OOk.nil)) ⟨1, []⟩ Try.func88 (by kernel_rfl) (by kernel_rfl) (by kernel_rfl)) fun b x1 x2 σ k r h => (ok_zb b x1 x2 σ k).trans (mono_zb (fun i => sel4_some (k := fun i => k (.ptr b [.fld 3 3, .idx i 3]) σ) i) h)
theorem pe_5 : TyOk Try.prog 5 ⟨.int .u8 0, 1, 1, .sc (.int .u8), none⟩ := ⟨fun _ => by kernel_rfl, ⟨rfl, rfl, fun _ _ => by simp [Wf, Wfs]⟩, ⟨Try.underlying5, rfl⟩, fun _ h => by cases h⟩
theorem pe_28 : TyOk Try.prog 28 ⟨.nilp, 1, 8, .sc (.pointer 72), none⟩ := ⟨fun _ => by kernel_rfl, ⟨rfl, rfl, fun _ _ => by simp [Wf, Wfs]⟩, ⟨Try.underlying28, rfl⟩, fun _ h => by cases h⟩
theorem pe_29 : TyOk Try.prog 29 ⟨.int .i64 0, 1, 8, .sc (.int .i64), none⟩ := ⟨fun _ => by kernel_rfl, ⟨rfl, rfl, fun _ _ => by simp [Wf, Wfs]⟩, ⟨Try.underlying29, rfl⟩, fun _ h => by cases h⟩
theorem pe_37 : TyOk Try.prog 37 ⟨.nils, 1, 24, .sc (.slice 5), none⟩ := ⟨fun _ => by kernel_rfl, ⟨rfl, rfl, fun _ _ => by simp [Wf, Wfs]⟩, ⟨Try.underlying37, rfl⟩, fun _ h => by cases h⟩
theorem pe_102 : TyOk Try.prog 102 ⟨.agg [.nils, .nils, .int .i64 0], 3, 56, .st [(0, 1, false), (1, 1, false), (2, 1, false)], none⟩ := ⟨fun _ => by kernel_rfl, ⟨rfl, rfl, fun _ _ => by simp [Wf, Wfs]⟩, ⟨_, Try.underlying102, by kernel_rfl⟩, fun _ h => by cases h⟩
theorem pe_157 : TyOk Try.prog 157 ⟨.nilp, 1, 8, .sc (.pointer 102), none⟩ := ⟨fun _ => by kernel_rfl, ⟨rfl, rfl, fun _ _ => by simp [Wf, Wfs]⟩, ⟨Try.underlying157, rfl⟩, fun _ h => by cases h⟩
abbrev PT_ze : TE := [(3, ⟨.int .i64 0, 1, 8, .sc (.int .i64), none⟩), (5, ⟨.int .u8 0, 1, 1, .sc (.int .u8), none⟩), (28, ⟨.nilp, 1, 8, .sc (.pointer 72), none⟩), (29, ⟨.int .i64 0, 1, 8, .sc (.int .i64), none⟩), (33, ⟨.int .u64 0, 1, 8, .sc (.int .u64), none⟩), (37, ⟨.nils, 1, 24, .sc (.slice 5), none⟩), (102, ⟨.agg [.nils, .nils, .int .i64 0], 3, 56, .st [(0, 1, false), (1, 1, false), (2, 1, false)], none⟩), (105, ⟨.agg [.nilp, .agg [.agg [], .agg [], .int .u64 0], .int .u64 0, .arr 3 4 (fun _ => .agg [.nils, .nils, .int .i64 0])], 15, 248, .st [(0, 1, false), (1, 1, true), (2, 1, false), (3, 12, true)], none⟩), (157, ⟨.nilp, 1, 8, .sc (.pointer 102), none⟩)]
theorem PT_z1g : Prg Try.prog PT_ze := ⟨(.cons pe_3 (.cons pe_5 (.cons pe_28 (.cons pe_29 (.cons pe_33 (.cons pe_37 (.cons pe_102 (.cons pe_105 (.cons pe_157 (TEok.nil _)))))))))), by kernel_rfl⟩
theorem pe_100 : TyOk Try.prog 100 ⟨.agg [.agg [], .agg [], .int .u64 0], 1, 8, .st [(0, 0, true), (0, 0, true), (0, 1, false)], none⟩ := ⟨fun _ => by kernel_rfl, ⟨rfl, rfl, fun _ _ => by simp [Wf, Wfs]⟩, ⟨_, Try.underlying100, by kernel_rfl⟩, fun _ h => by cases h⟩
abbrev PT_sync_atomic_Uint64_Load : TE := [(100, ⟨.agg [.agg [], .agg [], .int .u64 0], 1, 8, .st [(0, 0, true), (0, 0, true), (0, 1, false)], none⟩)]
theorem PT_sync_atomic_Uint64_Load_ok : Prg Try.prog PT_sync_atomic_Uint64_Load := ⟨(.cons pe_100 (TEok.nil _)), by kernel_rfl⟩
noncomputable abbrev B_z20 {α : Type} (F_zb : Sg_zb α) (F_zq : Sg_zq α) : FF α := byBody PT_sync_atomic_Uint64_Load [(95, .ext (xLoad .u64))] ⟨1, []⟩ Try.f89
theorem cB_z20 {α : Type} {I : Imm} {F_zb : Sg_zb α} {F_zq : Sg_zq α} (h_sync_atomic_LoadUint64 : OrcOk (α := α) Try.prog I 95 (.ext (xLoad .u64))) (h_zb : OrcOk (α := α) Try.prog I 88 (.full (ad_console F_zb))) (h_zq : OrcOk (α := α) Try.prog I 90 (.full (ad_zq F_zq))) : OrcOk (α := α) Try.prog I 89 (.full (B_z20 F_zb F_zq)) := orc_body PT_sync_atomic_Uint64_Load_ok (OOk.cons h_sync_atomic_LoadUint64 (OOk.nil)) ⟨1, []⟩ Try.func89 (by kernel_rfl) (by kernel_rfl) (by kernel_rfl)
noncomputable abbrev PO_ze {α : Type} (F_zb : Sg_zb α) (F_zq : Sg_zq α) : ORC α := [(89, .full (B_z20 F_zb F_zq)), (88, .full (ad_console F_zb)), (90, .full (ad_zq F_zq))]
set_option maxRecDepth 100000 in
theorem ok_ze {α : Type} (F_zb : Sg_zb α) (F_zq : Sg_zq α) (x0 : GBus) (x1 : Int) (x2 : Int) (k : GBus → Int → Bool → R α) : bodyL PT_ze (PO_ze F_zb F_zq) [] ⟨1, []⟩ Try.f69 (E_ze.encs (x0, x1, x2, ()) (fun i => i) 0) (hp (E_ze.objss (x0, x1, x2, ()) (fun i => i) 0)) (dRo M_ze Q_ze false (selN (E_ze.encs (x0, x1, x2, ()) (fun i => i) 0) [0]) (fun y z => k y.1 z.1 z.2.1)) = p_ze F_zb F_zq x0 x1 x2 k := by kernel_rfl
theorem mk_ze {α : Type} {I : Imm} {F_zb : Sg_zb α} {F_zq : Sg_zq α} (h_sync_atomic_LoadUint64 : OrcOk (α := α) Try.prog I 95 (.ext (xLoad .u64))) (h_zb : OrcOk (α := α) Try.prog I 88 (.full (ad_console F_zb))) (h_zq : OrcOk (α := α) Try.prog I 90 (.full (ad_zq F_zq))) {F : Sg_ze α} (hF : ∀ x0 x1 x2 k r, F x0 x1 x2 k = some r → p_ze F_zb F_zq x0 x1 x2 k = some r) : OrcOk (α := α) Try.prog I 69 (.full (ad_ze F)) :=
  orc_obj PT_z1g (O := PO_ze F_zb F_zq) (OOk.cons (cB_z20 h_sync_atomic_LoadUint64 h_zb h_zq) (OOk.cons h_zb (OOk.cons h_zq (OOk.nil)))) (L := []) ⟨1, []⟩ Try.func69 (by kernel_rfl) (by kernel_rfl) (by kernel_rfl) FLOk.nil E_z1g M_z1g Q_z1g rfl (oi := [0]) fun ⟨x0, x1, x2, ()⟩ k r h => (ok_ze F_zb F_zq x0 x1 x2 (fun y0 z0 z1 => k (y0, ()) (z0, z1, ()))).trans (hF x0 x1 x2 _ r h)
abbrev PT_zf : TE := [(3, ⟨.int .i64 0, 1, 8, .sc (.int .i64), none⟩), (5, ⟨.int .u8 0, 1, 1, .sc (.int .u8), none⟩), (28, ⟨.nilp, 1, 8, .sc (.pointer 72), none⟩), (29, ⟨.int .i64 0, 1, 8, .sc (.int .i64), none⟩), (33, ⟨.int .u64 0, 1, 8, .sc (.int .u64), none⟩), (37, ⟨.nils, 1, 24, .sc (.slice 5), none⟩), (102, ⟨.agg [.nils, .nils, .int .i64 0], 3, 56, .st [(0, 1, false), (1, 1, false), (2, 1, false)], none⟩), (105, ⟨.agg [.nilp, .agg [.agg [], .agg [], .int .u64 0], .int .u64 0, .arr 3 4 (fun _ => .agg [.nils, .nils, .int .i64 0])], 15, 248, .st [(0, 1, false), (1, 1, true), (2, 1, false), (3, 12, true)], none⟩), (157, ⟨.nilp, 1, 8, .sc (.pointer 102), none⟩)]
theorem PT_z1h : Prg Try.prog PT_zf := ⟨(.cons pe_3 (.cons pe_5 (.cons pe_28 (.cons pe_29 (.cons pe_33 (.cons pe_37 (.cons pe_102 (.cons pe_105 (.cons pe_157 (TEok.nil _)))))))))), by kernel_rfl⟩
noncomputable abbrev PO_zf {α : Type} (F_zb : Sg_zb α) (F_zv : Sg_zv α) : ORC α := [(88, .full (ad_console F_zb)), (48, .full (ad_zv F_zv))]
set_option maxRecDepth 100000 in
theorem ok_zf {α : Type} (F_zb : Sg_zb α) (F_zv : Sg_zv α) (x0 : GBus) (x1 : Int) (x2 : Int) (x3 : Int) (k : GBus → Bool → R α) : bodyL PT_zf (PO_zf F_zb F_zv) [] ⟨1, []⟩ Try.f68 (E_zf.encs (x0, x1, x2, x3, ()) (fun i => i) 0) (hp (E_zf.objss (x0, x1, x2, x3, ()) (fun i => i) 0)) (dRo M_zf Q_zf true (selN (E_zf.encs (x0, x1, x2, x3, ()) (fun i => i) 0) [0]) (fun y z => k y.1 z.1)) = p_zf F_zb F_zv x0 x1 x2 x3 k := by kernel_rfl
theorem mk_zf {α : Type} {I : Imm} {F_zb : Sg_zb α} {F_zv : Sg_zv α} (h_zb : OrcOk (α := α) Try.prog I 88 (.full (ad_console F_zb))) (h_zv : OrcOk (α := α) Try.prog I 48 (.full (ad_zv F_zv))) {F : Sg_zf α} (hF : ∀ x0 x1 x2 x3 k r, F x0 x1 x2 x3 k = some r → p_zf F_zb F_zv x0 x1 x2 x3 k = some r) : OrcOk (α := α) Try.prog I 68 (.full (ad_zf F)) :=
  orc_obj PT_z1h (O := PO_zf F_zb F_zv) (OOk.cons h_zb (OOk.cons h_zv (OOk.nil))) (L := []) ⟨1, []⟩ Try.func68 (by kernel_rfl) (by kernel_rfl) (by kernel_rfl) FLOk.nil E_z1h M_z1h Q_z1h rfl (oi := [0]) fun ⟨x0, x1, x2, x3, ()⟩ k r h => (ok_zf F_zb F_zv x0 x1 x2 x3 (fun y0 z0 => k (y0, ()) (z0, ()))).trans (hF x0 x1 x2 x3 _ r h)
theorem pe_122 : TyOk Try.prog 122 ⟨.ints .u64 3 (fun _ => 0), 3, 24, .ar 3 33 1 false, some (.ar 3 1 (.it .u64))⟩ := ⟨fun _ => by kernel_rfl, ⟨rfl, rfl, fun _ _ => by simp [Wf, Wfs]⟩, ⟨Try.underlying122, by kernel_rfl, by kernel_rfl⟩, fun _ h => by cases h; exact ⟨by kernel_rfl, by kernel_rfl⟩⟩
abbrev PT_zc : TE := [(3, ⟨.int .i64 0, 1, 8, .sc (.int .i64), none⟩), (33, ⟨.int .u64 0, 1, 8, .sc (.int .u64), none⟩), (122, ⟨.ints .u64 3 (fun _ => 0), 3, 24, .ar 3 33 1 false, some (.ar 3 1 (.it .u64))⟩)]
theorem PT_z31 : Prg Try.prog PT_zc := ⟨(.cons pe_3 (.cons pe_33 (.cons pe_122 (TEok.nil _)))), by kernel_rfl⟩
noncomputable abbrev PO_zc {α : Type}  : ORC α := []
set_option maxRecDepth 100000 in
theorem ok_zc {α : Type}  (x0 : Int) (x1 : (Nat → Int)) (k : Int → R α) : bodyL PT_zc (PO_zc ) [] ⟨1, []⟩ Try.f67 [(.int .i64 x0), (.ints .u64 3 x1)] emp (fun v _ => dR_access_cause v k) = p_zc  x0 x1 k := by kernel_rfl
theorem mk_zc {α : Type} {I : Imm}  : OrcOk (α := α) Try.prog I 67 (.pure (ad_zc (p_zc ))) := by
  refine orc_pureK PT_z31 (O := PO_zc ) (OOk.nil) (L := []) ⟨1, []⟩ Try.func67 (by kernel_rfl) (by kernel_rfl) (by kernel_rfl) FLOk.nil ?_
  intro args k r hk
  unfold ad_zc at hk
  split at hk <;> try (cases hk; done)
  obtain ⟨x0, rfl, hk0⟩ := decI_spec hk
  obtain ⟨x1, rfl, hk1⟩ := decA_spec hk0
  have hkz := hk1
  refine ⟨by simp [Ids, Idss], fun v => dR_access_cause v (fun r0 => k (.int .u64 r0)), ?_, fun v hv => ?_⟩
  · rw [ok_zc]; exact hkz
  · obtain ⟨r0, rfl, hv1⟩ := dR_access_cause_spec hv; exact ⟨hv1, by simp [Ids, Idss]⟩
theorem pe_47 : TyOk Try.prog 47 ⟨.agg [.int .u64 0, .int .u64 0, .int .u64 0, .bool false], 4, 32, .st [(0, 1, false), (1, 1, false), (2, 1, false), (3, 1, false)], some (.st [(0, 1, false, .it .u64), (1, 1, false, .it .u64), (2, 1, false, .it .u64), (3, 1, false, .bl)])⟩ := ⟨fun _ => by kernel_rfl, ⟨rfl, rfl, fun _ _ => by simp [Wf, Wfs]⟩, ⟨_, Try.underlying47, by kernel_rfl⟩, fun _ h => by cases h; exact ⟨by kernel_rfl, by kernel_rfl⟩⟩
abbrev PT_z7 : TE := [(47, ⟨.agg [.int .u64 0, .int .u64 0, .int .u64 0, .bool false], 4, 32, .st [(0, 1, false), (1, 1, false), (2, 1, false), (3, 1, false)], some (.st [(0, 1, false, .it .u64), (1, 1, false, .it .u64), (2, 1, false, .it .u64), (3, 1, false, .bl)])⟩), (122, ⟨.ints .u64 3 (fun _ => 0), 3, 24, .ar 3 33 1 false, some (.ar 3 1 (.it .u64))⟩)]
theorem PT_z32 : Prg Try.prog PT_z7 := ⟨(.cons pe_47 (.cons pe_122 (TEok.nil _))), by kernel_rfl⟩
noncomputable abbrev PO_z7 {α : Type} (F_zc : Sg_zc α) : ORC α := [(67, .pure (ad_zc F_zc))]
set_option maxRecDepth 100000 in
theorem ok_z7 {α : Type} (F_zc : Sg_zc α) (x0 : Int) (x1 : Int) (x2 : Bool) (k : GFault → R α) : bodyL PT_z7 (PO_z7 F_zc) [] ⟨1, []⟩ Try.f66 [(.int .u64 x0), (.int .i64 x1), (.bool x2)] emp (fun v _ => dR_access_Bad v k) = p_z7 F_zc x0 x1 x2 k := by kernel_rfl
theorem mk_z7 {α : Type} {I : Imm} {F_zc : Sg_zc α} (h_zc : OrcOk (α := α) Try.prog I 67 (.pure (ad_zc F_zc))) : OrcOk (α := α) Try.prog I 66 (.pure (ad_z7 (p_z7 F_zc))) := by
  refine orc_pureK PT_z32 (O := PO_z7 F_zc) (OOk.cons h_zc (OOk.nil)) (L := []) ⟨1, []⟩ Try.func66 (by kernel_rfl) (by kernel_rfl) (by kernel_rfl) FLOk.nil ?_
  intro args k r hk
  unfold ad_z7 at hk
  split at hk <;> try (cases hk; done)
  obtain ⟨x0, rfl, hk0⟩ := decI_spec hk
  obtain ⟨x1, rfl, hk1⟩ := decI_spec hk0
  obtain ⟨x2, rfl, hk2⟩ := decB_spec hk1
  have hkz := hk2
  refine ⟨by simp [Ids, Idss], fun v => dR_access_Bad v (fun r0 => k (GFault.sv r0)), ?_, fun v hv => ?_⟩
  · rw [ok_z7]; exact hkz
  · obtain ⟨r0, rfl, hv1⟩ := dR_access_Bad_spec hv; exact ⟨hv1, by simp [Ids, Idss]⟩
abbrev PT_z3 : TE := [(3, ⟨.int .i64 0, 1, 8, .sc (.int .i64), none⟩), (47, ⟨.agg [.int .u64 0, .int .u64 0, .int .u64 0, .bool false], 4, 32, .st [(0, 1, false), (1, 1, false), (2, 1, false), (3, 1, false)], some (.st [(0, 1, false, .it .u64), (1, 1, false, .it .u64), (2, 1, false, .it .u64), (3, 1, false, .bl)])⟩)]
theorem PT_z1i : Prg Try.prog PT_z3 := ⟨(.cons pe_3 (.cons pe_47 (TEok.nil _))), by kernel_rfl⟩
abbrev PT_bus_Bus_IsDevice : TE := [(33, ⟨.int .u64 0, 1, 8, .sc (.int .u64), none⟩)]
theorem PT_bus_Bus_IsDevice_ok : Prg Try.prog PT_bus_Bus_IsDevice := ⟨(.cons pe_33 (TEok.nil _)), by kernel_rfl⟩
noncomputable abbrev B_z21 {α : Type} (F_z7 : Sg_z7 α) (F_zf : Sg_zf α) (F_ze : Sg_ze α) : FF α := byBody PT_bus_Bus_IsDevice [] ⟨1, []⟩ Try.f20
theorem cB_z21 {α : Type} {I : Imm} {F_z7 : Sg_z7 α} {F_zf : Sg_zf α} {F_ze : Sg_ze α} (h_z7 : OrcOk (α := α) Try.prog I 66 (.pure (ad_z7 F_z7))) (h_zf : OrcOk (α := α) Try.prog I 68 (.full (ad_zf F_zf))) (h_ze : OrcOk (α := α) Try.prog I 69 (.full (ad_ze F_ze))) : OrcOk (α := α) Try.prog I 20 (.full (B_z21 F_z7 F_zf F_ze)) := orc_body PT_bus_Bus_IsDevice_ok (OOk.nil) ⟨1, []⟩ Try.func20 (by kernel_rfl) (by kernel_rfl) (by kernel_rfl)
noncomputable abbrev PO_z3 {α : Type} (F_z7 : Sg_z7 α) (F_zf : Sg_zf α) (F_ze : Sg_ze α) : ORC α := [(20, .full (B_z21 F_z7 F_zf F_ze)), (66, .pure (ad_z7 F_z7)), (68, .full (ad_zf F_zf)), (69, .full (ad_ze F_ze))]
set_option maxRecDepth 100000 in
theorem ok_z3 {α : Type} (F_z7 : Sg_z7 α) (F_zf : Sg_zf α) (F_ze : Sg_ze α) (x0 : GBus) (x1 : Int) (x2 : Int) (x3 : Int) (x4 : Int) (x5 : Int) (x6 : Bool) (k : GBus → Int → GFault → Bool → R α) : bodyL PT_z3 (PO_z3 F_z7 F_zf F_ze) [] ⟨1, []⟩ Try.f44 (E_z3.encs (x0, x1, x2, x3, x4, x5, x6, ()) (fun i => i) 0) (hp (E_z3.objss (x0, x1, x2, x3, x4, x5, x6, ()) (fun i => i) 0)) (dRo M_z3 Q_z3 false (selN (E_z3.encs (x0, x1, x2, x3, x4, x5, x6, ()) (fun i => i) 0) [0]) (fun y z => k y.1 z.1 z.2.1 z.2.2.1)) = p_z3 F_z7 F_zf F_ze x0 x1 x2 x3 x4 x5 x6 k := by kernel_rfl
theorem mk_z3 {α : Type} {I : Imm} {F_z7 : Sg_z7 α} {F_zf : Sg_zf α} {F_ze : Sg_ze α} (h_z7 : OrcOk (α := α) Try.prog I 66 (.pure (ad_z7 F_z7))) (h_zf : OrcOk (α := α) Try.prog I 68 (.full (ad_zf F_zf))) (h_ze : OrcOk (α := α) Try.prog I 69 (.full (ad_ze F_ze))) {F : Sg_z3 α} (hF : ∀ x0 x1 x2 x3 x4 x5 x6 k r, F x0 x1 x2 x3 x4 x5 x6 k = some r → p_z3 F_z7 F_zf F_ze x0 x1 x2 x3 x4 x5 x6 k = some r) : OrcOk (α := α) Try.prog I 44 (.full (ad_z3 F)) :=
  orc_obj PT_z1i (O := PO_z3 F_z7 F_zf F_ze) (OOk.cons (cB_z21 h_z7 h_zf h_ze) (OOk.cons h_z7 (OOk.cons h_zf (OOk.cons h_ze (OOk.nil))))) (L := []) ⟨1, []⟩ Try.func44 (by kernel_rfl) (by kernel_rfl) (by kernel_rfl) FLOk.nil E_z1i M_z1i Q_z1i rfl (oi := [0]) fun ⟨x0, x1, x2, x3, x4, x5, x6, ()⟩ k r h => (ok_z3 F_z7 F_zf F_ze x0 x1 x2 x3 x4 x5 x6 (fun y0 z0 z1 z2 => k (y0, ()) (z0, z1, z2, ()))).trans (hF x0 x1 x2 x3 x4 x5 x6 _ r h)
abbrev PT_z6 : TE := [(3, ⟨.int .i64 0, 1, 8, .sc (.int .i64), none⟩), (33, ⟨.int .u64 0, 1, 8, .sc (.int .u64), none⟩), (47, ⟨.agg [.int .u64 0, .int .u64 0, .int .u64 0, .bool false], 4, 32, .st [(0, 1, false), (1, 1, false), (2, 1, false), (3, 1, false)], some (.st [(0, 1, false, .it .u64), (1, 1, false, .it .u64), (2, 1, false, .it .u64), (3, 1, false, .bl)])⟩), (122, ⟨.ints .u64 3 (fun _ => 0), 3, 24, .ar 3 33 1 false, some (.ar 3 1 (.it .u64))⟩)]
theorem PT_z33 : Prg Try.prog PT_z6 := ⟨(.cons pe_3 (.cons pe_33 (.cons pe_47 (.cons pe_122 (TEok.nil _))))), by kernel_rfl⟩
noncomputable abbrev PO_z6 {α : Type} (F_z7 : Sg_z7 α) (F_zc : Sg_zc α) : ORC α := [(66, .pure (ad_z7 F_z7)), (67, .pure (ad_zc F_zc))]
set_option maxRecDepth 100000 in
theorem ok_z6 {α : Type} (F_z7 : Sg_z7 α) (F_zc : Sg_zc α) (x0 : Int) (x1 : Int) (x2 : Int) (x3 : Bool) (k : GFault → Bool → R α) : bodyL PT_z6 (PO_z6 F_z7 F_zc) [] ⟨1, []⟩ Try.f42 [(.int .u64 x0), (.int .i64 x1), (.int .i64 x2), (.bool x3)] emp (fun v _ => dR_access_Aligned v k) = p_z6 F_z7 F_zc x0 x1 x2 x3 k := by kernel_rfl
theorem mk_z6 {α : Type} {I : Imm} {F_z7 : Sg_z7 α} {F_zc : Sg_zc α} (h_z7 : OrcOk (α := α) Try.prog I 66 (.pure (ad_z7 F_z7))) (h_zc : OrcOk (α := α) Try.prog I 67 (.pure (ad_zc F_zc))) : OrcOk (α := α) Try.prog I 42 (.pure (ad_z6 (p_z6 F_z7 F_zc))) := by
  refine orc_pureK PT_z33 (O := PO_z6 F_z7 F_zc) (OOk.cons h_z7 (OOk.cons h_zc (OOk.nil))) (L := []) ⟨1, []⟩ Try.func42 (by kernel_rfl) (by kernel_rfl) (by kernel_rfl) FLOk.nil ?_
  intro args k r hk
  unfold ad_z6 at hk
  split at hk <;> try (cases hk; done)
  obtain ⟨x0, rfl, hk0⟩ := decI_spec hk
  obtain ⟨x1, rfl, hk1⟩ := decI_spec hk0
  obtain ⟨x2, rfl, hk2⟩ := decI_spec hk1
  obtain ⟨x3, rfl, hk3⟩ := decB_spec hk2
  have hkz := hk3
  refine ⟨by simp [Ids, Idss], fun v => dR_access_Aligned v (fun r0 r1 => k (.tuple [(GFault.sv r0), (.bool r1)])), ?_, fun v hv => ?_⟩
  · rw [ok_z6]; exact hkz
  · obtain ⟨r0, r1, rfl, hv1⟩ := dR_access_Aligned_spec hv; exact ⟨hv1, by simp [Ids, Idss]⟩
theorem pe_42 : TyOk Try.prog 42 ⟨.agg [.ints .u64 32 (fun _ => 0), .int .u64 0, .int .i64 0, .bool false, .ints .u64 29 (fun _ => 0), .int .u64 0], 65, 520, .st [(0, 32, true), (32, 1, false), (33, 1, false), (34, 1, false), (35, 29, true), (64, 1, false)], some (.st [(0, 32, true, .ar 32 1 (.it .u64)), (32, 1, false, .it .u64), (33, 1, false, .it .i64), (34, 1, false, .bl), (35, 29, true, .ar 29 1 (.it .u64)), (64, 1, false, .it .u64)])⟩ := ⟨fun _ => by kernel_rfl, ⟨rfl, rfl, fun _ _ => by simp [Wf, Wfs]⟩, ⟨_, Try.underlying42, by kernel_rfl⟩, fun _ h => by cases h; exact ⟨by kernel_rfl, by kernel_rfl⟩⟩
theorem pe_45 : TyOk Try.prog 45 ⟨.agg [.bool false, .bool false, .int .i64 0, .int .i64 0, .int .i64 0, .int .i64 0, .int .i64 0, .int .i64 0, .int .i64 0], 9, 64, .st [(0, 1, false), (1, 1, false), (2, 1, false), (3, 1, false), (4, 1, false), (5, 1, false), (6, 1, false), (7, 1, false), (8, 1, false)], some (.st [(0, 1, false, .bl), (1, 1, false, .bl), (2, 1, false, .it .i64), (3, 1, false, .it .i64), (4, 1, false, .it .i64), (5, 1, false, .it .i64), (6, 1, false, .it .i64), (7, 1, false, .it .i64), (8, 1, false, .it .i64)])⟩ := ⟨fun _ => by kernel_rfl, ⟨rfl, rfl, fun _ _ => by simp [Wf, Wfs]⟩, ⟨_, Try.underlying45, by kernel_rfl⟩, fun _ h => by cases h; exact ⟨by kernel_rfl, by kernel_rfl⟩⟩
abbrev PT_z1 : TE := [(42, ⟨.agg [.ints .u64 32 (fun _ => 0), .int .u64 0, .int .i64 0, .bool false, .ints .u64 29 (fun _ => 0), .int .u64 0], 65, 520, .st [(0, 32, true), (32, 1, false), (33, 1, false), (34, 1, false), (35, 29, true), (64, 1, false)], some (.st [(0, 32, true, .ar 32 1 (.it .u64)), (32, 1, false, .it .u64), (33, 1, false, .it .i64), (34, 1, false, .bl), (35, 29, true, .ar 29 1 (.it .u64)), (64, 1, false, .it .u64)])⟩), (45, ⟨.agg [.bool false, .bool false, .int .i64 0, .int .i64 0, .int .i64 0, .int .i64 0, .int .i64 0, .int .i64 0, .int .i64 0], 9, 64, .st [(0, 1, false), (1, 1, false), (2, 1, false), (3, 1, false), (4, 1, false), (5, 1, false), (6, 1, false), (7, 1, false), (8, 1, false)], some (.st [(0, 1, false, .bl), (1, 1, false, .bl), (2, 1, false, .it .i64), (3, 1, false, .it .i64), (4, 1, false, .it .i64), (5, 1, false, .it .i64), (6, 1, false, .it .i64), (7, 1, false, .it .i64), (8, 1, false, .it .i64)])⟩), (47, ⟨.agg [.int .u64 0, .int .u64 0, .int .u64 0, .bool false], 4, 32, .st [(0, 1, false), (1, 1, false), (2, 1, false), (3, 1, false)], some (.st [(0, 1, false, .it .u64), (1, 1, false, .it .u64), (2, 1, false, .it .u64), (3, 1, false, .bl)])⟩)]
theorem PT_z1j : Prg Try.prog PT_z1 := ⟨(.cons pe_42 (.cons pe_45 (.cons pe_47 (TEok.nil _)))), by kernel_rfl⟩
abbrev PT_bus_Bus_Mem : TE := [(28, ⟨.nilp, 1, 8, .sc (.pointer 72), none⟩), (105, ⟨.agg [.nilp, .agg [.agg [], .agg [], .int .u64 0], .int .u64 0, .arr 3 4 (fun _ => .agg [.nils, .nils, .int .i64 0])], 15, 248, .st [(0, 1, false), (1, 1, true), (2, 1, false), (3, 12, true)], none⟩)]
theorem PT_bus_Bus_Mem_ok : Prg Try.prog PT_bus_Bus_Mem := ⟨(.cons pe_28 (.cons pe_105 (TEok.nil _))), by kernel_rfl⟩
noncomputable abbrev B_z22 {α : Type} (F_z6 : Sg_z6 α) (F_za : Sg_za α) (F_z3 : Sg_z3 α) : FF α := byBody PT_bus_Bus_Mem [] ⟨1, []⟩ Try.f43
theorem cB_z22 {α : Type} {I : Imm} {F_z6 : Sg_z6 α} {F_za : Sg_za α} {F_z3 : Sg_z3 α} (h_z6 : OrcOk (α := α) Try.prog I 42 (.pure (ad_z6 F_z6))) (h_za : OrcOk (α := α) Try.prog I 12 (.full (ad_za F_za))) (h_z3 : OrcOk (α := α) Try.prog I 44 (.full (ad_z3 F_z3))) : OrcOk (α := α) Try.prog I 43 (.full (B_z22 F_z6 F_za F_z3)) := orc_body PT_bus_Bus_Mem_ok (OOk.nil) ⟨1, []⟩ Try.func43 (by kernel_rfl) (by kernel_rfl) (by kernel_rfl)
noncomputable abbrev PO_z1 {α : Type} (F_z6 : Sg_z6 α) (F_za : Sg_za α) (F_z3 : Sg_z3 α) : ORC α := [(42, .pure (ad_z6 F_z6)), (43, .full (B_z22 F_z6 F_za F_z3)), (12, .full (ad_za F_za)), (44, .full (ad_z3 F_z3))]
set_option maxRecDepth 100000 in
theorem ok_z1 {α : Type} (F_z6 : Sg_z6 α) (F_za : Sg_za α) (F_z3 : Sg_z3 α) (x0 : GBus) (x1 : GState) (x2 : Int) (x3 : Int) (x4 : Int) (x5 : Int) (x6 : Int) (x7 : Bool) (k : GBus → Int → GFault → Bool → R α) : bodyL PT_z1 (PO_z1 F_z6 F_za F_z3) [] ⟨1, []⟩ Try.f18 (E_z1.encs (x0, x1, x2, x3, x4, x5, x6, x7, ()) (fun i => i) 0) (hp (E_z1.objss (x0, x1, x2, x3, x4, x5, x6, x7, ()) (fun i => i) 0)) (dRo M_z1 Q_z1 false (selN (E_z1.encs (x0, x1, x2, x3, x4, x5, x6, x7, ()) (fun i => i) 0) [0]) (fun y z => k y.1 z.1 z.2.1 z.2.2.1)) = p_z1 F_z6 F_za F_z3 x0 x1 x2 x3 x4 x5 x6 x7 k := by kernel_rfl
theorem mk_z1 {α : Type} {I : Imm} {F_z6 : Sg_z6 α} {F_za : Sg_za α} {F_z3 : Sg_z3 α} (h_z6 : OrcOk (α := α) Try.prog I 42 (.pure (ad_z6 F_z6))) (h_za : OrcOk (α := α) Try.prog I 12 (.full (ad_za F_za))) (h_z3 : OrcOk (α := α) Try.prog I 44 (.full (ad_z3 F_z3))) {F : Sg_z1 α} (hF : ∀ x0 x1 x2 x3 x4 x5 x6 x7 k r, F x0 x1 x2 x3 x4 x5 x6 x7 k = some r → p_z1 F_z6 F_za F_z3 x0 x1 x2 x3 x4 x5 x6 x7 k = some r) : OrcOk (α := α) Try.prog I 18 (.full (ad_z1 F)) :=
  orc_obj PT_z1j (O := PO_z1 F_z6 F_za F_z3) (OOk.cons h_z6 (OOk.cons (cB_z22 h_z6 h_za h_z3) (OOk.cons h_za (OOk.cons h_z3 (OOk.nil))))) (L := []) ⟨1, []⟩ Try.func18 (by kernel_rfl) (by kernel_rfl) (by kernel_rfl) FLOk.nil E_z1j M_z1j Q_z1j rfl (oi := [0]) fun ⟨x0, x1, x2, x3, x4, x5, x6, x7, ()⟩ k r h => (ok_z1 F_z6 F_za F_z3 x0 x1 x2 x3 x4 x5 x6 x7 (fun y0 z0 z1 z2 => k (y0, ()) (z0, z1, z2, ()))).trans (hF x0 x1 x2 x3 x4 x5 x6 x7 _ r h)
theorem pe_152 : TyOk Try.prog 152 ⟨.ints .i64 12 (fun _ => 0), 12, 96, .ar 12 3 1 false, some (.ar 12 1 (.it .i64))⟩ := ⟨fun _ => by kernel_rfl, ⟨rfl, rfl, fun _ _ => by simp [Wf, Wfs]⟩, ⟨Try.underlying152, by kernel_rfl, by kernel_rfl⟩, fun _ h => by cases h; exact ⟨by kernel_rfl, by kernel_rfl⟩⟩
abbrev PT_z5 : TE := [(3, ⟨.int .i64 0, 1, 8, .sc (.int .i64), none⟩), (152, ⟨.ints .i64 12 (fun _ => 0), 12, 96, .ar 12 3 1 false, some (.ar 12 1 (.it .i64))⟩)]
theorem PT_z34 : Prg Try.prog PT_z5 := ⟨(.cons pe_3 (.cons pe_152 (TEok.nil _))), by kernel_rfl⟩
noncomputable abbrev PO_z5 {α : Type}  : ORC α := []
set_option maxRecDepth 100000 in
theorem ok_z5 {α : Type}  (x0 : Int) (k : Int → R α) : bodyL PT_z5 (PO_z5 ) [] ⟨13, []⟩ Try.f61 [(.int .i64 x0)] emp (fun v _ => dR_insn_Class v k) = p_z5  x0 k := by kernel_rfl
theorem mk_z5 {α : Type} {I : Imm}  : OrcOk (α := α) Try.prog I 61 (.pure (ad_z5 (p_z5 ))) := by
  refine orc_pureK PT_z34 (O := PO_z5 ) (OOk.nil) (L := []) ⟨13, []⟩ Try.func61 (by kernel_rfl) (by kernel_rfl) (by kernel_rfl) FLOk.nil ?_
  intro args k r hk
  unfold ad_z5 at hk
  split at hk <;> try (cases hk; done)
  obtain ⟨x0, rfl, hk0⟩ := decI_spec hk
  have hkz := hk0
  refine ⟨by simp [Ids, Idss], fun v => dR_insn_Class v (fun r0 => k (.int .i64 r0)), ?_, fun v hv => ?_⟩
  · rw [ok_z5]; exact hkz
  · obtain ⟨r0, rfl, hv1⟩ := dR_insn_Class_spec hv; exact ⟨hv1, by simp [Ids, Idss]⟩
theorem pe_154 : TyOk Try.prog 154 ⟨.agg [.bool false, .bool false, .bool false, .bool false, .int .i64 0, .int .i64 0, .int .i64 0], 7, 32, .st [(0, 1, false), (1, 1, false), (2, 1, false), (3, 1, false), (4, 1, false), (5, 1, false), (6, 1, false)], some (.st [(0, 1, false, .bl), (1, 1, false, .bl), (2, 1, false, .bl), (3, 1, false, .bl), (4, 1, false, .it .i64), (5, 1, false, .it .i64), (6, 1, false, .it .i64)])⟩ := ⟨fun _ => by kernel_rfl, ⟨rfl, rfl, fun _ _ => by simp [Wf, Wfs]⟩, ⟨_, Try.underlying154, by kernel_rfl⟩, fun _ h => by cases h; exact ⟨by kernel_rfl, by kernel_rfl⟩⟩
abbrev PT_zs : TE := [(3, ⟨.int .i64 0, 1, 8, .sc (.int .i64), none⟩), (154, ⟨.agg [.bool false, .bool false, .bool false, .bool false, .int .i64 0, .int .i64 0, .int .i64 0], 7, 32, .st [(0, 1, false), (1, 1, false), (2, 1, false), (3, 1, false), (4, 1, false), (5, 1, false), (6, 1, false)], some (.st [(0, 1, false, .bl), (1, 1, false, .bl), (2, 1, false, .bl), (3, 1, false, .bl), (4, 1, false, .it .i64), (5, 1, false, .it .i64), (6, 1, false, .it .i64)])⟩)]
theorem PT_z35 : Prg Try.prog PT_zs := ⟨(.cons pe_3 (.cons pe_154 (TEok.nil _))), by kernel_rfl⟩
noncomputable abbrev PO_zs {α : Type}  : ORC α := []
set_option maxRecDepth 100000 in
theorem ok_zs {α : Type}  (x0 : Int) (k : GInsn_Fields → R α) : bodyL PT_zs (PO_zs ) [] ⟨1, []⟩ Try.f92 [(.int .i64 x0)] emp (fun v _ => dR_insn_jumps v k) = p_zs  x0 k := by kernel_rfl
theorem mk_zs {α : Type} {I : Imm}  : OrcOk (α := α) Try.prog I 92 (.pure (ad_zs (p_zs ))) := by
  refine orc_pureK PT_z35 (O := PO_zs ) (OOk.nil) (L := []) ⟨1, []⟩ Try.func92 (by kernel_rfl) (by kernel_rfl) (by kernel_rfl) FLOk.nil ?_
  intro args k r hk
  unfold ad_zs at hk
  split at hk <;> try (cases hk; done)
  obtain ⟨x0, rfl, hk0⟩ := decI_spec hk
  have hkz := hk0
  refine ⟨by simp [Ids, Idss], fun v => dR_insn_jumps v (fun r0 => k (GInsn_Fields.sv r0)), ?_, fun v hv => ?_⟩
  · rw [ok_zs]; exact hkz
  · obtain ⟨r0, rfl, hv1⟩ := dR_insn_jumps_spec hv; exact ⟨hv1, by simp [Ids, Idss]⟩
theorem pe_2 : TyOk Try.prog 2 ⟨.int .i64 0, 1, 8, .sc (.int .i64), none⟩ := ⟨fun _ => by kernel_rfl, ⟨rfl, rfl, fun _ _ => by simp [Wf, Wfs]⟩, ⟨Try.underlying2, rfl⟩, fun _ h => by cases h⟩
abbrev PT_zt : TE := [(2, ⟨.int .i64 0, 1, 8, .sc (.int .i64), none⟩), (3, ⟨.int .i64 0, 1, 8, .sc (.int .i64), none⟩), (154, ⟨.agg [.bool false, .bool false, .bool false, .bool false, .int .i64 0, .int .i64 0, .int .i64 0], 7, 32, .st [(0, 1, false), (1, 1, false), (2, 1, false), (3, 1, false), (4, 1, false), (5, 1, false), (6, 1, false)], some (.st [(0, 1, false, .bl), (1, 1, false, .bl), (2, 1, false, .bl), (3, 1, false, .bl), (4, 1, false, .it .i64), (5, 1, false, .it .i64), (6, 1, false, .it .i64)])⟩)]
theorem PT_z36 : Prg Try.prog PT_zt := ⟨(.cons pe_2 (.cons pe_3 (.cons pe_154 (TEok.nil _)))), by kernel_rfl⟩
noncomputable abbrev PO_zt {α : Type}  : ORC α := []
set_option maxRecDepth 100000 in
theorem ok_zt {α : Type}  (x0 : Int) (k : GInsn_Fields → R α) : bodyL PT_zt (PO_zt ) [] ⟨1, []⟩ Try.f93 [(.int .i64 x0)] emp (fun v _ => dR_insn_withNumber v k) = p_zt  x0 k := by kernel_rfl
theorem mk_zt {α : Type} {I : Imm}  : OrcOk (α := α) Try.prog I 93 (.pure (ad_zt (p_zt ))) := by
  refine orc_pureK PT_z36 (O := PO_zt ) (OOk.nil) (L := []) ⟨1, []⟩ Try.func93 (by kernel_rfl) (by kernel_rfl) (by kernel_rfl) FLOk.nil ?_
  intro args k r hk
  unfold ad_zt at hk
  split at hk <;> try (cases hk; done)
  obtain ⟨x0, rfl, hk0⟩ := decI_spec hk
  have hkz := hk0
  refine ⟨by simp [Ids, Idss], fun v => dR_insn_withNumber v (fun r0 => k (GInsn_Fields.sv r0)), ?_, fun v hv => ?_⟩
  · rw [ok_zt]; exact hkz
  · obtain ⟨r0, rfl, hv1⟩ := dR_insn_withNumber_spec hv; exact ⟨hv1, by simp [Ids, Idss]⟩
abbrev PT_zu : TE := [(3, ⟨.int .i64 0, 1, 8, .sc (.int .i64), none⟩), (154, ⟨.agg [.bool false, .bool false, .bool false, .bool false, .int .i64 0, .int .i64 0, .int .i64 0], 7, 32, .st [(0, 1, false), (1, 1, false), (2, 1, false), (3, 1, false), (4, 1, false), (5, 1, false), (6, 1, false)], some (.st [(0, 1, false, .bl), (1, 1, false, .bl), (2, 1, false, .bl), (3, 1, false, .bl), (4, 1, false, .it .i64), (5, 1, false, .it .i64), (6, 1, false, .it .i64)])⟩)]
theorem PT_z37 : Prg Try.prog PT_zu := ⟨(.cons pe_3 (.cons pe_154 (TEok.nil _))), by kernel_rfl⟩
noncomputable abbrev PO_zu {α : Type} (F_z5 : Sg_z5 α) (F_zs : Sg_zs α) (F_zt : Sg_zt α) : ORC α := [(61, .pure (ad_z5 F_z5)), (92, .pure (ad_zs F_zs)), (93, .pure (ad_zt F_zt))]
set_option maxRecDepth 100000 in
theorem ok_zu {α : Type} (F_z5 : Sg_z5 α) (F_zs : Sg_zs α) (F_zt : Sg_zt α) (x0 : Int) (k : GInsn_Fields → R α) : bodyL PT_zu (PO_zu F_z5 F_zs F_zt) [] ⟨1, []⟩ Try.f84 [(.int .i64 x0)] emp (fun v _ => dR_insn_Of v k) = p_zu F_z5 F_zs F_zt x0 k := by kernel_rfl
theorem mk_zu {α : Type} {I : Imm} {F_z5 : Sg_z5 α} {F_zs : Sg_zs α} {F_zt : Sg_zt α} (h_z5 : OrcOk (α := α) Try.prog I 61 (.pure (ad_z5 F_z5))) (h_zs : OrcOk (α := α) Try.prog I 92 (.pure (ad_zs F_zs))) (h_zt : OrcOk (α := α) Try.prog I 93 (.pure (ad_zt F_zt))) : OrcOk (α := α) Try.prog I 84 (.pure (ad_zu (p_zu F_z5 F_zs F_zt))) := by
  refine orc_pureK PT_z37 (O := PO_zu F_z5 F_zs F_zt) (OOk.cons h_z5 (OOk.cons h_zs (OOk.cons h_zt (OOk.nil)))) (L := []) ⟨1, []⟩ Try.func84 (by kernel_rfl) (by kernel_rfl) (by kernel_rfl) FLOk.nil ?_
  intro args k r hk
  unfold ad_zu at hk
  split at hk <;> try (cases hk; done)
  obtain ⟨x0, rfl, hk0⟩ := decI_spec hk
  have hkz := hk0
  refine ⟨by simp [Ids, Idss], fun v => dR_insn_Of v (fun r0 => k (GInsn_Fields.sv r0)), ?_, fun v hv => ?_⟩
  · rw [ok_zu]; exact hkz
  · obtain ⟨r0, rfl, hv1⟩ := dR_insn_Of_spec hv; exact ⟨hv1, by simp [Ids, Idss]⟩
abbrev PT_zl : TE := [(3, ⟨.int .i64 0, 1, 8, .sc (.int .i64), none⟩)]
theorem PT_z38 : Prg Try.prog PT_zl := ⟨(.cons pe_3 (TEok.nil _)), by kernel_rfl⟩
noncomputable abbrev PO_zl {α : Type}  : ORC α := []
set_option maxRecDepth 100000 in
theorem ok_zl {α : Type}  (x0 : Bool) (x1 : Int) (x2 : Int) (k : Bool → R α) : bodyL PT_zl (PO_zl ) [] ⟨1, []⟩ Try.f85 [(.bool x0), (.int .i64 x1), (.int .i64 x2)] emp (fun v _ => dR_insn_field v k) = p_zl  x0 x1 x2 k := by kernel_rfl
theorem mk_zl {α : Type} {I : Imm}  : OrcOk (α := α) Try.prog I 85 (.pure (ad_zl (p_zl ))) := by
  refine orc_pureK PT_z38 (O := PO_zl ) (OOk.nil) (L := []) ⟨1, []⟩ Try.func85 (by kernel_rfl) (by kernel_rfl) (by kernel_rfl) FLOk.nil ?_
  intro args k r hk
  unfold ad_zl at hk
  split at hk <;> try (cases hk; done)
  obtain ⟨x0, rfl, hk0⟩ := decB_spec hk
  obtain ⟨x1, rfl, hk1⟩ := decI_spec hk0
  obtain ⟨x2, rfl, hk2⟩ := decI_spec hk1
  have hkz := hk2
  refine ⟨by simp [Ids, Idss], fun v => dR_insn_field v (fun r0 => k (.bool r0)), ?_, fun v hv => ?_⟩
  · rw [ok_zl]; exact hkz
  · obtain ⟨r0, rfl, hv1⟩ := dR_insn_field_spec hv; exact ⟨hv1, by simp [Ids, Idss]⟩
theorem pe_4 : TyOk Try.prog 4 ⟨.bool false, 1, 1, .sc (.bool), none⟩ := ⟨fun _ => by kernel_rfl, ⟨rfl, rfl, fun _ _ => by simp [Wf, Wfs]⟩, ⟨Try.underlying4, rfl⟩, fun _ h => by cases h⟩
theorem pe_92 : TyOk Try.prog 92 ⟨.agg [.int .i64 0, .int .i64 0, .int .i64 0, .int .i64 0, .int .i64 0, .int .i64 0], 6, 48, .st [(0, 1, false), (1, 1, false), (2, 1, false), (3, 1, false), (4, 1, false), (5, 1, false)], some (.st [(0, 1, false, .it .i64), (1, 1, false, .it .i64), (2, 1, false, .it .i64), (3, 1, false, .it .i64), (4, 1, false, .it .i64), (5, 1, false, .it .i64)])⟩ := ⟨fun _ => by kernel_rfl, ⟨rfl, rfl, fun _ _ => by simp [Wf, Wfs]⟩, ⟨_, Try.underlying92, by kernel_rfl⟩, fun _ h => by cases h; exact ⟨by kernel_rfl, by kernel_rfl⟩⟩
abbrev PT_zr : TE := [(2, ⟨.int .i64 0, 1, 8, .sc (.int .i64), none⟩), (3, ⟨.int .i64 0, 1, 8, .sc (.int .i64), none⟩), (4, ⟨.bool false, 1, 1, .sc (.bool), none⟩), (92, ⟨.agg [.int .i64 0, .int .i64 0, .int .i64 0, .int .i64 0, .int .i64 0, .int .i64 0], 6, 48, .st [(0, 1, false), (1, 1, false), (2, 1, false), (3, 1, false), (4, 1, false), (5, 1, false)], some (.st [(0, 1, false, .it .i64), (1, 1, false, .it .i64), (2, 1, false, .it .i64), (3, 1, false, .it .i64), (4, 1, false, .it .i64), (5, 1, false, .it .i64)])⟩), (154, ⟨.agg [.bool false, .bool false, .bool false, .bool false, .int .i64 0, .int .i64 0, .int .i64 0], 7, 32, .st [(0, 1, false), (1, 1, false), (2, 1, false), (3, 1, false), (4, 1, false), (5, 1, false), (6, 1, false)], some (.st [(0, 1, false, .bl), (1, 1, false, .bl), (2, 1, false, .bl), (3, 1, false, .bl), (4, 1, false, .it .i64), (5, 1, false, .it .i64), (6, 1, false, .it .i64)])⟩)]
theorem PT_z39 : Prg Try.prog PT_zr := ⟨(.cons pe_2 (.cons pe_3 (.cons pe_4 (.cons pe_92 (.cons pe_154 (TEok.nil _)))))), by kernel_rfl⟩
noncomputable abbrev PO_zr {α : Type} (F_z5 : Sg_z5 α) (F_zu : Sg_zu α) (F_zl : Sg_zl α) : ORC α := [(61, .pure (ad_z5 F_z5)), (84, .pure (ad_zu F_zu)), (85, .pure (ad_zl F_zl))]
set_option maxRecDepth 100000 in
theorem ok_zr {α : Type} (F_z5 : Sg_z5 α) (F_zu : Sg_zu α) (F_zl : Sg_zl α) (x0 : GInsn) (k : Bool → R α) : bodyL PT_zr (PO_zr F_z5 F_zu F_zl) [] ⟨1, []⟩ Try.f62 [(GInsn.sv x0)] emp (fun v _ => dR_insn_Is v k) = p_zr F_z5 F_zu F_zl x0 k := by kernel_rfl
theorem mk_zr {α : Type} {I : Imm} {F_z5 : Sg_z5 α} {F_zu : Sg_zu α} {F_zl : Sg_zl α} (h_z5 : OrcOk (α := α) Try.prog I 61 (.pure (ad_z5 F_z5))) (h_zu : OrcOk (α := α) Try.prog I 84 (.pure (ad_zu F_zu))) (h_zl : OrcOk (α := α) Try.prog I 85 (.pure (ad_zl F_zl))) : OrcOk (α := α) Try.prog I 62 (.pure (ad_zr (p_zr F_z5 F_zu F_zl))) := by
  refine orc_pureK PT_z39 (O := PO_zr F_z5 F_zu F_zl) (OOk.cons h_z5 (OOk.cons h_zu (OOk.cons h_zl (OOk.nil)))) (L := []) ⟨1, []⟩ Try.func62 (by kernel_rfl) (by kernel_rfl) (by kernel_rfl) FLOk.nil ?_
  intro args k r hk
  unfold ad_zr at hk
  split at hk <;> try (cases hk; done)
  obtain ⟨x0, rfl, hk0⟩ := GInsn.dec_spec hk
  have hkz := hk0
  refine ⟨by simp [Ids, Idss], fun v => dR_insn_Is v (fun r0 => k (.bool r0)), ?_, fun v hv => ?_⟩
  · rw [ok_zr]; exact hkz
  · obtain ⟨r0, rfl, hv1⟩ := dR_insn_Is_spec hv; exact ⟨hv1, by simp [Ids, Idss]⟩
abbrev PT_zo : TE := [(3, ⟨.int .i64 0, 1, 8, .sc (.int .i64), none⟩)]
theorem PT_z1w : Prg Try.prog PT_zo := ⟨(.cons pe_3 (TEok.nil _)), by kernel_rfl⟩
noncomputable abbrev PO_zo {α : Type}  : ORC α := []
set_option maxRecDepth 100000 in
theorem ok_zo {α : Type}  (x0 : Int) (x1 : Int) (k : Int → Int → R α) : bodyL PT_zo (PO_zo ) [] ⟨1, []⟩ Try.f70 [(.int .i64 x0), (.int .i64 x1)] emp (fun v _ => dR_word_part v k) = p_zo  x0 x1 k := by kernel_rfl
theorem mk_zo {α : Type} {I : Imm}  : OrcOk (α := α) Try.prog I 70 (.pure (ad_zo (p_zo ))) := by
  refine orc_pureK PT_z1w (O := PO_zo ) (OOk.nil) (L := []) ⟨1, []⟩ Try.func70 (by kernel_rfl) (by kernel_rfl) (by kernel_rfl) FLOk.nil ?_
  intro args k r hk
  unfold ad_zo at hk
  split at hk <;> try (cases hk; done)
  obtain ⟨x0, rfl, hk0⟩ := decI_spec hk
  obtain ⟨x1, rfl, hk1⟩ := decI_spec hk0
  have hkz := hk1
  refine ⟨by simp [Ids, Idss], fun v => dR_word_part v (fun r0 r1 => k (.tuple [(.int .i64 r0), (.int .i64 r1)])), ?_, fun v hv => ?_⟩
  · rw [ok_zo]; exact hkz
  · obtain ⟨r0, r1, rfl, hv1⟩ := dR_word_part_spec hv; exact ⟨hv1, by simp [Ids, Idss]⟩
abbrev PT_z8 : TE := [(3, ⟨.int .i64 0, 1, 8, .sc (.int .i64), none⟩), (33, ⟨.int .u64 0, 1, 8, .sc (.int .u64), none⟩)]
theorem PT_z1u : Prg Try.prog PT_z8 := ⟨(.cons pe_3 (.cons pe_33 (TEok.nil _))), by kernel_rfl⟩
noncomputable abbrev PO_z8 {α : Type}  : ORC α := []
set_option maxRecDepth 100000 in
theorem ok_z8 {α : Type}  (x0 : Int) (k : Int → R α) : bodyL PT_z8 (PO_z8 ) [] ⟨1, []⟩ Try.f71 [(.int .i64 x0)] emp (fun v _ => dR_word_mask v k) = p_z8  x0 k := by kernel_rfl
theorem mk_z8 {α : Type} {I : Imm}  : OrcOk (α := α) Try.prog I 71 (.pure (ad_z8 (p_z8 ))) := by
  refine orc_pureK PT_z1u (O := PO_z8 ) (OOk.nil) (L := []) ⟨1, []⟩ Try.func71 (by kernel_rfl) (by kernel_rfl) (by kernel_rfl) FLOk.nil ?_
  intro args k r hk
  unfold ad_z8 at hk
  split at hk <;> try (cases hk; done)
  obtain ⟨x0, rfl, hk0⟩ := decI_spec hk
  have hkz := hk0
  refine ⟨by simp [Ids, Idss], fun v => dR_word_mask v (fun r0 => k (.int .u64 r0)), ?_, fun v hv => ?_⟩
  · rw [ok_z8]; exact hkz
  · obtain ⟨r0, rfl, hv1⟩ := dR_word_mask_spec hv; exact ⟨hv1, by simp [Ids, Idss]⟩
abbrev PT_zm : TE := [(33, ⟨.int .u64 0, 1, 8, .sc (.int .u64), none⟩)]
theorem PT_z1x : Prg Try.prog PT_zm := ⟨(.cons pe_33 (TEok.nil _)), by kernel_rfl⟩
noncomputable abbrev PO_zm {α : Type} (F_zo : Sg_zo α) (F_z8 : Sg_z8 α) : ORC α := [(70, .pure (ad_zo F_zo)), (71, .pure (ad_z8 F_z8))]
set_option maxRecDepth 100000 in
theorem ok_zm {α : Type} (F_zo : Sg_zo α) (F_z8 : Sg_z8 α) (x0 : Int) (x1 : Int) (x2 : Int) (k : Int → R α) : bodyL PT_zm (PO_zm F_zo F_z8) [] ⟨1, []⟩ Try.f78 [(.int .u64 x0), (.int .i64 x1), (.int .i64 x2)] emp (fun v _ => dR_word_Bits v k) = p_zm F_zo F_z8 x0 x1 x2 k := by kernel_rfl
theorem mk_zm {α : Type} {I : Imm} {F_zo : Sg_zo α} {F_z8 : Sg_z8 α} (h_zo : OrcOk (α := α) Try.prog I 70 (.pure (ad_zo F_zo))) (h_z8 : OrcOk (α := α) Try.prog I 71 (.pure (ad_z8 F_z8))) : OrcOk (α := α) Try.prog I 78 (.pure (ad_zm (p_zm F_zo F_z8))) := by
  refine orc_pureK PT_z1x (O := PO_zm F_zo F_z8) (OOk.cons h_zo (OOk.cons h_z8 (OOk.nil))) (L := []) ⟨1, []⟩ Try.func78 (by kernel_rfl) (by kernel_rfl) (by kernel_rfl) FLOk.nil ?_
  intro args k r hk
  unfold ad_zm at hk
  split at hk <;> try (cases hk; done)
  obtain ⟨x0, rfl, hk0⟩ := decI_spec hk
  obtain ⟨x1, rfl, hk1⟩ := decI_spec hk0
  obtain ⟨x2, rfl, hk2⟩ := decI_spec hk1
  have hkz := hk2
  refine ⟨by simp [Ids, Idss], fun v => dR_word_Bits v (fun r0 => k (.int .u64 r0)), ?_, fun v hv => ?_⟩
  · rw [ok_zm]; exact hkz
  · obtain ⟨r0, rfl, hv1⟩ := dR_word_Bits_spec hv; exact ⟨hv1, by simp [Ids, Idss]⟩
theorem pe_40 : TyOk Try.prog 40 ⟨.ints .u64 29 (fun _ => 0), 29, 232, .ar 29 33 1 false, some (.ar 29 1 (.it .u64))⟩ := ⟨fun _ => by kernel_rfl, ⟨rfl, rfl, fun _ _ => by simp [Wf, Wfs]⟩, ⟨Try.underlying40, by kernel_rfl, by kernel_rfl⟩, fun _ h => by cases h; exact ⟨by kernel_rfl, by kernel_rfl⟩⟩
abbrev PT_zk : TE := [(33, ⟨.int .u64 0, 1, 8, .sc (.int .u64), none⟩), (40, ⟨.ints .u64 29 (fun _ => 0), 29, 232, .ar 29 33 1 false, some (.ar 29 1 (.it .u64))⟩), (42, ⟨.agg [.ints .u64 32 (fun _ => 0), .int .u64 0, .int .i64 0, .bool false, .ints .u64 29 (fun _ => 0), .int .u64 0], 65, 520, .st [(0, 32, true), (32, 1, false), (33, 1, false), (34, 1, false), (35, 29, true), (64, 1, false)], some (.st [(0, 32, true, .ar 32 1 (.it .u64)), (32, 1, false, .it .u64), (33, 1, false, .it .i64), (34, 1, false, .bl), (35, 29, true, .ar 29 1 (.it .u64)), (64, 1, false, .it .u64)])⟩)]
theorem PT_z1y : Prg Try.prog PT_zk := ⟨(.cons pe_33 (.cons pe_40 (.cons pe_42 (TEok.nil _)))), by kernel_rfl⟩
noncomputable abbrev PO_zk {α : Type} (F_zm : Sg_zm α) : ORC α := [(78, .pure (ad_zm F_zm))]
set_option maxRecDepth 100000 in
theorem ok_zk {α : Type} (F_zm : Sg_zm α) (x0 : GState) (x1 : Int) (x2 : Int) (k : Bool → R α) : bodyL PT_zk (PO_zk F_zm) [] ⟨1, []⟩ Try.f52 [(GState.sv x0), (.int .i64 x1), (.int .i64 x2)] emp (fun v _ => dR_csr_Bit v k) = p_zk F_zm x0 x1 x2 k := by kernel_rfl
theorem mk_zk {α : Type} {I : Imm} {F_zm : Sg_zm α} (h_zm : OrcOk (α := α) Try.prog I 78 (.pure (ad_zm F_zm))) : OrcOk (α := α) Try.prog I 52 (.pure (ad_zk (p_zk F_zm))) := by
  refine orc_pureK PT_z1y (O := PO_zk F_zm) (OOk.cons h_zm (OOk.nil)) (L := []) ⟨1, []⟩ Try.func52 (by kernel_rfl) (by kernel_rfl) (by kernel_rfl) FLOk.nil ?_
  intro args k r hk
  unfold ad_zk at hk
  split at hk <;> try (cases hk; done)
  obtain ⟨x0, rfl, hk0⟩ := GState.dec_spec hk
  obtain ⟨x1, rfl, hk1⟩ := decI_spec hk0
  obtain ⟨x2, rfl, hk2⟩ := decI_spec hk1
  have hkz := hk2
  refine ⟨by simp [Ids, Idss], fun v => dR_csr_Bit v (fun r0 => k (.bool r0)), ?_, fun v hv => ?_⟩
  · rw [ok_zk]; exact hkz
  · obtain ⟨r0, rfl, hv1⟩ := dR_csr_Bit_spec hv; exact ⟨hv1, by simp [Ids, Idss]⟩
abbrev PT_zn : TE := [(33, ⟨.int .u64 0, 1, 8, .sc (.int .u64), none⟩)]
theorem PT_z3a : Prg Try.prog PT_zn := ⟨(.cons pe_33 (TEok.nil _)), by kernel_rfl⟩
noncomputable abbrev PO_zn {α : Type}  : ORC α := []
set_option maxRecDepth 100000 in
theorem ok_zn {α : Type}  (x0 : Int) (k : Int → R α) : bodyL PT_zn (PO_zn ) [] ⟨1, []⟩ Try.f86 [(.int .u64 x0)] emp (fun v _ => dR_access_sort v k) = p_zn  x0 k := by kernel_rfl
theorem mk_zn {α : Type} {I : Imm}  : OrcOk (α := α) Try.prog I 86 (.pure (ad_zn (p_zn ))) := by
  refine orc_pureK PT_z3a (O := PO_zn ) (OOk.nil) (L := []) ⟨1, []⟩ Try.func86 (by kernel_rfl) (by kernel_rfl) (by kernel_rfl) FLOk.nil ?_
  intro args k r hk
  unfold ad_zn at hk
  split at hk <;> try (cases hk; done)
  obtain ⟨x0, rfl, hk0⟩ := decI_spec hk
  have hkz := hk0
  refine ⟨by simp [Ids, Idss], fun v => dR_access_sort v (fun r0 => k (.int .i64 r0)), ?_, fun v hv => ?_⟩
  · rw [ok_zn]; exact hkz
  · obtain ⟨r0, rfl, hv1⟩ := dR_access_sort_spec hv; exact ⟨hv1, by simp [Ids, Idss]⟩
abbrev PT_z4 : TE := [(3, ⟨.int .i64 0, 1, 8, .sc (.int .i64), none⟩)]
theorem PT_z3b : Prg Try.prog PT_z4 := ⟨(.cons pe_3 (TEok.nil _)), by kernel_rfl⟩
noncomputable abbrev PO_z4 {α : Type}  : ORC α := []
set_option maxRecDepth 100000 in
theorem ok_z4 {α : Type}  (x0 : Int) (k : Int → R α) : bodyL PT_z4 (PO_z4 ) [] ⟨1, []⟩ Try.f64 [(.int .i64 x0)] emp (fun v _ => dR_insn_Size v k) = p_z4  x0 k := by kernel_rfl
theorem mk_z4 {α : Type} {I : Imm}  : OrcOk (α := α) Try.prog I 64 (.pure (ad_z4 (p_z4 ))) := by
  refine orc_pureK PT_z3b (O := PO_z4 ) (OOk.nil) (L := []) ⟨1, []⟩ Try.func64 (by kernel_rfl) (by kernel_rfl) (by kernel_rfl) FLOk.nil ?_
  intro args k r hk
  unfold ad_z4 at hk
  split at hk <;> try (cases hk; done)
  obtain ⟨x0, rfl, hk0⟩ := decI_spec hk
  have hkz := hk0
  refine ⟨by simp [Ids, Idss], fun v => dR_insn_Size v (fun r0 => k (.int .i64 r0)), ?_, fun v hv => ?_⟩
  · rw [ok_z4]; exact hkz
  · obtain ⟨r0, rfl, hv1⟩ := dR_insn_Size_spec hv; exact ⟨hv1, by simp [Ids, Idss]⟩
abbrev PT_zj : TE := [(3, ⟨.int .i64 0, 1, 8, .sc (.int .i64), none⟩), (33, ⟨.int .u64 0, 1, 8, .sc (.int .u64), none⟩)]
theorem PT_z1v : Prg Try.prog PT_zj := ⟨(.cons pe_3 (.cons pe_33 (TEok.nil _))), by kernel_rfl⟩
noncomputable abbrev PO_zj {α : Type} (F_z8 : Sg_z8 α) : ORC α := [(71, .pure (ad_z8 F_z8))]
set_option maxRecDepth 100000 in
theorem ok_zj {α : Type} (F_z8 : Sg_z8 α) (x0 : Int) (x1 : Int) (k : Int → R α) : bodyL PT_zj (PO_zj F_z8) [] ⟨1, []⟩ Try.f49 [(.int .u64 x0), (.int .i64 x1)] emp (fun v _ => dR_word_Zext v k) = p_zj F_z8 x0 x1 k := by kernel_rfl
theorem mk_zj {α : Type} {I : Imm} {F_z8 : Sg_z8 α} (h_z8 : OrcOk (α := α) Try.prog I 71 (.pure (ad_z8 F_z8))) : OrcOk (α := α) Try.prog I 49 (.pure (ad_zj (p_zj F_z8))) := by
  refine orc_pureK PT_z1v (O := PO_zj F_z8) (OOk.cons h_z8 (OOk.nil)) (L := []) ⟨1, []⟩ Try.func49 (by kernel_rfl) (by kernel_rfl) (by kernel_rfl) FLOk.nil ?_
  intro args k r hk
  unfold ad_zj at hk
  split at hk <;> try (cases hk; done)
  obtain ⟨x0, rfl, hk0⟩ := decI_spec hk
  obtain ⟨x1, rfl, hk1⟩ := decI_spec hk0
  have hkz := hk1
  refine ⟨by simp [Ids, Idss], fun v => dR_word_Zext v (fun r0 => k (.int .u64 r0)), ?_, fun v hv => ?_⟩
  · rw [ok_zj]; exact hkz
  · obtain ⟨r0, rfl, hv1⟩ := dR_word_Zext_spec hv; exact ⟨hv1, by simp [Ids, Idss]⟩
abbrev PT_zp : TE := [(2, ⟨.int .i64 0, 1, 8, .sc (.int .i64), none⟩), (3, ⟨.int .i64 0, 1, 8, .sc (.int .i64), none⟩), (33, ⟨.int .u64 0, 1, 8, .sc (.int .u64), none⟩)]
theorem PT_z3c : Prg Try.prog PT_zp := ⟨(.cons pe_2 (.cons pe_3 (.cons pe_33 (TEok.nil _)))), by kernel_rfl⟩
noncomputable abbrev PO_zp {α : Type}  : ORC α := []
set_option maxRecDepth 100000 in
theorem ok_zp {α : Type}  (x0 : Int) (x1 : Int) (k : Int → R α) : bodyL PT_zp (PO_zp ) [] ⟨1, []⟩ Try.f87 [(.int .u64 x0), (.int .i64 x1)] emp (fun v _ => dR_word_Sext v k) = p_zp  x0 x1 k := by kernel_rfl
theorem mk_zp {α : Type} {I : Imm}  : OrcOk (α := α) Try.prog I 87 (.pure (ad_zp (p_zp ))) := by
  refine orc_pureK PT_z3c (O := PO_zp ) (OOk.nil) (L := []) ⟨1, []⟩ Try.func87 (by kernel_rfl) (by kernel_rfl) (by kernel_rfl) FLOk.nil ?_
  intro args k r hk
  unfold ad_zp at hk
  split at hk <;> try (cases hk; done)
  obtain ⟨x0, rfl, hk0⟩ := decI_spec hk
  obtain ⟨x1, rfl, hk1⟩ := decI_spec hk0
  have hkz := hk1
  refine ⟨by simp [Ids, Idss], fun v => dR_word_Sext v (fun r0 => k (.int .u64 r0)), ?_, fun v hv => ?_⟩
  · rw [ok_zp]; exact hkz
  · obtain ⟨r0, rfl, hv1⟩ := dR_word_Sext_spec hv; exact ⟨hv1, by simp [Ids, Idss]⟩
abbrev PT_z2 : TE := [(3, ⟨.int .i64 0, 1, 8, .sc (.int .i64), none⟩)]
theorem PT_z3d : Prg Try.prog PT_z2 := ⟨(.cons pe_3 (TEok.nil _)), by kernel_rfl⟩
noncomputable abbrev PO_z2 {α : Type} (F_z4 : Sg_z4 α) (F_zj : Sg_zj α) (F_zp : Sg_zp α) : ORC α := [(64, .pure (ad_z4 F_z4)), (49, .pure (ad_zj F_zj)), (87, .pure (ad_zp F_zp))]
set_option maxRecDepth 100000 in
theorem ok_z2 {α : Type} (F_z4 : Sg_z4 α) (F_zj : Sg_zj α) (F_zp : Sg_zp α) (x0 : Int) (x1 : Int) (k : Int → R α) : bodyL PT_z2 (PO_z2 F_z4 F_zj F_zp) [] ⟨1, []⟩ Try.f65 [(.int .i64 x0), (.int .u64 x1)] emp (fun v _ => dR_alu_Extend v k) = p_z2 F_z4 F_zj F_zp x0 x1 k := by kernel_rfl
theorem mk_z2 {α : Type} {I : Imm} {F_z4 : Sg_z4 α} {F_zj : Sg_zj α} {F_zp : Sg_zp α} (h_z4 : OrcOk (α := α) Try.prog I 64 (.pure (ad_z4 F_z4))) (h_zj : OrcOk (α := α) Try.prog I 49 (.pure (ad_zj F_zj))) (h_zp : OrcOk (α := α) Try.prog I 87 (.pure (ad_zp F_zp))) : OrcOk (α := α) Try.prog I 65 (.pure (ad_z2 (p_z2 F_z4 F_zj F_zp))) := by
  refine orc_pureK PT_z3d (O := PO_z2 F_z4 F_zj F_zp) (OOk.cons h_z4 (OOk.cons h_zj (OOk.cons h_zp (OOk.nil)))) (L := []) ⟨1, []⟩ Try.func65 (by kernel_rfl) (by kernel_rfl) (by kernel_rfl) FLOk.nil ?_
  intro args k r hk
  unfold ad_z2 at hk
  split at hk <;> try (cases hk; done)
  obtain ⟨x0, rfl, hk0⟩ := decI_spec hk
  obtain ⟨x1, rfl, hk1⟩ := decI_spec hk0
  have hkz := hk1
  refine ⟨by simp [Ids, Idss], fun v => dR_alu_Extend v (fun r0 => k (.int .u64 r0)), ?_, fun v hv => ?_⟩
  · rw [ok_z2]; exact hkz
  · obtain ⟨r0, rfl, hv1⟩ := dR_alu_Extend_spec hv; exact ⟨hv1, by simp [Ids, Idss]⟩
abbrev PT_z9 : TE := [(33, ⟨.int .u64 0, 1, 8, .sc (.int .u64), none⟩), (42, ⟨.agg [.ints .u64 32 (fun _ => 0), .int .u64 0, .int .i64 0, .bool false, .ints .u64 29 (fun _ => 0), .int .u64 0], 65, 520, .st [(0, 32, true), (32, 1, false), (33, 1, false), (34, 1, false), (35, 29, true), (64, 1, false)], some (.st [(0, 32, true, .ar 32 1 (.it .u64)), (32, 1, false, .it .u64), (33, 1, false, .it .i64), (34, 1, false, .bl), (35, 29, true, .ar 29 1 (.it .u64)), (64, 1, false, .it .u64)])⟩), (45, ⟨.agg [.bool false, .bool false, .int .i64 0, .int .i64 0, .int .i64 0, .int .i64 0, .int .i64 0, .int .i64 0, .int .i64 0], 9, 64, .st [(0, 1, false), (1, 1, false), (2, 1, false), (3, 1, false), (4, 1, false), (5, 1, false), (6, 1, false), (7, 1, false), (8, 1, false)], some (.st [(0, 1, false, .bl), (1, 1, false, .bl), (2, 1, false, .it .i64), (3, 1, false, .it .i64), (4, 1, false, .it .i64), (5, 1, false, .it .i64), (6, 1, false, .it .i64), (7, 1, false, .it .i64), (8, 1, false, .it .i64)])⟩), (47, ⟨.agg [.int .u64 0, .int .u64 0, .int .u64 0, .bool false], 4, 32, .st [(0, 1, false), (1, 1, false), (2, 1, false), (3, 1, false)], some (.st [(0, 1, false, .it .u64), (1, 1, false, .it .u64), (2, 1, false, .it .u64), (3, 1, false, .bl)])⟩), (122, ⟨.ints .u64 3 (fun _ => 0), 3, 24, .ar 3 33 1 false, some (.ar 3 1 (.it .u64))⟩)]
theorem PT_z1k : Prg Try.prog PT_z9 := ⟨(.cons pe_33 (.cons pe_42 (.cons pe_45 (.cons pe_47 (.cons pe_122 (TEok.nil _)))))), by kernel_rfl⟩
noncomputable abbrev B_z23 {α : Type} (F_z6 : Sg_z6 α) (F_za : Sg_za α) (F_zn : Sg_zn α) (F_z3 : Sg_z3 α) (F_z2 : Sg_z2 α) : FF α := byBody PT_bus_Bus_Mem [] ⟨1, []⟩ Try.f43
theorem cB_z23 {α : Type} {I : Imm} {F_z6 : Sg_z6 α} {F_za : Sg_za α} {F_zn : Sg_zn α} {F_z3 : Sg_z3 α} {F_z2 : Sg_z2 α} (h_z6 : OrcOk (α := α) Try.prog I 42 (.pure (ad_z6 F_z6))) (h_za : OrcOk (α := α) Try.prog I 12 (.full (ad_za F_za))) (h_zn : OrcOk (α := α) Try.prog I 86 (.pure (ad_zn F_zn))) (h_z3 : OrcOk (α := α) Try.prog I 44 (.full (ad_z3 F_z3))) (h_z2 : OrcOk (α := α) Try.prog I 65 (.pure (ad_z2 F_z2))) : OrcOk (α := α) Try.prog I 43 (.full (B_z23 F_z6 F_za F_zn F_z3 F_z2)) := orc_body PT_bus_Bus_Mem_ok (OOk.nil) ⟨1, []⟩ Try.func43 (by kernel_rfl) (by kernel_rfl) (by kernel_rfl)
noncomputable abbrev PO_z9 {α : Type} (F_z6 : Sg_z6 α) (F_za : Sg_za α) (F_zn : Sg_zn α) (F_z3 : Sg_z3 α) (F_z2 : Sg_z2 α) : ORC α := [(42, .pure (ad_z6 F_z6)), (43, .full (B_z23 F_z6 F_za F_zn F_z3 F_z2)), (12, .full (ad_za F_za)), (86, .pure (ad_zn F_zn)), (44, .full (ad_z3 F_z3)), (65, .pure (ad_z2 F_z2))]
set_option maxRecDepth 100000 in
theorem ok_z9 {α : Type} (F_z6 : Sg_z6 α) (F_za : Sg_za α) (F_zn : Sg_zn α) (F_z3 : Sg_z3 α) (F_z2 : Sg_z2 α) (x0 : GBus) (x1 : GState) (x2 : Int) (x3 : Int) (k : GBus → Int → GFault → Bool → R α) : bodyL PT_z9 (PO_z9 F_z6 F_za F_zn F_z3 F_z2) [] ⟨1, []⟩ Try.f63 (E_z9.encs (x0, x1, x2, x3, ()) (fun i => i) 0) (hp (E_z9.objss (x0, x1, x2, x3, ()) (fun i => i) 0)) (dRo M_z9 Q_z9 false (selN (E_z9.encs (x0, x1, x2, x3, ()) (fun i => i) 0) [0]) (fun y z => k y.1 z.1 z.2.1 z.2.2.1)) = p_z9 F_z6 F_za F_zn F_z3 F_z2 x0 x1 x2 x3 k := by kernel_rfl
theorem mk_z9 {α : Type} {I : Imm} {F_z6 : Sg_z6 α} {F_za : Sg_za α} {F_zn : Sg_zn α} {F_z3 : Sg_z3 α} {F_z2 : Sg_z2 α} (h_z6 : OrcOk (α := α) Try.prog I 42 (.pure (ad_z6 F_z6))) (h_za : OrcOk (α := α) Try.prog I 12 (.full (ad_za F_za))) (h_zn : OrcOk (α := α) Try.prog I 86 (.pure (ad_zn F_zn))) (h_z3 : OrcOk (α := α) Try.prog I 44 (.full (ad_z3 F_z3))) (h_z2 : OrcOk (α := α) Try.prog I 65 (.pure (ad_z2 F_z2))) {F : Sg_z9 α} (hF : ∀ x0 x1 x2 x3 k r, F x0 x1 x2 x3 k = some r → p_z9 F_z6 F_za F_zn F_z3 F_z2 x0 x1 x2 x3 k = some r) : OrcOk (α := α) Try.prog I 63 (.full (ad_z9 F)) :=
  orc_obj PT_z1k (O := PO_z9 F_z6 F_za F_zn F_z3 F_z2) (OOk.cons h_z6 (OOk.cons (cB_z23 h_z6 h_za h_zn h_z3 h_z2) (OOk.cons h_za (OOk.cons h_zn (OOk.cons h_z3 (OOk.cons h_z2 (OOk.nil))))))) (L := []) ⟨1, []⟩ Try.func63 (by kernel_rfl) (by kernel_rfl) (by kernel_rfl) FLOk.nil E_z1k M_z1k Q_z1k rfl (oi := [0]) fun ⟨x0, x1, x2, x3, ()⟩ k r h => (ok_z9 F_z6 F_za F_zn F_z3 F_z2 x0 x1 x2 x3 (fun y0 z0 z1 z2 => k (y0, ()) (z0, z1, z2, ()))).trans (hF x0 x1 x2 x3 _ r h)
theorem pe_39 : TyOk Try.prog 39 ⟨.ints .u64 32 (fun _ => 0), 32, 256, .ar 32 33 1 false, some (.ar 32 1 (.it .u64))⟩ := ⟨fun _ => by kernel_rfl, ⟨rfl, rfl, fun _ _ => by simp [Wf, Wfs]⟩, ⟨Try.underlying39, by kernel_rfl, by kernel_rfl⟩, fun _ h => by cases h; exact ⟨by kernel_rfl, by kernel_rfl⟩⟩
abbrev PT_zh : TE := [(2, ⟨.int .i64 0, 1, 8, .sc (.int .i64), none⟩), (3, ⟨.int .i64 0, 1, 8, .sc (.int .i64), none⟩), (4, ⟨.bool false, 1, 1, .sc (.bool), none⟩), (33, ⟨.int .u64 0, 1, 8, .sc (.int .u64), none⟩), (39, ⟨.ints .u64 32 (fun _ => 0), 32, 256, .ar 32 33 1 false, some (.ar 32 1 (.it .u64))⟩), (42, ⟨.agg [.ints .u64 32 (fun _ => 0), .int .u64 0, .int .i64 0, .bool false, .ints .u64 29 (fun _ => 0), .int .u64 0], 65, 520, .st [(0, 32, true), (32, 1, false), (33, 1, false), (34, 1, false), (35, 29, true), (64, 1, false)], some (.st [(0, 32, true, .ar 32 1 (.it .u64)), (32, 1, false, .it .u64), (33, 1, false, .it .i64), (34, 1, false, .bl), (35, 29, true, .ar 29 1 (.it .u64)), (64, 1, false, .it .u64)])⟩), (47, ⟨.agg [.int .u64 0, .int .u64 0, .int .u64 0, .bool false], 4, 32, .st [(0, 1, false), (1, 1, false), (2, 1, false), (3, 1, false)], some (.st [(0, 1, false, .it .u64), (1, 1, false, .it .u64), (2, 1, false, .it .u64), (3, 1, false, .bl)])⟩), (92, ⟨.agg [.int .i64 0, .int .i64 0, .int .i64 0, .int .i64 0, .int .i64 0, .int .i64 0], 6, 48, .st [(0, 1, false), (1, 1, false), (2, 1, false), (3, 1, false), (4, 1, false), (5, 1, false)], some (.st [(0, 1, false, .it .i64), (1, 1, false, .it .i64), (2, 1, false, .it .i64), (3, 1, false, .it .i64), (4, 1, false, .it .i64), (5, 1, false, .it .i64)])⟩)]
theorem PT_z1l : Prg Try.prog PT_zh := ⟨(.cons pe_2 (.cons pe_3 (.cons pe_4 (.cons pe_33 (.cons pe_39 (.cons pe_42 (.cons pe_47 (.cons pe_92 (TEok.nil _))))))))), by kernel_rfl⟩
noncomputable abbrev PO_zh {α : Type} (F_z5 : Sg_z5 α) (F_zr : Sg_zr α) (F_zk : Sg_zk α) (F_z9 : Sg_z9 α) (F_z4 : Sg_z4 α) (F_z1 : Sg_z1 α) (F_z2 : Sg_z2 α) : ORC α := [(61, .pure (ad_z5 F_z5)), (62, .pure (ad_zr F_zr)), (52, .pure (ad_zk F_zk)), (63, .full (ad_z9 F_z9)), (64, .pure (ad_z4 F_z4)), (18, .full (ad_z1 F_z1)), (65, .pure (ad_z2 F_z2))]
set_option maxRecDepth 100000 in
theorem ok_zh {α : Type} (F_z5 : Sg_z5 α) (F_zr : Sg_zr α) (F_zk : Sg_zk α) (F_z9 : Sg_z9 α) (F_z4 : Sg_z4 α) (F_z1 : Sg_z1 α) (F_z2 : Sg_z2 α) (x0 : GBus) (x1 : GState) (x2 : GInsn) (k : GBus → Int → GFault → Bool → R α) : bodyL PT_zh (PO_zh F_z5 F_zr F_zk F_z9 F_z4 F_z1 F_z2) [] ⟨1, []⟩ Try.f40 (E_zh.encs (x0, x1, x2, ()) (fun i => i) 0) (hp (E_zh.objss (x0, x1, x2, ()) (fun i => i) 0)) (dRo M_zh Q_zh false (selN (E_zh.encs (x0, x1, x2, ()) (fun i => i) 0) [0]) (fun y z => k y.1 z.1 z.2.1 z.2.2.1)) = p_zh F_z5 F_zr F_zk F_z9 F_z4 F_z1 F_z2 x0 x1 x2 k := by kernel_rfl
theorem mk_zh {α : Type} {I : Imm} {F_z5 : Sg_z5 α} {F_zr : Sg_zr α} {F_zk : Sg_zk α} {F_z9 : Sg_z9 α} {F_z4 : Sg_z4 α} {F_z1 : Sg_z1 α} {F_z2 : Sg_z2 α} (h_z5 : OrcOk (α := α) Try.prog I 61 (.pure (ad_z5 F_z5))) (h_zr : OrcOk (α := α) Try.prog I 62 (.pure (ad_zr F_zr))) (h_zk : OrcOk (α := α) Try.prog I 52 (.pure (ad_zk F_zk))) (h_z9 : OrcOk (α := α) Try.prog I 63 (.full (ad_z9 F_z9))) (h_z4 : OrcOk (α := α) Try.prog I 64 (.pure (ad_z4 F_z4))) (h_z1 : OrcOk (α := α) Try.prog I 18 (.full (ad_z1 F_z1))) (h_z2 : OrcOk (α := α) Try.prog I 65 (.pure (ad_z2 F_z2))) {F : Sg_zh α} (hF : ∀ x0 x1 x2 k r, F x0 x1 x2 k = some r → p_zh F_z5 F_zr F_zk F_z9 F_z4 F_z1 F_z2 x0 x1 x2 k = some r) : OrcOk (α := α) Try.prog I 40 (.full (ad_zh F)) :=
  orc_obj PT_z1l (O := PO_zh F_z5 F_zr F_zk F_z9 F_z4 F_z1 F_z2) (OOk.cons h_z5 (OOk.cons h_zr (OOk.cons h_zk (OOk.cons h_z9 (OOk.cons h_z4 (OOk.cons h_z1 (OOk.cons h_z2 (OOk.nil)))))))) (L := []) ⟨1, []⟩ Try.func40 (by kernel_rfl) (by kernel_rfl) (by kernel_rfl) FLOk.nil E_z1l M_z1l Q_z1l rfl (oi := [0]) fun ⟨x0, x1, x2, ()⟩ k r h => (ok_zh F_z5 F_zr F_zk F_z9 F_z4 F_z1 F_z2 x0 x1 x2 (fun y0 z0 z1 z2 => k (y0, ()) (z0, z1, z2, ()))).trans (hF x0 x1 x2 _ r h)
theorem pe_93 : TyOk Try.prog 93 ⟨.int .u32 0, 1, 4, .sc (.int .u32), none⟩ := ⟨fun _ => by kernel_rfl, ⟨rfl, rfl, fun _ _ => by simp [Wf, Wfs]⟩, ⟨Try.underlying93, rfl⟩, fun _ h => by cases h⟩
abbrev PT_zi : TE := [(3, ⟨.int .i64 0, 1, 8, .sc (.int .i64), none⟩), (4, ⟨.bool false, 1, 1, .sc (.bool), none⟩), (33, ⟨.int .u64 0, 1, 8, .sc (.int .u64), none⟩), (42, ⟨.agg [.ints .u64 32 (fun _ => 0), .int .u64 0, .int .i64 0, .bool false, .ints .u64 29 (fun _ => 0), .int .u64 0], 65, 520, .st [(0, 32, true), (32, 1, false), (33, 1, false), (34, 1, false), (35, 29, true), (64, 1, false)], some (.st [(0, 32, true, .ar 32 1 (.it .u64)), (32, 1, false, .it .u64), (33, 1, false, .it .i64), (34, 1, false, .bl), (35, 29, true, .ar 29 1 (.it .u64)), (64, 1, false, .it .u64)])⟩), (47, ⟨.agg [.int .u64 0, .int .u64 0, .int .u64 0, .bool false], 4, 32, .st [(0, 1, false), (1, 1, false), (2, 1, false), (3, 1, false)], some (.st [(0, 1, false, .it .u64), (1, 1, false, .it .u64), (2, 1, false, .it .u64), (3, 1, false, .bl)])⟩), (93, ⟨.int .u32 0, 1, 4, .sc (.int .u32), none⟩)]
theorem PT_z1m : Prg Try.prog PT_zi := ⟨(.cons pe_3 (.cons pe_4 (.cons pe_33 (.cons pe_42 (.cons pe_47 (.cons pe_93 (TEok.nil _))))))), by kernel_rfl⟩
noncomputable abbrev PO_zi {α : Type} (F_z1 : Sg_z1 α) : ORC α := [(18, .full (ad_z1 F_z1))]
set_option maxRecDepth 100000 in
theorem ok_zi {α : Type} (F_z1 : Sg_z1 α) (x0 : GBus) (x1 : GState) (k : GBus → Int → GFault → Bool → R α) : bodyL PT_zi (PO_zi F_z1) [] ⟨1, []⟩ Try.f41 (E_zi.encs (x0, x1, ()) (fun i => i) 0) (hp (E_zi.objss (x0, x1, ()) (fun i => i) 0)) (dRo M_zi Q_zi false (selN (E_zi.encs (x0, x1, ()) (fun i => i) 0) [0]) (fun y z => k y.1 z.1 z.2.1 z.2.2.1)) = p_zi F_z1 x0 x1 k := by kernel_rfl
theorem mk_zi {α : Type} {I : Imm} {F_z1 : Sg_z1 α} (h_z1 : OrcOk (α := α) Try.prog I 18 (.full (ad_z1 F_z1))) {F : Sg_zi α} (hF : ∀ x0 x1 k r, F x0 x1 k = some r → p_zi F_z1 x0 x1 k = some r) : OrcOk (α := α) Try.prog I 41 (.full (ad_zi F)) :=
  orc_obj PT_z1m (O := PO_zi F_z1) (OOk.cons h_z1 (OOk.nil)) (L := []) ⟨1, []⟩ Try.func41 (by kernel_rfl) (by kernel_rfl) (by kernel_rfl) FLOk.nil E_z1m M_z1m Q_z1m rfl (oi := [0]) fun ⟨x0, x1, ()⟩ k r h => (ok_zi F_z1 x0 x1 (fun y0 z0 z1 z2 => k (y0, ()) (z0, z1, z2, ()))).trans (hF x0 x1 _ r h)
abbrev PT_zd : TE := [(33, ⟨.int .u64 0, 1, 8, .sc (.int .u64), none⟩), (39, ⟨.ints .u64 32 (fun _ => 0), 32, 256, .ar 32 33 1 false, some (.ar 32 1 (.it .u64))⟩), (42, ⟨.agg [.ints .u64 32 (fun _ => 0), .int .u64 0, .int .i64 0, .bool false, .ints .u64 29 (fun _ => 0), .int .u64 0], 65, 520, .st [(0, 32, true), (32, 1, false), (33, 1, false), (34, 1, false), (35, 29, true), (64, 1, false)], some (.st [(0, 32, true, .ar 32 1 (.it .u64)), (32, 1, false, .it .u64), (33, 1, false, .it .i64), (34, 1, false, .bl), (35, 29, true, .ar 29 1 (.it .u64)), (64, 1, false, .it .u64)])⟩), (47, ⟨.agg [.int .u64 0, .int .u64 0, .int .u64 0, .bool false], 4, 32, .st [(0, 1, false), (1, 1, false), (2, 1, false), (3, 1, false)], some (.st [(0, 1, false, .it .u64), (1, 1, false, .it .u64), (2, 1, false, .it .u64), (3, 1, false, .bl)])⟩), (92, ⟨.agg [.int .i64 0, .int .i64 0, .int .i64 0, .int .i64 0, .int .i64 0, .int .i64 0], 6, 48, .st [(0, 1, false), (1, 1, false), (2, 1, false), (3, 1, false), (4, 1, false), (5, 1, false)], some (.st [(0, 1, false, .it .i64), (1, 1, false, .it .i64), (2, 1, false, .it .i64), (3, 1, false, .it .i64), (4, 1, false, .it .i64), (5, 1, false, .it .i64)])⟩), (93, ⟨.int .u32 0, 1, 4, .sc (.int .u32), none⟩)]
theorem PT_z3e : Prg Try.prog PT_zd := ⟨(.cons pe_33 (.cons pe_39 (.cons pe_42 (.cons pe_47 (.cons pe_92 (.cons pe_93 (TEok.nil _))))))), by kernel_rfl⟩
abbrev PT_bus_New : TE := [(28, ⟨.nilp, 1, 8, .sc (.pointer 72), none⟩), (105, ⟨.agg [.nilp, .agg [.agg [], .agg [], .int .u64 0], .int .u64 0, .arr 3 4 (fun _ => .agg [.nils, .nils, .int .i64 0])], 15, 248, .st [(0, 1, false), (1, 1, true), (2, 1, false), (3, 12, true)], none⟩)]
theorem PT_bus_New_ok : Prg Try.prog PT_bus_New := ⟨(.cons pe_28 (.cons pe_105 (TEok.nil _))), by kernel_rfl⟩
noncomputable abbrev B_z24 {α : Type} (F_z1 : Sg_z1 α) (F_zh : Sg_zh α) (F_zi : Sg_zi α) : FF α := byBody PT_bus_New [(24, .full newF)] ⟨1, []⟩ Try.f17
theorem cB_z24 {α : Type} {I : Imm} {F_z1 : Sg_z1 α} {F_zh : Sg_zh α} {F_zi : Sg_zi α} (h_zx : OrcOk (α := α) Try.prog I 24 (.full newF)) (h_z1 : OrcOk (α := α) Try.prog I 18 (.full (ad_z1 F_z1))) (h_zh : OrcOk (α := α) Try.prog I 40 (.full (ad_zh F_zh))) (h_zi : OrcOk (α := α) Try.prog I 41 (.full (ad_zi F_zi))) : OrcOk (α := α) Try.prog I 17 (.full (B_z24 F_z1 F_zh F_zi)) := orc_body PT_bus_New_ok (OOk.cons h_zx (OOk.nil)) ⟨1, []⟩ Try.func17 (by kernel_rfl) (by kernel_rfl) (by kernel_rfl)
noncomputable abbrev PO_zd {α : Type} (F_z1 : Sg_z1 α) (F_zh : Sg_zh α) (F_zi : Sg_zi α) : ORC α := [(17, .full (B_z24 F_z1 F_zh F_zi)), (18, .full (ad_z1 F_z1)), (40, .full (ad_zh F_zh)), (41, .full (ad_zi F_zi))]
set_option maxRecDepth 100000 in
theorem ok_zd {α : Type} (F_z1 : Sg_z1 α) (F_zh : Sg_zh α) (F_zi : Sg_zi α)  (k : Bool → R α) : bodyL PT_zd (PO_zd F_z1 F_zh F_zi) [] ⟨1, []⟩ Try.f16 [] emp (fun v _ => dR_law17_known v k) = p_zd F_z1 F_zh F_zi  k := by kernel_rfl
theorem mk_zd {α : Type} {I : Imm} {F_z1 : Sg_z1 α} {F_zh : Sg_zh α} {F_zi : Sg_zi α} (h_zx : OrcOk (α := α) Try.prog I 24 (.full newF)) (h_z1 : OrcOk (α := α) Try.prog I 18 (.full (ad_z1 F_z1))) (h_zh : OrcOk (α := α) Try.prog I 40 (.full (ad_zh F_zh))) (h_zi : OrcOk (α := α) Try.prog I 41 (.full (ad_zi F_zi))) : OrcOk (α := α) Try.prog I 16 (.pure (ad_zd (p_zd F_z1 F_zh F_zi))) := by
  refine orc_pureK PT_z3e (O := PO_zd F_z1 F_zh F_zi) (OOk.cons (cB_z24 h_zx h_z1 h_zh h_zi) (OOk.cons h_z1 (OOk.cons h_zh (OOk.cons h_zi (OOk.nil))))) (L := []) ⟨1, []⟩ Try.func16 (by kernel_rfl) (by kernel_rfl) (by kernel_rfl) FLOk.nil ?_
  intro args k r hk
  unfold ad_zd at hk
  split at hk <;> try (cases hk; done)
  have hkz := hk
  refine ⟨by simp [Ids, Idss], fun v => dR_law17_known v (fun r0 => k (.bool r0)), ?_, fun v hv => ?_⟩
  · rw [ok_zd]; exact hkz
  · obtain ⟨r0, rfl, hv1⟩ := dR_law17_known_spec hv; exact ⟨hv1, by simp [Ids, Idss]⟩
theorem pe_57 : TyOk Try.prog 57 ⟨.int .u64 0, 1, 8, .sc (.int .u64), none⟩ := ⟨fun _ => by kernel_rfl, ⟨rfl, rfl, fun _ _ => by simp [Wf, Wfs]⟩, ⟨Try.underlying57, rfl⟩, fun _ h => by cases h⟩
abbrev PT_zg : TE := [(3, ⟨.int .i64 0, 1, 8, .sc (.int .i64), none⟩), (33, ⟨.int .u64 0, 1, 8, .sc (.int .u64), none⟩), (57, ⟨.int .u64 0, 1, 8, .sc (.int .u64), none⟩)]
theorem PT_z3f : Prg Try.prog PT_zg := ⟨(.cons pe_3 (.cons pe_33 (.cons pe_57 (TEok.nil _)))), by kernel_rfl⟩
noncomputable abbrev PO_zg {α : Type}  : ORC α := []
set_option maxRecDepth 100000 in
theorem ok_zg {α : Type}  (x0 : Int) (x1 : Int) (k : Int → R α) : bodyL PT_zg (PO_zg ) [] ⟨1, []⟩ Try.f19 [(.int .u64 x0), (.int .i64 x1)] emp (fun v _ => dR_ref1_Zext v k) = p_zg  x0 x1 k := by kernel_rfl
theorem mk_zg {α : Type} {I : Imm}  : OrcOk (α := α) Try.prog I 19 (.pure (ad_zg (p_zg ))) := by
  refine orc_pureK PT_z3f (O := PO_zg ) (OOk.nil) (L := []) ⟨1, []⟩ Try.func19 (by kernel_rfl) (by kernel_rfl) (by kernel_rfl) FLOk.nil ?_
  intro args k r hk
  unfold ad_zg at hk
  split at hk <;> try (cases hk; done)
  obtain ⟨x0, rfl, hk0⟩ := decI_spec hk
  obtain ⟨x1, rfl, hk1⟩ := decI_spec hk0
  have hkz := hk1
  refine ⟨by simp [Ids, Idss], fun v => dR_ref1_Zext v (fun r0 => k (.int .u64 r0)), ?_, fun v hv => ?_⟩
  · rw [ok_zg]; exact hkz
  · obtain ⟨r0, rfl, hv1⟩ := dR_ref1_Zext_spec hv; exact ⟨hv1, by simp [Ids, Idss]⟩
abbrev PT_zw : TE := [(3, ⟨.int .i64 0, 1, 8, .sc (.int .i64), none⟩), (5, ⟨.int .u8 0, 1, 1, .sc (.int .u8), none⟩), (33, ⟨.int .u64 0, 1, 8, .sc (.int .u64), none⟩), (42, ⟨.agg [.ints .u64 32 (fun _ => 0), .int .u64 0, .int .i64 0, .bool false, .ints .u64 29 (fun _ => 0), .int .u64 0], 65, 520, .st [(0, 32, true), (32, 1, false), (33, 1, false), (34, 1, false), (35, 29, true), (64, 1, false)], some (.st [(0, 32, true, .ar 32 1 (.it .u64)), (32, 1, false, .it .u64), (33, 1, false, .it .i64), (34, 1, false, .bl), (35, 29, true, .ar 29 1 (.it .u64)), (64, 1, false, .it .u64)])⟩), (47, ⟨.agg [.int .u64 0, .int .u64 0, .int .u64 0, .bool false], 4, 32, .st [(0, 1, false), (1, 1, false), (2, 1, false), (3, 1, false)], some (.st [(0, 1, false, .it .u64), (1, 1, false, .it .u64), (2, 1, false, .it .u64), (3, 1, false, .bl)])⟩), (57, ⟨.int .u64 0, 1, 8, .sc (.int .u64), none⟩)]
theorem PT_z3g : Prg Try.prog PT_zw := ⟨(.cons pe_3 (.cons pe_5 (.cons pe_33 (.cons pe_42 (.cons pe_47 (.cons pe_57 (TEok.nil _))))))), by kernel_rfl⟩
noncomputable abbrev B_z25 {α : Type} (F_zd : Sg_zd α) (F_z1 : Sg_z1 α) (F_zg : Sg_zg α) : FF α := byBody PT_bus_New [(24, .full newF)] ⟨1, []⟩ Try.f17
theorem cB_z25 {α : Type} {I : Imm} {F_zd : Sg_zd α} {F_z1 : Sg_z1 α} {F_zg : Sg_zg α} (h_zd : OrcOk (α := α) Try.prog I 16 (.pure (ad_zd F_zd))) (h_zx : OrcOk (α := α) Try.prog I 24 (.full newF)) (h_z1 : OrcOk (α := α) Try.prog I 18 (.full (ad_z1 F_z1))) (h_zg : OrcOk (α := α) Try.prog I 19 (.pure (ad_zg F_zg))) : OrcOk (α := α) Try.prog I 17 (.full (B_z25 F_zd F_z1 F_zg)) := orc_body PT_bus_New_ok (OOk.cons h_zx (OOk.nil)) ⟨1, []⟩ Try.func17 (by kernel_rfl) (by kernel_rfl) (by kernel_rfl)
noncomputable abbrev B_z26 {α : Type} (F_zd : Sg_zd α) (F_z1 : Sg_z1 α) (F_zg : Sg_zg α) : FF α := byBody PT_bus_Bus_IsDevice [] ⟨1, []⟩ Try.f20
theorem cB_z26 {α : Type} {I : Imm} {F_zd : Sg_zd α} {F_z1 : Sg_z1 α} {F_zg : Sg_zg α} (h_zd : OrcOk (α := α) Try.prog I 16 (.pure (ad_zd F_zd))) (h_zx : OrcOk (α := α) Try.prog I 24 (.full newF)) (h_z1 : OrcOk (α := α) Try.prog I 18 (.full (ad_z1 F_z1))) (h_zg : OrcOk (α := α) Try.prog I 19 (.pure (ad_zg F_zg))) : OrcOk (α := α) Try.prog I 20 (.full (B_z26 F_zd F_z1 F_zg)) := orc_body PT_bus_Bus_IsDevice_ok (OOk.nil) ⟨1, []⟩ Try.func20 (by kernel_rfl) (by kernel_rfl) (by kernel_rfl)
noncomputable abbrev PO_zw {α : Type} (F_zd : Sg_zd α) (F_z1 : Sg_z1 α) (F_zg : Sg_zg α) : ORC α := [(16, .pure (ad_zd F_zd)), (17, .full (B_z25 F_zd F_z1 F_zg)), (18, .full (ad_z1 F_z1)), (19, .pure (ad_zg F_zg)), (20, .full (B_z26 F_zd F_z1 F_zg))]
set_option maxRecDepth 100000 in
theorem ok_zw {α : Type} (F_zd : Sg_zd α) (F_z1 : Sg_z1 α) (F_zg : Sg_zg α) (x0 : Int) (x1 : Int) (x2 : Int) (k : Bool → R α) : bodyL PT_zw (PO_zw F_zd F_z1 F_zg) [] ⟨1, []⟩ Try.f5 [(.int .u64 x0), (.int .u8 x1), (.int .u64 x2)] emp (fun v _ => dR_law17_AccessPlain v k) = p_zw F_zd F_z1 F_zg x0 x1 x2 k := by kernel_rfl
theorem mk_zw {α : Type} {I : Imm} {F_zd : Sg_zd α} {F_z1 : Sg_z1 α} {F_zg : Sg_zg α} (h_zd : OrcOk (α := α) Try.prog I 16 (.pure (ad_zd F_zd))) (h_zx : OrcOk (α := α) Try.prog I 24 (.full newF)) (h_z1 : OrcOk (α := α) Try.prog I 18 (.full (ad_z1 F_z1))) (h_zg : OrcOk (α := α) Try.prog I 19 (.pure (ad_zg F_zg))) : OrcOk (α := α) Try.prog I 5 (.pure (ad_zw (p_zw F_zd F_z1 F_zg))) := by
  refine orc_pureK PT_z3g (O := PO_zw F_zd F_z1 F_zg) (OOk.cons h_zd (OOk.cons (cB_z25 h_zd h_zx h_z1 h_zg) (OOk.cons h_z1 (OOk.cons h_zg (OOk.cons (cB_z26 h_zd h_zx h_z1 h_zg) (OOk.nil)))))) (L := []) ⟨1, []⟩ Try.func5 (by kernel_rfl) (by kernel_rfl) (by kernel_rfl) FLOk.nil ?_
  intro args k r hk
  unfold ad_zw at hk
  split at hk <;> try (cases hk; done)
  obtain ⟨x0, rfl, hk0⟩ := decI_spec hk
  obtain ⟨x1, rfl, hk1⟩ := decI_spec hk0
  obtain ⟨x2, rfl, hk2⟩ := decI_spec hk1
  have hkz := hk2
  refine ⟨by simp [Ids, Idss], fun v => dR_law17_AccessPlain v (fun r0 => k (.bool r0)), ?_, fun v hv => ?_⟩
  · rw [ok_zw]; exact hkz
  · obtain ⟨r0, rfl, hv1⟩ := dR_law17_AccessPlain_spec hv; exact ⟨hv1, by simp [Ids, Idss]⟩
end Go.Proofs.Ythcpbmgbehidlaa
