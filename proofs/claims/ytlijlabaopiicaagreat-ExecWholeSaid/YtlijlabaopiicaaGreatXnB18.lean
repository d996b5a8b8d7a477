/-
  The bus and accesses (printed by wip/pr/pr.py): the functions come to just that.
-/
import Derived.Test.YtlijlabaopiicaaGreatXnMem
import Derived.Test.YtlijlabaopiicaaGreatXnTwo
import Derived.Test.YtlijlabaopiicaaGreatSpB18
namespace Go.Proofs.YtlijlabaopiicaaGreat
open Go Go.Sh Go.Proofs
set_option linter.unusedVariables false
set_option linter.unusedSimpArgs false
theorem pe_3 : TyOk Tryz.prog 3 ⟨.int .i64 0, 1, 8, .sc (.int .i64), none⟩ := ⟨fun _ => by kernel_rfl, ⟨rfl, rfl, fun _ _ => by simp [Wf, Wfs]⟩, ⟨Tryz.underlying3, rfl⟩, fun _ h => by cases h⟩
theorem pe_22 : TyOk Tryz.prog 22 ⟨.int .u64 0, 1, 8, .sc (.int .u64), none⟩ := ⟨fun _ => by kernel_rfl, ⟨rfl, rfl, fun _ _ => by simp [Wf, Wfs]⟩, ⟨Tryz.underlying22, rfl⟩, fun _ h => by cases h⟩
abbrev PT_z11 : TE := [(3, ⟨.int .i64 0, 1, 8, .sc (.int .i64), none⟩), (22, ⟨.int .u64 0, 1, 8, .sc (.int .u64), none⟩)]
theorem PT_z9i : Prg Tryz.prog PT_z11 := ⟨(.cons pe_3 (.cons pe_22 (TEok.nil _))), by kernel_rfl⟩
theorem pe_77 : TyOk Tryz.prog 77 ⟨.arr 3 4 (fun _ => .agg [.nils, .nils, .int .i64 0]), 12, 224, .ar 4 76 3 true, none⟩ := ⟨fun _ => by kernel_rfl, ⟨rfl, rfl, fun _ _ => by simp [Wf, Wfs]⟩, ⟨Tryz.underlying77, by kernel_rfl, by kernel_rfl⟩, fun _ h => by cases h⟩
theorem pe_79 : TyOk Tryz.prog 79 ⟨.agg [.nilp, .agg [.agg [], .agg [], .int .u64 0], .int .u64 0, .arr 3 4 (fun _ => .agg [.nils, .nils, .int .i64 0])], 15, 248, .st [(0, 1, false), (1, 1, true), (2, 1, false), (3, 12, true)], none⟩ := ⟨fun _ => by kernel_rfl, ⟨rfl, rfl, fun _ _ => by simp [Wf, Wfs]⟩, ⟨_, Tryz.underlying79, by kernel_rfl⟩, fun _ h => by cases h⟩
abbrev PT_bus_Bus_port : TE := [(22, ⟨.int .u64 0, 1, 8, .sc (.int .u64), none⟩), (77, ⟨.arr 3 4 (fun _ => .agg [.nils, .nils, .int .i64 0]), 12, 224, .ar 4 76 3 true, none⟩), (79, ⟨.agg [.nilp, .agg [.agg [], .agg [], .int .u64 0], .int .u64 0, .arr 3 4 (fun _ => .agg [.nils, .nils, .int .i64 0])], 15, 248, .st [(0, 1, false), (1, 1, true), (2, 1, false), (3, 12, true)], none⟩)]
theorem PT_bus_Bus_port_ok : Prg Tryz.prog PT_bus_Bus_port := ⟨(.cons pe_22 (.cons pe_77 (.cons pe_79 (TEok.nil _)))), by kernel_rfl⟩
noncomputable abbrev B_z4f {α : Type}  : FF α := byBody PT_bus_Bus_port [] ⟨1, []⟩ Tryz.f86
theorem cB_z4f {α : Type} {I : Imm}  : OrcOk (α := α) Tryz.prog I 86 (.full (B_z4f )) := orc_body PT_bus_Bus_port_ok (OOk.nil) ⟨1, []⟩ Tryz.func86 (by kernel_rfl) (by kernel_rfl) (by kernel_rfl)
noncomputable abbrev PO_z11 {α : Type} : ORC α := [(86, .full (B_z4f ))]
set_option maxRecDepth 100000 in
theorem ok_z11 {α : Type} (b : Nat) (x1 x2 : Int) (σ : Heap) (k : SV → Heap → R α) : bodyL PT_z11 PO_z11 [] ⟨1, []⟩ Tryz.f213 [.ptr b [], .int .u64 x1, .int .i64 x2] σ k = p_z11 x1 x2 (k .nilp σ) (fun i => k (.ptr b [.fld 3 3, .idx i 3]) σ) := by kernel_rfl
theorem mk_z11 {α : Type} {I : Imm} : OrcOk (α := α) Tryz.prog I 213 (.full (ad_console fun x1 x2 kn k0 k1 k2 k3 => p_z11 x1 x2 kn (sel4 k0 k1 k2 k3))) :=
  con_of (orc_bodyL PT_z9i (O := PO_z11) (OOk.cons (cB_z4f ) (OOk.nil)) ⟨1, []⟩ Tryz.func213 (by kernel_rfl) (by kernel_rfl) (by kernel_rfl)) fun b x1 x2 σ k r h => (ok_z11 b x1 x2 σ k).trans (mono_z11 (fun i => sel4_some (k := fun i => k (.ptr b [.fld 3 3, .idx i 3]) σ) i) h)
theorem pe_5 : TyOk Tryz.prog 5 ⟨.int .u8 0, 1, 1, .sc (.int .u8), none⟩ := ⟨fun _ => by kernel_rfl, ⟨rfl, rfl, fun _ _ => by simp [Wf, Wfs]⟩, ⟨Tryz.underlying5, rfl⟩, fun _ h => by cases h⟩
theorem pe_67 : TyOk Tryz.prog 67 ⟨.nilp, 1, 8, .sc (.pointer 123), none⟩ := ⟨fun _ => by kernel_rfl, ⟨rfl, rfl, fun _ _ => by simp [Wf, Wfs]⟩, ⟨Tryz.underlying67, rfl⟩, fun _ h => by cases h⟩
theorem pe_74 : TyOk Tryz.prog 74 ⟨.nils, 1, 24, .sc (.slice 5), none⟩ := ⟨fun _ => by kernel_rfl, ⟨rfl, rfl, fun _ _ => by simp [Wf, Wfs]⟩, ⟨Tryz.underlying74, rfl⟩, fun _ h => by cases h⟩
theorem pe_76 : TyOk Tryz.prog 76 ⟨.agg [.nils, .nils, .int .i64 0], 3, 56, .st [(0, 1, false), (1, 1, false), (2, 1, false)], none⟩ := ⟨fun _ => by kernel_rfl, ⟨rfl, rfl, fun _ _ => by simp [Wf, Wfs]⟩, ⟨_, Tryz.underlying76, by kernel_rfl⟩, fun _ h => by cases h⟩
theorem pe_85 : TyOk Tryz.prog 85 ⟨.int .i64 0, 1, 8, .sc (.int .i64), none⟩ := ⟨fun _ => by kernel_rfl, ⟨rfl, rfl, fun _ _ => by simp [Wf, Wfs]⟩, ⟨Tryz.underlying85, rfl⟩, fun _ h => by cases h⟩
theorem pe_155 : TyOk Tryz.prog 155 ⟨.nilp, 1, 8, .sc (.pointer 76), none⟩ := ⟨fun _ => by kernel_rfl, ⟨rfl, rfl, fun _ _ => by simp [Wf, Wfs]⟩, ⟨Tryz.underlying155, rfl⟩, fun _ h => by cases h⟩
abbrev PT_z1b : TE := [(3, ⟨.int .i64 0, 1, 8, .sc (.int .i64), none⟩), (5, ⟨.int .u8 0, 1, 1, .sc (.int .u8), none⟩), (22, ⟨.int .u64 0, 1, 8, .sc (.int .u64), none⟩), (67, ⟨.nilp, 1, 8, .sc (.pointer 123), none⟩), (74, ⟨.nils, 1, 24, .sc (.slice 5), none⟩), (76, ⟨.agg [.nils, .nils, .int .i64 0], 3, 56, .st [(0, 1, false), (1, 1, false), (2, 1, false)], none⟩), (79, ⟨.agg [.nilp, .agg [.agg [], .agg [], .int .u64 0], .int .u64 0, .arr 3 4 (fun _ => .agg [.nils, .nils, .int .i64 0])], 15, 248, .st [(0, 1, false), (1, 1, true), (2, 1, false), (3, 12, true)], none⟩), (85, ⟨.int .i64 0, 1, 8, .sc (.int .i64), none⟩), (155, ⟨.nilp, 1, 8, .sc (.pointer 76), none⟩)]
theorem PT_z3m : Prg Tryz.prog PT_z1b := ⟨(.cons pe_3 (.cons pe_5 (.cons pe_22 (.cons pe_67 (.cons pe_74 (.cons pe_76 (.cons pe_79 (.cons pe_85 (.cons pe_155 (TEok.nil _)))))))))), by kernel_rfl⟩
theorem pe_73 : TyOk Tryz.prog 73 ⟨.agg [.agg [], .agg [], .int .u64 0], 1, 8, .st [(0, 0, true), (0, 0, true), (0, 1, false)], none⟩ := ⟨fun _ => by kernel_rfl, ⟨rfl, rfl, fun _ _ => by simp [Wf, Wfs]⟩, ⟨_, Tryz.underlying73, by kernel_rfl⟩, fun _ h => by cases h⟩
abbrev PT_sync_atomic_Uint64_Load : TE := [(73, ⟨.agg [.agg [], .agg [], .int .u64 0], 1, 8, .st [(0, 0, true), (0, 0, true), (0, 1, false)], none⟩)]
theorem PT_sync_atomic_Uint64_Load_ok : Prg Tryz.prog PT_sync_atomic_Uint64_Load := ⟨(.cons pe_73 (TEok.nil _)), by kernel_rfl⟩
noncomputable abbrev B_z4g {α : Type} (F_z11 : Sg_z11 α) (F_z1z : Sg_z1z α) : FF α := byBody PT_sync_atomic_Uint64_Load [(154, .ext (xLoad .u64))] ⟨1, []⟩ Tryz.f105
theorem cB_z4g {α : Type} {I : Imm} {F_z11 : Sg_z11 α} {F_z1z : Sg_z1z α} (h_sync_atomic_LoadUint64 : OrcOk (α := α) Tryz.prog I 154 (.ext (xLoad .u64))) (h_z11 : OrcOk (α := α) Tryz.prog I 213 (.full (ad_console F_z11))) (h_z1z : OrcOk (α := α) Tryz.prog I 214 (.full (ad_z1z F_z1z))) : OrcOk (α := α) Tryz.prog I 105 (.full (B_z4g F_z11 F_z1z)) := orc_body PT_sync_atomic_Uint64_Load_ok (OOk.cons h_sync_atomic_LoadUint64 (OOk.nil)) ⟨1, []⟩ Tryz.func105 (by kernel_rfl) (by kernel_rfl) (by kernel_rfl)
noncomputable abbrev PO_z1b {α : Type} (F_z11 : Sg_z11 α) (F_z1z : Sg_z1z α) : ORC α := [(105, .full (B_z4g F_z11 F_z1z)), (213, .full (ad_console F_z11)), (214, .full (ad_z1z F_z1z))]
set_option maxRecDepth 100000 in
theorem ok_z1b {α : Type} (F_z11 : Sg_z11 α) (F_z1z : Sg_z1z α) (x0 : GBus) (x1 : Int) (x2 : Int) (k : GBus → Int → Bool → R α) : bodyL PT_z1b (PO_z1b F_z11 F_z1z) [] ⟨1, []⟩ Tryz.f196 (E_z1b.encs (x0, x1, x2, ()) (fun i => i) 0) (hp (E_z1b.objss (x0, x1, x2, ()) (fun i => i) 0)) (dRo M_z1b Q_z1b false (selN (E_z1b.encs (x0, x1, x2, ()) (fun i => i) 0) [0]) (fun y z => k y.1 z.1 z.2.1)) = p_z1b F_z11 F_z1z x0 x1 x2 k := by kernel_rfl
theorem mk_z1b {α : Type} {I : Imm} {F_z11 : Sg_z11 α} {F_z1z : Sg_z1z α} (h_sync_atomic_LoadUint64 : OrcOk (α := α) Tryz.prog I 154 (.ext (xLoad .u64))) (h_z11 : OrcOk (α := α) Tryz.prog I 213 (.full (ad_console F_z11))) (h_z1z : OrcOk (α := α) Tryz.prog I 214 (.full (ad_z1z F_z1z))) {F : Sg_z1b α} (hF : ∀ x0 x1 x2 k r, F x0 x1 x2 k = some r → p_z1b F_z11 F_z1z x0 x1 x2 k = some r) : OrcOk (α := α) Tryz.prog I 196 (.full (ad_z1b F)) :=
  orc_obj PT_z3m (O := PO_z1b F_z11 F_z1z) (OOk.cons (cB_z4g h_sync_atomic_LoadUint64 h_z11 h_z1z) (OOk.cons h_z11 (OOk.cons h_z1z (OOk.nil)))) (L := []) ⟨1, []⟩ Tryz.func196 (by kernel_rfl) (by kernel_rfl) (by kernel_rfl) FLOk.nil E_z3m M_z3m Q_z3m rfl (oi := [0]) fun ⟨x0, x1, x2, ()⟩ k r h => (ok_z1b F_z11 F_z1z x0 x1 x2 (fun y0 z0 z1 => k (y0, ()) (z0, z1, ()))).trans (hF x0 x1 x2 _ r h)
abbrev PT_z1c : TE := [(3, ⟨.int .i64 0, 1, 8, .sc (.int .i64), none⟩), (5, ⟨.int .u8 0, 1, 1, .sc (.int .u8), none⟩), (22, ⟨.int .u64 0, 1, 8, .sc (.int .u64), none⟩), (67, ⟨.nilp, 1, 8, .sc (.pointer 123), none⟩), (74, ⟨.nils, 1, 24, .sc (.slice 5), none⟩), (76, ⟨.agg [.nils, .nils, .int .i64 0], 3, 56, .st [(0, 1, false), (1, 1, false), (2, 1, false)], none⟩), (79, ⟨.agg [.nilp, .agg [.agg [], .agg [], .int .u64 0], .int .u64 0, .arr 3 4 (fun _ => .agg [.nils, .nils, .int .i64 0])], 15, 248, .st [(0, 1, false), (1, 1, true), (2, 1, false), (3, 12, true)], none⟩), (85, ⟨.int .i64 0, 1, 8, .sc (.int .i64), none⟩), (155, ⟨.nilp, 1, 8, .sc (.pointer 76), none⟩)]
theorem PT_z3n : Prg Tryz.prog PT_z1c := ⟨(.cons pe_3 (.cons pe_5 (.cons pe_22 (.cons pe_67 (.cons pe_74 (.cons pe_76 (.cons pe_79 (.cons pe_85 (.cons pe_155 (TEok.nil _)))))))))), by kernel_rfl⟩
noncomputable abbrev PO_z1c {α : Type} (F_z11 : Sg_z11 α) (F_z1m : Sg_z1m α) : ORC α := [(213, .full (ad_console F_z11)), (36, .full (ad_z1m F_z1m))]
set_option maxRecDepth 100000 in
theorem ok_z1c {α : Type} (F_z11 : Sg_z11 α) (F_z1m : Sg_z1m α) (x0 : GBus) (x1 : Int) (x2 : Int) (x3 : Int) (k : GBus → Bool → R α) : bodyL PT_z1c (PO_z1c F_z11 F_z1m) [] ⟨1, []⟩ Tryz.f195 (E_z1c.encs (x0, x1, x2, x3, ()) (fun i => i) 0) (hp (E_z1c.objss (x0, x1, x2, x3, ()) (fun i => i) 0)) (dRo M_z1c Q_z1c true (selN (E_z1c.encs (x0, x1, x2, x3, ()) (fun i => i) 0) [0]) (fun y z => k y.1 z.1)) = p_z1c F_z11 F_z1m x0 x1 x2 x3 k := by kernel_rfl
theorem mk_z1c {α : Type} {I : Imm} {F_z11 : Sg_z11 α} {F_z1m : Sg_z1m α} (h_z11 : OrcOk (α := α) Tryz.prog I 213 (.full (ad_console F_z11))) (h_z1m : OrcOk (α := α) Tryz.prog I 36 (.full (ad_z1m F_z1m))) {F : Sg_z1c α} (hF : ∀ x0 x1 x2 x3 k r, F x0 x1 x2 x3 k = some r → p_z1c F_z11 F_z1m x0 x1 x2 x3 k = some r) : OrcOk (α := α) Tryz.prog I 195 (.full (ad_z1c F)) :=
  orc_obj PT_z3n (O := PO_z1c F_z11 F_z1m) (OOk.cons h_z11 (OOk.cons h_z1m (OOk.nil))) (L := []) ⟨1, []⟩ Tryz.func195 (by kernel_rfl) (by kernel_rfl) (by kernel_rfl) FLOk.nil E_z3n M_z3n Q_z3n rfl (oi := [0]) fun ⟨x0, x1, x2, x3, ()⟩ k r h => (ok_z1c F_z11 F_z1m x0 x1 x2 x3 (fun y0 z0 => k (y0, ()) (z0, ()))).trans (hF x0 x1 x2 x3 _ r h)
theorem pe_234 : TyOk Tryz.prog 234 ⟨.ints .u64 3 (fun _ => 0), 3, 24, .ar 3 22 1 false, some (.ar 3 1 (.it .u64))⟩ := ⟨fun _ => by kernel_rfl, ⟨rfl, rfl, fun _ _ => by simp [Wf, Wfs]⟩, ⟨Tryz.underlying234, by kernel_rfl, by kernel_rfl⟩, fun _ h => by cases h; exact ⟨by kernel_rfl, by kernel_rfl⟩⟩
abbrev PT_z17 : TE := [(3, ⟨.int .i64 0, 1, 8, .sc (.int .i64), none⟩), (22, ⟨.int .u64 0, 1, 8, .sc (.int .u64), none⟩), (234, ⟨.ints .u64 3 (fun _ => 0), 3, 24, .ar 3 22 1 false, some (.ar 3 1 (.it .u64))⟩)]
theorem PT_z9j : Prg Tryz.prog PT_z17 := ⟨(.cons pe_3 (.cons pe_22 (.cons pe_234 (TEok.nil _)))), by kernel_rfl⟩
noncomputable abbrev PO_z17 {α : Type}  : ORC α := []
set_option maxRecDepth 100000 in
theorem ok_z17 {α : Type}  (x0 : Int) (x1 : (Nat → Int)) (k : Int → R α) : bodyL PT_z17 (PO_z17 ) [] ⟨1, []⟩ Tryz.f187 [(.int .i64 x0), (.ints .u64 3 x1)] emp (fun v _ => dR_access_cause v k) = p_z17  x0 x1 k := by kernel_rfl
theorem mk_z17 {α : Type} {I : Imm}  : OrcOk (α := α) Tryz.prog I 187 (.pure (ad_z17 (p_z17 ))) := by
  refine orc_pureK PT_z9j (O := PO_z17 ) (OOk.nil) (L := []) ⟨1, []⟩ Tryz.func187 (by kernel_rfl) (by kernel_rfl) (by kernel_rfl) FLOk.nil ?_
  intro args k r hk
  unfold ad_z17 at hk
  split at hk <;> try (cases hk; done)
  obtain ⟨x0, rfl, hk0⟩ := decI_spec hk
  obtain ⟨x1, rfl, hk1⟩ := decA_spec hk0
  have hkz := hk1
  refine ⟨by simp [Ids, Idss], fun v => dR_access_cause v (fun r0 => k (.int .u64 r0)), ?_, fun v hv => ?_⟩
  · rw [ok_z17]; exact hkz
  · obtain ⟨r0, rfl, hv1⟩ := dR_access_cause_spec hv; exact ⟨hv1, by simp [Ids, Idss]⟩
theorem pe_38 : TyOk Tryz.prog 38 ⟨.agg [.int .u64 0, .int .u64 0, .int .u64 0, .bool false], 4, 32, .st [(0, 1, false), (1, 1, false), (2, 1, false), (3, 1, false)], some (.st [(0, 1, false, .it .u64), (1, 1, false, .it .u64), (2, 1, false, .it .u64), (3, 1, false, .bl)])⟩ := ⟨fun _ => by kernel_rfl, ⟨rfl, rfl, fun _ _ => by simp [Wf, Wfs]⟩, ⟨_, Tryz.underlying38, by kernel_rfl⟩, fun _ h => by cases h; exact ⟨by kernel_rfl, by kernel_rfl⟩⟩
abbrev PT_zt : TE := [(38, ⟨.agg [.int .u64 0, .int .u64 0, .int .u64 0, .bool false], 4, 32, .st [(0, 1, false), (1, 1, false), (2, 1, false), (3, 1, false)], some (.st [(0, 1, false, .it .u64), (1, 1, false, .it .u64), (2, 1, false, .it .u64), (3, 1, false, .bl)])⟩), (234, ⟨.ints .u64 3 (fun _ => 0), 3, 24, .ar 3 22 1 false, some (.ar 3 1 (.it .u64))⟩)]
theorem PT_z9k : Prg Tryz.prog PT_zt := ⟨(.cons pe_38 (.cons pe_234 (TEok.nil _))), by kernel_rfl⟩
noncomputable abbrev PO_zt {α : Type} (F_z17 : Sg_z17 α) : ORC α := [(187, .pure (ad_z17 F_z17))]
set_option maxRecDepth 100000 in
theorem ok_zt {α : Type} (F_z17 : Sg_z17 α) (x0 : Int) (x1 : Int) (x2 : Bool) (k : GFault → R α) : bodyL PT_zt (PO_zt F_z17) [] ⟨1, []⟩ Tryz.f186 [(.int .u64 x0), (.int .i64 x1), (.bool x2)] emp (fun v _ => dR_access_Bad v k) = p_zt F_z17 x0 x1 x2 k := by kernel_rfl
theorem mk_zt {α : Type} {I : Imm} {F_z17 : Sg_z17 α} (h_z17 : OrcOk (α := α) Tryz.prog I 187 (.pure (ad_z17 F_z17))) : OrcOk (α := α) Tryz.prog I 186 (.pure (ad_zt (p_zt F_z17))) := by
  refine orc_pureK PT_z9k (O := PO_zt F_z17) (OOk.cons h_z17 (OOk.nil)) (L := []) ⟨1, []⟩ Tryz.func186 (by kernel_rfl) (by kernel_rfl) (by kernel_rfl) FLOk.nil ?_
  intro args k r hk
  unfold ad_zt at hk
  split at hk <;> try (cases hk; done)
  obtain ⟨x0, rfl, hk0⟩ := decI_spec hk
  obtain ⟨x1, rfl, hk1⟩ := decI_spec hk0
  obtain ⟨x2, rfl, hk2⟩ := decB_spec hk1
  have hkz := hk2
  refine ⟨by simp [Ids, Idss], fun v => dR_access_Bad v (fun r0 => k (GFault.sv r0)), ?_, fun v hv => ?_⟩
  · rw [ok_zt]; exact hkz
  · obtain ⟨r0, rfl, hv1⟩ := dR_access_Bad_spec hv; exact ⟨hv1, by simp [Ids, Idss]⟩
abbrev PT_zl : TE := [(3, ⟨.int .i64 0, 1, 8, .sc (.int .i64), none⟩), (38, ⟨.agg [.int .u64 0, .int .u64 0, .int .u64 0, .bool false], 4, 32, .st [(0, 1, false), (1, 1, false), (2, 1, false), (3, 1, false)], some (.st [(0, 1, false, .it .u64), (1, 1, false, .it .u64), (2, 1, false, .it .u64), (3, 1, false, .bl)])⟩)]
theorem PT_z3o : Prg Tryz.prog PT_zl := ⟨(.cons pe_3 (.cons pe_38 (TEok.nil _))), by kernel_rfl⟩
abbrev PT_bus_Bus_IsDevice : TE := [(22, ⟨.int .u64 0, 1, 8, .sc (.int .u64), none⟩)]
theorem PT_bus_Bus_IsDevice_ok : Prg Tryz.prog PT_bus_Bus_IsDevice := ⟨(.cons pe_22 (TEok.nil _)), by kernel_rfl⟩
noncomputable abbrev B_z4h {α : Type} (F_zt : Sg_zt α) (F_z1c : Sg_z1c α) (F_z1b : Sg_z1b α) : FF α := byBody PT_bus_Bus_IsDevice [] ⟨1, []⟩ Tryz.f194
theorem cB_z4h {α : Type} {I : Imm} {F_zt : Sg_zt α} {F_z1c : Sg_z1c α} {F_z1b : Sg_z1b α} (h_zt : OrcOk (α := α) Tryz.prog I 186 (.pure (ad_zt F_zt))) (h_z1c : OrcOk (α := α) Tryz.prog I 195 (.full (ad_z1c F_z1c))) (h_z1b : OrcOk (α := α) Tryz.prog I 196 (.full (ad_z1b F_z1b))) : OrcOk (α := α) Tryz.prog I 194 (.full (B_z4h F_zt F_z1c F_z1b)) := orc_body PT_bus_Bus_IsDevice_ok (OOk.nil) ⟨1, []⟩ Tryz.func194 (by kernel_rfl) (by kernel_rfl) (by kernel_rfl)
noncomputable abbrev PO_zl {α : Type} (F_zt : Sg_zt α) (F_z1c : Sg_z1c α) (F_z1b : Sg_z1b α) : ORC α := [(194, .full (B_z4h F_zt F_z1c F_z1b)), (186, .pure (ad_zt F_zt)), (195, .full (ad_z1c F_z1c)), (196, .full (ad_z1b F_z1b))]
set_option maxRecDepth 100000 in
theorem ok_zl {α : Type} (F_zt : Sg_zt α) (F_z1c : Sg_z1c α) (F_z1b : Sg_z1b α) (x0 : GBus) (x1 : Int) (x2 : Int) (x3 : Int) (x4 : Int) (x5 : Int) (x6 : Bool) (k : GBus → Int → GFault → Bool → R α) : bodyL PT_zl (PO_zl F_zt F_z1c F_z1b) [] ⟨1, []⟩ Tryz.f166 (E_zl.encs (x0, x1, x2, x3, x4, x5, x6, ()) (fun i => i) 0) (hp (E_zl.objss (x0, x1, x2, x3, x4, x5, x6, ()) (fun i => i) 0)) (dRo M_zl Q_zl false (selN (E_zl.encs (x0, x1, x2, x3, x4, x5, x6, ()) (fun i => i) 0) [0]) (fun y z => k y.1 z.1 z.2.1 z.2.2.1)) = p_zl F_zt F_z1c F_z1b x0 x1 x2 x3 x4 x5 x6 k := by kernel_rfl
theorem mk_zl {α : Type} {I : Imm} {F_zt : Sg_zt α} {F_z1c : Sg_z1c α} {F_z1b : Sg_z1b α} (h_zt : OrcOk (α := α) Tryz.prog I 186 (.pure (ad_zt F_zt))) (h_z1c : OrcOk (α := α) Tryz.prog I 195 (.full (ad_z1c F_z1c))) (h_z1b : OrcOk (α := α) Tryz.prog I 196 (.full (ad_z1b F_z1b))) {F : Sg_zl α} (hF : ∀ x0 x1 x2 x3 x4 x5 x6 k r, F x0 x1 x2 x3 x4 x5 x6 k = some r → p_zl F_zt F_z1c F_z1b x0 x1 x2 x3 x4 x5 x6 k = some r) : OrcOk (α := α) Tryz.prog I 166 (.full (ad_zl F)) :=
  orc_obj PT_z3o (O := PO_zl F_zt F_z1c F_z1b) (OOk.cons (cB_z4h h_zt h_z1c h_z1b) (OOk.cons h_zt (OOk.cons h_z1c (OOk.cons h_z1b (OOk.nil))))) (L := []) ⟨1, []⟩ Tryz.func166 (by kernel_rfl) (by kernel_rfl) (by kernel_rfl) FLOk.nil E_z3o M_z3o Q_z3o rfl (oi := [0]) fun ⟨x0, x1, x2, x3, x4, x5, x6, ()⟩ k r h => (ok_zl F_zt F_z1c F_z1b x0 x1 x2 x3 x4 x5 x6 (fun y0 z0 z1 z2 => k (y0, ()) (z0, z1, z2, ()))).trans (hF x0 x1 x2 x3 x4 x5 x6 _ r h)
abbrev PT_zp : TE := [(3, ⟨.int .i64 0, 1, 8, .sc (.int .i64), none⟩), (22, ⟨.int .u64 0, 1, 8, .sc (.int .u64), none⟩), (38, ⟨.agg [.int .u64 0, .int .u64 0, .int .u64 0, .bool false], 4, 32, .st [(0, 1, false), (1, 1, false), (2, 1, false), (3, 1, false)], some (.st [(0, 1, false, .it .u64), (1, 1, false, .it .u64), (2, 1, false, .it .u64), (3, 1, false, .bl)])⟩), (234, ⟨.ints .u64 3 (fun _ => 0), 3, 24, .ar 3 22 1 false, some (.ar 3 1 (.it .u64))⟩)]
theorem PT_z9l : Prg Tryz.prog PT_zp := ⟨(.cons pe_3 (.cons pe_22 (.cons pe_38 (.cons pe_234 (TEok.nil _))))), by kernel_rfl⟩
noncomputable abbrev PO_zp {α : Type} (F_zt : Sg_zt α) (F_z17 : Sg_z17 α) : ORC α := [(186, .pure (ad_zt F_zt)), (187, .pure (ad_z17 F_z17))]
set_option maxRecDepth 100000 in
theorem ok_zp {α : Type} (F_zt : Sg_zt α) (F_z17 : Sg_z17 α) (x0 : Int) (x1 : Int) (x2 : Int) (x3 : Bool) (k : GFault → Bool → R α) : bodyL PT_zp (PO_zp F_zt F_z17) [] ⟨1, []⟩ Tryz.f163 [(.int .u64 x0), (.int .i64 x1), (.int .i64 x2), (.bool x3)] emp (fun v _ => dR_access_Aligned v k) = p_zp F_zt F_z17 x0 x1 x2 x3 k := by kernel_rfl
theorem mk_zp {α : Type} {I : Imm} {F_zt : Sg_zt α} {F_z17 : Sg_z17 α} (h_zt : OrcOk (α := α) Tryz.prog I 186 (.pure (ad_zt F_zt))) (h_z17 : OrcOk (α := α) Tryz.prog I 187 (.pure (ad_z17 F_z17))) : OrcOk (α := α) Tryz.prog I 163 (.pure (ad_zp (p_zp F_zt F_z17))) := by
  refine orc_pureK PT_z9l (O := PO_zp F_zt F_z17) (OOk.cons h_zt (OOk.cons h_z17 (OOk.nil))) (L := []) ⟨1, []⟩ Tryz.func163 (by kernel_rfl) (by kernel_rfl) (by kernel_rfl) FLOk.nil ?_
  intro args k r hk
  unfold ad_zp at hk
  split at hk <;> try (cases hk; done)
  obtain ⟨x0, rfl, hk0⟩ := decI_spec hk
  obtain ⟨x1, rfl, hk1⟩ := decI_spec hk0
  obtain ⟨x2, rfl, hk2⟩ := decI_spec hk1
  obtain ⟨x3, rfl, hk3⟩ := decB_spec hk2
  have hkz := hk3
  refine ⟨by simp [Ids, Idss], fun v => dR_access_Aligned v (fun r0 r1 => k (.tuple [(GFault.sv r0), (.bool r1)])), ?_, fun v hv => ?_⟩
  · rw [ok_zp]; exact hkz
  · obtain ⟨r0, r1, rfl, hv1⟩ := dR_access_Aligned_spec hv; exact ⟨hv1, by simp [Ids, Idss]⟩
theorem pe_30 : TyOk Tryz.prog 30 ⟨.agg [.ints .u64 32 (fun _ => 0), .int .u64 0, .int .i64 0, .bool false, .ints .u64 29 (fun _ => 0), .int .u64 0], 65, 520, .st [(0, 32, true), (32, 1, false), (33, 1, false), (34, 1, false), (35, 29, true), (64, 1, false)], some (.st [(0, 32, true, .ar 32 1 (.it .u64)), (32, 1, false, .it .u64), (33, 1, false, .it .i64), (34, 1, false, .bl), (35, 29, true, .ar 29 1 (.it .u64)), (64, 1, false, .it .u64)])⟩ := ⟨fun _ => by kernel_rfl, ⟨rfl, rfl, fun _ _ => by simp [Wf, Wfs]⟩, ⟨_, Tryz.underlying30, by kernel_rfl⟩, fun _ h => by cases h; exact ⟨by kernel_rfl, by kernel_rfl⟩⟩
theorem pe_203 : TyOk Tryz.prog 203 ⟨.agg [.bool false, .bool false, .int .i64 0, .int .i64 0, .int .i64 0, .int .i64 0, .int .i64 0, .int .i64 0, .int .i64 0], 9, 64, .st [(0, 1, false), (1, 1, false), (2, 1, false), (3, 1, false), (4, 1, false), (5, 1, false), (6, 1, false), (7, 1, false), (8, 1, false)], some (.st [(0, 1, false, .bl), (1, 1, false, .bl), (2, 1, false, .it .i64), (3, 1, false, .it .i64), (4, 1, false, .it .i64), (5, 1, false, .it .i64), (6, 1, false, .it .i64), (7, 1, false, .it .i64), (8, 1, false, .it .i64)])⟩ := ⟨fun _ => by kernel_rfl, ⟨rfl, rfl, fun _ _ => by simp [Wf, Wfs]⟩, ⟨_, Tryz.underlying203, by kernel_rfl⟩, fun _ h => by cases h; exact ⟨by kernel_rfl, by kernel_rfl⟩⟩
abbrev PT_z12 : TE := [(30, ⟨.agg [.ints .u64 32 (fun _ => 0), .int .u64 0, .int .i64 0, .bool false, .ints .u64 29 (fun _ => 0), .int .u64 0], 65, 520, .st [(0, 32, true), (32, 1, false), (33, 1, false), (34, 1, false), (35, 29, true), (64, 1, false)], some (.st [(0, 32, true, .ar 32 1 (.it .u64)), (32, 1, false, .it .u64), (33, 1, false, .it .i64), (34, 1, false, .bl), (35, 29, true, .ar 29 1 (.it .u64)), (64, 1, false, .it .u64)])⟩), (38, ⟨.agg [.int .u64 0, .int .u64 0, .int .u64 0, .bool false], 4, 32, .st [(0, 1, false), (1, 1, false), (2, 1, false), (3, 1, false)], some (.st [(0, 1, false, .it .u64), (1, 1, false, .it .u64), (2, 1, false, .it .u64), (3, 1, false, .bl)])⟩), (203, ⟨.agg [.bool false, .bool false, .int .i64 0, .int .i64 0, .int .i64 0, .int .i64 0, .int .i64 0, .int .i64 0, .int .i64 0], 9, 64, .st [(0, 1, false), (1, 1, false), (2, 1, false), (3, 1, false), (4, 1, false), (5, 1, false), (6, 1, false), (7, 1, false), (8, 1, false)], some (.st [(0, 1, false, .bl), (1, 1, false, .bl), (2, 1, false, .it .i64), (3, 1, false, .it .i64), (4, 1, false, .it .i64), (5, 1, false, .it .i64), (6, 1, false, .it .i64), (7, 1, false, .it .i64), (8, 1, false, .it .i64)])⟩)]
theorem PT_z3p : Prg Tryz.prog PT_z12 := ⟨(.cons pe_30 (.cons pe_38 (.cons pe_203 (TEok.nil _)))), by kernel_rfl⟩
abbrev PT_bus_Bus_Mem : TE := [(67, ⟨.nilp, 1, 8, .sc (.pointer 123), none⟩), (79, ⟨.agg [.nilp, .agg [.agg [], .agg [], .int .u64 0], .int .u64 0, .arr 3 4 (fun _ => .agg [.nils, .nils, .int .i64 0])], 15, 248, .st [(0, 1, false), (1, 1, true), (2, 1, false), (3, 12, true)], none⟩)]
theorem PT_bus_Bus_Mem_ok : Prg Tryz.prog PT_bus_Bus_Mem := ⟨(.cons pe_67 (.cons pe_79 (TEok.nil _))), by kernel_rfl⟩
noncomputable abbrev B_z4i {α : Type} (F_zp : Sg_zp α) (F_z10 : Sg_z10 α) (F_zl : Sg_zl α) : FF α := byBody PT_bus_Bus_Mem [] ⟨1, []⟩ Tryz.f51
theorem cB_z4i {α : Type} {I : Imm} {F_zp : Sg_zp α} {F_z10 : Sg_z10 α} {F_zl : Sg_zl α} (h_zp : OrcOk (α := α) Tryz.prog I 163 (.pure (ad_zp F_zp))) (h_z10 : OrcOk (α := α) Tryz.prog I 164 (.full (ad_z10 F_z10))) (h_zl : OrcOk (α := α) Tryz.prog I 166 (.full (ad_zl F_zl))) : OrcOk (α := α) Tryz.prog I 51 (.full (B_z4i F_zp F_z10 F_zl)) := orc_body PT_bus_Bus_Mem_ok (OOk.nil) ⟨1, []⟩ Tryz.func51 (by kernel_rfl) (by kernel_rfl) (by kernel_rfl)
noncomputable abbrev PO_z12 {α : Type} (F_zp : Sg_zp α) (F_z10 : Sg_z10 α) (F_zl : Sg_zl α) : ORC α := [(163, .pure (ad_zp F_zp)), (51, .full (B_z4i F_zp F_z10 F_zl)), (164, .full (ad_z10 F_z10)), (166, .full (ad_zl F_zl))]
set_option maxRecDepth 100000 in
theorem ok_z12 {α : Type} (F_zp : Sg_zp α) (F_z10 : Sg_z10 α) (F_zl : Sg_zl α) (x0 : GBus) (x1 : GState) (x2 : Int) (x3 : Int) (x4 : Int) (x5 : Int) (x6 : Int) (x7 : Bool) (k : GBus → Int → GFault → Bool → R α) : bodyL PT_z12 (PO_z12 F_zp F_z10 F_zl) [] ⟨1, []⟩ Tryz.f132 (E_z12.encs (x0, x1, x2, x3, x4, x5, x6, x7, ()) (fun i => i) 0) (hp (E_z12.objss (x0, x1, x2, x3, x4, x5, x6, x7, ()) (fun i => i) 0)) (dRo M_z12 Q_z12 false (selN (E_z12.encs (x0, x1, x2, x3, x4, x5, x6, x7, ()) (fun i => i) 0) [0]) (fun y z => k y.1 z.1 z.2.1 z.2.2.1)) = p_z12 F_zp F_z10 F_zl x0 x1 x2 x3 x4 x5 x6 x7 k := by kernel_rfl
theorem mk_z12 {α : Type} {I : Imm} {F_zp : Sg_zp α} {F_z10 : Sg_z10 α} {F_zl : Sg_zl α} (h_zp : OrcOk (α := α) Tryz.prog I 163 (.pure (ad_zp F_zp))) (h_z10 : OrcOk (α := α) Tryz.prog I 164 (.full (ad_z10 F_z10))) (h_zl : OrcOk (α := α) Tryz.prog I 166 (.full (ad_zl F_zl))) {F : Sg_z12 α} (hF : ∀ x0 x1 x2 x3 x4 x5 x6 x7 k r, F x0 x1 x2 x3 x4 x5 x6 x7 k = some r → p_z12 F_zp F_z10 F_zl x0 x1 x2 x3 x4 x5 x6 x7 k = some r) : OrcOk (α := α) Tryz.prog I 132 (.full (ad_z12 F)) :=
  orc_obj PT_z3p (O := PO_z12 F_zp F_z10 F_zl) (OOk.cons h_zp (OOk.cons (cB_z4i h_zp h_z10 h_zl) (OOk.cons h_z10 (OOk.cons h_zl (OOk.nil))))) (L := []) ⟨1, []⟩ Tryz.func132 (by kernel_rfl) (by kernel_rfl) (by kernel_rfl) FLOk.nil E_z3p M_z3p Q_z3p rfl (oi := [0]) fun ⟨x0, x1, x2, x3, x4, x5, x6, x7, ()⟩ k r h => (ok_z12 F_zp F_z10 F_zl x0 x1 x2 x3 x4 x5 x6 x7 (fun y0 z0 z1 z2 => k (y0, ()) (z0, z1, z2, ()))).trans (hF x0 x1 x2 x3 x4 x5 x6 x7 _ r h)
end Go.Proofs.YtlijlabaopiicaaGreat
