/-
  Contracts: Access.
-/
import Derived.Test.YtigomjcmpafeeaaFnTwo
import Derived.Test.YtigomjcmpafeeaaSpAccess
set_option linter.unusedSimpArgs false
set_option linter.unusedVariables false
namespace Go.Proofs.Ytigomjcmpafeeaa
open Go Go.Sh Go.Proofs
set_option linter.unusedSimpArgs false
theorem te_148 : TyOk Try.prog 148 ⟨.agg [.nilp, .agg [.agg [], .agg [], .int .u64 0], .int .u64 0, .arr 3 4 (fun _ => .agg [.nils, .nils, .int .i64 0])], 15, 248, .st [(0, 1, false), (1, 1, true), (2, 1, false), (3, 12, true)], none⟩ := ⟨fun _ => by kernel_rfl, ⟨rfl, rfl, fun _ _ => by simp [Wf, Wfs]⟩, ⟨_, Try.underlying148, by kernel_rfl⟩, fun _ h => by cases h⟩
abbrev T_bus_New : TE := [(28, ⟨.nilp, 1, 8, .sc (.pointer 102), none⟩), (148, ⟨.agg [.nilp, .agg [.agg [], .agg [], .int .u64 0], .int .u64 0, .arr 3 4 (fun _ => .agg [.nils, .nils, .int .i64 0])], 15, 248, .st [(0, 1, false), (1, 1, true), (2, 1, false), (3, 12, true)], none⟩)]
theorem T_bus_New_ok : Prg Try.prog T_bus_New := ⟨(.cons te_28 (.cons te_148 (TEok.nil _))), by kernel_rfl⟩
noncomputable abbrev O_bus_New {α : Type} : ORC α := [(20, .full newF)]
theorem O_bus_New_ok {α : Type} {I : Imm} : OOk (α := α) Try.prog I O_bus_New := OOk.cons c_mem_New (OOk.nil)
noncomputable abbrev B_bus_New {α : Type} : FF α := byBody T_bus_New O_bus_New ⟨1, []⟩ Try.f37
theorem c_bus_New {α : Type} {I : Imm} : OrcOk (α := α) Try.prog I 37 (.full B_bus_New) := orc_body T_bus_New_ok O_bus_New_ok ⟨1, []⟩ Try.func37 (by kernel_rfl) (by kernel_rfl) (by kernel_rfl)
theorem te_146 : TyOk Try.prog 146 ⟨.arr 3 4 (fun _ => .agg [.nils, .nils, .int .i64 0]), 12, 224, .ar 4 145 3 true, none⟩ := ⟨fun _ => by kernel_rfl, ⟨rfl, rfl, fun _ _ => by simp [Wf, Wfs]⟩, ⟨Try.underlying146, by kernel_rfl, by kernel_rfl⟩, fun _ h => by cases h⟩
abbrev T_bus_Bus_port : TE := [(33, ⟨.int .u64 0, 1, 8, .sc (.int .u64), none⟩), (146, ⟨.arr 3 4 (fun _ => .agg [.nils, .nils, .int .i64 0]), 12, 224, .ar 4 145 3 true, none⟩), (148, ⟨.agg [.nilp, .agg [.agg [], .agg [], .int .u64 0], .int .u64 0, .arr 3 4 (fun _ => .agg [.nils, .nils, .int .i64 0])], 15, 248, .st [(0, 1, false), (1, 1, true), (2, 1, false), (3, 12, true)], none⟩)]
theorem T_bus_Bus_port_ok : Prg Try.prog T_bus_Bus_port := ⟨(.cons te_33 (.cons te_146 (.cons te_148 (TEok.nil _)))), by kernel_rfl⟩
noncomputable abbrev O_bus_Bus_port {α : Type} : ORC α := []
theorem O_bus_Bus_port_ok {α : Type} {I : Imm} : OOk (α := α) Try.prog I O_bus_Bus_port := OOk.nil
noncomputable abbrev B_bus_Bus_port {α : Type} : FF α := byBody T_bus_Bus_port O_bus_Bus_port ⟨1, []⟩ Try.f128
theorem c_bus_Bus_port {α : Type} {I : Imm} : OrcOk (α := α) Try.prog I 128 (.full B_bus_Bus_port) := orc_body T_bus_Bus_port_ok O_bus_Bus_port_ok ⟨1, []⟩ Try.func128 (by kernel_rfl) (by kernel_rfl) (by kernel_rfl)
abbrev T_bus_Bus_console : TE := [(3, ⟨.int .i64 0, 1, 8, .sc (.int .i64), none⟩), (33, ⟨.int .u64 0, 1, 8, .sc (.int .u64), none⟩)]
theorem T_bus_Bus_console_ok : Prg Try.prog T_bus_Bus_console := ⟨(.cons te_3 (.cons te_33 (TEok.nil _))), by kernel_rfl⟩
noncomputable abbrev O_bus_Bus_console {α : Type} : ORC α := [(128, .full B_bus_Bus_port)]
theorem O_bus_Bus_console_ok {α : Type} {I : Imm} : OOk (α := α) Try.prog I O_bus_Bus_console := OOk.cons c_bus_Bus_port (OOk.nil)
noncomputable abbrev B_bus_Bus_console {α : Type} : FF α := byBody T_bus_Bus_console O_bus_Bus_console ⟨1, []⟩ Try.f122
theorem c_bus_Bus_console {α : Type} {I : Imm} : OrcOk (α := α) Try.prog I 122 (.full B_bus_Bus_console) := orc_body T_bus_Bus_console_ok O_bus_Bus_console_ok ⟨1, []⟩ Try.func122 (by kernel_rfl) (by kernel_rfl) (by kernel_rfl)
abbrev T_bus_Bus_IsDevice : TE := [(33, ⟨.int .u64 0, 1, 8, .sc (.int .u64), none⟩)]
theorem T_bus_Bus_IsDevice_ok : Prg Try.prog T_bus_Bus_IsDevice := ⟨(.cons te_33 (TEok.nil _)), by kernel_rfl⟩
noncomputable abbrev O_bus_Bus_IsDevice {α : Type} : ORC α := []
theorem O_bus_Bus_IsDevice_ok {α : Type} {I : Imm} : OOk (α := α) Try.prog I O_bus_Bus_IsDevice := OOk.nil
noncomputable abbrev B_bus_Bus_IsDevice {α : Type} : FF α := byBody T_bus_Bus_IsDevice O_bus_Bus_IsDevice ⟨1, []⟩ Try.f40
theorem c_bus_Bus_IsDevice {α : Type} {I : Imm} : OrcOk (α := α) Try.prog I 40 (.full B_bus_Bus_IsDevice) := orc_body T_bus_Bus_IsDevice_ok O_bus_Bus_IsDevice_ok ⟨1, []⟩ Try.func40 (by kernel_rfl) (by kernel_rfl) (by kernel_rfl)
abbrev T_bus_Bus_Mem : TE := [(28, ⟨.nilp, 1, 8, .sc (.pointer 102), none⟩), (148, ⟨.agg [.nilp, .agg [.agg [], .agg [], .int .u64 0], .int .u64 0, .arr 3 4 (fun _ => .agg [.nils, .nils, .int .i64 0])], 15, 248, .st [(0, 1, false), (1, 1, true), (2, 1, false), (3, 12, true)], none⟩)]
theorem T_bus_Bus_Mem_ok : Prg Try.prog T_bus_Bus_Mem := ⟨(.cons te_28 (.cons te_148 (TEok.nil _))), by kernel_rfl⟩
noncomputable abbrev O_bus_Bus_Mem {α : Type} : ORC α := []
theorem O_bus_Bus_Mem_ok {α : Type} {I : Imm} : OOk (α := α) Try.prog I O_bus_Bus_Mem := OOk.nil
noncomputable abbrev B_bus_Bus_Mem {α : Type} : FF α := byBody T_bus_Bus_Mem O_bus_Bus_Mem ⟨1, []⟩ Try.f79
theorem c_bus_Bus_Mem {α : Type} {I : Imm} : OrcOk (α := α) Try.prog I 79 (.full B_bus_Bus_Mem) := orc_body T_bus_Bus_Mem_ok O_bus_Bus_Mem_ok ⟨1, []⟩ Try.func79 (by kernel_rfl) (by kernel_rfl) (by kernel_rfl)
theorem te_145 : TyOk Try.prog 145 ⟨.agg [.nils, .nils, .int .i64 0], 3, 56, .st [(0, 1, false), (1, 1, false), (2, 1, false)], none⟩ := ⟨fun _ => by kernel_rfl, ⟨rfl, rfl, fun _ _ => by simp [Wf, Wfs]⟩, ⟨_, Try.underlying145, by kernel_rfl⟩, fun _ h => by cases h⟩
theorem te_193 : TyOk Try.prog 193 ⟨.nilp, 1, 8, .sc (.pointer 145), none⟩ := ⟨fun _ => by kernel_rfl, ⟨rfl, rfl, fun _ _ => by simp [Wf, Wfs]⟩, ⟨Try.underlying193, rfl⟩, fun _ h => by cases h⟩
abbrev T_bus_Bus_Read : TE := [(3, ⟨.int .i64 0, 1, 8, .sc (.int .i64), none⟩), (5, ⟨.int .u8 0, 1, 1, .sc (.int .u8), none⟩), (28, ⟨.nilp, 1, 8, .sc (.pointer 102), none⟩), (29, ⟨.int .i64 0, 1, 8, .sc (.int .i64), none⟩), (33, ⟨.int .u64 0, 1, 8, .sc (.int .u64), none⟩), (37, ⟨.nils, 1, 24, .sc (.slice 5), none⟩), (145, ⟨.agg [.nils, .nils, .int .i64 0], 3, 56, .st [(0, 1, false), (1, 1, false), (2, 1, false)], none⟩), (148, ⟨.agg [.nilp, .agg [.agg [], .agg [], .int .u64 0], .int .u64 0, .arr 3 4 (fun _ => .agg [.nils, .nils, .int .i64 0])], 15, 248, .st [(0, 1, false), (1, 1, true), (2, 1, false), (3, 12, true)], none⟩), (193, ⟨.nilp, 1, 8, .sc (.pointer 145), none⟩)]
theorem T_bus_Bus_Read_ok : Prg Try.prog T_bus_Bus_Read := ⟨(.cons te_3 (.cons te_5 (.cons te_28 (.cons te_29 (.cons te_33 (.cons te_37 (.cons te_145 (.cons te_148 (.cons te_193 (TEok.nil _)))))))))), by kernel_rfl⟩
noncomputable abbrev O_bus_Bus_Read {α : Type} : ORC α := [(122, .full B_bus_Bus_console), (124, .full readF)]
theorem O_bus_Bus_Read_ok {α : Type} {I : Imm} : OOk (α := α) Try.prog I O_bus_Bus_Read := OOk.cons c_bus_Bus_console (OOk.cons c_mem_Memory_Read (OOk.nil))
noncomputable abbrev B_bus_Bus_Read {α : Type} : FF α := byBody T_bus_Bus_Read O_bus_Bus_Read ⟨1, []⟩ Try.f107
theorem c_bus_Bus_Read {α : Type} {I : Imm} : OrcOk (α := α) Try.prog I 107 (.full B_bus_Bus_Read) := orc_body T_bus_Bus_Read_ok O_bus_Bus_Read_ok ⟨1, []⟩ Try.func107 (by kernel_rfl) (by kernel_rfl) (by kernel_rfl)
abbrev T_bus_Bus_Write : TE := [(3, ⟨.int .i64 0, 1, 8, .sc (.int .i64), none⟩), (5, ⟨.int .u8 0, 1, 1, .sc (.int .u8), none⟩), (28, ⟨.nilp, 1, 8, .sc (.pointer 102), none⟩), (29, ⟨.int .i64 0, 1, 8, .sc (.int .i64), none⟩), (33, ⟨.int .u64 0, 1, 8, .sc (.int .u64), none⟩), (37, ⟨.nils, 1, 24, .sc (.slice 5), none⟩), (145, ⟨.agg [.nils, .nils, .int .i64 0], 3, 56, .st [(0, 1, false), (1, 1, false), (2, 1, false)], none⟩), (148, ⟨.agg [.nilp, .agg [.agg [], .agg [], .int .u64 0], .int .u64 0, .arr 3 4 (fun _ => .agg [.nils, .nils, .int .i64 0])], 15, 248, .st [(0, 1, false), (1, 1, true), (2, 1, false), (3, 12, true)], none⟩), (193, ⟨.nilp, 1, 8, .sc (.pointer 145), none⟩)]
theorem T_bus_Bus_Write_ok : Prg Try.prog T_bus_Bus_Write := ⟨(.cons te_3 (.cons te_5 (.cons te_28 (.cons te_29 (.cons te_33 (.cons te_37 (.cons te_145 (.cons te_148 (.cons te_193 (TEok.nil _)))))))))), by kernel_rfl⟩
noncomputable abbrev O_bus_Bus_Write {α : Type} : ORC α := [(122, .full B_bus_Bus_console), (31, .full writeF)]
theorem O_bus_Bus_Write_ok {α : Type} {I : Imm} : OOk (α := α) Try.prog I O_bus_Bus_Write := OOk.cons c_bus_Bus_console (OOk.cons c_mem_Memory_Write (OOk.nil))
noncomputable abbrev B_bus_Bus_Write {α : Type} : FF α := byBody T_bus_Bus_Write O_bus_Bus_Write ⟨1, []⟩ Try.f106
theorem c_bus_Bus_Write {α : Type} {I : Imm} : OrcOk (α := α) Try.prog I 106 (.full B_bus_Bus_Write) := orc_body T_bus_Bus_Write_ok O_bus_Bus_Write_ok ⟨1, []⟩ Try.func106 (by kernel_rfl) (by kernel_rfl) (by kernel_rfl)
abbrev T_access_cause : TE := [(3, ⟨.int .i64 0, 1, 8, .sc (.int .i64), none⟩), (33, ⟨.int .u64 0, 1, 8, .sc (.int .u64), none⟩), (93, ⟨.ints .u64 3 (fun _ => 0), 3, 24, .ar 3 33 1 false, some (.ar 3 1 (.it .u64))⟩)]
theorem T_access_cause_ok : Prg Try.prog T_access_cause := ⟨(.cons te_3 (.cons te_33 (.cons te_93 (TEok.nil _)))), by kernel_rfl⟩
noncomputable abbrev O_access_cause {α : Type} : ORC α := []
theorem O_access_cause_ok {α : Type} {I : Imm} : OOk (α := α) Try.prog I O_access_cause := OOk.nil
set_option maxHeartbeats 4000000 in
set_option maxRecDepth 100000 in
theorem c_access_cause {α : Type} {I : Imm} : OrcOk (α := α) Try.prog I 105 (.pure causeF) := by
  refine orc_pure T_access_cause_ok (O := O_access_cause) O_access_cause_ok (L := []) ⟨1, []⟩ Try.func105 (by kernel_rfl) (by kernel_rfl) (by kernel_rfl) FLOk.nil ?_
  intro args k r hk
  unfold causeF at hk
  split at hk <;> try (simp at hk; done)
  rename_i kind cs
  refine ⟨_, hk, by simp [Ids, Idss], by simp [Ids, Idss], ?_⟩
  clear hk
  have hk2 := k2_bd kind
  repeat' ((conv => arg 1; whnf); split <;> try (exfalso; (try simp only [ltB_true, ltB_false, leB_true, leB_false, decide_eq_true_eq, decide_eq_false_iff_not, Bool.and_eq_true, Bool.and_eq_false_iff, Bool.or_eq_true, Bool.or_eq_false_iff, Bool.not_eq_true', Bool.not_eq_false', bne_iff_ne, ne_eq, bne_eq_false_iff_eq, beq_iff_eq, beq_eq_false_iff_ne, Decidable.not_not, eq_self, decide_true, Bool.true_and, true_and, not_true_eq_false, false_or, Nat.beq_refl, Bool.true_eq_false, Int.toNat_zero, nbeq, and_true, strOf_size] at *) <;> omega))
  all_goals (try (conv => arg 1; whnf))
  exact ends_int rfl
abbrev T_access_Bad : TE := [(46, ⟨.agg [.int .u64 0, .int .u64 0, .int .u64 0, .bool false], 4, 32, .st [(0, 1, false), (1, 1, false), (2, 1, false), (3, 1, false)], some (.st [(0, 1, false, .it .u64), (1, 1, false, .it .u64), (2, 1, false, .it .u64), (3, 1, false, .bl)])⟩), (93, ⟨.ints .u64 3 (fun _ => 0), 3, 24, .ar 3 33 1 false, some (.ar 3 1 (.it .u64))⟩)]
theorem T_access_Bad_ok : Prg Try.prog T_access_Bad := ⟨(.cons te_46 (.cons te_93 (TEok.nil _))), by kernel_rfl⟩
noncomputable abbrev O_access_Bad {α : Type} : ORC α := [(105, .pure causeF)]
theorem O_access_Bad_ok {α : Type} {I : Imm} : OOk (α := α) Try.prog I O_access_Bad := OOk.cons c_access_cause (OOk.nil)
set_option maxHeartbeats 4000000 in
set_option maxRecDepth 100000 in
theorem c_access_Bad {α : Type} {I : Imm} : OrcOk (α := α) Try.prog I 104 (.pure accessF2) := by
  refine orc_pure T_access_Bad_ok (O := O_access_Bad) O_access_Bad_ok (L := []) ⟨1, []⟩ Try.func104 (by kernel_rfl) (by kernel_rfl) (by kernel_rfl) FLOk.nil ?_
  intro args k r hk
  unfold accessF2 at hk
  split at hk <;> try (simp at hk; done)
  rename_i at_ kind v
  refine ⟨_, hk, by simp [Ids, Idss], by simp [Ids, Idss], ?_⟩
  clear hk
  repeat' ((conv => arg 1; whnf); split <;> try (exfalso; (try simp only [ltB_true, ltB_false, leB_true, leB_false, decide_eq_true_eq, decide_eq_false_iff_not, Bool.and_eq_true, Bool.and_eq_false_iff, Bool.or_eq_true, Bool.or_eq_false_iff, Bool.not_eq_true', Bool.not_eq_false', bne_iff_ne, ne_eq, bne_eq_false_iff_eq, beq_iff_eq, beq_eq_false_iff_ne, Decidable.not_not, eq_self, decide_true, Bool.true_and, true_and, not_true_eq_false, false_or, Nat.beq_refl, Bool.true_eq_false, Int.toNat_zero, nbeq, and_true, strOf_size] at *) <;> omega))
  all_goals (try (conv => arg 1; whnf))
  refine ends_any ?_
  simp only [accessS, c3_upd]
abbrev T_access_Aligned : TE := [(3, ⟨.int .i64 0, 1, 8, .sc (.int .i64), none⟩), (33, ⟨.int .u64 0, 1, 8, .sc (.int .u64), none⟩), (46, ⟨.agg [.int .u64 0, .int .u64 0, .int .u64 0, .bool false], 4, 32, .st [(0, 1, false), (1, 1, false), (2, 1, false), (3, 1, false)], some (.st [(0, 1, false, .it .u64), (1, 1, false, .it .u64), (2, 1, false, .it .u64), (3, 1, false, .bl)])⟩), (93, ⟨.ints .u64 3 (fun _ => 0), 3, 24, .ar 3 33 1 false, some (.ar 3 1 (.it .u64))⟩)]
theorem T_access_Aligned_ok : Prg Try.prog T_access_Aligned := ⟨(.cons te_3 (.cons te_33 (.cons te_46 (.cons te_93 (TEok.nil _))))), by kernel_rfl⟩
noncomputable abbrev O_access_Aligned {α : Type} : ORC α := [(104, .pure accessF2), (105, .pure causeF)]
theorem O_access_Aligned_ok {α : Type} {I : Imm} : OOk (α := α) Try.prog I O_access_Aligned := OOk.cons c_access_Bad (OOk.cons c_access_cause (OOk.nil))
set_option maxHeartbeats 4000000 in
set_option maxRecDepth 100000 in
theorem c_access_Aligned {α : Type} {I : Imm} : OrcOk (α := α) Try.prog I 78 (.pure alignF) := by
  refine orc_pure T_access_Aligned_ok (O := O_access_Aligned) O_access_Aligned_ok (L := []) ⟨1, []⟩ Try.func78 (by kernel_rfl) (by kernel_rfl) (by kernel_rfl) FLOk.nil ?_
  intro args k r hk
  unfold alignF at hk
  split at hk <;> try (simp at hk; done)
  rename_i at_ n kind v
  refine ⟨_, hk, by simp [Ids, Idss], by simp [Ids, Idss], ?_⟩
  clear hk
  have w1 : IntKind.u64.wrap 1 = 1 := by decide +kernel
  have w2 : IntKind.u64.wrap 2 = 2 := by decide +kernel
  have w4 : IntKind.u64.wrap 4 = 4 := by decide +kernel
  have w8 : IntKind.u64.wrap 8 = 8 := by decide +kernel
  repeat' ((conv => arg 1; whnf); split)
  all_goals (try (conv => arg 1; whnf))
  all_goals first
    | (refine ends_any ?_; simp only [alignS, c3_upd, cond_true, cond_false, *, Bool.and_true, Bool.true_and, Bool.false_and, Bool.and_false, Bool.or_true, Bool.true_or, Bool.or_false, Bool.false_or, Bool.not_true, Bool.not_false, Bool.and_self, Bool.or_self, Bool.and_true, Bool.and_false, Bool.true_and, Bool.false_and, *]; done)
    | (refine ends_any ?_; simp only [alignS, c3_upd, cond_true, cond_false, *, Bool.and_true, Bool.true_and, Bool.false_and, Bool.and_false, Bool.or_true, Bool.true_or, Bool.or_false, Bool.false_or, Bool.not_true, Bool.not_false, Bool.and_self, Bool.or_self, Bool.and_true, Bool.and_false, Bool.true_and, Bool.false_and, *]; rfl)
    | (exfalso
       simp only [bne_iff_ne, ne_eq, bne_eq_false_iff_eq, decide_eq_true_eq, decide_eq_false_iff_not] at *
       subst_vars
       simp only [w1, w2, w4, w8] at *
       done)
    | (exfalso
       simp only [bne_iff_ne, ne_eq, bne_eq_false_iff_eq, decide_eq_true_eq, decide_eq_false_iff_not] at *
       subst_vars
       simp only [w1, w2, w4, w8] at *
       omega)
abbrev T_access_At : TE := [(3, ⟨.int .i64 0, 1, 8, .sc (.int .i64), none⟩), (46, ⟨.agg [.int .u64 0, .int .u64 0, .int .u64 0, .bool false], 4, 32, .st [(0, 1, false), (1, 1, false), (2, 1, false), (3, 1, false)], some (.st [(0, 1, false, .it .u64), (1, 1, false, .it .u64), (2, 1, false, .it .u64), (3, 1, false, .bl)])⟩)]
theorem T_access_At_ok : Prg Try.prog T_access_At := ⟨(.cons te_3 (.cons te_46 (TEok.nil _))), by kernel_rfl⟩
noncomputable abbrev O_access_At {α : Type} : ORC α := [(40, .full B_bus_Bus_IsDevice), (106, .full B_bus_Bus_Write), (107, .full B_bus_Bus_Read), (104, .pure accessF2)]
theorem O_access_At_ok {α : Type} {I : Imm} : OOk (α := α) Try.prog I O_access_At := OOk.cons c_bus_Bus_IsDevice (OOk.cons c_bus_Bus_Write (OOk.cons c_bus_Bus_Read (OOk.cons c_access_Bad (OOk.nil))))
noncomputable abbrev B_access_At {α : Type} : FF α := byBody T_access_At O_access_At ⟨1, []⟩ Try.f80
theorem c_access_At {α : Type} {I : Imm} : OrcOk (α := α) Try.prog I 80 (.full B_access_At) := orc_body T_access_At_ok O_access_At_ok ⟨1, []⟩ Try.func80 (by kernel_rfl) (by kernel_rfl) (by kernel_rfl)
abbrev T_access_Do : TE := [(42, ⟨.agg [.ints .u64 32 (fun _ => 0), .int .u64 0, .int .i64 0, .bool false, .ints .u64 29 (fun _ => 0), .int .u64 0], 65, 520, .st [(0, 32, true), (32, 1, false), (33, 1, false), (34, 1, false), (35, 29, true), (64, 1, false)], some (.st [(0, 32, true, .ar 32 1 (.it .u64)), (32, 1, false, .it .u64), (33, 1, false, .it .i64), (34, 1, false, .bl), (35, 29, true, .ar 29 1 (.it .u64)), (64, 1, false, .it .u64)])⟩), (44, ⟨.agg [.bool false, .bool false, .int .i64 0, .int .i64 0, .int .i64 0, .int .i64 0, .int .i64 0, .int .i64 0, .int .i64 0], 9, 64, .st [(0, 1, false), (1, 1, false), (2, 1, false), (3, 1, false), (4, 1, false), (5, 1, false), (6, 1, false), (7, 1, false), (8, 1, false)], some (.st [(0, 1, false, .bl), (1, 1, false, .bl), (2, 1, false, .it .i64), (3, 1, false, .it .i64), (4, 1, false, .it .i64), (5, 1, false, .it .i64), (6, 1, false, .it .i64), (7, 1, false, .it .i64), (8, 1, false, .it .i64)])⟩), (46, ⟨.agg [.int .u64 0, .int .u64 0, .int .u64 0, .bool false], 4, 32, .st [(0, 1, false), (1, 1, false), (2, 1, false), (3, 1, false)], some (.st [(0, 1, false, .it .u64), (1, 1, false, .it .u64), (2, 1, false, .it .u64), (3, 1, false, .bl)])⟩)]
theorem T_access_Do_ok : Prg Try.prog T_access_Do := ⟨(.cons te_42 (.cons te_44 (.cons te_46 (TEok.nil _)))), by kernel_rfl⟩
noncomputable abbrev O_access_Do {α : Type} : ORC α := [(78, .pure alignF), (79, .full B_bus_Bus_Mem), (19, .full transF), (80, .full B_access_At)]
theorem O_access_Do_ok {α : Type} {I : Imm} : OOk (α := α) Try.prog I O_access_Do := OOk.cons c_access_Aligned (OOk.cons c_bus_Bus_Mem (OOk.cons c_two_Translate (OOk.cons c_access_At (OOk.nil))))
noncomputable abbrev B_access_Do {α : Type} : FF α := byBody T_access_Do O_access_Do ⟨1, []⟩ Try.f38
theorem c_access_Do {α : Type} {I : Imm} : OrcOk (α := α) Try.prog I 38 (.full B_access_Do) := orc_body T_access_Do_ok O_access_Do_ok ⟨1, []⟩ Try.func38 (by kernel_rfl) (by kernel_rfl) (by kernel_rfl)
theorem te_181 : TyOk Try.prog 181 ⟨.ints .i64 12 (fun _ => 0), 12, 96, .ar 12 3 1 false, some (.ar 12 1 (.it .i64))⟩ := ⟨fun _ => by kernel_rfl, ⟨rfl, rfl, fun _ _ => by simp [Wf, Wfs]⟩, ⟨Try.underlying181, by kernel_rfl, by kernel_rfl⟩, fun _ h => by cases h; exact ⟨by kernel_rfl, by kernel_rfl⟩⟩
abbrev T_insn_Class : TE := [(3, ⟨.int .i64 0, 1, 8, .sc (.int .i64), none⟩), (181, ⟨.ints .i64 12 (fun _ => 0), 12, 96, .ar 12 3 1 false, some (.ar 12 1 (.it .i64))⟩)]
theorem T_insn_Class_ok : Prg Try.prog T_insn_Class := ⟨(.cons te_3 (.cons te_181 (TEok.nil _))), by kernel_rfl⟩
noncomputable abbrev O_insn_Class {α : Type} : ORC α := []
theorem O_insn_Class_ok {α : Type} {I : Imm} : OOk (α := α) Try.prog I O_insn_Class := OOk.nil
noncomputable abbrev B_insn_Class {α : Type} : FF α := byBody T_insn_Class O_insn_Class ⟨20, []⟩ Try.f81
theorem c_insn_Class {α : Type} {I : Imm} : OrcOk (α := α) Try.prog I 81 (.full B_insn_Class) := orc_body T_insn_Class_ok O_insn_Class_ok ⟨20, []⟩ Try.func81 (by kernel_rfl) (by kernel_rfl) (by kernel_rfl)
abbrev T_insn_field : TE := [(3, ⟨.int .i64 0, 1, 8, .sc (.int .i64), none⟩)]
theorem T_insn_field_ok : Prg Try.prog T_insn_field := ⟨(.cons te_3 (TEok.nil _)), by kernel_rfl⟩
noncomputable abbrev O_insn_field {α : Type} : ORC α := []
theorem O_insn_field_ok {α : Type} {I : Imm} : OOk (α := α) Try.prog I O_insn_field := OOk.nil
noncomputable abbrev B_insn_field {α : Type} : FF α := byBody T_insn_field O_insn_field ⟨20, []⟩ Try.f109
theorem c_insn_field {α : Type} {I : Imm} : OrcOk (α := α) Try.prog I 109 (.full B_insn_field) := orc_body T_insn_field_ok O_insn_field_ok ⟨20, []⟩ Try.func109 (by kernel_rfl) (by kernel_rfl) (by kernel_rfl)
theorem te_183 : TyOk Try.prog 183 ⟨.agg [.bool false, .bool false, .bool false, .bool false, .int .i64 0, .int .i64 0, .int .i64 0], 7, 32, .st [(0, 1, false), (1, 1, false), (2, 1, false), (3, 1, false), (4, 1, false), (5, 1, false), (6, 1, false)], some (.st [(0, 1, false, .bl), (1, 1, false, .bl), (2, 1, false, .bl), (3, 1, false, .bl), (4, 1, false, .it .i64), (5, 1, false, .it .i64), (6, 1, false, .it .i64)])⟩ := ⟨fun _ => by kernel_rfl, ⟨rfl, rfl, fun _ _ => by simp [Wf, Wfs]⟩, ⟨_, Try.underlying183, by kernel_rfl⟩, fun _ h => by cases h; exact ⟨by kernel_rfl, by kernel_rfl⟩⟩
abbrev T_insn_jumps : TE := [(3, ⟨.int .i64 0, 1, 8, .sc (.int .i64), none⟩), (183, ⟨.agg [.bool false, .bool false, .bool false, .bool false, .int .i64 0, .int .i64 0, .int .i64 0], 7, 32, .st [(0, 1, false), (1, 1, false), (2, 1, false), (3, 1, false), (4, 1, false), (5, 1, false), (6, 1, false)], some (.st [(0, 1, false, .bl), (1, 1, false, .bl), (2, 1, false, .bl), (3, 1, false, .bl), (4, 1, false, .it .i64), (5, 1, false, .it .i64), (6, 1, false, .it .i64)])⟩)]
theorem T_insn_jumps_ok : Prg Try.prog T_insn_jumps := ⟨(.cons te_3 (.cons te_183 (TEok.nil _))), by kernel_rfl⟩
noncomputable abbrev O_insn_jumps {α : Type} : ORC α := []
theorem O_insn_jumps_ok {α : Type} {I : Imm} : OOk (α := α) Try.prog I O_insn_jumps := OOk.nil
noncomputable abbrev B_insn_jumps {α : Type} : FF α := byBody T_insn_jumps O_insn_jumps ⟨20, []⟩ Try.f125
theorem c_insn_jumps {α : Type} {I : Imm} : OrcOk (α := α) Try.prog I 125 (.full B_insn_jumps) := orc_body T_insn_jumps_ok O_insn_jumps_ok ⟨20, []⟩ Try.func125 (by kernel_rfl) (by kernel_rfl) (by kernel_rfl)
abbrev T_insn_withNumber : TE := [(2, ⟨.int .i64 0, 1, 8, .sc (.int .i64), none⟩), (3, ⟨.int .i64 0, 1, 8, .sc (.int .i64), none⟩), (183, ⟨.agg [.bool false, .bool false, .bool false, .bool false, .int .i64 0, .int .i64 0, .int .i64 0], 7, 32, .st [(0, 1, false), (1, 1, false), (2, 1, false), (3, 1, false), (4, 1, false), (5, 1, false), (6, 1, false)], some (.st [(0, 1, false, .bl), (1, 1, false, .bl), (2, 1, false, .bl), (3, 1, false, .bl), (4, 1, false, .it .i64), (5, 1, false, .it .i64), (6, 1, false, .it .i64)])⟩)]
theorem T_insn_withNumber_ok : Prg Try.prog T_insn_withNumber := ⟨(.cons te_2 (.cons te_3 (.cons te_183 (TEok.nil _)))), by kernel_rfl⟩
noncomputable abbrev O_insn_withNumber {α : Type} : ORC α := []
theorem O_insn_withNumber_ok {α : Type} {I : Imm} : OOk (α := α) Try.prog I O_insn_withNumber := OOk.nil
noncomputable abbrev B_insn_withNumber {α : Type} : FF α := byBody T_insn_withNumber O_insn_withNumber ⟨20, []⟩ Try.f126
theorem c_insn_withNumber {α : Type} {I : Imm} : OrcOk (α := α) Try.prog I 126 (.full B_insn_withNumber) := orc_body T_insn_withNumber_ok O_insn_withNumber_ok ⟨20, []⟩ Try.func126 (by kernel_rfl) (by kernel_rfl) (by kernel_rfl)
abbrev T_insn_Of : TE := [(3, ⟨.int .i64 0, 1, 8, .sc (.int .i64), none⟩), (183, ⟨.agg [.bool false, .bool false, .bool false, .bool false, .int .i64 0, .int .i64 0, .int .i64 0], 7, 32, .st [(0, 1, false), (1, 1, false), (2, 1, false), (3, 1, false), (4, 1, false), (5, 1, false), (6, 1, false)], some (.st [(0, 1, false, .bl), (1, 1, false, .bl), (2, 1, false, .bl), (3, 1, false, .bl), (4, 1, false, .it .i64), (5, 1, false, .it .i64), (6, 1, false, .it .i64)])⟩)]
theorem T_insn_Of_ok : Prg Try.prog T_insn_Of := ⟨(.cons te_3 (.cons te_183 (TEok.nil _))), by kernel_rfl⟩
noncomputable abbrev O_insn_Of {α : Type} : ORC α := [(81, .full B_insn_Class), (125, .full B_insn_jumps), (126, .full B_insn_withNumber)]
theorem O_insn_Of_ok {α : Type} {I : Imm} : OOk (α := α) Try.prog I O_insn_Of := OOk.cons c_insn_Class (OOk.cons c_insn_jumps (OOk.cons c_insn_withNumber (OOk.nil)))
noncomputable abbrev B_insn_Of {α : Type} : FF α := byBody T_insn_Of O_insn_Of ⟨20, []⟩ Try.f108
theorem c_insn_Of {α : Type} {I : Imm} : OrcOk (α := α) Try.prog I 108 (.full B_insn_Of) := orc_body T_insn_Of_ok O_insn_Of_ok ⟨20, []⟩ Try.func108 (by kernel_rfl) (by kernel_rfl) (by kernel_rfl)
theorem te_91 : TyOk Try.prog 91 ⟨.agg [.int .i64 0, .int .i64 0, .int .i64 0, .int .i64 0, .int .i64 0, .int .i64 0], 6, 48, .st [(0, 1, false), (1, 1, false), (2, 1, false), (3, 1, false), (4, 1, false), (5, 1, false)], some (.st [(0, 1, false, .it .i64), (1, 1, false, .it .i64), (2, 1, false, .it .i64), (3, 1, false, .it .i64), (4, 1, false, .it .i64), (5, 1, false, .it .i64)])⟩ := ⟨fun _ => by kernel_rfl, ⟨rfl, rfl, fun _ _ => by simp [Wf, Wfs]⟩, ⟨_, Try.underlying91, by kernel_rfl⟩, fun _ h => by cases h; exact ⟨by kernel_rfl, by kernel_rfl⟩⟩
abbrev T_insn_Is : TE := [(2, ⟨.int .i64 0, 1, 8, .sc (.int .i64), none⟩), (3, ⟨.int .i64 0, 1, 8, .sc (.int .i64), none⟩), (4, ⟨.bool false, 1, 1, .sc (.bool), none⟩), (91, ⟨.agg [.int .i64 0, .int .i64 0, .int .i64 0, .int .i64 0, .int .i64 0, .int .i64 0], 6, 48, .st [(0, 1, false), (1, 1, false), (2, 1, false), (3, 1, false), (4, 1, false), (5, 1, false)], some (.st [(0, 1, false, .it .i64), (1, 1, false, .it .i64), (2, 1, false, .it .i64), (3, 1, false, .it .i64), (4, 1, false, .it .i64), (5, 1, false, .it .i64)])⟩), (183, ⟨.agg [.bool false, .bool false, .bool false, .bool false, .int .i64 0, .int .i64 0, .int .i64 0], 7, 32, .st [(0, 1, false), (1, 1, false), (2, 1, false), (3, 1, false), (4, 1, false), (5, 1, false), (6, 1, false)], some (.st [(0, 1, false, .bl), (1, 1, false, .bl), (2, 1, false, .bl), (3, 1, false, .bl), (4, 1, false, .it .i64), (5, 1, false, .it .i64), (6, 1, false, .it .i64)])⟩)]
theorem T_insn_Is_ok : Prg Try.prog T_insn_Is := ⟨(.cons te_2 (.cons te_3 (.cons te_4 (.cons te_91 (.cons te_183 (TEok.nil _)))))), by kernel_rfl⟩
noncomputable abbrev O_insn_Is {α : Type} : ORC α := [(81, .full B_insn_Class), (108, .full B_insn_Of), (109, .full B_insn_field)]
theorem O_insn_Is_ok {α : Type} {I : Imm} : OOk (α := α) Try.prog I O_insn_Is := OOk.cons c_insn_Class (OOk.cons c_insn_Of (OOk.cons c_insn_field (OOk.nil)))
noncomputable abbrev B_insn_Is {α : Type} : FF α := byBody T_insn_Is O_insn_Is ⟨20, []⟩ Try.f82
theorem c_insn_Is {α : Type} {I : Imm} : OrcOk (α := α) Try.prog I 82 (.full B_insn_Is) := orc_body T_insn_Is_ok O_insn_Is_ok ⟨20, []⟩ Try.func82 (by kernel_rfl) (by kernel_rfl) (by kernel_rfl)
abbrev T_insn_Size : TE := [(3, ⟨.int .i64 0, 1, 8, .sc (.int .i64), none⟩)]
theorem T_insn_Size_ok : Prg Try.prog T_insn_Size := ⟨(.cons te_3 (TEok.nil _)), by kernel_rfl⟩
noncomputable abbrev O_insn_Size {α : Type} : ORC α := []
theorem O_insn_Size_ok {α : Type} {I : Imm} : OOk (α := α) Try.prog I O_insn_Size := OOk.nil
noncomputable abbrev B_insn_Size {α : Type} : FF α := byBody T_insn_Size O_insn_Size ⟨20, []⟩ Try.f84
theorem c_insn_Size {α : Type} {I : Imm} : OrcOk (α := α) Try.prog I 84 (.full B_insn_Size) := orc_body T_insn_Size_ok O_insn_Size_ok ⟨20, []⟩ Try.func84 (by kernel_rfl) (by kernel_rfl) (by kernel_rfl)
abbrev T_alu_Extend : TE := [(3, ⟨.int .i64 0, 1, 8, .sc (.int .i64), none⟩)]
theorem T_alu_Extend_ok : Prg Try.prog T_alu_Extend := ⟨(.cons te_3 (TEok.nil _)), by kernel_rfl⟩
noncomputable abbrev O_alu_Extend {α : Type} : ORC α := [(84, .full B_insn_Size), (89, .pure zextF), (111, .pure sextF)]
theorem O_alu_Extend_ok {α : Type} {I : Imm} : OOk (α := α) Try.prog I O_alu_Extend := OOk.cons c_insn_Size (OOk.cons c_word_Zext (OOk.cons c_word_Sext (OOk.nil)))
noncomputable abbrev B_alu_Extend {α : Type} : FF α := byBody T_alu_Extend O_alu_Extend ⟨20, []⟩ Try.f85
theorem c_alu_Extend {α : Type} {I : Imm} : OrcOk (α := α) Try.prog I 85 (.full B_alu_Extend) := orc_body T_alu_Extend_ok O_alu_Extend_ok ⟨20, []⟩ Try.func85 (by kernel_rfl) (by kernel_rfl) (by kernel_rfl)
abbrev T_access_sort : TE := [(33, ⟨.int .u64 0, 1, 8, .sc (.int .u64), none⟩)]
theorem T_access_sort_ok : Prg Try.prog T_access_sort := ⟨(.cons te_33 (TEok.nil _)), by kernel_rfl⟩
noncomputable abbrev O_access_sort {α : Type} : ORC α := []
theorem O_access_sort_ok {α : Type} {I : Imm} : OOk (α := α) Try.prog I O_access_sort := OOk.nil
noncomputable abbrev B_access_sort {α : Type} : FF α := byBody T_access_sort O_access_sort ⟨20, []⟩ Try.f110
theorem c_access_sort {α : Type} {I : Imm} : OrcOk (α := α) Try.prog I 110 (.full B_access_sort) := orc_body T_access_sort_ok O_access_sort_ok ⟨20, []⟩ Try.func110 (by kernel_rfl) (by kernel_rfl) (by kernel_rfl)
abbrev T_access_runnable : TE := [(33, ⟨.int .u64 0, 1, 8, .sc (.int .u64), none⟩), (42, ⟨.agg [.ints .u64 32 (fun _ => 0), .int .u64 0, .int .i64 0, .bool false, .ints .u64 29 (fun _ => 0), .int .u64 0], 65, 520, .st [(0, 32, true), (32, 1, false), (33, 1, false), (34, 1, false), (35, 29, true), (64, 1, false)], some (.st [(0, 32, true, .ar 32 1 (.it .u64)), (32, 1, false, .it .u64), (33, 1, false, .it .i64), (34, 1, false, .bl), (35, 29, true, .ar 29 1 (.it .u64)), (64, 1, false, .it .u64)])⟩), (44, ⟨.agg [.bool false, .bool false, .int .i64 0, .int .i64 0, .int .i64 0, .int .i64 0, .int .i64 0, .int .i64 0, .int .i64 0], 9, 64, .st [(0, 1, false), (1, 1, false), (2, 1, false), (3, 1, false), (4, 1, false), (5, 1, false), (6, 1, false), (7, 1, false), (8, 1, false)], some (.st [(0, 1, false, .bl), (1, 1, false, .bl), (2, 1, false, .it .i64), (3, 1, false, .it .i64), (4, 1, false, .it .i64), (5, 1, false, .it .i64), (6, 1, false, .it .i64), (7, 1, false, .it .i64), (8, 1, false, .it .i64)])⟩), (46, ⟨.agg [.int .u64 0, .int .u64 0, .int .u64 0, .bool false], 4, 32, .st [(0, 1, false), (1, 1, false), (2, 1, false), (3, 1, false)], some (.st [(0, 1, false, .it .u64), (1, 1, false, .it .u64), (2, 1, false, .it .u64), (3, 1, false, .bl)])⟩), (93, ⟨.ints .u64 3 (fun _ => 0), 3, 24, .ar 3 33 1 false, some (.ar 3 1 (.it .u64))⟩)]
theorem T_access_runnable_ok : Prg Try.prog T_access_runnable := ⟨(.cons te_33 (.cons te_42 (.cons te_44 (.cons te_46 (.cons te_93 (TEok.nil _)))))), by kernel_rfl⟩
noncomputable abbrev O_access_runnable {α : Type} : ORC α := [(78, .pure alignF), (79, .full B_bus_Bus_Mem), (19, .full transF), (110, .full B_access_sort), (80, .full B_access_At), (85, .full B_alu_Extend)]
theorem O_access_runnable_ok {α : Type} {I : Imm} : OOk (α := α) Try.prog I O_access_runnable := OOk.cons c_access_Aligned (OOk.cons c_bus_Bus_Mem (OOk.cons c_two_Translate (OOk.cons c_access_sort (OOk.cons c_access_At (OOk.cons c_alu_Extend (OOk.nil))))))
noncomputable abbrev B_access_runnable {α : Type} : FF α := byBody T_access_runnable O_access_runnable ⟨20, []⟩ Try.f83
theorem c_access_runnable {α : Type} {I : Imm} : OrcOk (α := α) Try.prog I 83 (.full B_access_runnable) := orc_body T_access_runnable_ok O_access_runnable_ok ⟨20, []⟩ Try.func83 (by kernel_rfl) (by kernel_rfl) (by kernel_rfl)
theorem te_39 : TyOk Try.prog 39 ⟨.ints .u64 32 (fun _ => 0), 32, 256, .ar 32 33 1 false, some (.ar 32 1 (.it .u64))⟩ := ⟨fun _ => by kernel_rfl, ⟨rfl, rfl, fun _ _ => by simp [Wf, Wfs]⟩, ⟨Try.underlying39, by kernel_rfl, by kernel_rfl⟩, fun _ h => by cases h; exact ⟨by kernel_rfl, by kernel_rfl⟩⟩
abbrev T_access_Insn : TE := [(2, ⟨.int .i64 0, 1, 8, .sc (.int .i64), none⟩), (3, ⟨.int .i64 0, 1, 8, .sc (.int .i64), none⟩), (4, ⟨.bool false, 1, 1, .sc (.bool), none⟩), (33, ⟨.int .u64 0, 1, 8, .sc (.int .u64), none⟩), (39, ⟨.ints .u64 32 (fun _ => 0), 32, 256, .ar 32 33 1 false, some (.ar 32 1 (.it .u64))⟩), (42, ⟨.agg [.ints .u64 32 (fun _ => 0), .int .u64 0, .int .i64 0, .bool false, .ints .u64 29 (fun _ => 0), .int .u64 0], 65, 520, .st [(0, 32, true), (32, 1, false), (33, 1, false), (34, 1, false), (35, 29, true), (64, 1, false)], some (.st [(0, 32, true, .ar 32 1 (.it .u64)), (32, 1, false, .it .u64), (33, 1, false, .it .i64), (34, 1, false, .bl), (35, 29, true, .ar 29 1 (.it .u64)), (64, 1, false, .it .u64)])⟩), (46, ⟨.agg [.int .u64 0, .int .u64 0, .int .u64 0, .bool false], 4, 32, .st [(0, 1, false), (1, 1, false), (2, 1, false), (3, 1, false)], some (.st [(0, 1, false, .it .u64), (1, 1, false, .it .u64), (2, 1, false, .it .u64), (3, 1, false, .bl)])⟩), (91, ⟨.agg [.int .i64 0, .int .i64 0, .int .i64 0, .int .i64 0, .int .i64 0, .int .i64 0], 6, 48, .st [(0, 1, false), (1, 1, false), (2, 1, false), (3, 1, false), (4, 1, false), (5, 1, false)], some (.st [(0, 1, false, .it .i64), (1, 1, false, .it .i64), (2, 1, false, .it .i64), (3, 1, false, .it .i64), (4, 1, false, .it .i64), (5, 1, false, .it .i64)])⟩)]
theorem T_access_Insn_ok : Prg Try.prog T_access_Insn := ⟨(.cons te_2 (.cons te_3 (.cons te_4 (.cons te_33 (.cons te_39 (.cons te_42 (.cons te_46 (.cons te_91 (TEok.nil _))))))))), by kernel_rfl⟩
noncomputable abbrev O_access_Insn {α : Type} : ORC α := [(81, .full B_insn_Class), (82, .full B_insn_Is), (56, .pure bitF), (83, .full B_access_runnable), (84, .full B_insn_Size), (38, .full B_access_Do), (85, .full B_alu_Extend)]
theorem O_access_Insn_ok {α : Type} {I : Imm} : OOk (α := α) Try.prog I O_access_Insn := OOk.cons c_insn_Class (OOk.cons c_insn_Is (OOk.cons c_csr_Bit (OOk.cons c_access_runnable (OOk.cons c_insn_Size (OOk.cons c_access_Do (OOk.cons c_alu_Extend (OOk.nil)))))))
noncomputable abbrev B_access_Insn {α : Type} : FF α := byBody T_access_Insn O_access_Insn ⟨20, []⟩ Try.f41
theorem c_access_Insn {α : Type} {I : Imm} : OrcOk (α := α) Try.prog I 41 (.full B_access_Insn) := orc_body T_access_Insn_ok O_access_Insn_ok ⟨20, []⟩ Try.func41 (by kernel_rfl) (by kernel_rfl) (by kernel_rfl)
theorem te_136 : TyOk Try.prog 136 ⟨.int .u32 0, 1, 4, .sc (.int .u32), none⟩ := ⟨fun _ => by kernel_rfl, ⟨rfl, rfl, fun _ _ => by simp [Wf, Wfs]⟩, ⟨Try.underlying136, rfl⟩, fun _ h => by cases h⟩
abbrev T_access_Word : TE := [(3, ⟨.int .i64 0, 1, 8, .sc (.int .i64), none⟩), (4, ⟨.bool false, 1, 1, .sc (.bool), none⟩), (33, ⟨.int .u64 0, 1, 8, .sc (.int .u64), none⟩), (42, ⟨.agg [.ints .u64 32 (fun _ => 0), .int .u64 0, .int .i64 0, .bool false, .ints .u64 29 (fun _ => 0), .int .u64 0], 65, 520, .st [(0, 32, true), (32, 1, false), (33, 1, false), (34, 1, false), (35, 29, true), (64, 1, false)], some (.st [(0, 32, true, .ar 32 1 (.it .u64)), (32, 1, false, .it .u64), (33, 1, false, .it .i64), (34, 1, false, .bl), (35, 29, true, .ar 29 1 (.it .u64)), (64, 1, false, .it .u64)])⟩), (46, ⟨.agg [.int .u64 0, .int .u64 0, .int .u64 0, .bool false], 4, 32, .st [(0, 1, false), (1, 1, false), (2, 1, false), (3, 1, false)], some (.st [(0, 1, false, .it .u64), (1, 1, false, .it .u64), (2, 1, false, .it .u64), (3, 1, false, .bl)])⟩), (136, ⟨.int .u32 0, 1, 4, .sc (.int .u32), none⟩)]
theorem T_access_Word_ok : Prg Try.prog T_access_Word := ⟨(.cons te_3 (.cons te_4 (.cons te_33 (.cons te_42 (.cons te_46 (.cons te_136 (TEok.nil _))))))), by kernel_rfl⟩
noncomputable abbrev O_access_Word {α : Type} : ORC α := [(38, .full B_access_Do)]
theorem O_access_Word_ok {α : Type} {I : Imm} : OOk (α := α) Try.prog I O_access_Word := OOk.cons c_access_Do (OOk.nil)
noncomputable abbrev B_access_Word {α : Type} : FF α := byBody T_access_Word O_access_Word ⟨20, []⟩ Try.f77
theorem c_access_Word {α : Type} {I : Imm} : OrcOk (α := α) Try.prog I 77 (.full B_access_Word) := orc_body T_access_Word_ok O_access_Word_ok ⟨20, []⟩ Try.func77 (by kernel_rfl) (by kernel_rfl) (by kernel_rfl)
end Go.Proofs.Ytigomjcmpafeeaa
