/-
  Contracts: Known24.
-/
import Derived.Test.YtgagmgcljkhboaaProg
import Derived.Test.YtgagmgcljkhboaaSkC
set_option linter.unusedSimpArgs false
set_option linter.unusedVariables false
namespace Go.Proofs.Ytgagmgcljkhboaa
open Go Go.Sh Go.Proofs
set_option linter.unusedSimpArgs false
theorem te_3 : TyOk Try.prog 3 ⟨.int .i64 0, 1, 8, .sc (.int .i64), none⟩ := ⟨fun _ => by kernel_rfl, ⟨rfl, rfl, fun _ _ => by simp [Wf, Wfs]⟩, ⟨Try.underlying3, rfl⟩, fun _ h => by cases h⟩
abbrev T_config_within : TE := [(3, ⟨.int .i64 0, 1, 8, .sc (.int .i64), none⟩)]
theorem T_config_within_ok : Prg Try.prog T_config_within := ⟨(.cons te_3 (TEok.nil _)), by kernel_rfl⟩
noncomputable abbrev O_config_within {α : Type} : ORC α := []
theorem O_config_within_ok {α : Type} {I : Imm} : OOk (α := α) Try.prog I O_config_within := OOk.nil
noncomputable abbrev B_config_within {α : Type} : FF α := byBody T_config_within O_config_within ⟨6, []⟩ Try.f15
theorem c_config_within {α : Type} {I : Imm} : OrcOk (α := α) Try.prog I 15 (.full B_config_within) := orc_body T_config_within_ok O_config_within_ok ⟨6, []⟩ Try.func15 (by kernel_rfl) (by kernel_rfl) (by kernel_rfl)
theorem te_4 : TyOk Try.prog 4 ⟨.bool false, 1, 1, .sc (.bool), none⟩ := ⟨fun _ => by kernel_rfl, ⟨rfl, rfl, fun _ _ => by simp [Wf, Wfs]⟩, ⟨Try.underlying4, rfl⟩, fun _ h => by cases h⟩
theorem te_52 : TyOk Try.prog 52 ⟨.bools 128 (fun _ => false), 128, 128, .ar 128 4 1 false, none⟩ := ⟨fun _ => by kernel_rfl, ⟨rfl, rfl, fun _ _ => by simp [Wf, Wfs]⟩, ⟨Try.underlying52, by kernel_rfl, by kernel_rfl⟩, fun _ h => by cases h⟩
abbrev T_config_frames_1 : TE := [(4, ⟨.bool false, 1, 1, .sc (.bool), none⟩), (52, ⟨.bools 128 (fun _ => false), 128, 128, .ar 128 4 1 false, none⟩)]
theorem T_config_frames_1_ok : Prg Try.prog T_config_frames_1 := ⟨(.cons te_4 (.cons te_52 (TEok.nil _))), by kernel_rfl⟩
noncomputable abbrev O_config_frames_1 {α : Type} : ORC α := [(15, .full B_config_within)]
theorem O_config_frames_1_ok {α : Type} {I : Imm} : OOk (α := α) Try.prog I O_config_frames_1 := OOk.cons c_config_within (OOk.nil)
noncomputable abbrev B_config_frames_1 {α : Type} : FF α := byBody T_config_frames_1 O_config_frames_1 ⟨6, []⟩ Try.f26
theorem c_config_frames_1 {α : Type} {I : Imm} : OrcOk (α := α) Try.prog I 26 (.full B_config_frames_1) := orc_body T_config_frames_1_ok O_config_frames_1_ok ⟨6, []⟩ Try.func26 (by kernel_rfl) (by kernel_rfl) (by kernel_rfl)
theorem te_23 : TyOk Try.prog 23 ⟨.nils, 1, 24, .sc (.slice 3), none⟩ := ⟨fun _ => by kernel_rfl, ⟨rfl, rfl, fun _ _ => by simp [Wf, Wfs]⟩, ⟨Try.underlying23, rfl⟩, fun _ h => by cases h⟩
abbrev T_slices_IndexInts : TE := [(3, ⟨.int .i64 0, 1, 8, .sc (.int .i64), none⟩), (23, ⟨.nils, 1, 24, .sc (.slice 3), none⟩)]
theorem T_slices_IndexInts_ok : Prg Try.prog T_slices_IndexInts := ⟨(.cons te_3 (.cons te_23 (TEok.nil _))), by kernel_rfl⟩
noncomputable abbrev O_slices_IndexInts {α : Type} : ORC α := []
theorem O_slices_IndexInts_ok {α : Type} {I : Imm} : OOk (α := α) Try.prog I O_slices_IndexInts := OOk.nil
noncomputable abbrev B_slices_IndexInts {α : Type} : FF α := byBody T_slices_IndexInts O_slices_IndexInts ⟨6, []⟩ Try.f27
theorem c_slices_IndexInts {α : Type} {I : Imm} : OrcOk (α := α) Try.prog I 27 (.full B_slices_IndexInts) := orc_body T_slices_IndexInts_ok O_slices_IndexInts_ok ⟨6, []⟩ Try.func27 (by kernel_rfl) (by kernel_rfl) (by kernel_rfl)
abbrev T_slices_ContainsInts : TE := [(3, ⟨.int .i64 0, 1, 8, .sc (.int .i64), none⟩)]
theorem T_slices_ContainsInts_ok : Prg Try.prog T_slices_ContainsInts := ⟨(.cons te_3 (TEok.nil _)), by kernel_rfl⟩
noncomputable abbrev O_slices_ContainsInts {α : Type} : ORC α := [(27, .full B_slices_IndexInts)]
theorem O_slices_ContainsInts_ok {α : Type} {I : Imm} : OOk (α := α) Try.prog I O_slices_ContainsInts := OOk.cons c_slices_IndexInts (OOk.nil)
noncomputable abbrev B_slices_ContainsInts {α : Type} : FF α := byBody T_slices_ContainsInts O_slices_ContainsInts ⟨6, []⟩ Try.f23
theorem c_slices_ContainsInts {α : Type} {I : Imm} : OrcOk (α := α) Try.prog I 23 (.full B_slices_ContainsInts) := orc_body T_slices_ContainsInts_ok O_slices_ContainsInts_ok ⟨6, []⟩ Try.func23 (by kernel_rfl) (by kernel_rfl) (by kernel_rfl)
theorem te_22 : TyOk Try.prog 22 ⟨.nils, 1, 24, .sc (.slice 35), none⟩ := ⟨fun _ => by kernel_rfl, ⟨rfl, rfl, fun _ _ => by simp [Wf, Wfs]⟩, ⟨Try.underlying22, rfl⟩, fun _ h => by cases h⟩
theorem te_25 : TyOk Try.prog 25 ⟨.agg [.nils, .int .i64 0, .nils], 3, 56, .st [(0, 1, false), (1, 1, false), (2, 1, false)], none⟩ := ⟨fun _ => by kernel_rfl, ⟨rfl, rfl, fun _ _ => by simp [Wf, Wfs]⟩, ⟨_, Try.underlying25, by kernel_rfl⟩, fun _ h => by cases h⟩
theorem te_35 : TyOk Try.prog 35 ⟨.agg [.nils, .str .empty, .int .u64 0, .str .empty], 4, 64, .st [(0, 1, false), (1, 1, false), (2, 1, false), (3, 1, false)], none⟩ := ⟨fun _ => by kernel_rfl, ⟨rfl, rfl, fun _ _ => by simp [Wf, Wfs]⟩, ⟨_, Try.underlying35, by kernel_rfl⟩, fun _ h => by cases h⟩
abbrev T_config_frames : TE := [(3, ⟨.int .i64 0, 1, 8, .sc (.int .i64), none⟩), (22, ⟨.nils, 1, 24, .sc (.slice 35), none⟩), (23, ⟨.nils, 1, 24, .sc (.slice 3), none⟩), (25, ⟨.agg [.nils, .int .i64 0, .nils], 3, 56, .st [(0, 1, false), (1, 1, false), (2, 1, false)], none⟩), (35, ⟨.agg [.nils, .str .empty, .int .u64 0, .str .empty], 4, 64, .st [(0, 1, false), (1, 1, false), (2, 1, false), (3, 1, false)], none⟩), (52, ⟨.bools 128 (fun _ => false), 128, 128, .ar 128 4 1 false, none⟩)]
theorem T_config_frames_ok : Prg Try.prog T_config_frames := ⟨(.cons te_3 (.cons te_22 (.cons te_23 (.cons te_25 (.cons te_35 (.cons te_52 (TEok.nil _))))))), by kernel_rfl⟩
noncomputable abbrev O_config_frames {α : Type} : ORC α := [(26, .full B_config_frames_1), (23, .full B_slices_ContainsInts)]
theorem O_config_frames_ok {α : Type} {I : Imm} : OOk (α := α) Try.prog I O_config_frames := OOk.cons c_config_frames_1 (OOk.cons c_slices_ContainsInts (OOk.nil))
noncomputable abbrev B_config_frames {α : Type} : FF α := byBody T_config_frames O_config_frames ⟨6, []⟩ Try.f16
theorem c_config_frames {α : Type} {I : Imm} : OrcOk (α := α) Try.prog I 16 (.full B_config_frames) := orc_body T_config_frames_ok O_config_frames_ok ⟨6, []⟩ Try.func16 (by kernel_rfl) (by kernel_rfl) (by kernel_rfl)
abbrev T_config_Window : TE := [(3, ⟨.int .i64 0, 1, 8, .sc (.int .i64), none⟩), (23, ⟨.nils, 1, 24, .sc (.slice 3), none⟩), (35, ⟨.agg [.nils, .str .empty, .int .u64 0, .str .empty], 4, 64, .st [(0, 1, false), (1, 1, false), (2, 1, false), (3, 1, false)], none⟩)]
theorem T_config_Window_ok : Prg Try.prog T_config_Window := ⟨(.cons te_3 (.cons te_23 (.cons te_35 (TEok.nil _)))), by kernel_rfl⟩
noncomputable abbrev O_config_Window {α : Type} : ORC α := []
theorem O_config_Window_ok {α : Type} {I : Imm} : OOk (α := α) Try.prog I O_config_Window := OOk.nil
noncomputable abbrev B_config_Window {α : Type} : FF α := byBody T_config_Window O_config_Window ⟨6, []⟩ Try.f11
theorem c_config_Window {α : Type} {I : Imm} : OrcOk (α := α) Try.prog I 11 (.full B_config_Window) := orc_body T_config_Window_ok O_config_Window_ok ⟨6, []⟩ Try.func11 (by kernel_rfl) (by kernel_rfl) (by kernel_rfl)
theorem te_9 : TyOk Try.prog 9 ⟨.str .empty, 1, 16, .sc (.string), none⟩ := ⟨fun _ => by kernel_rfl, ⟨rfl, rfl, fun _ _ => by simp [Wf, Wfs]⟩, ⟨Try.underlying9, rfl⟩, fun _ h => by cases h⟩
theorem te_33 : TyOk Try.prog 33 ⟨.int .u64 0, 1, 8, .sc (.int .u64), none⟩ := ⟨fun _ => by kernel_rfl, ⟨rfl, rfl, fun _ _ => by simp [Wf, Wfs]⟩, ⟨Try.underlying33, rfl⟩, fun _ h => by cases h⟩
abbrev T_config_Check : TE := [(3, ⟨.int .i64 0, 1, 8, .sc (.int .i64), none⟩), (9, ⟨.str .empty, 1, 16, .sc (.string), none⟩), (22, ⟨.nils, 1, 24, .sc (.slice 35), none⟩), (23, ⟨.nils, 1, 24, .sc (.slice 3), none⟩), (25, ⟨.agg [.nils, .int .i64 0, .nils], 3, 56, .st [(0, 1, false), (1, 1, false), (2, 1, false)], none⟩), (33, ⟨.int .u64 0, 1, 8, .sc (.int .u64), none⟩), (35, ⟨.agg [.nils, .str .empty, .int .u64 0, .str .empty], 4, 64, .st [(0, 1, false), (1, 1, false), (2, 1, false), (3, 1, false)], none⟩)]
theorem T_config_Check_ok : Prg Try.prog T_config_Check := ⟨(.cons te_3 (.cons te_9 (.cons te_22 (.cons te_23 (.cons te_25 (.cons te_33 (.cons te_35 (TEok.nil _)))))))), by kernel_rfl⟩
noncomputable abbrev O_config_Check {α : Type} : ORC α := [(15, .full B_config_within), (16, .full B_config_frames), (11, .full B_config_Window)]
theorem O_config_Check_ok {α : Type} {I : Imm} : OOk (α := α) Try.prog I O_config_Check := OOk.cons c_config_within (OOk.cons c_config_frames (OOk.cons c_config_Window (OOk.nil)))
noncomputable abbrev B_config_Check {α : Type} : FF α := byBody T_config_Check O_config_Check ⟨6, []⟩ Try.f9
theorem c_config_Check {α : Type} {I : Imm} : OrcOk (α := α) Try.prog I 9 (.full B_config_Check) := orc_body T_config_Check_ok O_config_Check_ok ⟨6, []⟩ Try.func9 (by kernel_rfl) (by kernel_rfl) (by kernel_rfl)
abbrev T_config_Owner_1 : TE := [(3, ⟨.int .i64 0, 1, 8, .sc (.int .i64), none⟩), (23, ⟨.nils, 1, 24, .sc (.slice 3), none⟩), (35, ⟨.agg [.nils, .str .empty, .int .u64 0, .str .empty], 4, 64, .st [(0, 1, false), (1, 1, false), (2, 1, false), (3, 1, false)], none⟩)]
theorem T_config_Owner_1_ok : Prg Try.prog T_config_Owner_1 := ⟨(.cons te_3 (.cons te_23 (.cons te_35 (TEok.nil _)))), by kernel_rfl⟩
noncomputable abbrev O_config_Owner_1 {α : Type} : ORC α := [(23, .full B_slices_ContainsInts)]
theorem O_config_Owner_1_ok {α : Type} {I : Imm} : OOk (α := α) Try.prog I O_config_Owner_1 := OOk.cons c_slices_ContainsInts (OOk.nil)
noncomputable abbrev B_config_Owner_1 {α : Type} : FF α := byBody T_config_Owner_1 O_config_Owner_1 ⟨6, []⟩ Try.f22
theorem c_config_Owner_1 {α : Type} {I : Imm} : OrcOk (α := α) Try.prog I 22 (.full B_config_Owner_1) := orc_body T_config_Owner_1_ok O_config_Owner_1_ok ⟨6, []⟩ Try.func22 (by kernel_rfl) (by kernel_rfl) (by kernel_rfl)
abbrev T_slices_IndexFuncGuests : TE := [(3, ⟨.int .i64 0, 1, 8, .sc (.int .i64), none⟩), (22, ⟨.nils, 1, 24, .sc (.slice 35), none⟩), (35, ⟨.agg [.nils, .str .empty, .int .u64 0, .str .empty], 4, 64, .st [(0, 1, false), (1, 1, false), (2, 1, false), (3, 1, false)], none⟩)]
theorem T_slices_IndexFuncGuests_ok : Prg Try.prog T_slices_IndexFuncGuests := ⟨(.cons te_3 (.cons te_22 (.cons te_35 (TEok.nil _)))), by kernel_rfl⟩
noncomputable abbrev O_slices_IndexFuncGuests {α : Type} : ORC α := [(22, .full B_config_Owner_1)]
theorem O_slices_IndexFuncGuests_ok {α : Type} {I : Imm} : OOk (α := α) Try.prog I O_slices_IndexFuncGuests := OOk.cons c_config_Owner_1 (OOk.nil)
noncomputable abbrev B_slices_IndexFuncGuests {α : Type} : FF α := byBody T_slices_IndexFuncGuests O_slices_IndexFuncGuests ⟨6, []⟩ Try.f21
theorem c_slices_IndexFuncGuests {α : Type} {I : Imm} : OrcOk (α := α) Try.prog I 21 (.full B_slices_IndexFuncGuests) := orc_body T_slices_IndexFuncGuests_ok O_slices_IndexFuncGuests_ok ⟨6, []⟩ Try.func21 (by kernel_rfl) (by kernel_rfl) (by kernel_rfl)
abbrev T_config_Owner : TE := [(3, ⟨.int .i64 0, 1, 8, .sc (.int .i64), none⟩), (22, ⟨.nils, 1, 24, .sc (.slice 35), none⟩), (25, ⟨.agg [.nils, .int .i64 0, .nils], 3, 56, .st [(0, 1, false), (1, 1, false), (2, 1, false)], none⟩), (35, ⟨.agg [.nils, .str .empty, .int .u64 0, .str .empty], 4, 64, .st [(0, 1, false), (1, 1, false), (2, 1, false), (3, 1, false)], none⟩)]
theorem T_config_Owner_ok : Prg Try.prog T_config_Owner := ⟨(.cons te_3 (.cons te_22 (.cons te_25 (.cons te_35 (TEok.nil _))))), by kernel_rfl⟩
noncomputable abbrev O_config_Owner {α : Type} : ORC α := [(22, .full B_config_Owner_1), (21, .full B_slices_IndexFuncGuests)]
theorem O_config_Owner_ok {α : Type} {I : Imm} : OOk (α := α) Try.prog I O_config_Owner := OOk.cons c_config_Owner_1 (OOk.cons c_slices_IndexFuncGuests (OOk.nil))
noncomputable abbrev B_config_Owner {α : Type} : FF α := byBody T_config_Owner O_config_Owner ⟨6, []⟩ Try.f12
theorem c_config_Owner {α : Type} {I : Imm} : OrcOk (α := α) Try.prog I 12 (.full B_config_Owner) := orc_body T_config_Owner_ok O_config_Owner_ok ⟨6, []⟩ Try.func12 (by kernel_rfl) (by kernel_rfl) (by kernel_rfl)
abbrev T_slices_CloneGuests : TE := [(22, ⟨.nils, 1, 24, .sc (.slice 35), none⟩), (35, ⟨.agg [.nils, .str .empty, .int .u64 0, .str .empty], 4, 64, .st [(0, 1, false), (1, 1, false), (2, 1, false), (3, 1, false)], none⟩)]
theorem T_slices_CloneGuests_ok : Prg Try.prog T_slices_CloneGuests := ⟨(.cons te_22 (.cons te_35 (TEok.nil _))), by kernel_rfl⟩
noncomputable abbrev O_slices_CloneGuests {α : Type} : ORC α := []
theorem O_slices_CloneGuests_ok {α : Type} {I : Imm} : OOk (α := α) Try.prog I O_slices_CloneGuests := OOk.nil
noncomputable abbrev B_slices_CloneGuests {α : Type} : FF α := byBody T_slices_CloneGuests O_slices_CloneGuests ⟨6, []⟩ Try.f24
theorem c_slices_CloneGuests {α : Type} {I : Imm} : OrcOk (α := α) Try.prog I 24 (.full B_slices_CloneGuests) := orc_body T_slices_CloneGuests_ok O_slices_CloneGuests_ok ⟨6, []⟩ Try.func24 (by kernel_rfl) (by kernel_rfl) (by kernel_rfl)
abbrev T_slices_CloneInts : TE := [(3, ⟨.int .i64 0, 1, 8, .sc (.int .i64), none⟩), (23, ⟨.nils, 1, 24, .sc (.slice 3), none⟩)]
theorem T_slices_CloneInts_ok : Prg Try.prog T_slices_CloneInts := ⟨(.cons te_3 (.cons te_23 (TEok.nil _))), by kernel_rfl⟩
noncomputable abbrev O_slices_CloneInts {α : Type} : ORC α := []
theorem O_slices_CloneInts_ok {α : Type} {I : Imm} : OOk (α := α) Try.prog I O_slices_CloneInts := OOk.nil
noncomputable abbrev B_slices_CloneInts {α : Type} : FF α := byBody T_slices_CloneInts O_slices_CloneInts ⟨6, []⟩ Try.f25
theorem c_slices_CloneInts {α : Type} {I : Imm} : OrcOk (α := α) Try.prog I 25 (.full B_slices_CloneInts) := orc_body T_slices_CloneInts_ok O_slices_CloneInts_ok ⟨6, []⟩ Try.func25 (by kernel_rfl) (by kernel_rfl) (by kernel_rfl)
abbrev T_config_Copy : TE := [(3, ⟨.int .i64 0, 1, 8, .sc (.int .i64), none⟩), (22, ⟨.nils, 1, 24, .sc (.slice 35), none⟩), (23, ⟨.nils, 1, 24, .sc (.slice 3), none⟩), (25, ⟨.agg [.nils, .int .i64 0, .nils], 3, 56, .st [(0, 1, false), (1, 1, false), (2, 1, false)], none⟩), (35, ⟨.agg [.nils, .str .empty, .int .u64 0, .str .empty], 4, 64, .st [(0, 1, false), (1, 1, false), (2, 1, false), (3, 1, false)], none⟩)]
theorem T_config_Copy_ok : Prg Try.prog T_config_Copy := ⟨(.cons te_3 (.cons te_22 (.cons te_23 (.cons te_25 (.cons te_35 (TEok.nil _)))))), by kernel_rfl⟩
noncomputable abbrev O_config_Copy {α : Type} : ORC α := [(24, .full B_slices_CloneGuests), (25, .full B_slices_CloneInts)]
theorem O_config_Copy_ok {α : Type} {I : Imm} : OOk (α := α) Try.prog I O_config_Copy := OOk.cons c_slices_CloneGuests (OOk.cons c_slices_CloneInts (OOk.nil))
noncomputable abbrev B_config_Copy {α : Type} : FF α := byBody T_config_Copy O_config_Copy ⟨6, []⟩ Try.f13
theorem c_config_Copy {α : Type} {I : Imm} : OrcOk (α := α) Try.prog I 13 (.full B_config_Copy) := orc_body T_config_Copy_ok O_config_Copy_ok ⟨6, []⟩ Try.func13 (by kernel_rfl) (by kernel_rfl) (by kernel_rfl)
abbrev T_sallyportlaw24_least : TE := [(3, ⟨.int .i64 0, 1, 8, .sc (.int .i64), none⟩), (22, ⟨.nils, 1, 24, .sc (.slice 35), none⟩), (23, ⟨.nils, 1, 24, .sc (.slice 3), none⟩), (25, ⟨.agg [.nils, .int .i64 0, .nils], 3, 56, .st [(0, 1, false), (1, 1, false), (2, 1, false)], none⟩), (35, ⟨.agg [.nils, .str .empty, .int .u64 0, .str .empty], 4, 64, .st [(0, 1, false), (1, 1, false), (2, 1, false), (3, 1, false)], none⟩)]
theorem T_sallyportlaw24_least_ok : Prg Try.prog T_sallyportlaw24_least := ⟨(.cons te_3 (.cons te_22 (.cons te_23 (.cons te_25 (.cons te_35 (TEok.nil _)))))), by kernel_rfl⟩
noncomputable abbrev O_sallyportlaw24_least {α : Type} : ORC α := []
theorem O_sallyportlaw24_least_ok {α : Type} {I : Imm} : OOk (α := α) Try.prog I O_sallyportlaw24_least := OOk.nil
noncomputable abbrev B_sallyportlaw24_least {α : Type} : FF α := byBody T_sallyportlaw24_least O_sallyportlaw24_least ⟨6, []⟩ Try.f14
theorem c_sallyportlaw24_least {α : Type} {I : Imm} : OrcOk (α := α) Try.prog I 14 (.full B_sallyportlaw24_least) := orc_body T_sallyportlaw24_least_ok O_sallyportlaw24_least_ok ⟨6, []⟩ Try.func14 (by kernel_rfl) (by kernel_rfl) (by kernel_rfl)
theorem te_28 : TyOk Try.prog 28 ⟨.int .i64 0, 1, 8, .sc (.int .i64), none⟩ := ⟨fun _ => by kernel_rfl, ⟨rfl, rfl, fun _ _ => by simp [Wf, Wfs]⟩, ⟨Try.underlying28, rfl⟩, fun _ h => by cases h⟩
abbrev T_sallyportlaw24_known : TE := [(3, ⟨.int .i64 0, 1, 8, .sc (.int .i64), none⟩), (22, ⟨.nils, 1, 24, .sc (.slice 35), none⟩), (23, ⟨.nils, 1, 24, .sc (.slice 3), none⟩), (25, ⟨.agg [.nils, .int .i64 0, .nils], 3, 56, .st [(0, 1, false), (1, 1, false), (2, 1, false)], none⟩), (28, ⟨.int .i64 0, 1, 8, .sc (.int .i64), none⟩), (35, ⟨.agg [.nils, .str .empty, .int .u64 0, .str .empty], 4, 64, .st [(0, 1, false), (1, 1, false), (2, 1, false), (3, 1, false)], none⟩)]
theorem T_sallyportlaw24_known_ok : Prg Try.prog T_sallyportlaw24_known := ⟨(.cons te_3 (.cons te_22 (.cons te_23 (.cons te_25 (.cons te_28 (.cons te_35 (TEok.nil _))))))), by kernel_rfl⟩
noncomputable abbrev O_sallyportlaw24_known {α : Type} : ORC α := [(14, .full B_sallyportlaw24_least), (9, .full B_config_Check), (13, .full B_config_Copy), (11, .full B_config_Window), (12, .full B_config_Owner)]
theorem O_sallyportlaw24_known_ok {α : Type} {I : Imm} : OOk (α := α) Try.prog I O_sallyportlaw24_known := OOk.cons c_sallyportlaw24_least (OOk.cons c_config_Check (OOk.cons c_config_Copy (OOk.cons c_config_Window (OOk.cons c_config_Owner (OOk.nil)))))
set_option maxHeartbeats 4000000 in
set_option maxRecDepth 100000 in
theorem c_sallyportlaw24_known {α : Type} {I : Imm} : OrcOk (α := α) Try.prog I 7 (.pure trueF) := by
  refine orc_pure T_sallyportlaw24_known_ok (O := O_sallyportlaw24_known) O_sallyportlaw24_known_ok (L := []) ⟨6, []⟩ Try.func7 (by kernel_rfl) (by kernel_rfl) (by kernel_rfl) FLOk.nil ?_
  intro args k r hk
  unfold trueF at hk
  split at hk <;> try (simp at hk; done)
  refine ⟨_, hk, by simp [Ids, Idss], by simp [Ids, Idss], ?_⟩
  clear hk
  exact endsT_spec (by kernel_rfl)
end Go.Proofs.Ytgagmgcljkhboaa
