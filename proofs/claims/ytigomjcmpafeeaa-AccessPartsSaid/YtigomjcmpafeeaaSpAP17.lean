/-
  The law AccessParts (printed by wip/pr/pr.py): what the functions come to, told without the program.
-/
import Derived.Test.YtigomjcmpafeeaaSpB17
import Derived.Test.YtigomjcmpafeeaaSpM17b
set_option linter.unusedSimpArgs false
set_option linter.unusedVariables false
namespace Go.Sh
open Go
set_option linter.unusedVariables false

structure GInsn where
  Op : Int
  Rd : Int
  Rs1 : Int
  Rs2 : Int
  Imm : Int
  CSR : Int
abbrev GInsn.sv (t : GInsn) : SV := .agg [.int .i64 t.Op, .int .i64 t.Rd, .int .i64 t.Rs1, .int .i64 t.Rs2, .int .i64 t.Imm, .int .i64 t.CSR]
def GInsn.dec {α : Type} (v : SV) (k : GInsn → R α) : R α := match v with
  | .agg [a0, a1, a2, a3, a4, a5] => decI .i64 a0 fun x0 => decI .i64 a1 fun x1 => decI .i64 a2 fun x2 => decI .i64 a3 fun x3 => decI .i64 a4 fun x4 => decI .i64 a5 fun x5 => k ⟨x0, x1, x2, x3, x4, x5⟩
  | _ => none
theorem GInsn.dec_spec {α : Type} {v : SV} {k : GInsn → R α} {r : α} (h : GInsn.dec v k = some r) : ∃ t : GInsn, v = t.sv ∧ k t = some r := by
  unfold GInsn.dec at h
  split at h <;> try (cases h; done)
  obtain ⟨x0, rfl, h0⟩ := decI_spec h
  obtain ⟨x1, rfl, h1⟩ := decI_spec h0
  obtain ⟨x2, rfl, h2⟩ := decI_spec h1
  obtain ⟨x3, rfl, h3⟩ := decI_spec h2
  obtain ⟨x4, rfl, h4⟩ := decI_spec h3
  obtain ⟨x5, rfl, h5⟩ := decI_spec h4
  exact ⟨⟨x0, x1, x2, x3, x4, x5⟩, rfl, h5⟩
theorem GInsn.ids (t : GInsn) {p : Nat → Prop} : Ids p t.sv := by simp [Ids, Idss]
abbrev Sg_insn_Is_yes (α : Type) := GInsn → (R α) → R α
def ad_insn_Is_yes {α : Type} (F : Sg_insn_Is_yes α) : FP α := fun args k => match args with
  | [a0] => GInsn.dec a0 fun x0 => F x0 (k (.bool true))
  | _ => none
theorem le_insn_Is_yes {α : Type} {F F' : Sg_insn_Is_yes α} (h : ∀ x0 k r, F' x0 k = some r → F x0 k = some r) {args : List SV} {k : SV → R α} {r : α} (hk : ad_insn_Is_yes F' args k = some r) : ad_insn_Is_yes F args k = some r := by
  unfold ad_insn_Is_yes at hk
  split at hk <;> try (cases hk; done)
  obtain ⟨x0, rfl, hk0⟩ := GInsn.dec_spec hk
  have hkz := hk0
  exact h x0 _ _ hkz
abbrev Sg_access_Aligned_yes (α : Type) := Int → Int → Int → Bool → (GFault → R α) → R α
def ad_access_Aligned_yes {α : Type} (F : Sg_access_Aligned_yes α) : FP α := fun args k => match args with
  | [a0, a1, a2, a3] => decI .u64 a0 fun x0 => decI .i64 a1 fun x1 => decI .i64 a2 fun x2 => decB a3 fun x3 => F x0 x1 x2 x3 (fun r0 => k (.tuple [(GFault.sv r0), (.bool true)]))
  | _ => none
theorem le_access_Aligned_yes {α : Type} {F F' : Sg_access_Aligned_yes α} (h : ∀ x0 x1 x2 x3 k r, F' x0 x1 x2 x3 k = some r → F x0 x1 x2 x3 k = some r) {args : List SV} {k : SV → R α} {r : α} (hk : ad_access_Aligned_yes F' args k = some r) : ad_access_Aligned_yes F args k = some r := by
  unfold ad_access_Aligned_yes at hk
  split at hk <;> try (cases hk; done)
  obtain ⟨x0, rfl, hk0⟩ := decI_spec hk
  obtain ⟨x1, rfl, hk1⟩ := decI_spec hk0
  obtain ⟨x2, rfl, hk2⟩ := decI_spec hk1
  obtain ⟨x3, rfl, hk3⟩ := decB_spec hk2
  have hkz := hk3
  exact h x0 x1 x2 x3 _ _ hkz
abbrev Sg_two_Translate_yes (α : Type) := (Nat → Int) → GState → Int → Int → Int → Bool → (Int → GEntry → GFault → R α) → R α
def ad_two_Translate_yes {α : Type} (F : Sg_two_Translate_yes α) : FF α := fun args σ k => match args with
  | [a0, a1, a2, a3, a4, a5] => withMem σ a0 fun _ b1 _ g1 x0 => GState.dec a1 fun x1 => decI .u64 a2 fun x2 => decI .i64 a3 fun x3 => decI .i64 a4 fun x4 => decB a5 fun x5 => F x0 x1 x2 x3 x4 x5 (fun r0 r1 r2 => k (.tuple [(.int .u64 r0), (GEntry.sv r1), (GFault.sv r2), (.bool true)]) σ)
  | _ => none
theorem le_two_Translate_yes {α : Type} {F F' : Sg_two_Translate_yes α} (h : ∀ x0 x1 x2 x3 x4 x5 k r, F' x0 x1 x2 x3 x4 x5 k = some r → F x0 x1 x2 x3 x4 x5 k = some r) {args : List SV} {σ : Heap} {k : SV → Heap → R α} {r : α} (hk : ad_two_Translate_yes F' args σ k = some r) : ad_two_Translate_yes F args σ k = some r := by
  unfold ad_two_Translate_yes at hk
  split at hk <;> try (cases hk; done)
  obtain ⟨b, b1, g0, g1, x0, rfl, h0, h1, hne, hk0⟩ := withMem_spec hk
  obtain ⟨x1, rfl, hk1⟩ := GState.dec_spec hk0
  obtain ⟨x2, rfl, hk2⟩ := decI_spec hk1
  obtain ⟨x3, rfl, hk3⟩ := decI_spec hk2
  obtain ⟨x4, rfl, hk4⟩ := decI_spec hk3
  obtain ⟨x5, rfl, hk5⟩ := decB_spec hk4
  have hkz := hk5
  unfold ad_two_Translate_yes
  dsimp only
  rw [withMem_eq h0 h1 hne]
  exact h x0 x1 x2 x3 x4 x5 _ _ hkz
abbrev Sg_word_Sext (α : Type) := Int → Int → (Int → R α) → R α
def ad_word_Sext {α : Type} (F : Sg_word_Sext α) : FP α := fun args k => match args with
  | [a0, a1] => decI .u64 a0 fun x0 => decI .i64 a1 fun x1 => F x0 x1 (fun r0 => k (.int .u64 r0))
  | _ => none
def dR_word_Sext {α : Type} (a0 : SV) (k : Int → R α) : R α := decI .u64 a0 fun x0 => k x0
theorem dR_word_Sext_spec {α : Type} {v : SV} {k : Int → R α} {r : α} (h : dR_word_Sext v k = some r) : ∃ x0, v = (.int .u64 x0) ∧ k x0 = some r := by
  unfold dR_word_Sext at h
  obtain ⟨x0, rfl, h0⟩ := decI_spec h
  exact ⟨x0, rfl, h0⟩
theorem le_word_Sext {α : Type} {F F' : Sg_word_Sext α} (h : ∀ x0 x1 k r, F' x0 x1 k = some r → F x0 x1 k = some r) {args : List SV} {k : SV → R α} {r : α} (hk : ad_word_Sext F' args k = some r) : ad_word_Sext F args k = some r := by
  unfold ad_word_Sext at hk
  split at hk <;> try (cases hk; done)
  obtain ⟨x0, rfl, hk0⟩ := decI_spec hk
  obtain ⟨x1, rfl, hk1⟩ := decI_spec hk0
  have hkz := hk1
  exact h x0 x1 _ _ hkz
abbrev Sg_word_Zext (α : Type) := Int → Int → (Int → R α) → R α
def ad_word_Zext {α : Type} (F : Sg_word_Zext α) : FP α := fun args k => match args with
  | [a0, a1] => decI .u64 a0 fun x0 => decI .i64 a1 fun x1 => F x0 x1 (fun r0 => k (.int .u64 r0))
  | _ => none
def dR_word_Zext {α : Type} (a0 : SV) (k : Int → R α) : R α := decI .u64 a0 fun x0 => k x0
theorem dR_word_Zext_spec {α : Type} {v : SV} {k : Int → R α} {r : α} (h : dR_word_Zext v k = some r) : ∃ x0, v = (.int .u64 x0) ∧ k x0 = some r := by
  unfold dR_word_Zext at h
  obtain ⟨x0, rfl, h0⟩ := decI_spec h
  exact ⟨x0, rfl, h0⟩
theorem le_word_Zext {α : Type} {F F' : Sg_word_Zext α} (h : ∀ x0 x1 k r, F' x0 x1 k = some r → F x0 x1 k = some r) {args : List SV} {k : SV → R α} {r : α} (hk : ad_word_Zext F' args k = some r) : ad_word_Zext F args k = some r := by
  unfold ad_word_Zext at hk
  split at hk <;> try (cases hk; done)
  obtain ⟨x0, rfl, hk0⟩ := decI_spec hk
  obtain ⟨x1, rfl, hk1⟩ := decI_spec hk0
  have hkz := hk1
  exact h x0 x1 _ _ hkz
abbrev Sg_ref1_Sext (α : Type) := Int → Int → (Int → R α) → R α
def ad_ref1_Sext {α : Type} (F : Sg_ref1_Sext α) : FP α := fun args k => match args with
  | [a0, a1] => decI .u64 a0 fun x0 => decI .i64 a1 fun x1 => F x0 x1 (fun r0 => k (.int .u64 r0))
  | _ => none
def dR_ref1_Sext {α : Type} (a0 : SV) (k : Int → R α) : R α := decI .u64 a0 fun x0 => k x0
theorem dR_ref1_Sext_spec {α : Type} {v : SV} {k : Int → R α} {r : α} (h : dR_ref1_Sext v k = some r) : ∃ x0, v = (.int .u64 x0) ∧ k x0 = some r := by
  unfold dR_ref1_Sext at h
  obtain ⟨x0, rfl, h0⟩ := decI_spec h
  exact ⟨x0, rfl, h0⟩
def p_ref1_Sext {α : Type}  (x0 : Int) (x1 : Int) (k : Int → R α) : R α :=
  let t1 : Int := (pickmx false x1 64)
  let t2 : Int := (pickmx true 1 t1)
  let t3 : Int := (IntKind.u64.wrap t2)
  let b4 : Bool := (t3 == 64)
  cond b4 (
  k x0) (
  cond (decide (t3 < 0)) none (
  let t5 : Int := (gshl .u64 1 t3)
  let t6 : Int := (IntKind.u64.wrap (t5 - 1))
  let t7 : Int := (bitop .and .u64 x0 t6)
  let t8 : Int := (IntKind.u64.wrap (t3 - 1))
  cond (decide (t8 < 0)) none (
  let t9 : Int := (gshr .u64 t7 t8)
  let b10 : Bool := (t9 == 1)
  cond b10 (
  cond (decide (t3 < 0)) none (
  let t11 : Int := (gshl .u64 18446744073709551615 t3)
  let t12 : Int := (bitop .or .u64 t7 t11)
  k t12)) (
  k t7))))
theorem le_ref1_Sext {α : Type} {F F' : Sg_ref1_Sext α} (h : ∀ x0 x1 k r, F' x0 x1 k = some r → F x0 x1 k = some r) {args : List SV} {k : SV → R α} {r : α} (hk : ad_ref1_Sext F' args k = some r) : ad_ref1_Sext F args k = some r := by
  unfold ad_ref1_Sext at hk
  split at hk <;> try (cases hk; done)
  obtain ⟨x0, rfl, hk0⟩ := decI_spec hk
  obtain ⟨x1, rfl, hk1⟩ := decI_spec hk0
  have hkz := hk1
  exact h x0 x1 _ _ hkz
abbrev Sg_law17_AccessParts (α : Type) := Int → Int → Int → (Bool → R α) → R α
def ad_law17_AccessParts {α : Type} (F : Sg_law17_AccessParts α) : FP α := fun args k => match args with
  | [a0, a1, a2] => decI .u16 a0 fun x0 => decI .u64 a1 fun x1 => decI .u8 a2 fun x2 => F x0 x1 x2 (fun r0 => k (.bool r0))
  | _ => none
def dR_law17_AccessParts {α : Type} (a0 : SV) (k : Bool → R α) : R α := decB a0 fun x0 => k x0
theorem dR_law17_AccessParts_spec {α : Type} {v : SV} {k : Bool → R α} {r : α} (h : dR_law17_AccessParts v k = some r) : ∃ x0, v = (.bool x0) ∧ k x0 = some r := by
  unfold dR_law17_AccessParts at h
  obtain ⟨x0, rfl, h0⟩ := decB_spec h
  exact ⟨x0, rfl, h0⟩
noncomputable def p_law17_AccessParts {α : Type} (F_law17_known : Sg_law17_known α) (F_insn_Is_yes : Sg_insn_Is_yes α) (F_access_Aligned_yes : Sg_access_Aligned_yes α) (F_two_Translate_yes : Sg_two_Translate_yes α) (F_bus_Bus_Write_ok : Sg_bus_Bus_Write_ok α) (F_bus_Bus_Read_ok : Sg_bus_Bus_Read_ok α) (F_word_Sext : Sg_word_Sext α) (F_word_Zext : Sg_word_Zext α) (F_ref1_Sext : Sg_ref1_Sext α) (x0 : Int) (x1 : Int) (x2 : Int) (k : Bool → R α) : R α :=
  F_law17_known  (fun r1 =>
  let b2 : Bool := (!r1)
  cond b2 (
  k false) (
  let t3 : Int := (IntKind.u64.wrap x0)
  let t4 : Int := (Int.tmod t3 32768)
  let t5 : Int := (bitop .andNot .u64 t4 7)
  F_insn_Is_yes (GInsn.mk 21 0 1 2 0 0) (
  let t6 : Int := (IntKind.u64.wrap (t5 + 0))
  F_access_Aligned_yes t6 8 2 false (fun r7 =>
  F_two_Translate_yes (fun _ => 0) (GState.mk (upd (upd (fun _ => 0) 1 t5) 2 x1) 0 3 false (fun _ => 0) 0) t6 2 3 false (fun r8 r9 r10 =>
  grd (freshP = freshP) (
  F_bus_Bus_Write_ok (fun _ => 0) 0 18446744073709551615 r8 8 x1 (fun f11 =>
  let t12 : Int := (Int.tmod x2 8)
  let t13 : Int := (IntKind.i64.wrap t12)
  F_insn_Is_yes (GInsn.mk 11 3 1 0 t13 0) (
  let t14 : Int := (IntKind.u64.wrap t13)
  let t15 : Int := (IntKind.u64.wrap (t5 + t14))
  F_access_Aligned_yes t15 1 1 false (fun r16 =>
  F_two_Translate_yes f11 (GState.mk (upd (upd (fun _ => 0) 1 t5) 2 x1) 0 3 false (fun _ => 0) 0) t15 1 3 false (fun r17 r18 r19 =>
  grd (freshP = freshP) (
  F_bus_Bus_Read_ok f11 0 18446744073709551615 r17 1 (fun r20 =>
  F_word_Sext r20 8 (fun r21 =>
  let t22 : Int := (bitop .andNot .i64 t13 1)
  F_insn_Is_yes (GInsn.mk 16 3 1 0 t22 0) (
  let t23 : Int := (IntKind.u64.wrap t22)
  let t24 : Int := (IntKind.u64.wrap (t5 + t23))
  F_access_Aligned_yes t24 2 1 false (fun r25 =>
  F_two_Translate_yes f11 (GState.mk (upd (upd (fun _ => 0) 1 t5) 2 x1) 0 3 false (fun _ => 0) 0) t24 1 3 false (fun r26 r27 r28 =>
  grd (freshP = freshP) (
  F_bus_Bus_Read_ok f11 0 18446744073709551615 r26 2 (fun r29 =>
  F_word_Zext r29 16 (fun r30 =>
  let t31 : Int := (bitop .andNot .i64 t13 3)
  F_insn_Is_yes (GInsn.mk 13 3 1 0 t31 0) (
  let t32 : Int := (IntKind.u64.wrap t31)
  let t33 : Int := (IntKind.u64.wrap (t5 + t32))
  F_access_Aligned_yes t33 4 1 false (fun r34 =>
  F_two_Translate_yes f11 (GState.mk (upd (upd (fun _ => 0) 1 t5) 2 x1) 0 3 false (fun _ => 0) 0) t33 1 3 false (fun r35 r36 r37 =>
  grd (freshP = freshP) (
  F_bus_Bus_Read_ok f11 0 18446744073709551615 r35 4 (fun r38 =>
  F_word_Sext r38 32 (fun r39 =>
  F_insn_Is_yes (GInsn.mk 14 3 1 0 0 0) (
  let t40 : Int := (IntKind.u64.wrap (t5 + 0))
  F_access_Aligned_yes t40 8 1 false (fun r41 =>
  F_two_Translate_yes f11 (GState.mk (upd (upd (fun _ => 0) 1 t5) 2 x1) 0 3 false (fun _ => 0) 0) t40 1 3 false (fun r42 r43 r44 =>
  grd (freshP = freshP) (
  F_bus_Bus_Read_ok f11 0 18446744073709551615 r42 8 (fun r45 =>
  F_word_Sext r45 64 (fun r46 =>
  let t47 : Int := (IntKind.i64.wrap (8 * t13))
  let t48 : Int := (IntKind.u64.wrap t47)
  cond (decide (t48 < 0)) none (
  let t49 : Int := (gshr .u64 x1 t48)
  F_ref1_Sext t49 8 (fun r50 =>
  let b51 : Bool := (r21 == r50)
  cond b51 (
  let t52 : Int := (bitop .andNot .i64 t13 1)
  let t53 : Int := (IntKind.i64.wrap (8 * t52))
  let t54 : Int := (IntKind.u64.wrap t53)
  cond (decide (t54 < 0)) none (
  let t55 : Int := (gshr .u64 x1 t54)
  let t56 : Int := (bitop .and .u64 t55 65535)
  let b57 : Bool := (r30 == t56)
  cond b57 (
  let t58 : Int := (bitop .andNot .i64 t13 3)
  let t59 : Int := (IntKind.i64.wrap (8 * t58))
  let t60 : Int := (IntKind.u64.wrap t59)
  cond (decide (t60 < 0)) none (
  let t61 : Int := (gshr .u64 x1 t60)
  F_ref1_Sext t61 32 (fun r62 =>
  let b63 : Bool := (r39 == r62)
  cond b63 (
  let b64 : Bool := (r46 == x1)
  k b64) (
  k false)))) (
  k false))) (
  k false))))))))))))))))))))))))))))))))))
theorem le_law17_AccessParts {α : Type} {F F' : Sg_law17_AccessParts α} (h : ∀ x0 x1 x2 k r, F' x0 x1 x2 k = some r → F x0 x1 x2 k = some r) {args : List SV} {k : SV → R α} {r : α} (hk : ad_law17_AccessParts F' args k = some r) : ad_law17_AccessParts F args k = some r := by
  unfold ad_law17_AccessParts at hk
  split at hk <;> try (cases hk; done)
  obtain ⟨x0, rfl, hk0⟩ := decI_spec hk
  obtain ⟨x1, rfl, hk1⟩ := decI_spec hk0
  obtain ⟨x2, rfl, hk2⟩ := decI_spec hk1
  have hkz := hk2
  exact h x0 x1 x2 _ _ hkz
end Go.Sh
