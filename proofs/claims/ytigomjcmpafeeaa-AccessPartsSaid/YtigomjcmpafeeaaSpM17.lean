/-
  The law AccessMis (printed by wip/pr/pr.py): what the functions come to, told without the program.
-/
import Derived.Test.YtigomjcmpafeeaaSpAccess
import Derived.Test.YtigomjcmpafeeaaSpT12c
set_option linter.unusedSimpArgs false
set_option linter.unusedVariables false
namespace Go.Sh
open Go
set_option linter.unusedVariables false


abbrev Sg_law17_known (α : Type) := (Bool → R α) → R α
def ad_law17_known {α : Type} (F : Sg_law17_known α) : FP α := fun args k => match args with
  | [] =>  F  (fun r0 => k (.bool r0))
  | _ => none
def dR_law17_known {α : Type} (a0 : SV) (k : Bool → R α) : R α := decB a0 fun x0 => k x0
theorem dR_law17_known_spec {α : Type} {v : SV} {k : Bool → R α} {r : α} (h : dR_law17_known v k = some r) : ∃ x0, v = (.bool x0) ∧ k x0 = some r := by
  unfold dR_law17_known at h
  obtain ⟨x0, rfl, h0⟩ := decB_spec h
  exact ⟨x0, rfl, h0⟩
theorem le_law17_known {α : Type} {F F' : Sg_law17_known α} (h : ∀  k r, F'  k = some r → F  k = some r) {args : List SV} {k : SV → R α} {r : α} (hk : ad_law17_known F' args k = some r) : ad_law17_known F args k = some r := by
  unfold ad_law17_known at hk
  split at hk <;> try (cases hk; done)
  have hkz := hk
  exact h  _ _ hkz
abbrev Sg_access_Aligned_no (α : Type) := Int → Int → Int → Bool → (GFault → R α) → R α
def ad_access_Aligned_no {α : Type} (F : Sg_access_Aligned_no α) : FP α := fun args k => match args with
  | [a0, a1, a2, a3] => decI .u64 a0 fun x0 => decI .i64 a1 fun x1 => decI .i64 a2 fun x2 => decB a3 fun x3 => F x0 x1 x2 x3 (fun r0 => k (.tuple [(GFault.sv r0), (.bool false)]))
  | _ => none
theorem le_access_Aligned_no {α : Type} {F F' : Sg_access_Aligned_no α} (h : ∀ x0 x1 x2 x3 k r, F' x0 x1 x2 x3 k = some r → F x0 x1 x2 x3 k = some r) {args : List SV} {k : SV → R α} {r : α} (hk : ad_access_Aligned_no F' args k = some r) : ad_access_Aligned_no F args k = some r := by
  unfold ad_access_Aligned_no at hk
  split at hk <;> try (cases hk; done)
  obtain ⟨x0, rfl, hk0⟩ := decI_spec hk
  obtain ⟨x1, rfl, hk1⟩ := decI_spec hk0
  obtain ⟨x2, rfl, hk2⟩ := decI_spec hk1
  obtain ⟨x3, rfl, hk3⟩ := decB_spec hk2
  have hkz := hk3
  exact h x0 x1 x2 x3 _ _ hkz
abbrev Sg_law17_AccessMis (α : Type) := GState → Int → Int → Int → Bool → (Bool → R α) → R α
def ad_law17_AccessMis {α : Type} (F : Sg_law17_AccessMis α) : FP α := fun args k => match args with
  | [a0, a1, a2, a3, a4] => GState.dec a0 fun x0 => decI .u64 a1 fun x1 => decI .u8 a2 fun x2 => decI .u8 a3 fun x3 => decB a4 fun x4 => F x0 x1 x2 x3 x4 (fun r0 => k (.bool r0))
  | _ => none
def dR_law17_AccessMis {α : Type} (a0 : SV) (k : Bool → R α) : R α := decB a0 fun x0 => k x0
theorem dR_law17_AccessMis_spec {α : Type} {v : SV} {k : Bool → R α} {r : α} (h : dR_law17_AccessMis v k = some r) : ∃ x0, v = (.bool x0) ∧ k x0 = some r := by
  unfold dR_law17_AccessMis at h
  obtain ⟨x0, rfl, h0⟩ := decB_spec h
  exact ⟨x0, rfl, h0⟩
def p_law17_AccessMis {α : Type} (F_law17_known : Sg_law17_known α) (F_access_Aligned_no : Sg_access_Aligned_no α) (x0 : GState) (x1 : Int) (x2 : Int) (x3 : Int) (x4 : Bool) (k : Bool → R α) : R α :=
  F_law17_known  (fun r1 =>
  let b2 : Bool := (!r1)
  cond b2 (
  k false) (
  let t3 : Int := (Int.tmod x2 3)
  let t4 : Int := (IntKind.u64.wrap t3)
  cond (decide (t4 < 0)) none (
  let t5 : Int := (gshl .i64 2 t4)
  let t6 : Int := (bitop .or .u64 x1 1)
  let t7 : Int := (Int.tmod x3 3)
  let t8 : Int := (IntKind.i64.wrap t7)
  F_access_Aligned_no t6 t5 t8 x4 (fun r9 =>
  let t10 : Int := (Int.tmod x3 3)
  let t11 : Int := (IntKind.i64.wrap t10)
  F_access_Aligned_no t6 3 t11 x4 (fun r12 =>
  let t13 : Int := (Int.tmod x3 3)
  cond (decide (0 ≤ t13) && decide (t13 < 3)) (
  cond (decide ((Int.toNat t13) < 3)) (
  let b14 : Bool := ((r9.Cause == ((upd (upd (upd (fun _ => 0) 0 0) 1 4) 2 6) (Int.toNat t13))) && ((r9.Value == t6) && ((r9.Place == 0) && ((r9.GVA == x4) && true))))
  cond b14 (
  let t15 : Int := (Int.tmod x3 3)
  cond (decide (0 ≤ t15) && decide (t15 < 3)) (
  cond (decide ((Int.toNat t15) < 3)) (
  let b16 : Bool := ((r12.Cause == ((upd (upd (upd (fun _ => 0) 0 1) 1 5) 2 7) (Int.toNat t15))) && ((r12.Value == t6) && ((r12.Place == 0) && ((r12.GVA == x4) && true))))
  k b16) none) none) (
  k false)) none) none)))))
theorem le_law17_AccessMis {α : Type} {F F' : Sg_law17_AccessMis α} (h : ∀ x0 x1 x2 x3 x4 k r, F' x0 x1 x2 x3 x4 k = some r → F x0 x1 x2 x3 x4 k = some r) {args : List SV} {k : SV → R α} {r : α} (hk : ad_law17_AccessMis F' args k = some r) : ad_law17_AccessMis F args k = some r := by
  unfold ad_law17_AccessMis at hk
  split at hk <;> try (cases hk; done)
  obtain ⟨x0, rfl, hk0⟩ := GState.dec_spec hk
  obtain ⟨x1, rfl, hk1⟩ := decI_spec hk0
  obtain ⟨x2, rfl, hk2⟩ := decI_spec hk1
  obtain ⟨x3, rfl, hk3⟩ := decI_spec hk2
  obtain ⟨x4, rfl, hk4⟩ := decB_spec hk3
  have hkz := hk4
  exact h x0 x1 x2 x3 x4 _ _ hkz
end Go.Sh
