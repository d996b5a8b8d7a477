/-
  The laws ExecSums, ExecCalls, ExecBranches (printed by wip/pr/pr.py): what the functions come to, told without the program.
-/
import Derived.Test.YtlijlabaopiicaaGreatSpK18
set_option linter.unusedSimpArgs false
set_option linter.unusedVariables false
namespace Go.Sh
open Go
set_option linter.unusedVariables false
abbrev Sg_z2a (α : Type) := Int → Int → Int → Int → Int → (Bool → R α) → R α
def ad_z2a {α : Type} (F : Sg_z2a α) : FP α := fun args k => match args with
  | [a0, a1, a2, a3, a4] => decI .u64 a0 fun x0 => decI .u64 a1 fun x1 => decI .u8 a2 fun x2 => decI .u8 a3 fun x3 => decI .i16 a4 fun x4 => F x0 x1 x2 x3 x4 (fun r0 => k (.bool r0))
  | _ => none
def dR_law18_ExecSums {α : Type} (a0 : SV) (k : Bool → R α) : R α := decB a0 fun x0 => k x0
theorem dR_law18_ExecSums_spec {α : Type} {v : SV} {k : Bool → R α} {r : α} (h : dR_law18_ExecSums v k = some r) : ∃ x0, v = (.bool x0) ∧ k x0 = some r := by
  unfold dR_law18_ExecSums at h
  obtain ⟨x0, rfl, h0⟩ := decB_spec h
  exact ⟨x0, rfl, h0⟩
def p_z2a {α : Type} (F_z19 : Sg_z19 α) (F_z14 : Sg_z14 α) (F_z3 : Sg_z3 α) (x0 : Int) (x1 : Int) (x2 : Int) (x3 : Int) (x4 : Int) (k : Bool → R α) : R α :=
  F_z19  (fun r1 =>
  let b2 : Bool := (!r1)
  cond b2 (
  k false) (
  let t3 : Int := (Int.tmod x2 31)
  let t4 : Int := (IntKind.i64.wrap t3)
  let t5 : Int := (IntKind.i64.wrap (t4 + 1))
  let t6 : Int := (Int.tmod x3 32)
  let t7 : Int := (IntKind.i64.wrap t6)
  cond (decide (0 ≤ t7) && decide (t7 < 32)) (
  cond (decide ((Int.toNat t7) < 32)) (
  let t8 : Int := (IntKind.i64.wrap x4)
  let t9 : Int := (gshl .i64 t8 52)
  let t10 : Int := (gshr .i64 t9 52)
  F_z14 (GInsn.mk 22 t5 t7 0 t10 0) (fun r11 r12 =>
  F_z3 (GBus.mk (fun _ => 0) 0 18446744073709551615 (upd (upd (upd (fun _ => (GPort.mk (Row.mk 0 fun _ => 0) (Row.mk 0 fun _ => 0) 0)) 1 (GPort.mk (Row.mk 0 fun _ => 0) (Row.mk 0 fun _ => 0) 0)) 2 (GPort.mk (Row.mk 0 fun _ => 0) (Row.mk 0 fun _ => 0) 0)) 3 (GPort.mk (Row.mk 0 fun _ => 0) (Row.mk 0 fun _ => 0) 0))) (GState.mk (upd (upd (fun _ => 0) (Int.toNat t7) x0) 0 0) 4096 3 false (fun _ => 0) 0) r11 (fun y13 r14 r15 =>
  let t16 : Int := (IntKind.i64.wrap (4 * t10))
  F_z14 (GInsn.mk 3 t5 0 0 t16 0) (fun r17 r18 =>
  GN y13 ((((((((F_z3 (NB y13) (GState.mk (upd (upd (fun _ => 0) (Int.toNat t7) x0) 0 0) 4096 3 false (fun _ => 0) 0) r17 (fun y19 r20 r21 =>
  F_z14 (GInsn.mk 54 t5 t7 0 0 832) (fun r22 r23 =>
  GN y19 ((((((((F_z3 (NB y19) (GState.mk (upd (upd (fun _ => 0) (Int.toNat t7) x0) 0 0) 4096 3 false (upd (fun _ => 0) 5 x1) 0) r22 (fun y24 r25 r26 =>
  cond r12 (
  cond r18 (
  cond r23 (
  cond (decide (0 ≤ t5) && decide (t5 < 32)) (
  cond (decide ((Int.toNat t5) < 32)) (
  cond (decide (0 ≤ t7) && decide (t7 < 32)) (
  cond (decide ((Int.toNat t7) < 32)) (
  let t27 : Int := (IntKind.u64.wrap t10)
  let t28 : Int := (IntKind.u64.wrap ((((upd (upd (fun _ => 0) (Int.toNat t7) x0) 0 0) : Nat → Int) (Int.toNat t7)) + t27))
  let b29 : Bool := ((r14.X (Int.toNat t5)) == t28)
  cond b29 (
  cond (decide (0 ≤ t5) && decide (t5 < 32)) (
  cond (decide ((Int.toNat t5) < 32)) (
  let b30 : Bool := (r15.Value == (r14.X (Int.toNat t5)))
  cond b30 (
  let b31 : Bool := (r14.PC == 4100)
  cond b31 (
  let t32 : Int := (IntKind.i64.wrap (4 * t10))
  let t33 : Int := (IntKind.i64.wrap (4096 + t32))
  let t34 : Int := (IntKind.u64.wrap t33)
  let b35 : Bool := (r20.PC == t34)
  cond b35 (
  cond (decide (0 ≤ t5) && decide (t5 < 32)) (
  cond (decide ((Int.toNat t5) < 32)) (
  let b36 : Bool := ((r20.X (Int.toNat t5)) == 4100)
  cond b36 (
  cond (decide (0 ≤ t5) && decide (t5 < 32)) (
  cond (decide ((Int.toNat t5) < 32)) (
  let b37 : Bool := ((r25.X (Int.toNat t5)) == x1)
  cond b37 (
  let b38 : Bool := (r26.Value == x1)
  cond b38 (
  cond (decide (0 ≤ t7) && decide (t7 < 32)) (
  cond (decide ((Int.toNat t7) < 32)) (
  let b39 : Bool := ((r25.C 5) == (((upd (upd (fun _ => 0) (Int.toNat t7) x0) 0 0) : Nat → Int) (Int.toNat t7)))
  k b39) none) none) (
  k false)) (
  k false)) none) none) (
  k false)) none) none) (
  k false)) (
  k false)) (
  k false)) none) none) (
  k false)) none) none) none) none) (
  k false)) (
  k false)) (
  k false)))))))))))))))))))))))) none) none))
theorem le_z2a {α : Type} {F F' : Sg_z2a α} (h : ∀ x0 x1 x2 x3 x4 k r, F' x0 x1 x2 x3 x4 k = some r → F x0 x1 x2 x3 x4 k = some r) {args : List SV} {k : SV → R α} {r : α} (hk : ad_z2a F' args k = some r) : ad_z2a F args k = some r := by
  unfold ad_z2a at hk
  split at hk <;> try (cases hk; done)
  obtain ⟨x0, rfl, hk0⟩ := decI_spec hk
  obtain ⟨x1, rfl, hk1⟩ := decI_spec hk0
  obtain ⟨x2, rfl, hk2⟩ := decI_spec hk1
  obtain ⟨x3, rfl, hk3⟩ := decI_spec hk2
  obtain ⟨x4, rfl, hk4⟩ := decI_spec hk3
  have hkz := hk4
  exact h x0 x1 x2 x3 x4 _ _ hkz
end Go.Sh
