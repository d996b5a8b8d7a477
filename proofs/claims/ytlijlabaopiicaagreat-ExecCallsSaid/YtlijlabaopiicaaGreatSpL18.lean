/-
  The laws ExecSums, ExecCalls, ExecBranches (printed by wip/pr/pr.py): what the functions come to, told without the program.
-/
import Derived.Test.YtlijlabaopiicaaGreatSpK18
set_option linter.unusedSimpArgs false
set_option linter.unusedVariables false
namespace Go.Sh
open Go
set_option linter.unusedVariables false
abbrev Sg_z25 (α : Type) := Int → Int → Bool → Int → (Bool → R α) → R α
def ad_z25 {α : Type} (F : Sg_z25 α) : FP α := fun args k => match args with
  | [a0, a1, a2, a3] => decI .u32 a0 fun x0 => decI .u8 a1 fun x1 => decB a2 fun x2 => decI .u32 a3 fun x3 => F x0 x1 x2 x3 (fun r0 => k (.bool r0))
  | _ => none
def dR_law18_ExecCalls {α : Type} (a0 : SV) (k : Bool → R α) : R α := decB a0 fun x0 => k x0
theorem dR_law18_ExecCalls_spec {α : Type} {v : SV} {k : Bool → R α} {r : α} (h : dR_law18_ExecCalls v k = some r) : ∃ x0, v = (.bool x0) ∧ k x0 = some r := by
  unfold dR_law18_ExecCalls at h
  obtain ⟨x0, rfl, h0⟩ := decB_spec h
  exact ⟨x0, rfl, h0⟩
def p_z25 {α : Type} (F_z13 : Sg_z13 α) (F_z12 : Sg_z12 α) (F_z3 : Sg_z3 α) (x0 : Int) (x1 : Int) (x2 : Bool) (x3 : Int) (k : Bool → R α) : R α :=
  F_z13  (fun r1 =>
  let b2 : Bool := (!r1)
  cond b2 (
  k false) (
  let t3 : Int := (IntKind.u64.wrap x0)
  let t4 : Int := (Int.tmod x1 2)
  let t5 : Int := (IntKind.i64.wrap t4)
  let t6 : Int := (IntKind.u64.wrap x3)
  F_z12 (GState.mk (fun _ => 0) t3 t5 x2 (upd (fun _ => 0) 4 t6) 0) (fun r7 =>
  F_z3 (GBus.mk (fun _ => 0) 0 18446744073709551615 (upd (upd (upd (fun _ => (GPort.mk (Row.mk 0 fun _ => 0) (Row.mk 0 fun _ => 0) 0)) 1 (GPort.mk (Row.mk 0 fun _ => 0) (Row.mk 0 fun _ => 0) 0)) 2 (GPort.mk (Row.mk 0 fun _ => 0) (Row.mk 0 fun _ => 0) 0)) 3 (GPort.mk (Row.mk 0 fun _ => 0) (Row.mk 0 fun _ => 0) 0))) r7 115 (fun y8 r9 r10 =>
  let t11 : Int := (Int.tmod x1 2)
  let t12 : Int := (IntKind.i64.wrap t11)
  cond x2 (
  let t13 : Int := (IntKind.i64.wrap (t12 + 2))
  F_z3 (GBus.mk (fun _ => 0) 0 18446744073709551615 (upd (upd (upd (fun _ => (GPort.mk (Row.mk 0 fun _ => 0) (Row.mk 0 fun _ => 0) 0)) 1 (GPort.mk (Row.mk 0 fun _ => 0) (Row.mk 0 fun _ => 0) 0)) 2 (GPort.mk (Row.mk 0 fun _ => 0) (Row.mk 0 fun _ => 0) 0)) 3 (GPort.mk (Row.mk 0 fun _ => 0) (Row.mk 0 fun _ => 0) 0))) r9 807403635 (fun y14 r15 r16 =>
  cond r10.Trap (
  cond (decide (0 ≤ t13) && decide (t13 < 4)) (
  cond (decide ((Int.toNat t13) < 4)) (
  let b17 : Bool := ((r10.F.Cause == (((upd (upd (upd (upd (fun _ => 0) 0 8) 1 9) 2 8) 3 10) : Nat → Int) (Int.toNat t13))) && ((r10.F.Value == 0) && ((r10.F.Place == 0) && ((r10.F.GVA == false) && true))))
  cond b17 (
  let b18 : Bool := (r10.Level == 3)
  cond b18 (
  let t19 : Int := (IntKind.u64.wrap x3)
  let t20 : Int := (bitop .andNot .u64 t19 3)
  let b21 : Bool := (r9.PC == t20)
  cond b21 (
  let b22 : Bool := ((r9.C 6) == r7.PC)
  cond b22 (
  let b23 : Bool := (!r16.Trap)
  cond b23 (
  let b24 : Bool := (r15.PC == r7.PC)
  cond b24 (
  let b25 : Bool := (r15.Level == r7.Level)
  cond b25 (
  let b26 : Bool := (r15.V == r7.V)
  cond b26 (
  let t27 : Int := (IntKind.u64.wrap (r7.Done + 1))
  let b28 : Bool := (r15.Done == t27)
  k b28) (
  k false)) (
  k false)) (
  k false)) (
  k false)) (
  k false)) (
  k false)) (
  k false)) (
  k false)) none) none) (
  k false))) (
  F_z3 (GBus.mk (fun _ => 0) 0 18446744073709551615 (upd (upd (upd (fun _ => (GPort.mk (Row.mk 0 fun _ => 0) (Row.mk 0 fun _ => 0) 0)) 1 (GPort.mk (Row.mk 0 fun _ => 0) (Row.mk 0 fun _ => 0) 0)) 2 (GPort.mk (Row.mk 0 fun _ => 0) (Row.mk 0 fun _ => 0) 0)) 3 (GPort.mk (Row.mk 0 fun _ => 0) (Row.mk 0 fun _ => 0) 0))) r9 807403635 (fun y29 r30 r31 =>
  cond r10.Trap (
  cond (decide (0 ≤ t12) && decide (t12 < 4)) (
  cond (decide ((Int.toNat t12) < 4)) (
  let b32 : Bool := ((r10.F.Cause == (((upd (upd (upd (upd (fun _ => 0) 0 8) 1 9) 2 8) 3 10) : Nat → Int) (Int.toNat t12))) && ((r10.F.Value == 0) && ((r10.F.Place == 0) && ((r10.F.GVA == false) && true))))
  cond b32 (
  let b33 : Bool := (r10.Level == 3)
  cond b33 (
  let t34 : Int := (IntKind.u64.wrap x3)
  let t35 : Int := (bitop .andNot .u64 t34 3)
  let b36 : Bool := (r9.PC == t35)
  cond b36 (
  let b37 : Bool := ((r9.C 6) == r7.PC)
  cond b37 (
  let b38 : Bool := (!r31.Trap)
  cond b38 (
  let b39 : Bool := (r30.PC == r7.PC)
  cond b39 (
  let b40 : Bool := (r30.Level == r7.Level)
  cond b40 (
  let b41 : Bool := (r30.V == r7.V)
  cond b41 (
  let t42 : Int := (IntKind.u64.wrap (r7.Done + 1))
  let b43 : Bool := (r30.Done == t42)
  k b43) (
  k false)) (
  k false)) (
  k false)) (
  k false)) (
  k false)) (
  k false)) (
  k false)) (
  k false)) none) none) (
  k false)))))))
theorem le_z25 {α : Type} {F F' : Sg_z25 α} (h : ∀ x0 x1 x2 x3 k r, F' x0 x1 x2 x3 k = some r → F x0 x1 x2 x3 k = some r) {args : List SV} {k : SV → R α} {r : α} (hk : ad_z25 F' args k = some r) : ad_z25 F args k = some r := by
  unfold ad_z25 at hk
  split at hk <;> try (cases hk; done)
  obtain ⟨x0, rfl, hk0⟩ := decI_spec hk
  obtain ⟨x1, rfl, hk1⟩ := decI_spec hk0
  obtain ⟨x2, rfl, hk2⟩ := decB_spec hk1
  obtain ⟨x3, rfl, hk3⟩ := decI_spec hk2
  have hkz := hk3
  exact h x0 x1 x2 x3 _ _ hkz
end Go.Sh
