/-
  The laws ExecSums, ExecCalls, ExecBranches (printed by wip/pr/pr.py): what the functions come to, told without the program.
-/
import Derived.Test.YtlijlabaopiicaaGreatSpK18
set_option linter.unusedSimpArgs false
set_option linter.unusedVariables false
namespace Go.Sh
open Go
set_option linter.unusedVariables false
abbrev Sg_z2a (α : Type) := Int → Int → Int → Int → (Bool → R α) → R α
def ad_z2a {α : Type} (F : Sg_z2a α) : FP α := fun args k => match args with
  | [a0, a1, a2, a3] => decI .u64 a0 fun x0 => decI .u64 a1 fun x1 => decI .u8 a2 fun x2 => decI .i16 a3 fun x3 => F x0 x1 x2 x3 (fun r0 => k (.bool r0))
  | _ => none
def dR_law18_ExecBranches {α : Type} (a0 : SV) (k : Bool → R α) : R α := decB a0 fun x0 => k x0
theorem dR_law18_ExecBranches_spec {α : Type} {v : SV} {k : Bool → R α} {r : α} (h : dR_law18_ExecBranches v k = some r) : ∃ x0, v = (.bool x0) ∧ k x0 = some r := by
  unfold dR_law18_ExecBranches at h
  obtain ⟨x0, rfl, h0⟩ := decB_spec h
  exact ⟨x0, rfl, h0⟩
def p_z2a {α : Type} (F_z19 : Sg_z19 α) (F_z14 : Sg_z14 α) (F_z3 : Sg_z3 α) (x0 : Int) (x1 : Int) (x2 : Int) (x3 : Int) (k : Bool → R α) : R α :=
  F_z19  (fun r1 =>
  let b2 : Bool := (!r1)
  cond b2 (
  k false) (
  let t3 : Int := (IntKind.i64.wrap x3)
  let t4 : Int := (gshl .i64 t3 51)
  let t5 : Int := (gshr .i64 t4 51)
  let t6 : Int := (bitop .andNot .i64 t5 1)
  let t7 : Int := (Int.tmod x2 6)
  let t8 : Int := (IntKind.i64.wrap t7)
  let t9 : Int := (IntKind.i64.wrap (5 + t8))
  F_z14 (GInsn.mk t9 0 1 2 t6 0) (fun r10 r11 =>
  F_z3 (GBus.mk (fun _ => 0) 0 18446744073709551615 (upd (upd (upd (fun _ => (GPort.mk (Row.mk 0 fun _ => 0) (Row.mk 0 fun _ => 0) 0)) 1 (GPort.mk (Row.mk 0 fun _ => 0) (Row.mk 0 fun _ => 0) 0)) 2 (GPort.mk (Row.mk 0 fun _ => 0) (Row.mk 0 fun _ => 0) 0)) 3 (GPort.mk (Row.mk 0 fun _ => 0) (Row.mk 0 fun _ => 0) 0))) (GState.mk (upd (upd (fun _ => 0) 1 x0) 2 x1) 8192 3 false (fun _ => 0) 0) r10 (fun y12 r13 r14 =>
  let b15 : Bool := (x0 == x1)
  let b16 : Bool := (x0 != x1)
  let t17 : Int := (IntKind.i64.wrap x0)
  let t18 : Int := (IntKind.i64.wrap x1)
  let b19 : Bool := (ltB t17 t18)
  let t20 : Int := (IntKind.i64.wrap x0)
  let t21 : Int := (IntKind.i64.wrap x1)
  let b22 : Bool := (leB t21 t20)
  let b23 : Bool := (ltB x0 x1)
  let b24 : Bool := (leB x1 x0)
  let t25 : Int := (Int.tmod x2 6)
  cond (decide (0 ≤ t25) && decide (t25 < 6)) (
  cond (decide ((Int.toNat t25) < 6)) (
  cond (((upd (upd (upd (upd (upd (upd (fun _ => false) 0 b15) 1 b16) 2 b19) 3 b22) 4 b23) 5 b24) : Nat → Bool) (Int.toNat t25)) (
  let t26 : Int := (IntKind.i64.wrap (8192 + t6))
  let t27 : Int := (IntKind.u64.wrap t26)
  let t28 : Int := (Int.tmod t27 4)
  let b29 : Bool := (t28 != 0)
  cond b29 (
  cond r14.Trap (
  let b30 : Bool := ((r14.F.Cause == 0) && ((r14.F.Value == t27) && ((r14.F.Place == 0) && ((r14.F.GVA == false) && true))))
  cond b30 (
  let b31 : Bool := ((List.range 32).all fun i => r13.X i == (upd (upd (fun _ => 0) 1 x0) 2 x1) i)
  k b31) (
  k false)) (
  k false)) (
  let b32 : Bool := (!r14.Trap)
  cond b32 (
  let b33 : Bool := (r13.PC == t27)
  cond b33 (
  let b34 : Bool := ((List.range 32).all fun i => r13.X i == (upd (upd (fun _ => 0) 1 x0) 2 x1) i)
  cond b34 (
  let b35 : Bool := (r14.Rd == 0)
  k b35) (
  k false)) (
  k false)) (
  k false))) (
  let b36 : Bool := (!r14.Trap)
  cond b36 (
  let b37 : Bool := (r13.PC == 8196)
  cond b37 (
  let b38 : Bool := ((List.range 32).all fun i => r13.X i == (upd (upd (fun _ => 0) 1 x0) 2 x1) i)
  cond b38 (
  let b39 : Bool := (r14.Rd == 0)
  k b39) (
  k false)) (
  k false)) (
  k false))) none) none))))
theorem le_z2a {α : Type} {F F' : Sg_z2a α} (h : ∀ x0 x1 x2 x3 k r, F' x0 x1 x2 x3 k = some r → F x0 x1 x2 x3 k = some r) {args : List SV} {k : SV → R α} {r : α} (hk : ad_z2a F' args k = some r) : ad_z2a F args k = some r := by
  unfold ad_z2a at hk
  split at hk <;> try (cases hk; done)
  obtain ⟨x0, rfl, hk0⟩ := decI_spec hk
  obtain ⟨x1, rfl, hk1⟩ := decI_spec hk0
  obtain ⟨x2, rfl, hk2⟩ := decI_spec hk1
  obtain ⟨x3, rfl, hk3⟩ := decI_spec hk2
  have hkz := hk3
  exact h x0 x1 x2 x3 _ _ hkz
end Go.Sh
