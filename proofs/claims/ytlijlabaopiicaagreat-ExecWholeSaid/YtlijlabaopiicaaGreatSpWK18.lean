/-
  The law package 18: what it knows (printed by wip/pr/pr.py): what the functions come to, told without the program.
-/
import Derived.Test.YtlijlabaopiicaaGreatSpW18
set_option linter.unusedSimpArgs false
set_option linter.unusedVariables false
namespace Go.Sh
open Go
set_option linter.unusedVariables false
abbrev Sg_z2y (α : Type) := (Bool → R α) → R α
def ad_z2y {α : Type} (F : Sg_z2y α) : FP α := fun args k => match args with
  | [] =>  F  (fun r0 => k (.bool r0))
  | _ => none
def dR_law18_known {α : Type} (a0 : SV) (k : Bool → R α) : R α := decB a0 fun x0 => k x0
theorem dR_law18_known_spec {α : Type} {v : SV} {k : Bool → R α} {r : α} (h : dR_law18_known v k = some r) : ∃ x0, v = (.bool x0) ∧ k x0 = some r := by
  unfold dR_law18_known at h
  obtain ⟨x0, rfl, h0⟩ := decB_spec h
  exact ⟨x0, rfl, h0⟩
def p_z2y {α : Type} (F_z5 : Sg_z5 α) (F_z6 : Sg_z6 α)  (k : Bool → R α) : R α :=
  F_z5 (GBus.mk (fun _ => 0) 0 18446744073709551615 (upd (upd (upd (fun _ => (GPort.mk (Row.mk 0 fun _ => 0) (Row.mk 0 fun _ => 0) 0)) 1 (GPort.mk (Row.mk 0 fun _ => 0) (Row.mk 0 fun _ => 0) 0)) 2 (GPort.mk (Row.mk 0 fun _ => 0) (Row.mk 0 fun _ => 0) 0)) 3 (GPort.mk (Row.mk 0 fun _ => 0) (Row.mk 0 fun _ => 0) 0))) (GState.mk (fun _ => 0) 8 3 false (fun _ => 0) 0) 5243027 (fun y1 r2 r3 =>
  GN y1 ((((((((F_z5 (NB y1) (GState.mk (fun _ => 0) 8 3 false (fun _ => 0) 0) 0 (fun y4 r5 r6 =>
  let b7 : Bool := ((r2.X 1) == 5)
  cond b7 (
  let b8 : Bool := (r2.PC == 12)
  cond b8 (
  let b9 : Bool := (r2.Done == 1)
  cond b9 (
  let b10 : Bool := ((r3.PC == 8) && ((r3.Word == 5243027) && ((r3.Rd == 1) && ((r3.Value == 5) && ((r3.Trap == false) && (((r3.F.Cause == 0) && ((r3.F.Value == 0) && ((r3.F.Place == 0) && ((r3.F.GVA == false) && true)))) && ((r3.Level == 0) && ((r3.V == false) && ((r3.Line == false) && true)))))))))
  cond b10 (
  let b11 : Bool := (r5.PC == 0)
  cond b11 (
  let b12 : Bool := ((r5.C 6) == 8)
  cond b12 (
  let b13 : Bool := (r5.Done == 0)
  cond b13 (
  cond r6.Trap (
  let b14 : Bool := (r6.F.Cause == 2)
  cond b14 (
  let b15 : Bool := (r6.Level == 3)
  cond b15 (
  F_z6 (GState.mk (fun _ => 0) 8 3 false (fun _ => 0) 0) (GInsn.mk 3 0 0 0 8 0) (fun r16 =>
  let b17 : Bool := (r16 == 16)
  k b17)) (
  k false)) (
  k false)) (
  k false)) (
  k false)) (
  k false)) (
  k false)) (
  k false)) (
  k false)) (
  k false)) (
  k false)))))))))))
end Go.Sh
