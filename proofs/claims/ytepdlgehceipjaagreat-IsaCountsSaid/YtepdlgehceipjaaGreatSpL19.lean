/-
  The law IsaBegins (printed by wip/pr/pr.py): what the functions come to, told without the program.
-/
import Derived.Test.YtepdlgehceipjaaGreatSpW19
set_option linter.unusedSimpArgs false
set_option linter.unusedVariables false
namespace Go.Sh
open Go
set_option linter.unusedVariables false
abbrev Sg_ze (α:Type):=(Bool→R α)→R α
def ad_ze {α:Type} (F:Sg_ze α):FP α:=fun args k=>match args with
  | []=>F  (fun r0=>k (.bool r0))
  | _=>none
def dR_law19_known {α:Type} (a0:SV) (k:Bool→R α):R α:=decB a0 fun x0=>k x0
theorem dR_law19_known_spec {α:Type} {v:SV} {k:Bool→R α} {r:α} (h:dR_law19_known v k=some r):∃x0,v=(.bool x0)∧k x0=some r:=by
  unfold dR_law19_known at h
  obtain ⟨x0,rfl,h0⟩:=decB_spec h
  exact ⟨x0,rfl,h0⟩
def p_ze {α:Type} (F_z6:Sg_z6 α) (F_z1:Sg_z1 α)  (k:Bool→R α):R α:=
  F_z6 (GState.mk (fun _=>0) 0 0 false (fun _=>0) 0) (fun r1=>
  let b2:Bool:=(r1.Level !=0)
  cond b2 (
  k false) (
  F_z1 (GMachine.mk r1 (GBus.mk (fun _=>0) 0 18446744073709551615 (upd (upd (upd (fun _=>(GPort.mk (Row.mk 0 fun _=>0) (Row.mk 0 fun _=>0) 0)) 1 (GPort.mk (Row.mk 0 fun _=>0) (Row.mk 0 fun _=>0) 0)) 2 (GPort.mk (Row.mk 0 fun _=>0) (Row.mk 0 fun _=>0) 0)) 3 (GPort.mk (Row.mk 0 fun _=>0) (Row.mk 0 fun _=>0) 0))) 0) true (fun y3 r4=>
  gN (y3.b.ports 0).inp.n (y3.b.ports 0).inp.n (
  gN (y3.b.ports 0).outp.n (y3.b.ports 0).outp.n (
  gN (y3.b.ports 1).inp.n (y3.b.ports 1).inp.n (
  gN (y3.b.ports 1).outp.n (y3.b.ports 1).outp.n (
  gN (y3.b.ports 2).inp.n (y3.b.ports 2).inp.n (
  gN (y3.b.ports 2).outp.n (y3.b.ports 2).outp.n (
  gN (y3.b.ports 3).inp.n (y3.b.ports 3).inp.n (
  gN (y3.b.ports 3).outp.n (y3.b.ports 3).outp.n (
  F_z1 (GMachine.mk y3.s (GBus.mk y3.b.m y3.b.time y3.b.alarm (upd (upd (upd (fun _=>(y3.b.ports 0)) 1 (y3.b.ports 1)) 2 (y3.b.ports 2)) 3 (y3.b.ports 3))) y3.steps) false (fun y5 r6=>
  gN (y5.b.ports 0).inp.n (y5.b.ports 0).inp.n (
  gN (y5.b.ports 0).outp.n (y5.b.ports 0).outp.n (
  gN (y5.b.ports 1).inp.n (y5.b.ports 1).inp.n (
  gN (y5.b.ports 1).outp.n (y5.b.ports 1).outp.n (
  gN (y5.b.ports 2).inp.n (y5.b.ports 2).inp.n (
  gN (y5.b.ports 2).outp.n (y5.b.ports 2).outp.n (
  gN (y5.b.ports 3).inp.n (y5.b.ports 3).inp.n (
  gN (y5.b.ports 3).outp.n (y5.b.ports 3).outp.n (
  F_z1 (GMachine.mk y5.s (GBus.mk y5.b.m y5.b.time y5.b.alarm (upd (upd (upd (fun _=>(y5.b.ports 0)) 1 (y5.b.ports 1)) 2 (y5.b.ports 2)) 3 (y5.b.ports 3))) y5.steps) false (fun y7 r8=>
  gN (y7.b.ports 0).inp.n (y7.b.ports 0).inp.n (
  gN (y7.b.ports 0).outp.n (y7.b.ports 0).outp.n (
  gN (y7.b.ports 1).inp.n (y7.b.ports 1).inp.n (
  gN (y7.b.ports 1).outp.n (y7.b.ports 1).outp.n (
  gN (y7.b.ports 2).inp.n (y7.b.ports 2).inp.n (
  gN (y7.b.ports 2).outp.n (y7.b.ports 2).outp.n (
  gN (y7.b.ports 3).inp.n (y7.b.ports 3).inp.n (
  gN (y7.b.ports 3).outp.n (y7.b.ports 3).outp.n (
  F_z1 (GMachine.mk y7.s (GBus.mk y7.b.m y7.b.time y7.b.alarm (upd (upd (upd (fun _=>(y7.b.ports 0)) 1 (y7.b.ports 1)) 2 (y7.b.ports 2)) 3 (y7.b.ports 3))) y7.steps) false (fun y9 r10=>
  cond r4.Trap (
  let b11:Bool:=(r4.F.Cause==2)
  cond b11 (
  cond r4.Line (
  let b12:Bool:=(y9.s.Level==3)
  cond b12 (
  let b13:Bool:=(y9.s.Done==0)
  k b13) (
  k false)) (
  k false)) (
  k false)) (
  k false)))))))))))))))))))))))))))))))
end Go.Sh
