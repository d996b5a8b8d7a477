/-
  IsaTimes, plainly: an alarm rings behind as many instructions as it says.
-/
import Derived.Test.YtepdlgehceipjaaGreatSpS19t
import Derived.Test.YtepdlgehceipjaaGreatSpI19a
import Derived.Test.YtepdlgehceipjaaGreatSpLs
set_option maxRecDepth 100000
namespace Go.Sh
open Go
set_option linter.unusedVariables false
set_option linter.unusedSimpArgs false
abbrev inpT : ByteArray:=ByteArray.extract (ByteArray.mk #[105,110,112,117,116]) 0 (Int.toNat (pickmx false ((ByteArray.size (ByteArray.mk #[105,110,112,117,116]):Nat):Int) 64))
def port0 : Nat→GPort:=upd (upd (upd (fun _=>(GPort.mk (Row.mk (ByteArray.size inpT) (bytesAt inpT)) (Row.mk 0 fun _=>0) 5)) 1 (GPort.mk (Row.mk 0 fun _=>0) (Row.mk 0 fun _=>0) 0)) 2 (GPort.mk (Row.mk 0 fun _=>0) (Row.mk 0 fun _=>0) 0)) 3 (GPort.mk (Row.mk 0 fun _=>0) (Row.mk 0 fun _=>0) 0)
theorem e1 {α:Type} (k:Int→Bool→R α):s_ref3_Encode (GInsn.mk 22 1 1 0 1 0) k=k 1081491 true:=by kernel_rfl
theorem e2 {α:Type} (k:Int→Bool→R α):s_ref3_Encode (GInsn.mk 3 0 0 0 (-4) 0) k=k 4292866159 true:=by kernel_rfl
noncomputable def stepB {α:Type} (b1:Bool) (x0:GMachine) (x1:Bool) (k:GMachine→GRetire→R α):R α:=
  s_route_Interrupt x0.s b1 x1 (fun r2 r3 r4 r5=>
  cond r5 (
  s_exec_Interrupt x0.s r2 r3 r4 (fun r6 r7=>
  gN (x0.b.ports 0).inp.n (x0.b.ports 0).inp.n (gN (x0.b.ports 0).outp.n (x0.b.ports 0).outp.n (gN (x0.b.ports 1).inp.n (x0.b.ports 1).inp.n (gN (x0.b.ports 1).outp.n (x0.b.ports 1).outp.n (gN (x0.b.ports 2).inp.n (x0.b.ports 2).inp.n (gN (x0.b.ports 2).outp.n (x0.b.ports 2).outp.n (gN (x0.b.ports 3).inp.n (x0.b.ports 3).inp.n (gN (x0.b.ports 3).outp.n (x0.b.ports 3).outp.n (k (GMachine.mk r6 (GBus.mk x0.b.m x0.s.Done x0.b.alarm (upd (upd (upd (fun _=>(x0.b.ports 0)) 1 (x0.b.ports 1)) 2 (x0.b.ports 2)) 3 (x0.b.ports 3))) (IntKind.i64.wrap (x0.steps+ 1))) (GRetire.mk r7.PC r7.Word r7.Rd r7.Value r7.Trap r7.F r7.Level r7.V x1))))))))))) (
  gN (x0.b.ports 0).inp.n (x0.b.ports 0).inp.n (
  gN (x0.b.ports 0).outp.n (x0.b.ports 0).outp.n (
  gN (x0.b.ports 1).inp.n (x0.b.ports 1).inp.n (
  gN (x0.b.ports 1).outp.n (x0.b.ports 1).outp.n (
  gN (x0.b.ports 2).inp.n (x0.b.ports 2).inp.n (
  gN (x0.b.ports 2).outp.n (x0.b.ports 2).outp.n (
  gN (x0.b.ports 3).inp.n (x0.b.ports 3).inp.n (
  gN (x0.b.ports 3).outp.n (x0.b.ports 3).outp.n (
  s_access_Word (GBus.mk x0.b.m x0.s.Done x0.b.alarm (upd (upd (upd (fun _=>(x0.b.ports 0)) 1 (x0.b.ports 1)) 2 (x0.b.ports 2)) 3 (x0.b.ports 3))) x0.s (fun y8 r9 r10 r11=>
  let b12:Bool:=(!r11)
  cond b12 (
  s_exec_Fault x0.s r10 0 (fun r13 r14=>
  GN y8 ((((((((k (GMachine.mk r13 (NB y8) (IntKind.i64.wrap (x0.steps+ 1))) (GRetire.mk r14.PC r14.Word r14.Rd r14.Value r14.Trap r14.F r14.Level r14.V x1))))))))))) (
  GN y8 ((((((((s_exec_Do (NB y8) x0.s r9 (fun y15 r16 r17=>
  GN y15 ((((((((k (GMachine.mk r16 (NB y15) (IntKind.i64.wrap (x0.steps+ 1))) (GRetire.mk r17.PC r17.Word r17.Rd r17.Value r17.Trap r17.F r17.Level r17.V x1))))))))))))))))))))))))))))))
theorem step_eq {α:Type} (x0:GMachine) (x1:Bool) (k:GMachine→GRetire→R α):s_isa_Machine_Step x0 x1 k=stepB (leB x0.b.alarm x0.s.Done) x0 x1 k:=rfl
def nB13 (b:GBus):GBus:=nB (nB (nB (nB (nB (nB (nB (nB (nB (nB (nB (nB (nB b))))))))))))
end Go.Sh
