/-
  The law IsaBegins (printed by wip/pr/pr.py): what the functions come to, told without the program.
-/
import Derived.Test.YtepdlgehceipjaaGreatSpW19
set_option linter.unusedSimpArgs false
set_option linter.unusedVariables false
namespace Go.Sh
open Go
set_option linter.unusedVariables false
abbrev Sg_z16 (α:Type):=(Bool→R α)→R α
def ad_z16 {α:Type} (F:Sg_z16 α):FP α:=fun args k=>match args with
  | []=>F  (fun r0=>k (.bool r0))
  | _=>none
def dR_law19_known {α:Type} (a0:SV) (k:Bool→R α):R α:=decB a0 fun x0=>k x0
theorem dR_law19_known_spec {α:Type} {v:SV} {k:Bool→R α} {r:α} (h:dR_law19_known v k=some r):∃x0,v=(.bool x0)∧k x0=some r:=by
  unfold dR_law19_known at h
  obtain ⟨x0,rfl,h0⟩:=decB_spec h
  exact ⟨x0,rfl,h0⟩
def p_z16 {α:Type} (F_za:Sg_za α) (F_zl:Sg_zl α)  (k:Bool→R α):R α:=
  F_za (GState.mk (fun _=>0) 0 0 false (fun _=>0) 0) (fun r1=>
  let b2:Bool:=(r1.Level !=0)
  cond b2 (
  k false) (
  F_zl (GMachine.mk r1 (GBus.mk (fun _=>0) 0 18446744073709551615 (upd (upd (upd (fun _=>(GPort.mk (Row.mk 0 fun _=>0) (Row.mk 0 fun _=>0) 0)) 1 (GPort.mk (Row.mk 0 fun _=>0) (Row.mk 0 fun _=>0) 0)) 2 (GPort.mk (Row.mk 0 fun _=>0) (Row.mk 0 fun _=>0) 0)) 3 (GPort.mk (Row.mk 0 fun _=>0) (Row.mk 0 fun _=>0) 0))) 0) true (fun y3 r4=>
  gN (y3.b.ports 0).inp.n (y3.b.ports 0).inp.n (
  gN (y3.b.ports 0).outp.n (y3.b.ports 0).outp.n (
  gN (y3.b.ports 1).inp.n (y3.b.ports 1).inp.n (
  gN (y3.b.ports 1).outp.n (y3.b.ports 1).outp.n (
  gN (y3.b.ports 2).inp.n (y3.b.ports 2).inp.n (
  gN (y3.b.ports 2).outp.n (y3.b.ports 2).outp.n (
  gN (y3.b.ports 3).inp.n (y3.b.ports 3).inp.n (
  gN (y3.b.ports 3).outp.n (y3.b.ports 3).outp.n (
  F_zl (GMachine.mk y3.s (GBus.mk y3.b.m y3.b.time y3.b.alarm (upd (upd (upd (fun _=>(y3.b.ports 0)) 1 (y3.b.ports 1)) 2 (y3.b.ports 2)) 3 (y3.b.ports 3))) y3.steps) false (fun y5 r6=>
  gN (y5.b.ports 0).inp.n (y5.b.ports 0).inp.n (
  gN (y5.b.ports 0).outp.n (y5.b.ports 0).outp.n (
  gN (y5.b.ports 1).inp.n (y5.b.ports 1).inp.n (
  gN (y5.b.ports 1).outp.n (y5.b.ports 1).outp.n (
  gN (y5.b.ports 2).inp.n (y5.b.ports 2).inp.n (
  gN (y5.b.ports 2).outp.n (y5.b.ports 2).outp.n (
  gN (y5.b.ports 3).inp.n (y5.b.ports 3).inp.n (
  gN (y5.b.ports 3).outp.n (y5.b.ports 3).outp.n (
  F_zl (GMachine.mk y5.s (GBus.mk y5.b.m y5.b.time y5.b.alarm (upd (upd (upd (fun _=>(y5.b.ports 0)) 1 (y5.b.ports 1)) 2 (y5.b.ports 2)) 3 (y5.b.ports 3))) y5.steps) false (fun y7 r8=>
  gN (y7.b.ports 0).inp.n (y7.b.ports 0).inp.n (
  gN (y7.b.ports 0).outp.n (y7.b.ports 0).outp.n (
  gN (y7.b.ports 1).inp.n (y7.b.ports 1).inp.n (
  gN (y7.b.ports 1).outp.n (y7.b.ports 1).outp.n (
  gN (y7.b.ports 2).inp.n (y7.b.ports 2).inp.n (
  gN (y7.b.ports 2).outp.n (y7.b.ports 2).outp.n (
  gN (y7.b.ports 3).inp.n (y7.b.ports 3).inp.n (
  gN (y7.b.ports 3).outp.n (y7.b.ports 3).outp.n (
  F_zl (GMachine.mk y7.s (GBus.mk y7.b.m y7.b.time y7.b.alarm (upd (upd (upd (fun _=>(y7.b.ports 0)) 1 (y7.b.ports 1)) 2 (y7.b.ports 2)) 3 (y7.b.ports 3))) y7.steps) false (fun y9 r10=>
  cond r4.Trap (
  let b11:Bool:=(r4.F.Cause==2)
  cond b11 (
  cond r4.Line (
  let b12:Bool:=(y9.s.Level==3)
  cond b12 (
  let b13:Bool:=(y9.s.Done==0)
  k b13) (
  k false)) (
  k false)) (
  k false)) (
  k false)))))))))))))))))))))))))))))))
abbrev Sg_z2s (α:Type):=GState→(Bool→R α)→R α
def ad_z2s {α:Type} (F:Sg_z2s α):FP α:=fun args k=>match args with
  | [a0]=>GState.dec a0 fun x0=>F x0 (fun r0=>k (.bool r0))
  | _=>none
def dR_law19_IsaBegins {α:Type} (a0:SV) (k:Bool→R α):R α:=decB a0 fun x0=>k x0
theorem dR_law19_IsaBegins_spec {α:Type} {v:SV} {k:Bool→R α} {r:α} (h:dR_law19_IsaBegins v k=some r):∃x0,v=(.bool x0)∧k x0=some r:=by
  unfold dR_law19_IsaBegins at h
  obtain ⟨x0,rfl,h0⟩:=decB_spec h
  exact ⟨x0,rfl,h0⟩
def q_law19_IsaBegins_1 {α:Type} (F_z13:Sg_z13 α) (x0:GState) (k:Bool→R α) (r3:GState):R α:=
  let b11:Bool:=((r3.X 1) !=(x0.X 1))
  cond b11 (
  k false) (
  let b12:Bool:=((r3.X 2) !=(x0.X 2))
  cond b12 (
  k false) (
  let b13:Bool:=((r3.X 3) !=(x0.X 3))
  cond b13 (
  k false) (
  let b14:Bool:=((r3.X 4) !=(x0.X 4))
  cond b14 (
  k false) (
  let b15:Bool:=((r3.X 5) !=(x0.X 5))
  cond b15 (
  k false) (
  let b16:Bool:=((r3.X 6) !=(x0.X 6))
  cond b16 (
  k false) (
  let b17:Bool:=((r3.X 7) !=(x0.X 7))
  cond b17 (
  k false) (
  let b18:Bool:=((r3.X 8) !=(x0.X 8))
  cond b18 (
  k false) (
  let b19:Bool:=((r3.X 9) !=(x0.X 9))
  cond b19 (
  k false) (
  let b20:Bool:=((r3.X 10) !=(x0.X 10))
  cond b20 (
  k false) (
  let b21:Bool:=((r3.X 11) !=(x0.X 11))
  cond b21 (
  k false) (
  let b22:Bool:=((r3.X 12) !=(x0.X 12))
  cond b22 (
  k false) (
  let b23:Bool:=((r3.X 13) !=(x0.X 13))
  cond b23 (
  k false) (
  let b24:Bool:=((r3.X 14) !=(x0.X 14))
  cond b24 (
  k false) (
  let b25:Bool:=((r3.X 15) !=(x0.X 15))
  cond b25 (
  k false) (
  let b26:Bool:=((r3.X 16) !=(x0.X 16))
  cond b26 (
  k false) (
  let b27:Bool:=((r3.X 17) !=(x0.X 17))
  cond b27 (
  k false) (
  let b28:Bool:=((r3.X 18) !=(x0.X 18))
  cond b28 (
  k false) (
  let b29:Bool:=((r3.X 19) !=(x0.X 19))
  cond b29 (
  k false) (
  let b30:Bool:=((r3.X 20) !=(x0.X 20))
  cond b30 (
  k false) (
  let b31:Bool:=((r3.X 21) !=(x0.X 21))
  cond b31 (
  k false) (
  let b32:Bool:=((r3.X 22) !=(x0.X 22))
  cond b32 (
  k false) (
  let b33:Bool:=((r3.X 23) !=(x0.X 23))
  cond b33 (
  k false) (
  let b34:Bool:=((r3.X 24) !=(x0.X 24))
  cond b34 (
  k false) (
  let b35:Bool:=((r3.X 25) !=(x0.X 25))
  cond b35 (
  k false) (
  let b36:Bool:=((r3.X 26) !=(x0.X 26))
  cond b36 (
  k false) (
  let b37:Bool:=((r3.X 27) !=(x0.X 27))
  cond b37 (
  k false) (
  let b38:Bool:=((r3.X 28) !=(x0.X 28))
  cond b38 (
  k false) (
  let b39:Bool:=((r3.X 29) !=(x0.X 29))
  cond b39 (
  k false) (
  let b40:Bool:=((r3.X 30) !=(x0.X 30))
  cond b40 (
  k false) (
  let b41:Bool:=((r3.X 31) !=(x0.X 31))
  cond b41 (
  k false) (
  F_z13 x0 (fun r42=>
  let b43:Bool:=(((List.range 32).all fun i=>r3.X i==r42.X i) && ((r3.PC==r42.PC) && ((r3.Level==r42.Level) && ((r3.V==r42.V) && (((List.range 29).all fun i=>r3.C i==r42.C i) && ((r3.Done==r42.Done) && true))))))
  cond b43 (
  let b44:Bool:=(x0.Level !=0)
  cond b44 (
  let b45:Bool:=(x0.Level !=1)
  cond b45 (
  k true) (
  let b46:Bool:=(r3.Level==x0.Level)
  cond b46 (
  let b47:Bool:=(r3.V==x0.V)
  k b47) (
  k false))) (
  let b48:Bool:=(r3.Level==x0.Level)
  cond b48 (
  let b49:Bool:=(r3.V==x0.V)
  k b49) (
  k false))) (
  k false)))))))))))))))))))))))))))))))))
def p_z2s {α:Type} (F_z16:Sg_z16 α) (F_za:Sg_za α) (F_z13:Sg_z13 α) (x0:GState) (k:Bool→R α):R α:=
  F_z16  (fun r1=>
  let b2:Bool:=(!r1)
  cond b2 (
  k false) (
  F_za x0 (fun r3=>
  F_za r3 (fun r4=>
  let b5:Bool:=(!(((List.range 32).all fun i=>r3.X i==r4.X i) && ((r3.PC==r4.PC) && ((r3.Level==r4.Level) && ((r3.V==r4.V) && (((List.range 29).all fun i=>r3.C i==r4.C i) && ((r3.Done==r4.Done) && true)))))))
  cond b5 (
  k false) (
  let b6:Bool:=((r3.X 0) !=0)
  cond b6 (
  k false) (
  let t7:Int:=(bitop .andNot .u64 x0.PC 3)
  let b8:Bool:=(r3.PC !=t7)
  cond b8 (
  k false) (
  let b9:Bool:=(r3.Done !=x0.Done)
  cond b9 (
  k false) (
  let b10:Bool:=(r3.Level==3)
  cond b10 (
  cond r3.V (
  k false) (
  q_law19_IsaBegins_1 F_z13 x0 k r3)) (
  q_law19_IsaBegins_1 F_z13 x0 k r3)))))))))
theorem le_z2s {α:Type} {F F':Sg_z2s α} (h:∀x0 k r,F' x0 k=some r→F x0 k=some r) {args:List SV} {k:SV→R α} {r:α} (hk:ad_z2s F' args k=some r):ad_z2s F args k=some r:=by
  unfold ad_z2s at hk
  split at hk<;>try (cases hk; done)
  obtain ⟨x0,rfl,hk0⟩:=GState.dec_spec hk
  have hkz:=hk0
  exact h x0 _ _ hkz
end Go.Sh
