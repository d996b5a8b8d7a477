/-
  The law SoloSameness (printed by wip/pr/pr.py): what the functions come to, told without the program.
-/
import Derived.Test.YtodnffhcbhlifaaGreatSpW27
set_option linter.unusedSimpArgs false
set_option linter.unusedVariables false
namespace Go.Sh
open Go
set_option linter.unusedVariables false
abbrev Sg_z1y (α:Type):=(Bool→R α)→R α
def ad_z1y {α:Type} (F:Sg_z1y α):FP α:=fun args k=>match args with
  | []=>F  (fun r0=>k (.bool r0))
  | _=>none
abbrev Sg_zz (α:Type):=GState→GState→(Bool→R α)→R α
def ad_zz {α:Type} (F:Sg_zz α):FP α:=fun args k=>match args with
  | [a0,a1]=>GState.dec a0 fun x0=>GState.dec a1 fun x1=>F x0 x1 (fun r0=>k (.bool r0))
  | _=>none
def dR_solo_Same {α:Type} (a0:SV) (k:Bool→R α):R α:=decB a0 fun x0=>k x0
theorem dR_solo_Same_spec {α:Type} {v:SV} {k:Bool→R α} {r:α} (h:dR_solo_Same v k=some r):∃x0,v=(.bool x0)∧k x0=some r:=by
  unfold dR_solo_Same at h
  obtain ⟨x0,rfl,h0⟩:=decB_spec h
  exact ⟨x0,rfl,h0⟩
def p_zz {α:Type}  (x0:GState) (x1:GState) (k:Bool→R α):R α:=
  let b1:Bool:=(((List.range 32).all fun i=>x0.X i==x1.X i) && ((x0.PC==x1.PC) && ((x0.Level==x1.Level) && ((x0.V==x1.V) && (((List.range 29).all fun i=>(upd x0.C 21 (x1.C 21)) i==x1.C i) && ((x0.Done==x1.Done) && true))))))
  k b1
abbrev Sg_z1x (α:Type):=GState→Int→Int→(Bool→R α)→R α
def ad_z1x {α:Type} (F:Sg_z1x α):FP α:=fun args k=>match args with
  | [a0,a1,a2]=>GState.dec a0 fun x0=>decI .u8 a1 fun x1=>decI .u64 a2 fun x2=>F x0 x1 x2 (fun r0=>k (.bool r0))
  | _=>none
def dR_law27_SoloSameness {α:Type} (a0:SV) (k:Bool→R α):R α:=decB a0 fun x0=>k x0
theorem dR_law27_SoloSameness_spec {α:Type} {v:SV} {k:Bool→R α} {r:α} (h:dR_law27_SoloSameness v k=some r):∃x0,v=(.bool x0)∧k x0=some r:=by
  unfold dR_law27_SoloSameness at h
  obtain ⟨x0,rfl,h0⟩:=decB_spec h
  exact ⟨x0,rfl,h0⟩
def p_z1x {α:Type} (F_z1y:Sg_z1y α) (F_zz:Sg_zz α) (x0:GState) (x1:Int) (x2:Int) (k:Bool→R α):R α:=
  F_z1y  (fun r1=>
  let b2:Bool:=(!r1)
  cond b2 (
  k false) (
  let t3:Int:=(IntKind.i64.wrap x1)
  let t4:Int:=(Int.tmod t3 29)
  cond (decide (0≤t4) && decide (t4 < 29)) (
  cond (decide ((Int.toNat t4) < 29)) (
  let t5:Int:=(bitop .xor .u64 (x0.C (Int.toNat t4)) 1)
  cond (decide (0≤t4) && decide (t4 < 29)) (
  cond (decide ((Int.toNat t4) < 29)) (
  let t6:Int:=(Int.tmod x1 32)
  cond (decide (0≤t6) && decide (t6 < 32)) (
  cond (decide ((Int.toNat t6) < 32)) (
  let t7:Int:=(IntKind.u64.wrap ((x0.X (Int.toNat t6))+ 1))
  cond (decide (0≤t6) && decide (t6 < 32)) (
  cond (decide ((Int.toNat t6) < 32)) (
  F_zz x0 (GState.mk x0.X x0.PC x0.Level x0.V (upd x0.C 21 x2) x0.Done) (fun r8=>
  cond r8 (
  F_zz (GState.mk x0.X x0.PC x0.Level x0.V (upd x0.C 21 x2) x0.Done) x0 (fun r9=>
  cond r9 (
  F_zz x0 (GState.mk x0.X x0.PC x0.Level x0.V (upd x0.C (Int.toNat t4) t5) x0.Done) (fun r10=>
  let b11:Bool:=(t4==21)
  let b12:Bool:=(r10==b11)
  cond b12 (
  F_zz x0 (GState.mk (upd x0.X (Int.toNat t6) t7) x0.PC x0.Level x0.V x0.C x0.Done) (fun r13=>
  let b14:Bool:=(!r13)
  k b14)) (
  k false))) (
  k false))) (
  k false))) none) none) none) none) none) none) none) none))
theorem le_z1x {α:Type} {F F':Sg_z1x α} (h:∀x0 x1 x2 k r,F' x0 x1 x2 k=some r→F x0 x1 x2 k=some r) {args:List SV} {k:SV→R α} {r:α} (hk:ad_z1x F' args k=some r):ad_z1x F args k=some r:=by
  unfold ad_z1x at hk
  split at hk<;>try (cases hk; done)
  obtain ⟨x0,rfl,hk0⟩:=GState.dec_spec hk
  obtain ⟨x1,rfl,hk1⟩:=decI_spec hk0
  obtain ⟨x2,rfl,hk2⟩:=decI_spec hk1
  have hkz:=hk2
  exact h x0 x1 x2 _ _ hkz
end Go.Sh
