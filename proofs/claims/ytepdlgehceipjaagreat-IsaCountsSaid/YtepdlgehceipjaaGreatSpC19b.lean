/-
  IsaCounts, plainly: its text behind the count; a step at each of its five words.
-/
import Derived.Test.YtepdlgehceipjaaGreatSpT19b
import Derived.Test.YtepdlgehceipjaaGreatSpC19
namespace Go.Sh
open Go
set_option linter.unusedVariables false
set_option linter.unusedSimpArgs false
set_option maxRecDepth 100000
theorem cndF {β:Type} {a b:β}:cond (!true) a b=b:=rfl
noncomputable def pC {α:Type} (Fs:Sg_z1 α) (t5:Int) (k:Bool→R α):R α:=
  s_ref3_Encode (GInsn.mk 22 1 0 0 t5 0) (fun r6 r7=>
  let t8:Int:=(IntKind.u64.wrap r6)
  sMWr (fun _=>0) 0 4 t8 (fun f9 r10=>
  let t11:Int:=(IntKind.u64.wrap r6)
  s_ref1_Mem_Write (fun _=>0) 0 4 t11 (fun f12=>
  s_ref3_Encode (GInsn.mk 35 2 2 1 0 0) (fun r13 r14=>
  let t15:Int:=(IntKind.u64.wrap r13)
  sMWr f9 4 4 t15 (fun f16 r17=>
  let t18:Int:=(IntKind.u64.wrap r13)
  s_ref1_Mem_Write f12 4 4 t18 (fun f19=>
  s_ref3_Encode (GInsn.mk 22 1 1 0 (-1) 0) (fun r20 r21=>
  let t22:Int:=(IntKind.u64.wrap r20)
  sMWr f16 8 4 t22 (fun f23 r24=>
  let t25:Int:=(IntKind.u64.wrap r20)
  s_ref1_Mem_Write f19 8 4 t25 (fun f26=>
  s_ref3_Encode (GInsn.mk 6 0 1 0 (-8) 0) (fun r27 r28=>
  let t29:Int:=(IntKind.u64.wrap r27)
  sMWr f23 12 4 t29 (fun f30 r31=>
  let t32:Int:=(IntKind.u64.wrap r27)
  s_ref1_Mem_Write f26 12 4 t32 (fun f33=>
  s_ref3_Encode (GInsn.mk 52 0 0 0 0 0) (fun r34 r35=>
  let t36:Int:=(IntKind.u64.wrap r34)
  sMWr f30 16 4 t36 (fun f37 r38=>
  let t39:Int:=(IntKind.u64.wrap r34)
  s_ref1_Mem_Write f33 16 4 t39 (fun f40=>
  let t41:Int:=((ByteArray.size (ByteArray.mk #[105,110,112,117,116]):Nat):Int)
  let t42:Int:=(pickmx false t41 64)
  cond (decide (0≤t42) && decide (t42≤((ByteArray.size (ByteArray.mk #[105,110,112,117,116]):Nat):Int))) (
  cond (decide (0≤0) && decide (0≤t42)) (
  let t43:ByteArray:=(ByteArray.extract (ByteArray.mk #[105,110,112,117,116]) 0 (Int.toNat t42))
  cond (Nat.beq (ByteArray.size t43) 0) (
  let t44:Int:=(IntKind.i64.wrap (0+ t42))
  let t45:Int:=((ByteArray.size (ByteArray.mk #[105,110,112,117,116]):Nat):Int)
  let t46:Int:=(pickmx false t45 64)
  cond (decide (0≤t46) && decide (t46≤((ByteArray.size (ByteArray.mk #[105,110,112,117,116]):Nat):Int))) (
  cond (decide (0≤0) && decide (0≤t46)) (
  let t47:ByteArray:=(ByteArray.extract (ByteArray.mk #[105,110,112,117,116]) 0 (Int.toNat t46))
  cond (Nat.ble (ByteArray.size .empty+ ByteArray.size t47) 9223372036854775807) (
  let t48:ByteArray:=(.empty++ t47)
  let t49:Int:=(IntKind.i64.wrap (0+ t46))
  s_isa_Clean (GState.mk (fun _=>0) 0 3 false (fun _=>0) 0) (fun r50=>
  s_ref18_Clean (GState.mk (fun _=>0) 0 3 false (fun _=>0) 0) (fun r51=>
  let t52:Int:=(IntKind.i64.wrap (3 * t5))
  let t53:Int:=(IntKind.i64.wrap (1+ t52))
  let t54:Int:=(pickmx true t53 0)
  let t55:Int:=(pickmx false t54 300)
  let b56:Bool:=(ltB 0 t55)
  cond b56 (
  Fs (GMachine.mk r50 (GBus.mk f37 0 18446744073709551615 (upd (upd (upd (fun _=>(GPort.mk (Row.mk 0 fun _=>0) (Row.mk 0 fun _=>0) t44)) 1 (GPort.mk (Row.mk 0 fun _=>0) (Row.mk 0 fun _=>0) 0)) 2 (GPort.mk (Row.mk 0 fun _=>0) (Row.mk 0 fun _=>0) 0)) 3 (GPort.mk (Row.mk 0 fun _=>0) (Row.mk 0 fun _=>0) 0))) 0) false (fun y57 r58=>
  let b59:Bool:=(ltB 1 t55)
  cond b59 (
  q_law19_IsaCounts_2 Fs k y57 t55 t5) (
  q_law19_IsaCounts_3 Fs k y57 t5))) (
  Fs (GMachine.mk r50 (GBus.mk f37 0 18446744073709551615 (upd (upd (upd (fun _=>(GPort.mk (Row.mk 0 fun _=>0) (Row.mk 0 fun _=>0) t44)) 1 (GPort.mk (Row.mk 0 fun _=>0) (Row.mk 0 fun _=>0) 0)) 2 (GPort.mk (Row.mk 0 fun _=>0) (Row.mk 0 fun _=>0) 0)) 3 (GPort.mk (Row.mk 0 fun _=>0) (Row.mk 0 fun _=>0) 0))) 0) false (fun y2499 r2500=>
  let t2501:Int:=(IntKind.i64.wrap (3 * t5))
  let t2502:Int:=(IntKind.i64.wrap (1+ t2501))
  let b2503:Bool:=(0==t2502)
  cond b2503 (
  q_law19_IsaCounts_1 k t5 y2499 r2500) (
  k false)))))) none) none) none) (
  cond (decide ((ByteArray.size t43) * 1≤140737488355328) && decide ((ByteArray.size t43)≤4611686018427387904)) (
  let t2516:Int:=(IntKind.i64.wrap (0+ t42))
  let t2517:Int:=((ByteArray.size (ByteArray.mk #[105,110,112,117,116]):Nat):Int)
  let t2518:Int:=(pickmx false t2517 64)
  cond (decide (0≤t2518) && decide (t2518≤((ByteArray.size (ByteArray.mk #[105,110,112,117,116]):Nat):Int))) (
  cond (decide (0≤0) && decide (0≤t2518)) (
  let t2519:ByteArray:=(ByteArray.extract (ByteArray.mk #[105,110,112,117,116]) 0 (Int.toNat t2518))
  cond (Nat.ble (ByteArray.size .empty+ ByteArray.size t2519) 9223372036854775807) (
  let t2520:ByteArray:=(.empty++ t2519)
  let t2521:Int:=(IntKind.i64.wrap (0+ t2518))
  s_isa_Clean (GState.mk (fun _=>0) 0 3 false (fun _=>0) 0) (fun r2522=>
  s_ref18_Clean (GState.mk (fun _=>0) 0 3 false (fun _=>0) 0) (fun r2523=>
  let t2524:Int:=(IntKind.i64.wrap (3 * t5))
  let t2525:Int:=(IntKind.i64.wrap (1+ t2524))
  let t2526:Int:=(pickmx true t2525 0)
  let t2527:Int:=(pickmx false t2526 300)
  let b2528:Bool:=(ltB 0 t2527)
  cond b2528 (
  gP (ByteArray.size t43) (ByteArray.size t43) (
  Fs (GMachine.mk r2522 (GBus.mk f37 0 18446744073709551615 (upd (upd (upd (fun _=>(GPort.mk (Row.mk (ByteArray.size t43) (bytesAt t43)) (Row.mk 0 fun _=>0) t2516)) 1 (GPort.mk (Row.mk 0 fun _=>0) (Row.mk 0 fun _=>0) 0)) 2 (GPort.mk (Row.mk 0 fun _=>0) (Row.mk 0 fun _=>0) 0)) 3 (GPort.mk (Row.mk 0 fun _=>0) (Row.mk 0 fun _=>0) 0))) 0) false (fun y2529 r2530=>
  let b2531:Bool:=(ltB 1 t2527)
  cond b2531 (
  q_law19_IsaCounts_2 Fs k y2529 t2527 t5) (
  q_law19_IsaCounts_3 Fs k y2529 t5)))) (
  gP (ByteArray.size t43) (ByteArray.size t43) (
  Fs (GMachine.mk r2522 (GBus.mk f37 0 18446744073709551615 (upd (upd (upd (fun _=>(GPort.mk (Row.mk (ByteArray.size t43) (bytesAt t43)) (Row.mk 0 fun _=>0) t2516)) 1 (GPort.mk (Row.mk 0 fun _=>0) (Row.mk 0 fun _=>0) 0)) 2 (GPort.mk (Row.mk 0 fun _=>0) (Row.mk 0 fun _=>0) 0)) 3 (GPort.mk (Row.mk 0 fun _=>0) (Row.mk 0 fun _=>0) 0))) 0) false (fun y4971 r4972=>
  let t4973:Int:=(IntKind.i64.wrap (3 * t5))
  let t4974:Int:=(IntKind.i64.wrap (1+ t4973))
  let b4975:Bool:=(0==t4974)
  cond b4975 (
  q_law19_IsaCounts_1 k t5 y4971 r4972) (
  k false))))))) none) none) none) none)) none) none)))))))))))))))
theorem pC_eq {α:Type} (Fs:Sg_z1 α) (n:Int) (k:Bool→R α):p_z32 s_law19_known s_ref3_Encode sMWr s_ref1_Mem_Write s_isa_Clean s_ref18_Clean Fs n k=pC Fs (IntKind.i64.wrap (IntKind.i64.wrap (Int.tmod n 40)+ 1)) k:=by
  unfold p_z32
  refine (known19_eq _).trans ?_
  exact Eq.trans (b:=cond (!true) (k false) (pC Fs (IntKind.i64.wrap (IntKind.i64.wrap (Int.tmod n 40)+ 1)) k)) (by kernel_rfl) cndF
def X0 : Nat→Int:=(isaC (GState.mk (fun _=>0) 0 3 false (fun _=>0) 0)).X
def CC : Nat→Int:=(isaC (GState.mk (fun _=>0) 0 3 false (fun _=>0) 0)).C
def mc (w:Int):Nat→Int:=writeS (writeS (writeS (writeS (writeS (fun _=>0) 0 4 w) 4 4 1114419) 8 4 4293951635) 12 4 4261453027) 16 4 115
def cB (w t:Int):GBus:=GBus.mk (mc w) t 18446744073709551615 port0
def cS (x:Nat→Int) (pc d:Int):GState:=GState.mk x pc 3 false CC d
abbrev cM (x:Nat→Int) (pc d w t n:Int):GMachine:=GMachine.mk (cS x pc d) (cB w t) n
theorem nB_cB (w t:Int):nB (cB w t)=cB w t:=by
  unfold nB cB
  congr 1
theorem nB13_cB (w t:Int):nB13 (cB w t)=cB w t:=by unfold nB13; simp only [nB_cB]
theorem cat4 {α:Type} (x:Nat→Int) (d w t n:Int) (K:GMachine→GRetire→R α):stepB false (cM x 4 d w t n) false K=K (GMachine.mk (cS (upd x 2 (IntKind.u64.wrap (x 2+ x 1))) 8 (IntKind.u64.wrap (d+ 1))) (nB13 (cB w d)) (IntKind.i64.wrap (n+ 1))) (GRetire.mk 4 1114419 2 (IntKind.u64.wrap (x 2+ x 1)) false (GFault.mk 0 0 0 false) 0 false false):=by kernel_rfl
theorem cat8 {α:Type} (x:Nat→Int) (d w t n:Int) (K:GMachine→GRetire→R α):stepB false (cM x 8 d w t n) false K=K (GMachine.mk (cS (upd x 1 (IntKind.u64.wrap (x 1+ 18446744073709551615))) 12 (IntKind.u64.wrap (d+ 1))) (nB13 (cB w d)) (IntKind.i64.wrap (n+ 1))) (GRetire.mk 8 4293951635 1 (IntKind.u64.wrap (x 1+ 18446744073709551615)) false (GFault.mk 0 0 0 false) 0 false false):=by kernel_rfl
noncomputable def k12 {α:Type} (x:Nat→Int) (pc d w t n:Int) (K:GMachine→GRetire→R α):R α:=K (GMachine.mk (cS x pc (IntKind.u64.wrap (d+ 1))) (nB13 (cB w d)) (IntKind.i64.wrap (n+ 1))) (GRetire.mk 12 4261453027 0 0 false (GFault.mk 0 0 0 false) 0 false false)
theorem cat12a {α:Type} (x:Nat→Int) (d w t n:Int) (K:GMachine→GRetire→R α):stepB false (cM x 12 d w t n) false K=cond (x 1 !=x 0) (cond (!(x 1 !=x 0)) (k12 x 16 d w t n K) (k12 x 4 d w t n K)) (cond (!(x 1 !=x 0)) (k12 x 16 d w t n K) (k12 x 16 d w t n K)):=by kernel_rfl
theorem cat12 {α:Type} (x:Nat→Int) (d w t n:Int) (K:GMachine→GRetire→R α):stepB false (cM x 12 d w t n) false K=cond (x 1 !=x 0) (k12 x 4 d w t n K) (k12 x 16 d w t n K):=by
  rw [cat12a]
  cases (x 1 !=x 0)<;>rfl
abbrev eSum (t5:Int):Int:=IntKind.u64.wrap (IntKind.i64.wrap (Int.tdiv (IntKind.i64.wrap (t5 * IntKind.i64.wrap (t5+ 1))) 2))
abbrev eCnt (t5:Int):Int:=IntKind.i64.wrap (1+ IntKind.i64.wrap (3 * t5))
theorem cat16 {α:Type} (x:Nat→Int) (d w t n t5:Int) (j:Int) (k:Bool→R α):stepB false (cM x 16 d w t n) false (fun y r=>cond (j==eCnt t5) (q_law19_IsaCounts_1 k t5 y r) (k false))=cond (j==eCnt t5) (cond (x 2==eSum t5) (cond (x 1==0) (k (d==IntKind.u64.wrap (eCnt t5))) (k false)) (k false)) (k false):=by kernel_rfl
end Go.Sh
