/-
  IsaTimes, plainly: an alarm rings behind as many instructions as it says.
-/
import Derived.Test.YtepdlgehceipjaaGreatSpS19t
import Derived.Test.YtepdlgehceipjaaGreatSpI19a
import Derived.Test.YtepdlgehceipjaaGreatSpLs
set_option maxRecDepth 100000
namespace Go.Sh
open Go
set_option linter.unusedVariables false
set_option linter.unusedSimpArgs false
abbrev inpT : ByteArray:=ByteArray.extract (ByteArray.mk #[105,110,112,117,116]) 0 (Int.toNat (pickmx false ((ByteArray.size (ByteArray.mk #[105,110,112,117,116]):Nat):Int) 64))
def port0 : Nat→GPort:=upd (upd (upd (fun _=>(GPort.mk (Row.mk (ByteArray.size inpT) (bytesAt inpT)) (Row.mk 0 fun _=>0) 5)) 1 (GPort.mk (Row.mk 0 fun _=>0) (Row.mk 0 fun _=>0) 0)) 2 (GPort.mk (Row.mk 0 fun _=>0) (Row.mk 0 fun _=>0) 0)) 3 (GPort.mk (Row.mk 0 fun _=>0) (Row.mk 0 fun _=>0) 0)
def S1 : GState:=GState.mk (isaC (GState.mk (fun _=>0) 0 3 false (fun _=>0) 0)).X 0 3 false (upd (upd (upd (isaC (GState.mk (fun _=>0) 0 3 false (fun _=>0) 0)).C 3 32) 0 8) 4 4096) 0
def C0 : Nat→Int:=(isaC S1).C
def mem2 : Nat→Int:=writeS (writeS (fun _=>0) 0 4 1081491) 4 4 4292866159
def tBus (P:Nat→GPort) (k t:Int):GBus:=GBus.mk mem2 t k P
def tSt (x:Nat→Int) (pc d:Int):GState:=GState.mk x pc 3 false C0 d
theorem e1 {α:Type} (k:Int→Bool→R α):s_ref3_Encode (GInsn.mk 22 1 1 0 1 0) k=k 1081491 true:=by kernel_rfl
theorem e2 {α:Type} (k:Int→Bool→R α):s_ref3_Encode (GInsn.mk 3 0 0 0 (-4) 0) k=k 4292866159 true:=by kernel_rfl
noncomputable def stepB {α:Type} (b1:Bool) (x0:GMachine) (x1:Bool) (k:GMachine→GRetire→R α):R α:=
  s_route_Interrupt x0.s b1 x1 (fun r2 r3 r4 r5=>
  cond r5 (
  s_exec_Interrupt x0.s r2 r3 r4 (fun r6 r7=>
  gN (x0.b.ports 0).inp.n (x0.b.ports 0).inp.n (gN (x0.b.ports 0).outp.n (x0.b.ports 0).outp.n (gN (x0.b.ports 1).inp.n (x0.b.ports 1).inp.n (gN (x0.b.ports 1).outp.n (x0.b.ports 1).outp.n (gN (x0.b.ports 2).inp.n (x0.b.ports 2).inp.n (gN (x0.b.ports 2).outp.n (x0.b.ports 2).outp.n (gN (x0.b.ports 3).inp.n (x0.b.ports 3).inp.n (gN (x0.b.ports 3).outp.n (x0.b.ports 3).outp.n (k (GMachine.mk r6 (GBus.mk x0.b.m x0.s.Done x0.b.alarm (upd (upd (upd (fun _=>(x0.b.ports 0)) 1 (x0.b.ports 1)) 2 (x0.b.ports 2)) 3 (x0.b.ports 3))) (IntKind.i64.wrap (x0.steps+ 1))) (GRetire.mk r7.PC r7.Word r7.Rd r7.Value r7.Trap r7.F r7.Level r7.V x1))))))))))) (
  gN (x0.b.ports 0).inp.n (x0.b.ports 0).inp.n (
  gN (x0.b.ports 0).outp.n (x0.b.ports 0).outp.n (
  gN (x0.b.ports 1).inp.n (x0.b.ports 1).inp.n (
  gN (x0.b.ports 1).outp.n (x0.b.ports 1).outp.n (
  gN (x0.b.ports 2).inp.n (x0.b.ports 2).inp.n (
  gN (x0.b.ports 2).outp.n (x0.b.ports 2).outp.n (
  gN (x0.b.ports 3).inp.n (x0.b.ports 3).inp.n (
  gN (x0.b.ports 3).outp.n (x0.b.ports 3).outp.n (
  s_access_Word (GBus.mk x0.b.m x0.s.Done x0.b.alarm (upd (upd (upd (fun _=>(x0.b.ports 0)) 1 (x0.b.ports 1)) 2 (x0.b.ports 2)) 3 (x0.b.ports 3))) x0.s (fun y8 r9 r10 r11=>
  let b12:Bool:=(!r11)
  cond b12 (
  s_exec_Fault x0.s r10 0 (fun r13 r14=>
  GN y8 ((((((((k (GMachine.mk r13 (NB y8) (IntKind.i64.wrap (x0.steps+ 1))) (GRetire.mk r14.PC r14.Word r14.Rd r14.Value r14.Trap r14.F r14.Level r14.V x1))))))))))) (
  GN y8 ((((((((s_exec_Do (NB y8) x0.s r9 (fun y15 r16 r17=>
  GN y15 ((((((((k (GMachine.mk r16 (NB y15) (IntKind.i64.wrap (x0.steps+ 1))) (GRetire.mk r17.PC r17.Word r17.Rd r17.Value r17.Trap r17.F r17.Level r17.V x1))))))))))))))))))))))))))))))
theorem step_eq {α:Type} (x0:GMachine) (x1:Bool) (k:GMachine→GRetire→R α):s_isa_Machine_Step x0 x1 k=stepB (leB x0.b.alarm x0.s.Done) x0 x1 k:=rfl
def nB13 (b:GBus):GBus:=nB (nB (nB (nB (nB (nB (nB (nB (nB (nB (nB (nB (nB b))))))))))))
theorem nB_port (k t:Int):nB (tBus port0 k t)=tBus port0 k t:=by
  unfold nB tBus
  congr 1
theorem nB13_port (k t:Int):nB13 (tBus port0 k t)=tBus port0 k t:=by unfold nB13; simp only [nB_port]
theorem at0 {α:Type} (x:Nat→Int) (d k t n:Int) (line:Bool) (K:GMachine→GRetire→R α):stepB false (GMachine.mk (tSt x 0 d) (tBus port0 k t) n) line K=
    K (GMachine.mk (tSt (upd x 1 (IntKind.u64.wrap (x 1+ 1))) 4 (IntKind.u64.wrap (d+ 1))) (nB13 (tBus port0 k d)) (IntKind.i64.wrap (n+ 1))) (GRetire.mk 0 1081491 1 (IntKind.u64.wrap (x 1+ 1)) false (GFault.mk 0 0 0 false) 0 false line):=by
  cases line<;>kernel_rfl
theorem at4 {α:Type} (x:Nat→Int) (d k t n:Int) (line:Bool) (K:GMachine→GRetire→R α):stepB false (GMachine.mk (tSt x 4 d) (tBus port0 k t) n) line K=
    K (GMachine.mk (tSt x 0 (IntKind.u64.wrap (d+ 1))) (nB13 (tBus port0 k d)) (IntKind.i64.wrap (n+ 1))) (GRetire.mk 4 4292866159 0 0 false (GFault.mk 0 0 0 false) 0 false line):=by
  cases line<;>kernel_rfl
noncomputable def tailB {α:Type} (v2:Int) (k:Bool→R α) (y37:GMachine) (r38:GRetire):R α:=
  cond r38.Trap (
  let b39:Bool:=((r38.F.Cause==9223372036854775813) && ((r38.F.Value==0) && ((r38.F.Place==0) && ((r38.F.GVA==false) && true))))
  cond b39 (
  let b40:Bool:=(r38.Word==0)
  cond b40 (
  let b41:Bool:=(y37.s.PC==4096)
  cond b41 (
  let t42:Int:=(IntKind.u64.wrap v2)
  let b43:Bool:=(y37.s.Done==t42)
  cond b43 (
  let b44:Bool:=((y37.s.C 6)==r38.PC)
  cond b44 (
  let t45:Int:=(gshr .u64 (y37.s.C 0) 3)
  let t46:Int:=(bitop .and .u64 t45 1)
  let b47:Bool:=(t46==0)
  k b47) (
  k false)) (
  k false)) (
  k false)) (
  k false)) (
  k false)) (
  k false)
theorem tail0 {α:Type} (x:Nat→Int) (d c t n v2:Int) (line:Bool) (k:Bool→R α):stepB true (GMachine.mk (tSt x 0 d) (tBus port0 c t) n) line (tailB v2 k)=cond (d==IntKind.u64.wrap v2) (k true) (k false):=by
  cases line<;>kernel_rfl
theorem tail4 {α:Type} (x:Nat→Int) (d c t n v2:Int) (line:Bool) (k:Bool→R α):stepB true (GMachine.mk (tSt x 4 d) (tBus port0 c t) n) line (tailB v2 k)=cond (d==IntKind.u64.wrap v2) (k true) (k false):=by
  cases line<;>kernel_rfl
noncomputable abbrev stpT (s:S_za):Option (S_za ⊕ X_za):=b_za s_isa_Machine_Step s (fun s=>some (.inl s)) (fun x=>some (.inr (.inl x))) (fun x=>some (.inr (.inr x)))
def WT (s:S_za):Prop:=∃(x:Nat→Int) (pc:Int) (K i:Nat) (t n:Int),(pc=0∨pc=4)∧i≤K∧K≤40∧s.v0=GMachine.mk (tSt x pc i) (tBus port0 K t) n∧s.v2=K∧s.v3=i
def QT (s:S_za) (z:X_za):Prop:=∃(x:Nat→Int) (pc:Int) (K:Nat) (t n:Int),(pc=0∨pc=4)∧K≤40∧z=.inr ⟨GMachine.mk (tSt x pc K) (tBus port0 K t) n,s.v1,K⟩∧s.v2=K
theorem stp_end {x:Nat→Int} {pc c t n v2 v3:Int} {line:Bool} (d:Int) (h:ltB v3 v2=false):stpT ⟨GMachine.mk (tSt x pc d) (tBus port0 c t) n,line,v2,v3⟩=some (.inr (.inr ⟨GMachine.mk (tSt x pc d) (nB (tBus port0 c t)) n,line,v2⟩)):=by
  unfold stpT b_za
  dsimp only
  rw [h]
  kernel_rfl
noncomputable def KT (line:Bool) (v2 v3:Int) (y2:GMachine) (r3:GRetire):Option (S_za ⊕ X_za):=
  cond r3.Trap (GN y2.b ((((((((some (.inr (.inl ⟨GMachine.mk y2.s (nB y2.b) y2.steps,false⟩))))))))))) (cond (!(r3.Line==line)) (GN y2.b ((((((((some (.inr (.inl ⟨GMachine.mk y2.s (nB y2.b) y2.steps,false⟩))))))))))) (GN y2.b ((((((((some (.inl ⟨GMachine.mk y2.s (nB y2.b) y2.steps,line,v2,IntKind.i64.wrap (v3+ 1)⟩)))))))))))
noncomputable def bT (b1:Bool) (s:S_za):Option (S_za ⊕ X_za):=
  cond b1 (stepB false (GMachine.mk s.v0.s (nB s.v0.b) s.v0.steps) s.v1 (KT s.v1 s.v2 s.v3)) none
theorem stp_next {x:Nat→Int} {pc c t n v2 v3:Int} {line:Bool} (d:Int) (h:ltB v3 v2=true) (hd:leB c d=false):stpT ⟨GMachine.mk (tSt x pc d) (tBus port0 c t) n,line,v2,v3⟩=bT true ⟨GMachine.mk (tSt x pc d) (tBus port0 c t) n,line,v2,v3⟩:=by
  unfold stpT b_za
  dsimp only
  rw [h]
  simp only [step_eq]
  dsimp only [tSt,tBus]
  rw [hd]
  kernel_rfl
theorem KT_ok {line:Bool} {v2 v3 n pc w rd v l:Int} {st:GState} {b b':GBus} {f:GFault} {vv:Bool} (hb:nB b=b'):KT line v2 v3 (GMachine.mk st b n) (GRetire.mk pc w rd v false f l vv line)=some (.inl ⟨GMachine.mk st b' n,line,v2,IntKind.i64.wrap (v3+ 1)⟩):=by
  subst hb
  unfold KT
  simp only [GN,gN_self,cond_false,beq_self_eq_true,Bool.not_true]
theorem nB14_port (k t:Int):nB (nB13 (tBus port0 k t))=tBus port0 k t:=by rw [nB13_port,nB_port]
theorem bT_at {v0:GMachine} {b:GBus} {line:Bool} {v2 v3:Int} (hb:nB v0.b=b):bT true ⟨v0,line,v2,v3⟩=stepB false (GMachine.mk v0.s b v0.steps) line (KT line v2 v3):=by
  subst hb
  unfold bT
  rw [cond_true]
theorem stp0 {x:Nat→Int} {c t n v2 v3:Int} {line:Bool} (d:Int):bT true ⟨GMachine.mk (tSt x 0 d) (tBus port0 c t) n,line,v2,v3⟩=some (.inl ⟨GMachine.mk (tSt (upd x 1 (IntKind.u64.wrap (x 1+ 1))) 4 (IntKind.u64.wrap (d+ 1))) (tBus port0 c d) (IntKind.i64.wrap (n+ 1)),line,v2,IntKind.i64.wrap (v3+ 1)⟩):=
  (bT_at (nB_port c t)).trans ((at0 x d c t n line (KT line v2 v3)).trans (KT_ok (nB14_port c d)))
theorem stp4 {x:Nat→Int} {c t n v2 v3:Int} {line:Bool} (d:Int):bT true ⟨GMachine.mk (tSt x 4 d) (tBus port0 c t) n,line,v2,v3⟩=some (.inl ⟨GMachine.mk (tSt x 0 (IntKind.u64.wrap (d+ 1))) (tBus port0 c d) (IntKind.i64.wrap (n+ 1)),line,v2,IntKind.i64.wrap (v3+ 1)⟩):=
  (bT_at (nB_port c t)).trans ((at4 x d c t n line (KT line v2 v3)).trans (KT_ok (nB14_port c d)))
theorem loopT (m:Nat):∀(s:S_za),WT s→(∃(i K:Nat),s.v3=i∧s.v2=K∧K - i=m)→∃z,EndsL stpT s z∧QT s z:=by
  induction m with
  | zero=>
    intro ⟨v0,line,v2,v3⟩ ⟨x,pc,K,i,t,n,hpc,hi,hK,h0,h2,h3⟩ ⟨i',K',hi',hK',hm⟩
    simp only at h0 h2 h3 hi' hK'
    subst h0; subst h2; subst h3
    have e:i=K:=by omega
    subst e
    have hl:ltB (i:Int) (i:Int)=false:=decide_eq_false (by omega)
    refine ⟨_,.stop (stp_end (i:Int) hl),x,pc,i,t,n,hpc,hK,?_,rfl⟩
    rw [nB_port]
  | succ m ih=>
    intro ⟨v0,line,v2,v3⟩ ⟨x,pc,K,i,t,n,hpc,hi,hK,h0,h2,h3⟩ ⟨i',K',hi',hK',hm⟩
    simp only at h0 h2 h3 hi' hK'
    subst h0; subst h2; subst h3
    have hlt:i < K:=by omega
    have hl:ltB (i:Int) (K:Int)=true:=decide_eq_true (by omega)
    have hd:leB (K:Int) (i:Int)=false:=decide_eq_false (by omega)
    have w1:IntKind.i64.wrap ((i:Int)+ 1)=((i+ 1:Nat):Int):=by rw [wrap_i64 (by omega) (by omega)]; omega
    have w2:IntKind.u64.wrap ((i:Int)+ 1)=((i+ 1:Nat):Int):=by rw [wrap_u64 (by omega) (by omega)]; omega
    rcases hpc with rfl | rfl
    · have hs:=(stp_next (x:=x) (pc:=0) (t:=t) (n:=n) (line:=line) (i:Int) hl hd).trans (stp0 (i:Int))
      rw [w1,w2] at hs
      obtain ⟨z,h4,h5⟩:=ih ⟨_,line,(K:Int),((i+ 1:Nat):Int)⟩ ⟨_,4,K,i+ 1,(i:Int),_,.inr rfl,by omega,hK,rfl,rfl,rfl⟩ ⟨i+ 1,K,rfl,rfl,by omega⟩
      exact ⟨z,.next hs h4,h5⟩
    · have hs:=(stp_next (x:=x) (pc:=4) (t:=t) (n:=n) (line:=line) (i:Int) hl hd).trans (stp4 (i:Int))
      rw [w1,w2] at hs
      obtain ⟨z,h4,h5⟩:=ih ⟨_,line,(K:Int),((i+ 1:Nat):Int)⟩ ⟨_,0,K,i+ 1,(i:Int),_,.inl rfl,by omega,hK,rfl,rfl,rfl⟩ ⟨i+ 1,K,rfl,rfl,by omega⟩
      exact ⟨z,.next hs h4,h5⟩
theorem wT (s:S_za) (h:WT s):∃z,EndsL stpT s z∧QT s z:=by
  obtain ⟨x,pc,K,i,t,n,hpc,hi,hK,h0,h2,h3⟩:=h
  exact loopT (K - i) s ⟨x,pc,K,i,t,n,hpc,hi,hK,h0,h2,h3⟩ ⟨i,K,h3,h2,rfl⟩
noncomputable def sLT {α:Type}:SgL_za α:=fun s k0 k1=>lsp wT s (fun x=>match x with | .inl x=>k0 x | .inr x=>k1 x)
theorem lokT {α:Type}:LoopOk (α:=α) stpT (fun (s:S_za) (k:X_za→R α)=>sLT s (fun x=>k (.inl x)) (fun x=>k (.inr x))):=by
  have e:(fun (s:S_za) (k:X_za→R α)=>sLT s (fun x=>k (.inl x)) (fun x=>k (.inr x)))=lsp wT:=by
    funext s k
    unfold sLT
    congr 1
    funext x
    cases x<;>rfl
  rw [e]
  exact lsp_ok wT
noncomputable def endT {α:Type} (L:SgL_za α) (line:Bool) (K:Int) (k:Bool→R α) (y32:GBus) (_:Bool):R α:=
  GN y32 ((((((((L ⟨GMachine.mk (isaC S1) (nB y32) 0,line,K,0⟩ (fun x=>k x.v1) (fun x36=>GN x36.v0.b ((((((((s_isa_Machine_Step (GMachine.mk x36.v0.s (nB x36.v0.b) x36.v0.steps) x36.v1 (tailB x36.v2 k))))))))))))))))))
theorem setup {α:Type} (Fb:Sg_z7 α) (L:SgL_za α) (n:Int) (line:Bool) (k:Bool→R α):
    p_z33 s_law19_known s_ref3_Encode sMWr s_ref1_Mem_Write s_isa_Clean s_ref18_Clean Fb s_isa_Machine_Step L n line k=
      Fb (GBus.mk mem2 0 18446744073709551615 port0) 61448 8 (IntKind.u64.wrap (IntKind.i64.wrap (IntKind.i64.wrap (Int.tmod n 40)+ 1))) (endT L line (IntKind.i64.wrap (IntKind.i64.wrap (Int.tmod n 40)+ 1)) k):=by kernel_rfl
theorem s1_eq : isaC S1=tSt (upd S1.X 0 0) 0 0:=by kernel_rfl
theorem few_port (m:Nat→Int) (t k:Int):Few (GBus.mk m t k port0):=fun i hi=>by
  have:i=0∨i=1∨i=2∨i=3:=by omega
  rcases this with rfl | rfl | rfl | rfl<;>exact Nat.zero_le _
theorem tail_end {α:Type} (x:Nat→Int) (pc:Int) (hpc:pc=0∨pc=4) (K:Nat) (hK:K≤40) (t n:Int) (line:Bool) (k:Bool→R α):s_isa_Machine_Step (GMachine.mk (tSt x pc K) (nB (tBus port0 K t)) n) line (tailB K k)=k true:=by
  rw [nB_port,step_eq]
  have hd:leB ((GMachine.mk (tSt x pc K) (tBus port0 K t) n).b.alarm) ((GMachine.mk (tSt x pc K) (tBus port0 K t) n).s.Done)=true:=decide_eq_true (Int.le_refl _)
  rw [hd]
  have w:IntKind.u64.wrap (K:Int)=K:=by rw [wrap_u64 (by omega) (by omega)]
  rcases hpc with rfl | rfl
  · rw [tail0,w]; simp
  · rw [tail4,w]; simp
theorem times_eq {α:Type} (n:Int) (hn:0≤n∧n < 256) (line:Bool) (k:Bool→R α):p_z33 s_law19_known s_ref3_Encode sMWr s_ref1_Mem_Write s_isa_Clean s_ref18_Clean sBWr s_isa_Machine_Step sLT n line k=k true:=by
  rw [setup]
  obtain ⟨K,hK,hK2,e⟩:∃K:Nat,1≤K∧K≤40∧IntKind.i64.wrap (IntKind.i64.wrap (Int.tmod n 40)+ 1)=(K:Int):=by
    rw [Int.tmod_eq_emod_of_nonneg hn.1]
    refine ⟨(n % 40+ 1).toNat,by omega,by omega,?_⟩
    rw [wrap_i64 (n:=n % 40) (by omega) (by omega),wrap_i64 (by omega) (by omega)]; omega
  rw [e]
  have w:IntKind.u64.wrap (K:Int)=K:=by rw [wrap_u64 (by omega) (by omega)]
  rw [w]
  unfold sBWr
  rw [grd_pos ⟨⟨by omega,by omega⟩,few_port _ _ _⟩]
  have ew:writeB (GBus.mk mem2 0 18446744073709551615 port0) 61448 8 (K:Int)=(tBus port0 K 0,true):=by
    unfold writeB
    rw [if_pos ⟨rfl,rfl⟩]
    exact congrArg (fun b=>(b,true)) (nB_port K 0)
  rw [ew]
  unfold endT
  simp only [GN,gN_self]
  rw [nB_port,s1_eq]
  unfold sLT
  obtain ⟨z,⟨_,x,pc,K',t,n',hpc,hK',hz,hv⟩,hz2⟩:=lsp_pos wT (s:=⟨GMachine.mk (tSt (upd S1.X 0 0) 0 0) (tBus port0 K 0) 0,line,K,0⟩) ⟨_,0,K,0,0,0,.inl rfl,by omega,hK2,rfl,rfl,rfl⟩
  rw [hz2]
  subst hz
  simp only at hv
  have e3:K'=K:=by omega
  subst e3
  dsimp only
  exact tail_end x pc hpc K' hK' t n' line k
end Go.Sh
