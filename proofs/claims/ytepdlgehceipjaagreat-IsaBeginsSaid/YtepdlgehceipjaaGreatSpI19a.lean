/-
  isa.Clean and the document's Clean, plainly; the law IsaBegins.
-/
import Derived.Test.YtepdlgehceipjaaGreatSpS19
set_option maxRecDepth 100000
namespace Go.Sh
open Go
set_option linter.unusedVariables false
set_option linter.unusedSimpArgs false
def mI : Nat→Int:=fun i=>match i with
  | 0=>824641853866
  | 1=>15775231
  | 2=>544
  | 3=>1632
  | 4=>18446744073709551612
  | 5=>18446744073709551615
  | 6=>18446744073709551612
  | 7=>18446744073709551615
  | 8=>18446744073709551615
  | 9=>18446744073709551615
  | 10=>18446744073709551612
  | 11=>18446744073709551615
  | 12=>18446744073709551612
  | 13=>18446744073709551615
  | 14=>18446744073709551615
  | 15=>9223372036871487743
  | 16=>7340992
  | 17=>45567
  | 18=>1088
  | 19=>1088
  | 20=>18446744073709551615
  | 21=>9223372036871487743
  | 22=>786722
  | 23=>18446744073709551612
  | 24=>18446744073709551615
  | 25=>18446744073709551612
  | 26=>18446744073709551615
  | 27=>18446744073709551615
  | 28=>9223372036871487743
  | _=>0
abbrev tMpp (v:Int):Bool:=bitop .and .u64 (gshr .u64 v 11) 3==2
abbrev oz (m v:Int):Int:=bitop .or .u64 (bitop .andNot .u64 0 m) v
def setN (f:Nat→Int) (g:Nat→Int):Nat→(Nat→Int)
  | 0=>f
  | n+ 1=>upd (setN f g n) n (g n)
theorem setN_get {f g:Nat→Int}:∀{n i:Nat},i < n→setN f g n i=g i
  | 0,_,h=>by omega
  | n+ 1,i,h=>by
    by_cases e:i=n
    · subst e; simp [setN,upd]
    · simp only [setN,upd,beq_ne e,cond_false]; exact setN_get (by omega)
def gC (C:Nat→Int) (v0:Int):Nat→Int:=fun i=>match i with
  | 0=>oz (mI 0) v0
  | i+ 1=>oz (mI (i+ 1)) (bitop .and .u64 (C (i+ 1)) (mI (i+ 1)))
def cSt (s:GState) (l:Int) (v:Bool) (v0:Int):GState:=GState.mk (upd s.X 0 0) (bitop .andNot .u64 s.PC 3) l v (setN (fun _=>0) (gC s.C v0) 29) s.Done
def cW {α:Type} (s:GState) (l:Int) (v:Bool) (k:GState→R α):R α:=
  cond (tMpp (bitop .and .u64 (s.C 0) (mI 0))) (k (cSt s l v (bitop .or .u64 (bitop .andNot .u64 (bitop .and .u64 (s.C 0) (mI 0)) 6144) 0))) (k (cSt s l v (bitop .and .u64 (s.C 0) (mI 0))))
theorem clean_eq {α:Type} (s:GState) (k:GState→R α):s_isa_Clean s k=cond (s.Level !=0) (cond (s.Level !=1) (cW s 3 false k) (cW s s.Level s.V k)) (cW s s.Level s.V k):=by kernel_rfl
def rC (C:Nat→Int) (i:Nat):Int:=bitop .and .u64 (C i) (mI i)
def rSt (s:GState) (l:Int) (v:Bool) (v0:Int):GState:=GState.mk (upd s.X 0 0) (bitop .andNot .u64 s.PC 3) l v (upd (setN s.C (rC s.C) 29) 0 v0) s.Done
def rW {α:Type} (s:GState) (l:Int) (v:Bool) (k:GState→R α):R α:=
  cond (tMpp (bitop .and .u64 (s.C 0) (mI 0))) (k (rSt s l v (bitop .andNot .u64 (bitop .and .u64 (s.C 0) (mI 0)) 6144))) (k (rSt s l v (bitop .and .u64 (s.C 0) (mI 0))))
theorem rclean_eq {α:Type} (s:GState) (k:GState→R α):s_ref18_Clean s k=cond (s.Level !=0) (cond (s.Level !=1) (cond (s.Level !=3) (rW s 3 false k) (cond (s.Level==3) (rW s s.Level false k) (rW s s.Level s.V k))) (cond (s.Level==3) (rW s s.Level false k) (rW s s.Level s.V k))) (cond (s.Level==3) (rW s s.Level false k) (rW s s.Level s.V k)):=by kernel_rfl
theorem bvw (b:BitVec 64):BitVec.ofInt 64 (IntKind.u64.wrap b.toNat)=b:=by
  have h:=b.isLt
  have e:IntKind.u64.wrap b.toNat=(b.toNat:Int):=by
    simp only [IntKind.wrap,IntKind.bits,IntKind.signed]
    simp
    omega
  rw [e]
  simp
abbrev B64 (x:Int):BitVec 64:=BitVec.ofInt 64 x
abbrev wB (b:BitVec 64):Int:=IntKind.u64.wrap (b.toNat:Int)
theorem b_and (x y:Int):bitop .and .u64 x y=wB (B64 x &&& B64 y):=rfl
theorem b_or (x y:Int):bitop .or .u64 x y=wB (B64 x ||| B64 y):=rfl
theorem b_andNot (x y:Int):bitop .andNot .u64 x y=wB (B64 x &&& ~~~ B64 y):=rfl
theorem B_w (b:BitVec 64):B64 (wB b)=b:=bvw b
theorem and_idem (x m:Int):bitop .and .u64 (bitop .and .u64 x m) m=bitop .and .u64 x m:=by
  rw [b_and,b_and,B_w,BitVec.and_assoc,BitVec.and_self]
theorem andNot_idem (x m:Int):bitop .andNot .u64 (bitop .andNot .u64 x m) m=bitop .andNot .u64 x m:=by
  rw [b_andNot,b_andNot,B_w,BitVec.and_assoc,BitVec.and_self]
theorem andNot_and (x m c:Int):bitop .and .u64 (bitop .andNot .u64 (bitop .and .u64 x m) c) m=bitop .andNot .u64 (bitop .and .u64 x m) c:=by
  rw [b_and,b_andNot,b_and,B_w,B_w]
  generalize B64 x=a,B64 m=b,~~~ B64 c=d
  have e:a &&& b &&& d &&& b=a &&& b &&& d:=by
    rw [BitVec.and_assoc (a &&& b) d b,BitVec.and_comm d b,← BitVec.and_assoc,BitVec.and_assoc a b b,BitVec.and_self]
  rw [e]
theorem wB_B {v:Int} (h:W64 v):wB (B64 v)=v:=by
  obtain ⟨h1,h2⟩:=h
  show IntKind.u64.wrap ((BitVec.ofInt 64 v).toNat:Int)=v
  simp only [IntKind.wrap,IntKind.bits,IntKind.signed,BitVec.toNat_ofInt]
  simp
  omega
theorem oz_eq (m v:Int) (h:W64 v):oz m v=v:=by
  show bitop .or .u64 (bitop .andNot .u64 0 m) v=v
  rw [b_or,b_andNot,B_w,show B64 0=0#64 from rfl,BitVec.zero_and,BitVec.zero_or]
  exact wB_B h
theorem or_z (v:Int) (h:W64 v):bitop .or .u64 v 0=v:=by
  rw [b_or,show B64 0=0#64 from rfl,BitVec.or_zero]
  exact wB_B h
theorem tMpp_set (v:Int) (h:W64 v):tMpp (bitop .andNot .u64 v 6144)=false:=by
  obtain ⟨h1,h2⟩:=h
  have e:=bitop_andNot (m:=v) (n:=6144) h1 h2 (by omega) (by omega)
  unfold tMpp
  rw [e]
  have e1:(6144:Int).toNat=6144:=rfl
  rw [e1]
  generalize hn:v.toNat &&& (18446744073709551615 - 6144)=n
  have hlt:n < 18446744073709551616:=by
    rw [← hn]
    exact Nat.lt_of_le_of_lt Nat.and_le_left (by omega)
  have e2:gshr .u64 (n:Int) 11=((n >>> 11:Nat):Int):=by
    unfold gshr
    have e3:min (11:Int).toNat IntKind.u64.bits=11:=rfl
    rw [e3]
    rw [Nat.shiftRight_eq_div_pow]
    simp only [Int.natCast_ediv]
    rw [Int.fdiv_eq_ediv_of_nonneg _ (by decide)]
    rfl
  have hs:n >>> 11≤n:=by rw [Nat.shiftRight_eq_div_pow]; exact Nat.div_le_self _ _
  rw [e2,bitop_and (by omega) (by omega) (by omega) (by omega)]
  have e4:(3:Int).toNat=3:=rfl
  rw [Int.toNat_natCast,e4]
  have e5:n >>> 11 &&& 3=0:=by
    rw [← hn,Nat.shiftRight_and_distrib,Nat.and_assoc]
    have:(18446744073709551615 - 6144) >>> 11 &&& 3=0:=by decide
    rw [this,Nat.and_zero]
  rw [e5]
  rfl
def isaC (s:GState):GState:=cSt s (cond (s.Level !=0) (cond (s.Level !=1) 3 s.Level) s.Level) (cond (s.Level !=0) (cond (s.Level !=1) false s.V) s.V)
  (cond (tMpp (bitop .and .u64 (s.C 0) (mI 0))) (bitop .or .u64 (bitop .andNot .u64 (bitop .and .u64 (s.C 0) (mI 0)) 6144) 0) (bitop .and .u64 (s.C 0) (mI 0)))
theorem isaC_eq {α:Type} (s:GState) (k:GState→R α):s_isa_Clean s k=k (isaC s):=by
  rw [clean_eq]
  unfold isaC cW
  cases (s.Level !=0)<;>cases (s.Level !=1)<;>cases (tMpp (bitop .and .u64 (s.C 0) (mI 0)))<;>rfl
def refC (s:GState):GState:=rSt s (cond (s.Level !=0) (cond (s.Level !=1) 3 s.Level) s.Level) (cond (s.Level !=0) (cond (s.Level !=1) false s.V) s.V)
  (cond (tMpp (bitop .and .u64 (s.C 0) (mI 0))) (bitop .andNot .u64 (bitop .and .u64 (s.C 0) (mI 0)) 6144) (bitop .and .u64 (s.C 0) (mI 0)))
theorem refC_eq {α:Type} (s:GState) (k:GState→R α):s_ref18_Clean s k=k (refC s):=by
  rw [rclean_eq]
  unfold refC rW
  by_cases h3:s.Level=3
  · rw [h3]
    cases (tMpp (bitop .and .u64 (s.C 0) (mI 0)))<;>rfl
  · have e3:(s.Level==3)=false:=by simpa using h3
    have e4:(s.Level !=3)=true:=by simpa using h3
    rw [e3,e4]
    cases (s.Level !=0)<;>cases (s.Level !=1)<;>cases (tMpp (bitop .and .u64 (s.C 0) (mI 0)))<;>rfl
theorem isaC_C (s:GState) {i:Nat} (hi:i < 29):(isaC s).C i=(refC s).C i:=by
  have hw:∀x,W64 (bitop .and .u64 x (mI 0)):=fun x=>bitop_u64 _ _ _
  have hw2:∀x,W64 (bitop .andNot .u64 x 6144):=fun x=>bitop_u64 _ _ _
  show setN (fun _=>0) (gC s.C _) 29 i=upd (setN s.C (rC s.C) 29) 0 _ i
  rw [setN_get hi]
  cases i with
  | zero=>
    simp only [gC,upd,Nat.beq_refl,cond_true]
    cases (tMpp (bitop .and .u64 (s.C 0) (mI 0)))
    · simp only [cond_false]; exact oz_eq _ _ (hw _)
    · simp only [cond_true]; rw [or_z _ (hw2 _)]; exact oz_eq _ _ (hw2 _)
  | succ i=>
    have e:Nat.beq (i+ 1) 0=false:=rfl
    simp only [upd,e,cond_false]
    rw [setN_get hi]
    exact oz_eq _ _ (bitop_u64 _ _ _)
theorem refC_get (s:GState) {i:Nat} (hi:i < 29):(refC s).C i=match i with
    | 0=>(cond (tMpp (bitop .and .u64 (s.C 0) (mI 0))) (bitop .andNot .u64 (bitop .and .u64 (s.C 0) (mI 0)) 6144) (bitop .and .u64 (s.C 0) (mI 0)))
    | i+ 1=>bitop .and .u64 (s.C (i+ 1)) (mI (i+ 1)):=by
  show upd (setN s.C (rC s.C) 29) 0 _ i=_
  cases i with
  | zero=>rfl
  | succ i=>
    have e:Nat.beq (i+ 1) 0=false:=rfl
    simp only [upd,e,cond_false]
    rw [setN_get hi]; rfl
theorem isaC_twice (s:GState) {i:Nat} (hi:i < 29):(isaC (isaC s)).C i=(isaC s).C i:=by
  rw [isaC_C _ hi,isaC_C _ hi,refC_get _ hi,refC_get _ hi]
  cases i with
  | zero=>
    simp only
    have e0:(isaC s).C 0=_:=(isaC_C s hi).trans (refC_get s hi)
    simp only at e0
    rw [e0]
    cases h:(tMpp (bitop .and .u64 (s.C 0) (mI 0)))
    · simp only [cond_false]
      rw [and_idem,h]; rfl
    · simp only [cond_true]
      rw [andNot_and,tMpp_set _ (bitop_u64 _ _ _)]; rfl
  | succ i=>
    simp only
    have e0:(isaC s).C (i+ 1)=_:=(isaC_C s hi).trans (refC_get s hi)
    simp only at e0
    rw [e0,and_idem]
theorem allT {n:Nat} {f:Nat→Bool} (h:∀i,i < n→f i=true):(List.range n).all f=true:=List.all_eq_true.2 fun i hi=>h i (List.mem_range.1 hi)
set_option maxHeartbeats 4000000 in
theorem begins_eq {α:Type} (s:GState) (k:Bool→R α) (F_known:Sg_z16 α) (hk:∀k,F_known k=k true) (F_isa:Sg_za α) (hI:∀s k,F_isa s k=k (isaC s)) (F_ref:Sg_z13 α) (hR:∀s k,F_ref s k=k (refC s)):
    p_z2s F_known F_isa F_ref s k=k true:=by
  unfold p_z2s
  rw [hk]
  simp only [Bool.not_true,cond_false,hI]
  have hX:∀s i,(isaC s).X i=upd s.X 0 0 i:=fun _ _=>rfl
  have hX2:∀i,(isaC (isaC s)).X i=(isaC s).X i:=fun i=>by
    rw [hX,hX]
    cases i with
    | zero=>rfl
    | succ i=>simp only [upd]; rfl
  have hX3:∀i,i ≠ 0→(isaC s).X i=s.X i:=fun i hi=>by rw [hX]; simp only [upd,beq_ne hi,cond_false]
  have hP:∀s,(isaC s).PC=bitop .andNot .u64 s.PC 3:=fun _=>rfl
  have hD:∀s,(isaC s).Done=s.Done:=fun _=>rfl
  have hL:(isaC (isaC s)).Level=(isaC s).Level∧(isaC (isaC s)).V=(isaC s).V∧((isaC s).Level=3→(isaC s).V=false∨False)∨True:=.inr trivial
  have hl:∀s:GState,(isaC s).Level=cond (s.Level !=0) (cond (s.Level !=1) 3 s.Level) s.Level:=fun _=>rfl
  have hv:∀s:GState,(isaC s).V=cond (s.Level !=0) (cond (s.Level !=1) false s.V) s.V:=fun _=>rfl
  have three:(s.Level=0∧(isaC s).Level=0∧(isaC s).V=s.V)∨(s.Level=1∧(isaC s).Level=1∧(isaC s).V=s.V)∨(s.Level ≠ 0∧s.Level ≠ 1∧(isaC s).Level=3∧(isaC s).V=false):=by
    by_cases h0:s.Level=0
    · left; rw [hl,hv,h0]; exact ⟨rfl,rfl,rfl⟩
    · by_cases h1:s.Level=1
      · right; left; rw [hl,hv,h1]; exact ⟨rfl,rfl,rfl⟩
      · right; right
        have e0:(s.Level !=0)=true:=by simpa using h0
        have e1:(s.Level !=1)=true:=by simpa using h1
        rw [hl,hv,e0,e1]; exact ⟨h0,h1,rfl,rfl⟩
  have lv:(isaC (isaC s)).Level=(isaC s).Level∧(isaC (isaC s)).V=(isaC s).V:=by
    rw [hl (isaC s),hv (isaC s)]
    rcases three with ⟨_,h1,h2⟩ | ⟨_,h1,h2⟩ | ⟨_,_,h1,h2⟩<;>rw [h1,h2]<;>exact ⟨rfl,rfl⟩
  have same:((List.range 32).all fun i=>(isaC s).X i==(isaC (isaC s)).X i)=true:=allT fun i _=>by rw [hX2]; simp
  have sameC:((List.range 29).all fun i=>(isaC s).C i==(isaC (isaC s)).C i)=true:=allT fun i hi=>by rw [isaC_twice s hi]; simp
  have sameP:((isaC s).PC==(isaC (isaC s)).PC)=true:=by rw [hP (isaC s),hP s,andNot_idem]; simp
  have sameD:((isaC s).Done==(isaC (isaC s)).Done)=true:=by rw [hD (isaC s)]; simp
  have x0:((isaC s).X 0 !=0)=false:=rfl
  have pc:((isaC s).PC !=bitop .andNot .u64 s.PC 3)=false:=by rw [hP]; simp
  have dn:((isaC s).Done !=s.Done)=false:=by rw [hD]; simp
  simp only [same,sameC,sameP,sameD,lv.1,lv.2,beq_self_eq_true,Bool.and_true,Bool.not_true,cond_false,x0,pc,dn]
  have hx:∀i,i ≠ 0→((isaC s).X i !=s.X i)=false:=fun i hi=>by rw [hX3 i hi]; simp
  have q1:q_law19_IsaBegins_1 F_ref s k (isaC s)=k true:=by
    unfold q_law19_IsaBegins_1
    simp only [hx _ (show (1:Nat) ≠ 0 by decide),hx _ (show (2:Nat) ≠ 0 by decide),hx _ (show (3:Nat) ≠ 0 by decide),hx _ (show (4:Nat) ≠ 0 by decide),hx _ (show (5:Nat) ≠ 0 by decide),hx _ (show (6:Nat) ≠ 0 by decide),hx _ (show (7:Nat) ≠ 0 by decide),hx _ (show (8:Nat) ≠ 0 by decide),hx _ (show (9:Nat) ≠ 0 by decide),hx _ (show (10:Nat) ≠ 0 by decide),hx _ (show (11:Nat) ≠ 0 by decide),hx _ (show (12:Nat) ≠ 0 by decide),hx _ (show (13:Nat) ≠ 0 by decide),hx _ (show (14:Nat) ≠ 0 by decide),hx _ (show (15:Nat) ≠ 0 by decide),hx _ (show (16:Nat) ≠ 0 by decide),hx _ (show (17:Nat) ≠ 0 by decide),hx _ (show (18:Nat) ≠ 0 by decide),hx _ (show (19:Nat) ≠ 0 by decide),hx _ (show (20:Nat) ≠ 0 by decide),hx _ (show (21:Nat) ≠ 0 by decide),hx _ (show (22:Nat) ≠ 0 by decide),hx _ (show (23:Nat) ≠ 0 by decide),hx _ (show (24:Nat) ≠ 0 by decide),hx _ (show (25:Nat) ≠ 0 by decide),hx _ (show (26:Nat) ≠ 0 by decide),hx _ (show (27:Nat) ≠ 0 by decide),hx _ (show (28:Nat) ≠ 0 by decide),hx _ (show (29:Nat) ≠ 0 by decide),hx _ (show (30:Nat) ≠ 0 by decide),hx _ (show (31:Nat) ≠ 0 by decide),cond_false,hR]
    have rX:((List.range 32).all fun i=>(isaC s).X i==(refC s).X i)=true:=allT fun i _=>by show (upd s.X 0 0 i==upd s.X 0 0 i)=true; simp
    have rCc:((List.range 29).all fun i=>(isaC s).C i==(refC s).C i)=true:=allT fun i hi=>by rw [isaC_C s hi]; simp
    have rP:((isaC s).PC==(refC s).PC)=true:=by show (bitop .andNot .u64 s.PC 3==bitop .andNot .u64 s.PC 3)=true; simp
    have rD:((isaC s).Done==(refC s).Done)=true:=by show (s.Done==s.Done)=true; simp
    have rL:((isaC s).Level==(refC s).Level)=true:=by rw [hl]; show (_==cond _ _ _)=true; simp
    have rV:((isaC s).V==(refC s).V)=true:=by rw [hv]; show (_==cond _ _ _)=true; simp
    simp only [rX,rCc,rP,rD,rL,rV,Bool.and_true,cond_true]
    rcases three with ⟨h0,h1,h2⟩ | ⟨h0,h1,h2⟩ | ⟨h0,h0',h1,h2⟩
    · rw [h1,h2,h0]; simp
    · rw [h1,h2,h0]; simp
    · have e0:(s.Level !=0)=true:=by simpa using h0
      have e1:(s.Level !=1)=true:=by simpa using h0'
      rw [e0,e1]; rfl
  rw [q1]
  rcases three with ⟨h0,h1,h2⟩ | ⟨h0,h1,h2⟩ | ⟨h0,h0',h1,h2⟩
  · rw [h1]; rfl
  · rw [h1]; rfl
  · rw [h1,h2]; rfl
theorem known19_eq {α:Type} (k:Bool→R α):s_law19_known k=k true:=by kernel_rfl
theorem begins {α:Type} (s:GState) (k:Bool→R α):s_law19_IsaBegins s k=k true:=begins_eq s k _ known19_eq _ isaC_eq _ refC_eq
end Go.Sh
