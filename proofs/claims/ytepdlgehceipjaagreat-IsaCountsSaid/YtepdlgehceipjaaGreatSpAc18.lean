/-
  The program's bus and its accesses, told.
-/
import Derived.Test.YtepdlgehceipjaaGreatSpB18
import Derived.Test.YtepdlgehceipjaaGreatSpMemLaw
namespace Go.Sh
open Go
set_option linter.unusedSimpArgs false
set_option linter.unusedVariables false
noncomputable def grd {α:Type} (p:Prop) (x:R α):R α:=@ite _ p (Classical.propDecidable p) x none
theorem grd_some {α:Type} {p:Prop} {x:R α} {r:α} (h:grd p x=some r):p∧x=some r:=by
  unfold grd at h
  split at h
  · exact ⟨by assumption,h⟩
  · cases h
theorem grd_pos {α:Type} {p:Prop} (h:p) (x:R α):grd p x=x:=by unfold grd; exact if_pos h
def gE (e:Entry):GEntry:=⟨e.valid,e.v,e.page,e.asid,e.vmid,e.frame,e.bits,e.host,e.guest⟩
def gF (f:Fault):GFault:=⟨f.cause,f.value,f.place,f.gva⟩
def sTrans {α:Type}:Sg_z19 α:=fun f s at_ kind level v k=>k (transA f (askS s.C level v) at_ kind (level==0) v).to (gE (transA f (askS s.C level v) at_ kind (level==0) v).e) (gF (transA f (askS s.C level v) at_ kind (level==0) v).f) (transA f (askS s.C level v) at_ kind (level==0) v).ok
def four {β:Type} (g:Nat→β):Nat→β:=upd (upd (upd (fun _=>g 0) 1 (g 1)) 2 (g 2)) 3 (g 3)
theorem four_at {β:Type} (g:Nat→β):∀i,i < 4→four g i=g i:=fun i hi=>by
  have:i=0∨i=1∨i=2∨i=3:=by omega
  rcases this with rfl | rfl | rfl | rfl<;>rfl
def conI (at_:Int):Option Nat:=if at_=61696 then some 0 else if at_=61952 then some 1 else if at_=62208 then some 2 else if at_=62464 then some 3 else none
theorem conI_none {a:Int} (h:W64 a) (hn:conI a=none):a < 61696∨(a - 61696) % 256 ≠ 0∨4≤(a - 61696) / 256:=by
  unfold conI at hn
  split at hn<;>try (cases hn; done)
  split at hn<;>try (cases hn; done)
  split at hn<;>try (cases hn; done)
  split at hn<;>try (cases hn; done)
  omega
theorem conI_some {a:Int} {i:Nat} (h:conI a=some i):(a=61696∧i=0)∨(a=61952∧i=1)∨(a=62208∧i=2)∨(a=62464∧i=3):=by
  unfold conI at h
  split at h
  · simp at h; omega
  split at h
  · simp at h; omega
  split at h
  · simp at h; omega
  split at h
  · simp at h; omega
  · cases h
def pick5 {β:Type} (o:Option Nat) (kn k0 k1 k2 k3:β):β:=match o with
  | none=>kn
  | some 0=>k0
  | some 1=>k1
  | some 2=>k2
  | some _=>k3
noncomputable def sCon {α:Type}:Sg_z1b α:=fun a n kn k0 k1 k2 k3=>grd (W64 a) (pick5 (if n=1 then conI a else none) kn k0 k1 k2 k3)
theorem con_le {α:Type} {a n:Int} (h:W64 a) (kn k0 k1 k2 k3:R α):p_z1b a n kn (sel4 k0 k1 k2 k3)=pick5 (if n=1 then conI a else none) kn k0 k1 k2 k3:=by
  unfold p_z1b
  dsimp only
  by_cases hn:n=1
  case neg=>
    have e:(n !=1)=true:=by simpa using hn
    rw [e,if_neg hn]; rfl
  subst hn
  rw [if_pos rfl]
  have e:((1:Int) !=1)=false:=rfl
  rw [e]
  cases hc:conI a with
  | none=>
    rcases conI_none h hc with h1 | h1 | h1
    · have e1:ltB a 61696=true:=by simp [ltB]; omega
      rw [e1]; rfl
    · cases e1:ltB a 61696
      · have h2:61696≤a:=by simp [ltB] at e1; omega
        have hw:IntKind.u64.wrap (a - 61696)=a - 61696:=wrap_u64 (by omega) (by omega)
        have hm:Int.tmod (a - 61696) 256=(a - 61696) % 256:=Int.tmod_eq_emod_of_nonneg (by omega)
        have e2:((a - 61696) % 256 !=0)=true:=by simpa using h1
        simp only [hw,hm,e2,cond_true,cond_false,pick5]
      · rfl
    · cases e1:ltB a 61696
      · have h2:61696≤a:=by simp [ltB] at e1; omega
        have hw:IntKind.u64.wrap (a - 61696)=a - 61696:=wrap_u64 (by omega) (by omega)
        have hd:Int.tdiv (a - 61696) 256=(a - 61696) / 256:=Int.tdiv_eq_ediv_of_nonneg (by omega)
        have hw2:IntKind.u64.wrap ((a - 61696) / 256)=(a - 61696) / 256:=wrap_u64 (by omega) (by omega)
        have e2:leB 4 ((a - 61696) / 256)=true:=by simp [leB]; omega
        simp only [hw,hd,hw2,e2,cond_true,cond_false,pick5]
        cases (Int.tmod (a - 61696) 256 !=0)<;>rfl
      · rfl
  | some i=>
    rcases conI_some hc with ⟨rfl,rfl⟩ | ⟨rfl,rfl⟩ | ⟨rfl,rfl⟩ | ⟨rfl,rfl⟩<;>rfl
def nB (b:GBus):GBus:=GBus.mk b.m b.time b.alarm (upd (upd (upd (fun _=>b.ports 0) 1 (b.ports 1)) 2 (b.ports 2)) 3 (b.ports 3))
def setP (b:GBus) (i:Nat) (p:GPort):GBus:=nB ⟨b.m,b.time,b.alarm,upd b.ports i p⟩
def tailR (r:Row):Row:=Row.mk (r.n - 1) (fun i=>r.f (1+ i))
def sMRd {α:Type}:Sg_z1z α:=fun f a n k=>cond (decide (0≤a)) (k (readS f a n) (checkS a n)) none
def sMWr {α:Type}:Sg_z7 α:=fun f a n v k=>cond (decide (0≤a)) (k (writeS f a n v) (checkS a n)) none
def readB (b:GBus) (a n:Int):GBus × Int × Bool:=
  if a=61440∧n=8 then (nB b,b.time,true) else
  if a=61448∧n=8 then (nB b,b.alarm,true) else
  match (if n=1 then conI a else none) with
  | some i=>if (b.ports i).inp.n=0 then (nB b,0,true) else (setP b i ⟨tailR (b.ports i).inp,(b.ports i).outp,(b.ports i).typed⟩,IntKind.u64.wrap ((b.ports i).inp.f 0),true)
  | none=>(nB b,readS b.m a n,checkS a n==0)
theorem natnn (n:Nat):decide ((0:Int)≤(n:Int))=true:=decide_eq_true (by omega)
theorem natself (n:Nat):decide ((n:Int)≤(n:Int))=true:=decide_eq_true (by omega)
theorem natself' (n:Nat):decide (n≤n)=true:=decide_eq_true (Nat.le_refl _)
theorem z0 : decide ((0:Int)≤0)=true:=rfl
theorem z1 : decide ((0:Int)≤1)=true:=rfl
theorem cnd2 {β:Type} (a n:Int) (X Y Z:β):(bif a==61440 then (bif n==8 then X else (bif a==61448 then (bif n==8 then Y else Z) else Z)) else (bif a==61448 then (bif n==8 then Y else Z) else Z))=(if a=61440∧n=8 then X else if a=61448∧n=8 then Y else Z):=by
  by_cases h1:a=61440
  · subst h1
    by_cases h2:n=8
    · subst h2; rfl
    · have e:(n==8)=false:=by simpa using h2
      rw [e,if_neg (fun h=>h2 h.2),if_neg (fun h=>h2 h.2)]; rfl
  · have e1:(a==61440)=false:=by simpa using h1
    rw [e1,if_neg (fun h=>h1 h.1)]
    by_cases h3:a=61448
    · subst h3
      by_cases h2:n=8
      · subst h2; rfl
      · have e:(n==8)=false:=by simpa using h2
        rw [e,if_neg (fun h=>h2 h.2)]; rfl
    · have e3:(a==61448)=false:=by simpa using h3
      rw [e3,if_neg (fun h=>h3 h.1)]; rfl
theorem conI_lt {a:Int} {i:Nat} (h:conI a=some i):i=0∨i=1∨i=2∨i=3:=by rcases conI_some h with ⟨_,h⟩ | ⟨_,h⟩ | ⟨_,h⟩ | ⟨_,h⟩<;>omega
theorem conIn_lt {a n:Int} {i:Nat} (h:(if n=1 then conI a else none)=some i):i=0∨i=1∨i=2∨i=3:=by
  split at h
  · exact conI_lt h
  · cases h
theorem readB_eq {α:Type} {a:Int} (h:W64 a) (b:GBus) (n:Int) (k:GBus→Int→Bool→R α):p_z1j sCon sMRd b a n k=k (readB b a n).1 (readB b a n).2.1 (readB b a n).2.2:=by
  unfold p_z1j readB sCon sMRd
  dsimp only
  simp only [GN,gN_self,grd_pos h,decide_eq_true h.1,cond_true]
  rw [cnd2]
  by_cases h1:a=61440∧n=8
  · rw [if_pos h1,if_pos h1]; rfl
  by_cases h2:a=61448∧n=8
  · rw [if_neg h1,if_pos h2,if_neg h1,if_pos h2]; rfl
  rw [if_neg h1,if_neg h2,if_neg h1,if_neg h2]
  generalize hc:(if n=1 then conI a else none)=o
  cases o with
  | none=>rfl
  | some i=>
    rcases conIn_lt hc with rfl | rfl | rfl | rfl
    · by_cases e:(b.ports 0).inp.n=0
      · simp only [pick5,e]; rfl
      · have q0:(((b.ports 0).inp.n:Int)==0)=false:=by simpa using e
        have q1:decide ((0:Int) < ((b.ports 0).inp.n:Int))=true:=decide_eq_true (by omega)
        have q2:decide (0 < (b.ports 0).inp.n)=true:=decide_eq_true (by omega)
        have q3:decide ((1:Int)≤((b.ports 0).inp.n:Int))=true:=decide_eq_true (by omega)
        have q4:decide (1+ ((b.ports 0).inp.n - 1)≤(b.ports 0).inp.n)=true:=decide_eq_true (by omega)
        simp only [pick5,q0,q1,q2,q3,q4,natnn,natself,natself',z0,z1,Bool.and_self,cond_true,cond_false,if_neg e]
        rfl
    · by_cases e:(b.ports 1).inp.n=0
      · simp only [pick5,e]; rfl
      · have q0:(((b.ports 1).inp.n:Int)==0)=false:=by simpa using e
        have q1:decide ((0:Int) < ((b.ports 1).inp.n:Int))=true:=decide_eq_true (by omega)
        have q2:decide (0 < (b.ports 1).inp.n)=true:=decide_eq_true (by omega)
        have q3:decide ((1:Int)≤((b.ports 1).inp.n:Int))=true:=decide_eq_true (by omega)
        have q4:decide (1+ ((b.ports 1).inp.n - 1)≤(b.ports 1).inp.n)=true:=decide_eq_true (by omega)
        simp only [pick5,q0,q1,q2,q3,q4,natnn,natself,natself',z0,z1,Bool.and_self,cond_true,cond_false,if_neg e]
        rfl
    · by_cases e:(b.ports 2).inp.n=0
      · simp only [pick5,e]; rfl
      · have q0:(((b.ports 2).inp.n:Int)==0)=false:=by simpa using e
        have q1:decide ((0:Int) < ((b.ports 2).inp.n:Int))=true:=decide_eq_true (by omega)
        have q2:decide (0 < (b.ports 2).inp.n)=true:=decide_eq_true (by omega)
        have q3:decide ((1:Int)≤((b.ports 2).inp.n:Int))=true:=decide_eq_true (by omega)
        have q4:decide (1+ ((b.ports 2).inp.n - 1)≤(b.ports 2).inp.n)=true:=decide_eq_true (by omega)
        simp only [pick5,q0,q1,q2,q3,q4,natnn,natself,natself',z0,z1,Bool.and_self,cond_true,cond_false,if_neg e]
        rfl
    · by_cases e:(b.ports 3).inp.n=0
      · simp only [pick5,e]; rfl
      · have q0:(((b.ports 3).inp.n:Int)==0)=false:=by simpa using e
        have q1:decide ((0:Int) < ((b.ports 3).inp.n:Int))=true:=decide_eq_true (by omega)
        have q2:decide (0 < (b.ports 3).inp.n)=true:=decide_eq_true (by omega)
        have q3:decide ((1:Int)≤((b.ports 3).inp.n:Int))=true:=decide_eq_true (by omega)
        have q4:decide (1+ ((b.ports 3).inp.n - 1)≤(b.ports 3).inp.n)=true:=decide_eq_true (by omega)
        simp only [pick5,q0,q1,q2,q3,q4,natnn,natself,natself',z0,z1,Bool.and_self,cond_true,cond_false,if_neg e]
        rfl
def pushR (r:Row) (c:Int):Row:=Row.mk (r.n+ 1 - (r.n+ 1 - 64)) (fun i=>(fun i=>bif Nat.blt i r.n then r.f i else (fun i=>(upd (fun _=>(0:Int)) 0 c) (0+ i)) (i - r.n)) ((r.n+ 1 - 64)+ i))
def writeB (b:GBus) (a n v:Int):GBus × Bool:=
  if a=61448∧n=8 then (nB ⟨b.m,b.time,v,b.ports⟩,true) else
  match (if n=1 then conI a else none) with
  | some i=>(setP b i ⟨(b.ports i).inp,pushR (b.ports i).outp (IntKind.u8.wrap v),(b.ports i).typed⟩,true)
  | none=>(nB ⟨writeS b.m a n v,b.time,b.alarm,b.ports⟩,checkS a n==0)
theorem cnd1 {β:Type} (a n:Int) (Y Z:β):(bif a==61448 then (bif n==8 then Y else Z) else Z)=(if a=61448∧n=8 then Y else Z):=by
  by_cases h3:a=61448
  · subst h3
    by_cases h2:n=8
    · subst h2; rfl
    · have e:(n==8)=false:=by simpa using h2
      rw [e,if_neg (fun h=>h2 h.2)]; rfl
  · have e3:(a==61448)=false:=by simpa using h3
    rw [e3,if_neg (fun h=>h3 h.1)]; rfl
theorem push_d {n:Nat} (hn:n≤64):pickmx true (IntKind.i64.wrap (((n+ 1:Nat):Int) - 64)) 0=((n+ 1 - 64:Nat):Int):=by
  rw [wrap_i64 (by omega) (by omega)]
  unfold pickmx
  dsimp only
  omega
theorem writeB_eq {α:Type} {a:Int} (h:W64 a) {b:GBus} (hb:∀i,i < 4→(b.ports i).outp.n≤64) (n v:Int) (k:GBus→Bool→R α):p_z1k sCon sMWr b a n v k=k (writeB b a n v).1 (writeB b a n v).2:=by
  unfold p_z1k writeB sCon sMWr
  dsimp only
  simp only [GN,gN_self,grd_pos h,decide_eq_true h.1,cond_true]
  rw [cnd1]
  by_cases h2:a=61448∧n=8
  · rw [if_pos h2,if_pos h2]; rfl
  rw [if_neg h2,if_neg h2]
  generalize hc:(if n=1 then conI a else none)=o
  cases o with
  | none=>rfl
  | some i=>
    rcases conIn_lt hc with rfl | rfl | rfl | rfl
    · have hn:=hb 0 (by omega)
      have q1:decide ((((b.ports 0).outp.n+ 1) * 1)≤140737488355328)=true:=decide_eq_true (by omega)
      have q2:decide (((b.ports 0).outp.n+ 1)≤4611686018427387904)=true:=decide_eq_true (by omega)
      have q3:decide (((((b.ports 0).outp.n+ 1 - 64:Nat)):Int)≤((((b.ports 0).outp.n+ 1):Nat):Int))=true:=decide_eq_true (by omega)
      have q4:decide (((b.ports 0).outp.n+ 1 - 64)+ ((b.ports 0).outp.n+ 1 - ((b.ports 0).outp.n+ 1 - 64))≤(b.ports 0).outp.n+ 1)=true:=decide_eq_true (by omega)
      simp only [pick5,push_d hn,Int.toNat_natCast,q1,q2,q3,q4,natnn,natself,natself',Bool.and_self,cond_true]
      rfl
    · have hn:=hb 1 (by omega)
      have q1:decide ((((b.ports 1).outp.n+ 1) * 1)≤140737488355328)=true:=decide_eq_true (by omega)
      have q2:decide (((b.ports 1).outp.n+ 1)≤4611686018427387904)=true:=decide_eq_true (by omega)
      have q3:decide (((((b.ports 1).outp.n+ 1 - 64:Nat)):Int)≤((((b.ports 1).outp.n+ 1):Nat):Int))=true:=decide_eq_true (by omega)
      have q4:decide (((b.ports 1).outp.n+ 1 - 64)+ ((b.ports 1).outp.n+ 1 - ((b.ports 1).outp.n+ 1 - 64))≤(b.ports 1).outp.n+ 1)=true:=decide_eq_true (by omega)
      simp only [pick5,push_d hn,Int.toNat_natCast,q1,q2,q3,q4,natnn,natself,natself',Bool.and_self,cond_true]
      rfl
    · have hn:=hb 2 (by omega)
      have q1:decide ((((b.ports 2).outp.n+ 1) * 1)≤140737488355328)=true:=decide_eq_true (by omega)
      have q2:decide (((b.ports 2).outp.n+ 1)≤4611686018427387904)=true:=decide_eq_true (by omega)
      have q3:decide (((((b.ports 2).outp.n+ 1 - 64:Nat)):Int)≤((((b.ports 2).outp.n+ 1):Nat):Int))=true:=decide_eq_true (by omega)
      have q4:decide (((b.ports 2).outp.n+ 1 - 64)+ ((b.ports 2).outp.n+ 1 - ((b.ports 2).outp.n+ 1 - 64))≤(b.ports 2).outp.n+ 1)=true:=decide_eq_true (by omega)
      simp only [pick5,push_d hn,Int.toNat_natCast,q1,q2,q3,q4,natnn,natself,natself',Bool.and_self,cond_true]
      rfl
    · have hn:=hb 3 (by omega)
      have q1:decide ((((b.ports 3).outp.n+ 1) * 1)≤140737488355328)=true:=decide_eq_true (by omega)
      have q2:decide (((b.ports 3).outp.n+ 1)≤4611686018427387904)=true:=decide_eq_true (by omega)
      have q3:decide (((((b.ports 3).outp.n+ 1 - 64:Nat)):Int)≤((((b.ports 3).outp.n+ 1):Nat):Int))=true:=decide_eq_true (by omega)
      have q4:decide (((b.ports 3).outp.n+ 1 - 64)+ ((b.ports 3).outp.n+ 1 - ((b.ports 3).outp.n+ 1 - 64))≤(b.ports 3).outp.n+ 1)=true:=decide_eq_true (by omega)
      simp only [pick5,push_d hn,Int.toNat_natCast,q1,q2,q3,q4,natnn,natself,natself',Bool.and_self,cond_true]
      rfl
theorem four_ports (b:GBus):(nB b).ports=four b.ports:=rfl
def clampK (x:Int):Nat:=if x≤0 then 0 else if x=1 then 1 else 2
def sCause {α:Type}:Sg_z1d α:=fun x f k=>k (f (clampK x))
theorem cause_eq {α:Type} (x:Int) (f:Nat→Int) (k:Int→R α):p_z1d x f k=sCause x f k:=by
  unfold p_z1d sCause clampK pickmx
  dsimp only
  by_cases h0:x≤0
  · rw [if_pos h0]
    by_cases h:x < 0
    · rw [if_pos h]; rfl
    · have:x=0:=by omega
      subst this; rfl
  · rw [if_neg h0,if_neg (show ¬ x < 0 by omega)]
    by_cases h1:x=1
    · subst h1; rfl
    · rw [if_neg h1]
      by_cases h2:2 < x
      · rw [if_pos h2]; rfl
      · have:x=2:=by omega
        subst this; rfl
def badF (at_ kind:Int) (v:Bool):GFault:=⟨(upd (upd (upd (fun _=>0) 0 1) 1 5) 2 7:Nat→Int) (clampK kind),at_,0,v⟩
def misF (at_ kind:Int) (v:Bool):GFault:=⟨(upd (upd (upd (fun _=>0) 0 0) 1 4) 2 6:Nat→Int) (clampK kind),at_,0,v⟩
abbrev okF : GFault:=⟨0,0,0,false⟩
def sBad {α:Type}:Sg_z12 α:=fun a kind v k=>k (badF a kind v)
theorem bad_eq {α:Type} (a kind:Int) (v:Bool) (k:GFault→R α):p_z12 sCause a kind v k=sBad a kind v k:=rfl
abbrev N4 (n:Int):Prop:=n=1∨n=2∨n=4∨n=8
def alignedS (a n kind:Int) (v:Bool):GFault × Bool:=
  if ¬ N4 n then (badF a kind v,false) else if a % n ≠ 0 then (misF a kind v,false) else (okF,true)
noncomputable def sAligned {α:Type}:Sg_zz α:=fun a n kind v k=>grd (W64 a) (k (alignedS a n kind v).1 (alignedS a n kind v).2)
theorem n4_ne {n:Int} (h:¬ N4 n):(n !=1)=true∧(n !=2)=true∧(n !=4)=true∧(n !=8)=true:=by
  refine ⟨?_,?_,?_,?_⟩<;>simp only [bne_iff_ne,ne_eq]<;>intro e<;>exact h (by omega)
theorem aligned_eq {α:Type} {a:Int} (ha:W64 a) (n kind:Int) (v:Bool) (k:GFault→Bool→R α):p_zz sBad sCause a n kind v k=k (alignedS a n kind v).1 (alignedS a n kind v).2:=by
  unfold p_zz alignedS
  dsimp only
  by_cases hn:N4 n
  · rw [if_neg (fun e=>e hn)]
    have key:∀m:Int,0 < m→(Int.tmod a m !=0)=decide (a % m ≠ 0):=fun m hm=>by
      rw [Int.tmod_eq_emod_of_nonneg ha.1]
      by_cases e:a % m=0
      · rw [e]; rfl
      · have h1:(a % m !=0)=true:=by simpa using e
        rw [h1,decide_eq_true e]
    have fin:∀m:Int,0 < m→IntKind.u64.wrap m=m→(cond (decide (IntKind.u64.wrap m=0)) none (cond (Int.tmod a (IntKind.u64.wrap m) !=0) (sCause kind (upd (upd (upd (fun _=>0) 0 0) 1 4) 2 6) fun r9=>k (GFault.mk r9 a 0 v) false) (k okF true)):R α)=
        k (if a % m ≠ 0 then (misF a kind v,false) else (okF,true)).1 (if a % m ≠ 0 then (misF a kind v,false) else (okF,true)).2:=fun m hm hw=>by
      rw [hw,key m hm,decide_eq_false (show ¬ m=0 by omega)]
      by_cases e:a % m ≠ 0
      · rw [if_pos e,decide_eq_true e]; rfl
      · rw [if_neg e,decide_eq_false e]; rfl
    rcases hn with rfl | rfl | rfl | rfl
    · exact fin 1 (by omega) rfl
    · exact fin 2 (by omega) rfl
    · exact fin 4 (by omega) rfl
    · exact fin 8 (by omega) rfl
  · obtain ⟨e1,e2,e3,e4⟩:=n4_ne hn
    rw [if_pos hn,e1,e2,e3,e4]; rfl
abbrev Dev (place:Int):Prop:=61440≤place∧place < 62720
abbrev Few (b:GBus):Prop:=∀i,i < 4→(b.ports i).outp.n≤64
theorem few_nB {b:GBus} (h:Few b):Few (nB b):=fun i hi=>by rw [four_ports,four_at _ _ hi]; exact h i hi
noncomputable def sBRd {α:Type}:Sg_z1j α:=fun b a n k=>grd (W64 a) (k (readB b a n).1 (readB b a n).2.1 (readB b a n).2.2)
noncomputable def sBWr {α:Type}:Sg_z1k α:=fun b a n v k=>grd (W64 a∧Few b) (k (writeB b a n v).1 (writeB b a n v).2)
def atB (b:GBus) (place a n kind value:Int) (v:Bool):GBus × Int × GFault × Bool:=
  if kind=0∧Dev place then (nB b,0,badF a kind v,false) else
  if kind=2 then (if (writeB (nB b) place n value).2=true then (nB (writeB (nB b) place n value).1,0,okF,true) else (nB (writeB (nB b) place n value).1,0,badF a kind v,false)) else
  if (readB (nB b) place n).2.2=true then (nB (readB (nB b) place n).1,(readB (nB b) place n).2.1,okF,true) else (nB (readB (nB b) place n).1,0,badF a kind v,false)
noncomputable def sAt {α:Type}:Sg_zs α:=fun b place a n kind value v k=>grd (W64 place∧Few b) (k (atB b place a n kind value v).1 (atB b place a n kind value v).2.1 (atB b place a n kind value v).2.2.1 (atB b place a n kind value v).2.2.2)
theorem at_eq {α:Type} {b:GBus} {place:Int} (hp:W64 place) (hb:Few b) (a n kind value:Int) (v:Bool) (k:GBus→Int→GFault→Bool→R α):p_zs sBad sBWr sBRd b place a n kind value v k=k (atB b place a n kind value v).1 (atB b place a n kind value v).2.1 (atB b place a n kind value v).2.2.1 (atB b place a n kind value v).2.2.2:=by
  unfold p_zs atB sBWr sBRd sBad
  dsimp only
  simp only [GN,gN_self]
  have e1:W64 place∧Few (nB b):=⟨hp,few_nB hb⟩
  change (cond (kind==0) (cond (leB 61440 place) (cond (ltB place 62720) (k (nB b) 0 (badF a kind v) false)
      (cond (kind==2) (grd (W64 place∧Few (nB b)) (cond (!(writeB (nB b) place n value).2) (k (nB (writeB (nB b) place n value).1) 0 (badF a kind v) false) (k (nB (writeB (nB b) place n value).1) 0 okF true)))
        (grd (W64 place) (cond (!(readB (nB b) place n).2.2) (k (nB (readB (nB b) place n).1) 0 (badF a kind v) false) (k (nB (readB (nB b) place n).1) (readB (nB b) place n).2.1 okF true)))))
      (cond (kind==2) (grd (W64 place∧Few (nB b)) (cond (!(writeB (nB b) place n value).2) (k (nB (writeB (nB b) place n value).1) 0 (badF a kind v) false) (k (nB (writeB (nB b) place n value).1) 0 okF true)))
        (grd (W64 place) (cond (!(readB (nB b) place n).2.2) (k (nB (readB (nB b) place n).1) 0 (badF a kind v) false) (k (nB (readB (nB b) place n).1) (readB (nB b) place n).2.1 okF true)))))
      (cond (kind==2) (grd (W64 place∧Few (nB b)) (cond (!(writeB (nB b) place n value).2) (k (nB (writeB (nB b) place n value).1) 0 (badF a kind v) false) (k (nB (writeB (nB b) place n value).1) 0 okF true)))
        (grd (W64 place) (cond (!(readB (nB b) place n).2.2) (k (nB (readB (nB b) place n).1) 0 (badF a kind v) false) (k (nB (readB (nB b) place n).1) (readB (nB b) place n).2.1 okF true)))))=_
  rw [grd_pos e1,grd_pos hp]
  generalize writeB (nB b) place n value=W
  generalize readB (nB b) place n=Q
  obtain ⟨W1,W2⟩:=W
  obtain ⟨Q1,Q2,Q3⟩:=Q
  dsimp only
  have tail:(cond (kind==2) (cond (!W2) (k (nB W1) 0 (badF a kind v) false) (k (nB W1) 0 okF true)) (cond (!Q3) (k (nB Q1) 0 (badF a kind v) false) (k (nB Q1) Q2 okF true)):R α)=
      k (if kind=2 then (if W2=true then (nB W1,(0:Int),okF,true) else (nB W1,0,badF a kind v,false)) else if Q3=true then (nB Q1,Q2,okF,true) else (nB Q1,0,badF a kind v,false)).1
        (if kind=2 then (if W2=true then (nB W1,(0:Int),okF,true) else (nB W1,0,badF a kind v,false)) else if Q3=true then (nB Q1,Q2,okF,true) else (nB Q1,0,badF a kind v,false)).2.1
        (if kind=2 then (if W2=true then (nB W1,(0:Int),okF,true) else (nB W1,0,badF a kind v,false)) else if Q3=true then (nB Q1,Q2,okF,true) else (nB Q1,0,badF a kind v,false)).2.2.1
        (if kind=2 then (if W2=true then (nB W1,(0:Int),okF,true) else (nB W1,0,badF a kind v,false)) else if Q3=true then (nB Q1,Q2,okF,true) else (nB Q1,0,badF a kind v,false)).2.2.2:=by
    by_cases h2:kind=2
    · have e:(kind==2)=true:=by simpa using h2
      rw [e,if_pos h2]
      cases W2<;>rfl
    · have e:(kind==2)=false:=by simpa using h2
      rw [e,if_neg h2]
      cases Q3<;>rfl
  by_cases hd:kind=0∧Dev place
  · obtain ⟨h0,h1,h2⟩:=hd
    have e:(kind==0)=true:=by simpa using h0
    have e2:leB 61440 place=true:=by simp only [leB_true]; exact h1
    have e3:ltB place 62720=true:=by simp only [ltB_true]; exact h2
    rw [e,e2,e3,if_pos ⟨h0,h1,h2⟩]; rfl
  · rw [if_neg hd,← tail]
    cases e:(kind==0)<;>cases e2:leB 61440 place<;>cases e3:ltB place 62720<;>first | rfl | (exfalso; apply hd; simp only [leB_true,ltB_true,beq_iff_eq] at e e2 e3; exact ⟨e,e2,e3⟩)
theorem zero_w64 : W64 0:=⟨by omega,by omega⟩
theorem place_w64 {fr a:Int}:W64 (joinS fr a):=bitop_u64 .or _ _
theorem bif_ind {β:Type} {P:β→Prop} (b:Bool) {x y:β} (hx:P x) (hy:P y):P (bif b then x else y):=by cases b<;>assumption
theorem second_w64 {g:Nat→Int} {s:Bool} {h p k:Int} (hp:W64 p):W64 (secondS g s h p k).1:=by
  unfold secondS
  exact bif_ind (P:=fun x:Int × Int × Int=>W64 x.1) _ (bif_ind (P:=fun x:Int × Int × Int=>W64 x.1) _ zero_w64 hp) (bif_ind (P:=fun x:Int × Int × Int=>W64 x.1) _ zero_w64 (bif_ind (P:=fun x:Int × Int × Int=>W64 x.1) _ zero_w64 place_w64))
theorem first_w64 {f:Nat→Int} {fst sec sum mxr:Bool} {root host a kind:Int} {v user:Bool} (ha:W64 a):W64 (firstS f fst sec sum mxr root host a kind v user).place:=by
  unfold firstS
  exact bif_ind (P:=fun x:Firsts=>W64 x.place) _ ha (bif_ind (P:=fun x:Firsts=>W64 x.place) _ zero_w64 (bif_ind (P:=fun x:Firsts=>W64 x.place) _ zero_w64 (bif_ind (P:=fun x:Firsts=>W64 x.place) _ zero_w64 place_w64)))
theorem transA_w64 {f:Nat→Int} {A:Asking} {a kind:Int} {user v:Bool} (ha:W64 a):W64 (transA f A a kind user v).to:=by
  unfold transA
  exact bif_ind (P:=fun x:Trans=>W64 x.to) _ (bif_ind (P:=fun x:Trans=>W64 x.to) _ ha ha) (bif_ind (P:=fun x:Trans=>W64 x.to) _ zero_w64 (bif_ind (P:=fun x:Trans=>W64 x.to) _ zero_w64 (bif_ind (P:=fun x:Trans=>W64 x.to) _ zero_w64 (second_w64 (first_w64 ha)))))
abbrev trO (m:Nat→Int) (s:GState) (a kind level:Int) (v:Bool):Trans:=transA m (askS s.C level v) a kind (level==0) v
def doB (b:GBus) (s:GState) (a n kind value level:Int) (v:Bool):GBus × Int × GFault × Bool:=
  if (alignedS a n kind v).2=false then (nB b,0,(alignedS a n kind v).1,false) else
  if (trO b.m s a kind level v).ok=false then (nB b,0,gF (trO b.m s a kind level v).f,false) else
  (nB (atB (nB b) (trO b.m s a kind level v).to a n kind value v).1,(atB (nB b) (trO b.m s a kind level v).to a n kind value v).2)
theorem do_eq {α:Type} {b:GBus} (s:GState) {a:Int} (ha:W64 a) (hb:Few b) (n kind value level:Int) (v:Bool) (k:GBus→Int→GFault→Bool→R α):p_zu sAligned sTrans sAt b s a n kind value level v k=k (doB b s a n kind value level v).1 (doB b s a n kind value level v).2.1 (doB b s a n kind value level v).2.2.1 (doB b s a n kind value level v).2.2.2:=by
  unfold p_zu doB sAligned sTrans sAt
  dsimp only
  simp only [GN,gN_self]
  rw [grd_pos ha]
  have hto:W64 (trO b.m s a kind level v).to:=transA_w64 ha
  change (cond (!(alignedS a n kind v).2) (k (nB b) 0 (alignedS a n kind v).1 false) (cond (!(trO b.m s a kind level v).ok) (k (nB b) 0 (gF (trO b.m s a kind level v).f) false)
    (grd (W64 (trO b.m s a kind level v).to∧Few (nB b)) (k (nB (atB (nB b) (trO b.m s a kind level v).to a n kind value v).1) (atB (nB b) (trO b.m s a kind level v).to a n kind value v).2.1 (atB (nB b) (trO b.m s a kind level v).to a n kind value v).2.2.1 (atB (nB b) (trO b.m s a kind level v).to a n kind value v).2.2.2))))=_
  rw [grd_pos ⟨hto,few_nB hb⟩]
  cases (alignedS a n kind v).2
  · rfl
  · cases (trO b.m s a kind level v).ok<;>rfl
def sDoK {α:Type}:Sg_zu α:=fun b s a n kind value level v k=>cond (decide (0≤a) && (decide (a < 18446744073709551616) && (Nat.ble (b.ports 0).outp.n 64 && (Nat.ble (b.ports 1).outp.n 64 && (Nat.ble (b.ports 2).outp.n 64 && Nat.ble (b.ports 3).outp.n 64)))))
  (k (doB b s a n kind value level v).1 (doB b s a n kind value level v).2.1 (doB b s a n kind value level v).2.2.1 (doB b s a n kind value level v).2.2.2) none
theorem doK_some {α:Type} {b:GBus} {s:GState} {a n kind value level:Int} {v:Bool} {k:GBus→Int→GFault→Bool→R α} {r:α} (h:sDoK b s a n kind value level v k=some r):(W64 a∧Few b)∧k (doB b s a n kind value level v).1 (doB b s a n kind value level v).2.1 (doB b s a n kind value level v).2.2.1 (doB b s a n kind value level v).2.2.2=some r:=by
  unfold sDoK at h
  cases hb:(decide (0≤a) && (decide (a < 18446744073709551616) && (Nat.ble (b.ports 0).outp.n 64 && (Nat.ble (b.ports 1).outp.n 64 && (Nat.ble (b.ports 2).outp.n 64 && Nat.ble (b.ports 3).outp.n 64)))))<;>rw [hb] at h
  · cases h
  · simp only [Bool.and_eq_true,decide_eq_true_eq,Nat.ble_eq] at hb
    obtain ⟨h1,h2,h3,h4,h5,h6⟩:=hb
    refine ⟨⟨⟨h1,h2⟩,fun i hi=>?_⟩,h⟩
    have:i=0∨i=1∨i=2∨i=3:=by omega
    rcases this with rfl | rfl | rfl | rfl<;>assumption
end Go.Sh
