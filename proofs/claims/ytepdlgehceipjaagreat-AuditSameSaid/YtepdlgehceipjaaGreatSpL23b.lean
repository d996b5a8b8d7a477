/-
  AuditSame, plainly: the first place at which two rows are unlike.
-/
import Derived.Test.YtepdlgehceipjaaGreatSpL23
import Derived.Test.YtepdlgehceipjaaGreatSpLs
set_option linter.unusedSimpArgs false
set_option linter.unusedVariables false
namespace Go.Sh
open Go
set_option linter.unusedVariables false
abbrev RT : Type:=Int × Int × Int × Int × Bool × (Int × Int × Int × Bool × Unit) × Int × Bool × Bool × Unit
abbrev Rw : Type:=Bool × Addr × Nat × Nat × (Nat→RT)
def eqR (x y:RT):Bool:=(x.1==y.1) && ((x.2.1==y.2.1) && ((x.2.2.1==y.2.2.1) && ((x.2.2.2.1==y.2.2.2.1) && ((x.2.2.2.2.1==y.2.2.2.2.1) && (((x.2.2.2.2.2.1.1==y.2.2.2.2.2.1.1) && ((x.2.2.2.2.2.1.2.1==y.2.2.2.2.2.1.2.1) && ((x.2.2.2.2.2.1.2.2.1==y.2.2.2.2.2.1.2.2.1) && ((x.2.2.2.2.2.1.2.2.2.1==y.2.2.2.2.2.1.2.2.2.1) && true)))) && ((x.2.2.2.2.2.2.1==y.2.2.2.2.2.2.1) && ((x.2.2.2.2.2.2.2.1==y.2.2.2.2.2.2.2.1) && ((x.2.2.2.2.2.2.2.2.1==y.2.2.2.2.2.2.2.2.1) && true))))))))
theorem eqR_comm (x y:RT):eqR x y=eqR y x:=by
  unfold eqR
  have hI:∀a b:Int,(a==b)=(b==a):=fun a b=>by
    by_cases h:a=b
    · subst h; rfl
    · have h':¬ b=a:=fun e=>h e.symm
      rw [beq_eq_false_iff_ne.2 h,beq_eq_false_iff_ne.2 h']
  have hB:∀a b:Bool,(a==b)=(b==a):=fun a b=>by cases a<;>cases b<;>rfl
  rw [hI x.1,hI x.2.1,hI x.2.2.1,hI x.2.2.2.1,hB x.2.2.2.2.1,hI x.2.2.2.2.2.1.1,hI x.2.2.2.2.2.1.2.1,hI x.2.2.2.2.2.1.2.2.1,hB x.2.2.2.2.2.1.2.2.2.1,hI x.2.2.2.2.2.2.1,hB x.2.2.2.2.2.2.2.1,hB x.2.2.2.2.2.2.2.2.1]
theorem eqR_self (x:RT):eqR x x=true:=by unfold eqR; simp
def unl (a b:Rw) (i:Nat):Bool:=(decide (a.2.2.1≤i) || decide (b.2.2.1≤i)) || !(eqR (a.2.2.2.2 i) (b.2.2.2.2 i))
def fst_ (f:Nat→Bool):Nat→Nat→Int
  | _,0=> -1
  | i,n+ 1=>bif f i then (i:Int) else fst_ f (i+ 1) n
theorem fst_none {f:Nat→Bool}:∀{n i:Nat},(∀j,i≤j→j < i+ n→f j=false)→fst_ f i n = -1
  | 0,_,_=>rfl
  | n+ 1,i,h=>by simp only [fst_,h i (Nat.le_refl _) (by omega),cond_false]; exact fst_none fun j h1 h2=>h j (by omega) (by omega)
def mx (a b:Rw):Nat:=max a.2.2.1 b.2.2.1
def sc (a b:Rw):Int:=fst_ (unl a b) 0 (mx a b)
theorem unl_comm (a b:Rw):unl a b=unl b a:=by
  funext i
  unfold unl
  rw [Bool.or_comm (decide (a.2.2.1≤i)),eqR_comm]
theorem sc_comm (a b:Rw):sc a b=sc b a:=by unfold sc mx; rw [unl_comm,Nat.max_comm]
theorem sc_self (a:Rw):sc a a = -1:=fst_none fun j _ h=>by
  have h1:j < a.2.2.1:=by unfold mx at h; omega
  unfold unl
  rw [eqR_self]
  simp
  omega
abbrev stpS (s:S_z8):Option (S_z8 ⊕ X_z8):=b_z8 s (fun s=>some (.inl s)) (fun x=>some (.inr (.inl x))) (fun x=>some (.inr (.inr x)))
def WS (s:S_z8):Prop:=∃i:Nat,s.v4=i∧s.v2=((min s.v0.2.2.1 s.v1.2.2.1:Nat):Int)∧s.v3=((mx s.v0 s.v1:Nat):Int)∧i≤mx s.v0 s.v1∧mx s.v0 s.v1≤100
def QS (s:S_z8) (z:X_z8):Prop:=∀i:Nat,s.v4=i→(∃j:Nat,z=.inl ⟨j⟩∧fst_ (unl s.v0 s.v1) i (mx s.v0 s.v1 - i)=j)∨(z=.inr ⟨⟩∧fst_ (unl s.v0 s.v1) i (mx s.v0 s.v1 - i) = -1)
theorem stpS_eq (a b:Rw) (n N i:Nat):stpS ⟨a,b,n,N,i⟩=cond (decide (i < N)) (cond (decide (i < n)) (cond (decide (i < a.2.2.1)) (cond (decide (i < b.2.2.1)) (cond (eqR (a.2.2.2.2 i) (b.2.2.2.2 i)) (some (.inl ⟨a,b,n,N,IntKind.i64.wrap ((i:Int)+ 1)⟩)) (some (.inr (.inl ⟨i⟩)))) none) none) (some (.inr (.inl ⟨i⟩)))) (some (.inr (.inr ⟨⟩))):=by
  have e1:∀m:Nat,(decide ((0:Int)≤(i:Int)) && decide ((i:Int) < (m:Int)))=decide (i < m):=fun m=>by
    have h:decide ((0:Int)≤(i:Int))=true:=by simp
    rw [h,Bool.true_and]
    exact decide_eq_decide.2 (by omega)
  have e2:∀m:Nat,ltB (i:Int) (m:Int)=decide (i < m):=fun m=>decide_eq_decide.2 (by omega)
  unfold stpS b_z8
  dsimp only
  rw [e1,e1,e2,e2]
  rfl
theorem loopS (m:Nat):∀(a b:Rw) (i:Nat),mx a b - i=m→i≤mx a b→mx a b≤100→∃z,EndsL stpS ⟨a,b,((min a.2.2.1 b.2.2.1:Nat):Int),((mx a b:Nat):Int),i⟩ z∧((∃j:Nat,z=.inl ⟨j⟩∧fst_ (unl a b) i m=j)∨(z=.inr ⟨⟩∧fst_ (unl a b) i m = -1)):=by
  induction m with
  | zero=>
    intro a b i hm hi hN
    have hs:=stpS_eq a b (min a.2.2.1 b.2.2.1) (mx a b) i
    have e:decide (i < mx a b)=false:=decide_eq_false (by omega)
    rw [e,cond_false] at hs
    exact ⟨_,.stop hs,.inr ⟨rfl,rfl⟩⟩
  | succ m ih=>
    intro a b i hm hi hN
    have hs:=stpS_eq a b (min a.2.2.1 b.2.2.1) (mx a b) i
    have e:decide (i < mx a b)=true:=decide_eq_true (by omega)
    rw [e,cond_true] at hs
    have w:IntKind.i64.wrap ((i:Int)+ 1)=((i+ 1:Nat):Int):=by rw [wrap_i64 (by omega) (by omega)]; omega
    by_cases hn:i < min a.2.2.1 b.2.2.1
    · have ha:i < a.2.2.1:=by omega
      have hb:i < b.2.2.1:=by omega
      rw [decide_eq_true hn,decide_eq_true ha,decide_eq_true hb] at hs
      simp only [cond_true] at hs
      have hu:unl a b i=!(eqR (a.2.2.2.2 i) (b.2.2.2.2 i)):=by
        unfold unl
        rw [decide_eq_false (show ¬ a.2.2.1≤i by omega),decide_eq_false (show ¬ b.2.2.1≤i by omega)]; rfl
      cases hq:eqR (a.2.2.2.2 i) (b.2.2.2.2 i)<;>rw [hq] at hs hu
      · refine ⟨_,.stop hs,.inl ⟨i,rfl,?_⟩⟩
        simp only [fst_,hu,Bool.not_false,cond_true]
      · rw [cond_true,w] at hs
        obtain ⟨z,h1,h2⟩:=ih a b (i+ 1) (by omega) (by omega) hN
        refine ⟨z,.next hs h1,?_⟩
        simp only [fst_,hu,Bool.not_true,cond_false]
        exact h2
    · rw [decide_eq_false hn] at hs
      rw [cond_false] at hs
      have hu:unl a b i=true:=by
        unfold unl
        have:a.2.2.1≤i∨b.2.2.1≤i:=by omega
        rcases this with h | h<;>simp [h]
      refine ⟨_,.stop hs,.inl ⟨i,rfl,?_⟩⟩
      simp only [fst_,hu,cond_true]
theorem wS (s:S_z8) (h:WS s):∃z,EndsL stpS s z∧QS s z:=by
  obtain ⟨a,b,v2,v3,v4⟩:=s
  obtain ⟨i,h1,h2,h3,h4,h5⟩:=h
  simp only at h1 h2 h3 h4 h5
  subst h1; subst h2; subst h3
  obtain ⟨z,q1,q2⟩:=loopS (mx a b - i) a b i rfl h4 h5
  refine ⟨z,q1,fun i' hi'=>?_⟩
  simp only at hi'
  have:i'=i:=by omega
  subst this
  exact q2
noncomputable def sLS {α:Type}:SgL_z8 α:=fun s k0 k1=>lsp wS s (fun x=>match x with | .inl x=>k0 x | .inr x=>k1 x)
theorem lokS {α:Type}:LoopOk (α:=α) stpS (fun (s:S_z8) (k:X_z8→R α)=>sLS s (fun x=>k (.inl x)) (fun x=>k (.inr x))):=by
  have e:(fun (s:S_z8) (k:X_z8→R α)=>sLS s (fun x=>k (.inl x)) (fun x=>k (.inr x)))=lsp wS:=by
    funext s k
    unfold sLS
    congr 1
    funext x
    cases x<;>rfl
  rw [e]
  exact lsp_ok wS
theorem pick_min (a b:Nat):pickmx false (a:Int) (b:Int)=((min a b:Nat):Int):=by
  unfold pickmx
  simp only
  split<;>omega
theorem pick_max (a b:Nat):pickmx true (a:Int) (b:Int)=((max a b:Nat):Int):=by
  unfold pickmx
  simp only
  split<;>omega
theorem same_eq {α:Type} (a b:Rw) (h:mx a b≤100) (k:Int→R α):p_zs sLS a b k=k (sc a b):=by
  unfold p_zs
  dsimp only
  rw [pick_min,pick_max]
  unfold sLS
  obtain ⟨z,⟨_,hq⟩,hz⟩:=lsp_pos wS (s:=⟨a,b,((min a.2.2.1 b.2.2.1:Nat):Int),((max a.2.2.1 b.2.2.1:Nat):Int),0⟩) ⟨0,rfl,rfl,rfl,Nat.zero_le _,h⟩
  rw [hz]
  rcases hq 0 rfl with ⟨j,rfl,e⟩ | ⟨rfl,e⟩
  · simp only at e ⊢
    rw [Nat.sub_zero] at e
    unfold sc; rw [e]
  · simp only at e ⊢
    rw [Nat.sub_zero] at e
    unfold sc; rw [e]
abbrev stpA (s:S_za):Option (S_za ⊕ X_za):=b_za s (fun s=>some (.inl s)) (fun x=>some (.inr x))
theorem stpA_eq (a b:Rw) (w:Int) (i:Nat):stpA ⟨a,b,w,i⟩=cond (decide (i < mx a b)) (cond (unl a b i) (some (.inr ⟨a,b,i⟩)) (some (.inl ⟨a,b,w,IntKind.i64.wrap ((i:Int)+ 1)⟩))) (some (.inr ⟨a,b,w⟩)):=by
  have e1:∀m:Nat,(decide ((0:Int)≤(i:Int)) && decide ((i:Int) < (m:Int)))=decide (i < m):=fun m=>by
    have h:decide ((0:Int)≤(i:Int))=true:=by simp
    rw [h,Bool.true_and]
    exact decide_eq_decide.2 (by omega)
  have e2:∀m:Nat,ltB (i:Int) (m:Int)=decide (i < m):=fun m=>decide_eq_decide.2 (by omega)
  have e3:∀m:Nat,leB (m:Int) (i:Int)=decide (m≤i):=fun m=>decide_eq_decide.2 (by omega)
  unfold stpA b_za
  dsimp only
  simp only [e1,e2,e3]
  by_cases ha:i < a.2.2.1<;>by_cases hb:i < b.2.2.1
  · have hm:i < mx a b:=by unfold mx; omega
    have h1:¬ a.2.2.1≤i:=by omega
    have h2:¬ b.2.2.1≤i:=by omega
    simp only [ha,hb,hm,h1,h2,decide_true,decide_false,cond_true,cond_false,unl,Bool.or_false,Bool.false_or]
    rfl
  · have hm:i < mx a b:=by unfold mx; omega
    have h1:¬ a.2.2.1≤i:=by omega
    have h2:b.2.2.1≤i:=by omega
    simp only [ha,hb,hm,h1,h2,decide_true,decide_false,cond_true,cond_false,unl,Bool.or_true,Bool.true_or]
  · have hm:i < mx a b:=by unfold mx; omega
    have h1:a.2.2.1≤i:=by omega
    simp only [ha,hb,hm,h1,decide_true,decide_false,cond_true,cond_false,unl,Bool.or_true,Bool.true_or]
  · have hm:¬ i < mx a b:=by unfold mx; omega
    simp only [ha,hb,hm,decide_true,decide_false,cond_true,cond_false]
def WA (s:S_za):Prop:=∃i:Nat,s.v3=i∧s.v2 = -1∧i≤mx s.v0 s.v1∧mx s.v0 s.v1≤100
def QA (s:S_za) (z:X_za):Prop:=∀i:Nat,s.v3=i→z=⟨s.v0,s.v1,fst_ (unl s.v0 s.v1) i (mx s.v0 s.v1 - i)⟩
theorem loopA (m:Nat):∀(a b:Rw) (i:Nat),mx a b - i=m→i≤mx a b→mx a b≤100→EndsL stpA ⟨a,b, -1,i⟩ ⟨a,b,fst_ (unl a b) i m⟩:=by
  induction m with
  | zero=>
    intro a b i hm hi hN
    have hs:=stpA_eq a b (-1) i
    have e:decide (i < mx a b)=false:=decide_eq_false (by omega)
    rw [e,cond_false] at hs
    exact .stop hs
  | succ m ih=>
    intro a b i hm hi hN
    have hs:=stpA_eq a b (-1) i
    have e:decide (i < mx a b)=true:=decide_eq_true (by omega)
    rw [e,cond_true] at hs
    have w:IntKind.i64.wrap ((i:Int)+ 1)=((i+ 1:Nat):Int):=by rw [wrap_i64 (by omega) (by omega)]; omega
    cases hu:unl a b i<;>rw [hu] at hs
    · rw [cond_false,w] at hs
      simp only [fst_,hu,cond_false]
      exact .next hs (ih a b (i+ 1) (by omega) (by omega) hN)
    · simp only [fst_,hu,cond_true]
      exact .stop hs
theorem wA (s:S_za) (h:WA s):∃z,EndsL stpA s z∧QA s z:=by
  obtain ⟨a,b,v2,v3⟩:=s
  obtain ⟨i,h1,h2,h3,h4⟩:=h
  simp only at h1 h2 h3 h4
  subst h1; subst h2
  refine ⟨_,loopA (mx a b - i) a b i rfl h3 h4,fun i' hi'=>?_⟩
  simp only at hi'
  have:i'=i:=by omega
  subst this
  rfl
noncomputable def sLA {α:Type}:SgL_za α:=fun s k0=>lsp wA s k0
theorem lokA {α:Type}:LoopOk (α:=α) stpA (fun (s:S_za) (k:X_za→R α)=>sLA s (fun x=>k x)):=lsp_ok wA
theorem audit_eq {α:Type} (a b:Rw) (k:Bool→R α):p_z1f (fun k=>k true) (p_zs sLS) sLA a b k=k true:=by
  unfold p_z1f
  dsimp only
  simp only [Bool.not_true,cond_false]
  by_cases ha:(60:Int) < (a.2.2.1:Int)
  · have e:ltB 60 ((a.2.2.1:Nat):Int)=true:=decide_eq_true ha
    rw [e]; rfl
  have e:ltB 60 ((a.2.2.1:Nat):Int)=false:=decide_eq_false ha
  rw [e,cond_false]
  by_cases hb:(60:Int) < (b.2.2.1:Int)
  · have e:ltB 60 ((b.2.2.1:Nat):Int)=true:=decide_eq_true hb
    rw [e]; rfl
  have e:ltB 60 ((b.2.2.1:Nat):Int)=false:=decide_eq_false hb
  rw [e,cond_false]
  have hm:mx a b≤100:=by unfold mx; omega
  have hm2:mx b a≤100:=by unfold mx; omega
  have hm3:mx a a≤100:=by unfold mx; omega
  unfold sLA
  obtain ⟨z,⟨_,hq⟩,hz⟩:=lsp_pos wA (s:=⟨a,b, -1,0⟩) ⟨0,rfl,rfl,Nat.zero_le _,hm⟩
  rw [hz]
  have hz2:=hq 0 rfl
  subst hz2
  dsimp only
  rw [Nat.sub_zero,same_eq a b hm,same_eq b a hm2,same_eq a a hm3,sc_comm b a,sc_self]
  have e:(sc a b==fst_ (unl a b) 0 (mx a b))=true:=by unfold sc; simp
  rw [e]; rfl
end Go.Sh
