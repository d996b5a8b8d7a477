/-
  The law AuditSame (printed by wip/pr/pr.py): what the functions come to, told without the program.
-/
import Derived.Test.YtepdlgehceipjaaGreatSpW19
set_option linter.unusedSimpArgs false
set_option linter.unusedVariables false
namespace Go.Sh
open Go
set_option linter.unusedVariables false
def decV_st_int_u64_int_u32_int_i64_int_u64_bool_st_int_u64_int_u64_int_u64_bool_int_i64_bool_bool {α:Type} (v:SV) (k:(Bool × Addr × Nat × Nat × (Nat→(Int × Int × Int × Int × Bool × (Int × Int × Int × Bool × Unit) × Int × Bool × Bool × Unit)))→R α):R α:=match v with
  | .vslc (.st [(.int .u64),(.int .u32),(.int .i64),(.int .u64),.bool,(.st [(.int .u64),(.int .u64),(.int .u64),.bool]),(.int .i64),.bool,.bool]) nl a len cap f=>k (nl,a,len,cap,f)
  | _=>none
theorem decV_st_int_u64_int_u32_int_i64_int_u64_bool_st_int_u64_int_u64_int_u64_bool_int_i64_bool_bool_spec {α:Type} {v:SV} {k:(Bool × Addr × Nat × Nat × (Nat→(Int × Int × Int × Int × Bool × (Int × Int × Int × Bool × Unit) × Int × Bool × Bool × Unit)))→R α} {r:α} (h:decV_st_int_u64_int_u32_int_i64_int_u64_bool_st_int_u64_int_u64_int_u64_bool_int_i64_bool_bool v k=some r):∃x:(Bool × Addr × Nat × Nat × (Nat→(Int × Int × Int × Int × Bool × (Int × Int × Int × Bool × Unit) × Int × Bool × Bool × Unit))),v=(.vslc (.st [(.int .u64),(.int .u32),(.int .i64),(.int .u64),.bool,(.st [(.int .u64),(.int .u64),(.int .u64),.bool]),(.int .i64),.bool,.bool]) x.1 x.2.1 x.2.2.1 x.2.2.2.1 x.2.2.2.2)∧k x=some r:=by
  unfold decV_st_int_u64_int_u32_int_i64_int_u64_bool_st_int_u64_int_u64_int_u64_bool_int_i64_bool_bool at h
  split at h<;>try (cases h; done)
  exact ⟨_,rfl,h⟩
abbrev Sg_z1g (α:Type):=(Bool→R α)→R α
def ad_z1g {α:Type} (F:Sg_z1g α):FP α:=fun args k=>match args with
  | []=>F  (fun r0=>k (.bool r0))
  | _=>none
structure S_z8 where
  v0:(Bool × Addr × Nat × Nat × (Nat→(Int × Int × Int × Int × Bool × (Int × Int × Int × Bool × Unit) × Int × Bool × Bool × Unit)))
  v1:(Bool × Addr × Nat × Nat × (Nat→(Int × Int × Int × Int × Bool × (Int × Int × Int × Bool × Unit) × Int × Bool × Bool × Unit)))
  v2:Int
  v3:Int
  v4:Int
def E_z8 (s:S_z8):Env:=[(0,.vslc (.st [(.int .u64),(.int .u32),(.int .i64),(.int .u64),.bool,(.st [(.int .u64),(.int .u64),(.int .u64),.bool]),(.int .i64),.bool,.bool]) s.v0.1 s.v0.2.1 s.v0.2.2.1 s.v0.2.2.2.1 s.v0.2.2.2.2),(1,.vslc (.st [(.int .u64),(.int .u32),(.int .i64),(.int .u64),.bool,(.st [(.int .u64),(.int .u64),(.int .u64),.bool]),(.int .i64),.bool,.bool]) s.v1.1 s.v1.2.1 s.v1.2.2.1 s.v1.2.2.2.1 s.v1.2.2.2.2),(5,.int .i64 s.v2),(16,.int .i64 s.v3),(17,.int .i64 s.v4)]
def OS_z8 (s:S_z8):List SObj:=[]
structure X_z1t where
  v0:Int
def EX_z1t (s:X_z1t):Env:=[(4,.int .i64 s.v0)]
def OX_z1t (s:X_z1t):List SObj:=[]
structure X_z1p where
  mk::
def EX_z1p (s:X_z1p):Env:=[]
def OX_z1p (s:X_z1p):List SObj:=[]
abbrev X_z8 :=X_z1t ⊕ X_z1p
def EX_z8 : X_z8→Env
  | .inl x=>EX_z1t x
  | .inr x=>EX_z1p x
def OX_z8 : X_z8→List SObj
  | .inl x=>OX_z1t x
  | .inr x=>OX_z1p x
def xx_z8 : X_z8→SX
  | .inl _=>.ret
  | .inr _=>(.exit 0)
abbrev SgL_z8 (α:Type):=S_z8→(X_z1t→R α)→(X_z1p→R α)→R α
def dL_z8 {α:Type} (kn:S_z8→R α) (k0:X_z1t→R α) (k1:X_z1p→R α):KC α:=fun x env σ=>match x with
  | .norm=>decT env 0 fun u1=>decV_st_int_u64_int_u32_int_i64_int_u64_bool_st_int_u64_int_u64_int_u64_bool_int_i64_bool_bool u1 fun v0=>decT env 1 fun u2=>decV_st_int_u64_int_u32_int_i64_int_u64_bool_st_int_u64_int_u64_int_u64_bool_int_i64_bool_bool u2 fun v1=>decT env 5 fun u3=>decI .i64 u3 fun v2=>decT env 16 fun u4=>decI .i64 u4 fun v3=>decT env 17 fun u5=>decI .i64 u5 fun v4=>kn ⟨v0,v1,v2,v3,v4⟩
  | .ret=>decT env 4 fun u1=>decI .i64 u1 fun v0=>k0 ⟨v0⟩
  | .exit i=>bif Nat.beq i 0 then (k1 ⟨⟩) else none
theorem dL_z5o {α:Type} {kn:S_z8→R α} {k0:X_z1t→R α} {k1:X_z1p→R α} {x:SX} {env:Env} {σ:Heap} {r:α} (h:dL_z8 kn k0 k1 x env σ=some r):(x=.norm∧∃s,(∀t v,getE (E_z8 s) t=some v→Ids (· < 0) v∧getE env t=some v)∧(∀y ∈ enumO 0 (OS_z8 s),σ.get y.1=some y.2)∧kn s=some r)∨(x=.ret∧∃s,(∀t v,getE (EX_z1t s) t=some v→Ids (· < 0) v∧getE env t=some v)∧(∀y ∈ enumO 0 (OX_z1t s),σ.get y.1=some y.2)∧k0 s=some r)∨(x=(.exit 0)∧∃s,(∀t v,getE (EX_z1p s) t=some v→Ids (· < 0) v∧getE env t=some v)∧(∀y ∈ enumO 0 (OX_z1p s),σ.get y.1=some y.2)∧k1 s=some r):=by
  unfold dL_z8 at h
  split at h
  · skip
    obtain ⟨w1,w2,w3⟩:=decT_spec h
    obtain ⟨v0,rfl,w4⟩:=decV_st_int_u64_int_u32_int_i64_int_u64_bool_st_int_u64_int_u64_int_u64_bool_int_i64_bool_bool_spec w3
    obtain ⟨w5,w6,w7⟩:=decT_spec w4
    obtain ⟨v1,rfl,w8⟩:=decV_st_int_u64_int_u32_int_i64_int_u64_bool_st_int_u64_int_u64_int_u64_bool_int_i64_bool_bool_spec w7
    obtain ⟨w9,w10,w11⟩:=decT_spec w8
    obtain ⟨v2,rfl,w12⟩:=decI_spec w11
    obtain ⟨w13,w14,w15⟩:=decT_spec w12
    obtain ⟨v3,rfl,w16⟩:=decI_spec w15
    obtain ⟨w17,w18,w19⟩:=decT_spec w16
    obtain ⟨v4,rfl,w20⟩:=decI_spec w19
    exact .inl (⟨rfl,⟨v0,v1,v2,v3,v4⟩,env_all ⟨⟨by simp [Ids,Idss],w2⟩,⟨by simp [Ids,Idss],w6⟩,⟨by simp [Ids,Idss],w10⟩,⟨by simp [Ids,Idss],w14⟩,⟨by simp [Ids,Idss],w18⟩,trivial⟩,enum_all trivial,w20⟩)
  · skip
    obtain ⟨w1,w2,w3⟩:=decT_spec h
    obtain ⟨v0,rfl,w4⟩:=decI_spec w3
    exact .inr (.inl (⟨rfl,⟨v0⟩,env_all ⟨⟨by simp [Ids,Idss],w2⟩,trivial⟩,enum_all trivial,w4⟩))
  · rename_i i
    cases hi1:Nat.beq i 0<;>rw [hi1] at h<;>simp only [cond_true,cond_false] at h
    case true=>
      have e1:=Nat.eq_of_beq_eq_true hi1
      subst e1
      exact .inr (.inr ((⟨rfl,⟨⟩,(fun t v ht=>by simp [EX_z1p,getE] at ht),enum_all trivial,h⟩)))
    cases h
def b_z8 {α:Type}  (s:S_z8) (kn:S_z8→R α) (k0:X_z1t→R α) (k1:X_z1p→R α):R α:=
  let b1:Bool:=(ltB s.v4 s.v3)
  cond b1 (
  let b2:Bool:=(ltB s.v4 s.v2)
  cond b2 (
  cond (decide (0≤s.v4) && decide (s.v4 < ((s.v0.2.2.1:Nat):Int))) (
  cond (decide (0≤s.v4) && decide (s.v4 < ((s.v1.2.2.1:Nat):Int))) (
  let b3:Bool:=(((s.v0.2.2.2.2 (Int.toNat s.v4)).1==(s.v1.2.2.2.2 (Int.toNat s.v4)).1) && (((s.v0.2.2.2.2 (Int.toNat s.v4)).2.1==(s.v1.2.2.2.2 (Int.toNat s.v4)).2.1) && (((s.v0.2.2.2.2 (Int.toNat s.v4)).2.2.1==(s.v1.2.2.2.2 (Int.toNat s.v4)).2.2.1) && (((s.v0.2.2.2.2 (Int.toNat s.v4)).2.2.2.1==(s.v1.2.2.2.2 (Int.toNat s.v4)).2.2.2.1) && (((s.v0.2.2.2.2 (Int.toNat s.v4)).2.2.2.2.1==(s.v1.2.2.2.2 (Int.toNat s.v4)).2.2.2.2.1) && ((((s.v0.2.2.2.2 (Int.toNat s.v4)).2.2.2.2.2.1.1==(s.v1.2.2.2.2 (Int.toNat s.v4)).2.2.2.2.2.1.1) && (((s.v0.2.2.2.2 (Int.toNat s.v4)).2.2.2.2.2.1.2.1==(s.v1.2.2.2.2 (Int.toNat s.v4)).2.2.2.2.2.1.2.1) && (((s.v0.2.2.2.2 (Int.toNat s.v4)).2.2.2.2.2.1.2.2.1==(s.v1.2.2.2.2 (Int.toNat s.v4)).2.2.2.2.2.1.2.2.1) && (((s.v0.2.2.2.2 (Int.toNat s.v4)).2.2.2.2.2.1.2.2.2.1==(s.v1.2.2.2.2 (Int.toNat s.v4)).2.2.2.2.2.1.2.2.2.1) && true)))) && (((s.v0.2.2.2.2 (Int.toNat s.v4)).2.2.2.2.2.2.1==(s.v1.2.2.2.2 (Int.toNat s.v4)).2.2.2.2.2.2.1) && (((s.v0.2.2.2.2 (Int.toNat s.v4)).2.2.2.2.2.2.2.1==(s.v1.2.2.2.2 (Int.toNat s.v4)).2.2.2.2.2.2.2.1) && (((s.v0.2.2.2.2 (Int.toNat s.v4)).2.2.2.2.2.2.2.2.1==(s.v1.2.2.2.2 (Int.toNat s.v4)).2.2.2.2.2.2.2.2.1) && true)))))))))
  cond b3 (
  let t4:Int:=(IntKind.i64.wrap (s.v4+ 1))
  kn ⟨s.v0,s.v1,s.v2,s.v3,t4⟩) (
  k0 ⟨s.v4⟩)) none) none) (
  k0 ⟨s.v4⟩)) (
  k1 ⟨⟩)
def Lf_z8 {α:Type} (L:SgL_z8 α):LF α:=fun env σ k=>bif allB (fun b=>Nat.blt b σ.next) [] then (decT env 0 fun u1=>decV_st_int_u64_int_u32_int_i64_int_u64_bool_st_int_u64_int_u64_int_u64_bool_int_i64_bool_bool u1 fun v0=>decT env 1 fun u2=>decV_st_int_u64_int_u32_int_i64_int_u64_bool_st_int_u64_int_u64_int_u64_bool_int_i64_bool_bool u2 fun v1=>decT env 5 fun u3=>decI .i64 u3 fun v2=>decT env 16 fun u4=>decI .i64 u4 fun v3=>decT env 17 fun u5=>decI .i64 u5 fun v4=>L ⟨v0,v1,v2,v3,v4⟩ (fun x=>k .ret [(4,.int .i64 x.v0)] ⟨σ.next,[]++ σ.blocks⟩) (fun x=>k (.exit 0) [] ⟨σ.next,[]++ σ.blocks⟩)) else none
abbrev Sg_zs (α:Type):=(Bool × Addr × Nat × Nat × (Nat→(Int × Int × Int × Int × Bool × (Int × Int × Int × Bool × Unit) × Int × Bool × Bool × Unit)))→(Bool × Addr × Nat × Nat × (Nat→(Int × Int × Int × Int × Bool × (Int × Int × Int × Bool × Unit) × Int × Bool × Bool × Unit)))→(Int→R α)→R α
def ad_zs {α:Type} (F:Sg_zs α):FP α:=fun args k=>match args with
  | [a0,a1]=>decV_st_int_u64_int_u32_int_i64_int_u64_bool_st_int_u64_int_u64_int_u64_bool_int_i64_bool_bool a0 fun x0=>decV_st_int_u64_int_u32_int_i64_int_u64_bool_st_int_u64_int_u64_int_u64_bool_int_i64_bool_bool a1 fun x1=>F x0 x1 (fun r0=>k (.int .i64 r0))
  | _=>none
def dR_audit_Same {α:Type} (a0:SV) (k:Int→R α):R α:=decI .i64 a0 fun x0=>k x0
theorem dR_audit_Same_spec {α:Type} {v:SV} {k:Int→R α} {r:α} (h:dR_audit_Same v k=some r):∃x0,v=(.int .i64 x0)∧k x0=some r:=by
  unfold dR_audit_Same at h
  obtain ⟨x0,rfl,h0⟩:=decI_spec h
  exact ⟨x0,rfl,h0⟩
def p_zs {α:Type} (L_z8:SgL_z8 α) (x0:(Bool × Addr × Nat × Nat × (Nat→(Int × Int × Int × Int × Bool × (Int × Int × Int × Bool × Unit) × Int × Bool × Bool × Unit)))) (x1:(Bool × Addr × Nat × Nat × (Nat→(Int × Int × Int × Int × Bool × (Int × Int × Int × Bool × Unit) × Int × Bool × Bool × Unit)))) (k:Int→R α):R α:=
  let t1:Int:=(pickmx false ((x0.2.2.1:Nat):Int) ((x1.2.2.1:Nat):Int))
  let t2:Int:=(pickmx true ((x0.2.2.1:Nat):Int) ((x1.2.2.1:Nat):Int))
  L_z8 ⟨x0,x1,t1,t2,0⟩ (fun x3=>
  k x3.v0) (fun x4=>
  k (-1))
structure S_za where
  v0:(Bool × Addr × Nat × Nat × (Nat→(Int × Int × Int × Int × Bool × (Int × Int × Int × Bool × Unit) × Int × Bool × Bool × Unit)))
  v1:(Bool × Addr × Nat × Nat × (Nat→(Int × Int × Int × Int × Bool × (Int × Int × Int × Bool × Unit) × Int × Bool × Bool × Unit)))
  v2:Int
  v3:Int
def E_za (s:S_za):Env:=[(0,.vslc (.st [(.int .u64),(.int .u32),(.int .i64),(.int .u64),.bool,(.st [(.int .u64),(.int .u64),(.int .u64),.bool]),(.int .i64),.bool,.bool]) s.v0.1 s.v0.2.1 s.v0.2.2.1 s.v0.2.2.2.1 s.v0.2.2.2.2),(1,.vslc (.st [(.int .u64),(.int .u32),(.int .i64),(.int .u64),.bool,(.st [(.int .u64),(.int .u64),(.int .u64),.bool]),(.int .i64),.bool,.bool]) s.v1.1 s.v1.2.1 s.v1.2.2.1 s.v1.2.2.2.1 s.v1.2.2.2.2),(5,.int .i64 s.v2),(6,.int .i64 s.v3)]
def OS_za (s:S_za):List SObj:=[]
structure X_z1u where
  v0:(Bool × Addr × Nat × Nat × (Nat→(Int × Int × Int × Int × Bool × (Int × Int × Int × Bool × Unit) × Int × Bool × Bool × Unit)))
  v1:(Bool × Addr × Nat × Nat × (Nat→(Int × Int × Int × Int × Bool × (Int × Int × Int × Bool × Unit) × Int × Bool × Bool × Unit)))
  v2:Int
def EX_z1u (s:X_z1u):Env:=[(0,.vslc (.st [(.int .u64),(.int .u32),(.int .i64),(.int .u64),.bool,(.st [(.int .u64),(.int .u64),(.int .u64),.bool]),(.int .i64),.bool,.bool]) s.v0.1 s.v0.2.1 s.v0.2.2.1 s.v0.2.2.2.1 s.v0.2.2.2.2),(1,.vslc (.st [(.int .u64),(.int .u32),(.int .i64),(.int .u64),.bool,(.st [(.int .u64),(.int .u64),(.int .u64),.bool]),(.int .i64),.bool,.bool]) s.v1.1 s.v1.2.1 s.v1.2.2.1 s.v1.2.2.2.1 s.v1.2.2.2.2),(5,.int .i64 s.v2)]
def OX_z1u (s:X_z1u):List SObj:=[]
abbrev X_za :=X_z1u
def EX_za (x:X_za):Env:=EX_z1u x
def OX_za (x:X_za):List SObj:=OX_z1u x
def xx_za (_:X_za):SX:=(.exit 0)
abbrev SgL_za (α:Type):=S_za→(X_z1u→R α)→R α
def dL_za {α:Type} (kn:S_za→R α) (k0:X_z1u→R α):KC α:=fun x env σ=>match x with
  | .norm=>decT env 0 fun u1=>decV_st_int_u64_int_u32_int_i64_int_u64_bool_st_int_u64_int_u64_int_u64_bool_int_i64_bool_bool u1 fun v0=>decT env 1 fun u2=>decV_st_int_u64_int_u32_int_i64_int_u64_bool_st_int_u64_int_u64_int_u64_bool_int_i64_bool_bool u2 fun v1=>decT env 5 fun u3=>decI .i64 u3 fun v2=>decT env 6 fun u4=>decI .i64 u4 fun v3=>kn ⟨v0,v1,v2,v3⟩
  | .ret=>none
  | .exit i=>bif Nat.beq i 0 then (decT env 0 fun u1=>decV_st_int_u64_int_u32_int_i64_int_u64_bool_st_int_u64_int_u64_int_u64_bool_int_i64_bool_bool u1 fun v0=>decT env 1 fun u2=>decV_st_int_u64_int_u32_int_i64_int_u64_bool_st_int_u64_int_u64_int_u64_bool_int_i64_bool_bool u2 fun v1=>decT env 5 fun u3=>decI .i64 u3 fun v2=>k0 ⟨v0,v1,v2⟩) else none
theorem dL_z5p {α:Type} {kn:S_za→R α} {k0:X_z1u→R α} {x:SX} {env:Env} {σ:Heap} {r:α} (h:dL_za kn k0 x env σ=some r):(x=.norm∧∃s,(∀t v,getE (E_za s) t=some v→Ids (· < 0) v∧getE env t=some v)∧(∀y ∈ enumO 0 (OS_za s),σ.get y.1=some y.2)∧kn s=some r)∨(x=(.exit 0)∧∃s,(∀t v,getE (EX_z1u s) t=some v→Ids (· < 0) v∧getE env t=some v)∧(∀y ∈ enumO 0 (OX_z1u s),σ.get y.1=some y.2)∧k0 s=some r):=by
  unfold dL_za at h
  split at h
  · skip
    obtain ⟨w1,w2,w3⟩:=decT_spec h
    obtain ⟨v0,rfl,w4⟩:=decV_st_int_u64_int_u32_int_i64_int_u64_bool_st_int_u64_int_u64_int_u64_bool_int_i64_bool_bool_spec w3
    obtain ⟨w5,w6,w7⟩:=decT_spec w4
    obtain ⟨v1,rfl,w8⟩:=decV_st_int_u64_int_u32_int_i64_int_u64_bool_st_int_u64_int_u64_int_u64_bool_int_i64_bool_bool_spec w7
    obtain ⟨w9,w10,w11⟩:=decT_spec w8
    obtain ⟨v2,rfl,w12⟩:=decI_spec w11
    obtain ⟨w13,w14,w15⟩:=decT_spec w12
    obtain ⟨v3,rfl,w16⟩:=decI_spec w15
    exact .inl (⟨rfl,⟨v0,v1,v2,v3⟩,env_all ⟨⟨by simp [Ids,Idss],w2⟩,⟨by simp [Ids,Idss],w6⟩,⟨by simp [Ids,Idss],w10⟩,⟨by simp [Ids,Idss],w14⟩,trivial⟩,enum_all trivial,w16⟩)
  · cases h
  · rename_i i
    cases hi0:Nat.beq i 0<;>rw [hi0] at h<;>simp only [cond_true,cond_false] at h
    case true=>
      have e0:=Nat.eq_of_beq_eq_true hi0
      subst e0
      obtain ⟨w1,w2,w3⟩:=decT_spec h
      obtain ⟨v0,rfl,w4⟩:=decV_st_int_u64_int_u32_int_i64_int_u64_bool_st_int_u64_int_u64_int_u64_bool_int_i64_bool_bool_spec w3
      obtain ⟨w5,w6,w7⟩:=decT_spec w4
      obtain ⟨v1,rfl,w8⟩:=decV_st_int_u64_int_u32_int_i64_int_u64_bool_st_int_u64_int_u64_int_u64_bool_int_i64_bool_bool_spec w7
      obtain ⟨w9,w10,w11⟩:=decT_spec w8
      obtain ⟨v2,rfl,w12⟩:=decI_spec w11
      exact .inr ((⟨rfl,⟨v0,v1,v2⟩,env_all ⟨⟨by simp [Ids,Idss],w2⟩,⟨by simp [Ids,Idss],w6⟩,⟨by simp [Ids,Idss],w10⟩,trivial⟩,enum_all trivial,w12⟩))
    cases h
def b_za {α:Type}  (s:S_za) (kn:S_za→R α) (k0:X_z1u→R α):R α:=
  let b1:Bool:=(ltB s.v3 ((s.v0.2.2.1:Nat):Int))
  cond b1 (
  let b2:Bool:=(leB ((s.v0.2.2.1:Nat):Int) s.v3)
  cond b2 (
  k0 ⟨s.v0,s.v1,s.v3⟩) (
  let b3:Bool:=(leB ((s.v1.2.2.1:Nat):Int) s.v3)
  cond b3 (
  k0 ⟨s.v0,s.v1,s.v3⟩) (
  cond (decide (0≤s.v3) && decide (s.v3 < ((s.v0.2.2.1:Nat):Int))) (
  cond (decide (0≤s.v3) && decide (s.v3 < ((s.v1.2.2.1:Nat):Int))) (
  let b4:Bool:=(!(((s.v0.2.2.2.2 (Int.toNat s.v3)).1==(s.v1.2.2.2.2 (Int.toNat s.v3)).1) && (((s.v0.2.2.2.2 (Int.toNat s.v3)).2.1==(s.v1.2.2.2.2 (Int.toNat s.v3)).2.1) && (((s.v0.2.2.2.2 (Int.toNat s.v3)).2.2.1==(s.v1.2.2.2.2 (Int.toNat s.v3)).2.2.1) && (((s.v0.2.2.2.2 (Int.toNat s.v3)).2.2.2.1==(s.v1.2.2.2.2 (Int.toNat s.v3)).2.2.2.1) && (((s.v0.2.2.2.2 (Int.toNat s.v3)).2.2.2.2.1==(s.v1.2.2.2.2 (Int.toNat s.v3)).2.2.2.2.1) && ((((s.v0.2.2.2.2 (Int.toNat s.v3)).2.2.2.2.2.1.1==(s.v1.2.2.2.2 (Int.toNat s.v3)).2.2.2.2.2.1.1) && (((s.v0.2.2.2.2 (Int.toNat s.v3)).2.2.2.2.2.1.2.1==(s.v1.2.2.2.2 (Int.toNat s.v3)).2.2.2.2.2.1.2.1) && (((s.v0.2.2.2.2 (Int.toNat s.v3)).2.2.2.2.2.1.2.2.1==(s.v1.2.2.2.2 (Int.toNat s.v3)).2.2.2.2.2.1.2.2.1) && (((s.v0.2.2.2.2 (Int.toNat s.v3)).2.2.2.2.2.1.2.2.2.1==(s.v1.2.2.2.2 (Int.toNat s.v3)).2.2.2.2.2.1.2.2.2.1) && true)))) && (((s.v0.2.2.2.2 (Int.toNat s.v3)).2.2.2.2.2.2.1==(s.v1.2.2.2.2 (Int.toNat s.v3)).2.2.2.2.2.2.1) && (((s.v0.2.2.2.2 (Int.toNat s.v3)).2.2.2.2.2.2.2.1==(s.v1.2.2.2.2 (Int.toNat s.v3)).2.2.2.2.2.2.2.1) && (((s.v0.2.2.2.2 (Int.toNat s.v3)).2.2.2.2.2.2.2.2.1==(s.v1.2.2.2.2 (Int.toNat s.v3)).2.2.2.2.2.2.2.2.1) && true))))))))))
  cond b4 (
  k0 ⟨s.v0,s.v1,s.v3⟩) (
  let t5:Int:=(IntKind.i64.wrap (s.v3+ 1))
  kn ⟨s.v0,s.v1,s.v2,t5⟩)) none) none))) (
  let b6:Bool:=(ltB s.v3 ((s.v1.2.2.1:Nat):Int))
  cond b6 (
  let b7:Bool:=(leB ((s.v0.2.2.1:Nat):Int) s.v3)
  cond b7 (
  k0 ⟨s.v0,s.v1,s.v3⟩) (
  let b8:Bool:=(leB ((s.v1.2.2.1:Nat):Int) s.v3)
  cond b8 (
  k0 ⟨s.v0,s.v1,s.v3⟩) (
  cond (decide (0≤s.v3) && decide (s.v3 < ((s.v0.2.2.1:Nat):Int))) (
  cond (decide (0≤s.v3) && decide (s.v3 < ((s.v1.2.2.1:Nat):Int))) (
  let b9:Bool:=(!(((s.v0.2.2.2.2 (Int.toNat s.v3)).1==(s.v1.2.2.2.2 (Int.toNat s.v3)).1) && (((s.v0.2.2.2.2 (Int.toNat s.v3)).2.1==(s.v1.2.2.2.2 (Int.toNat s.v3)).2.1) && (((s.v0.2.2.2.2 (Int.toNat s.v3)).2.2.1==(s.v1.2.2.2.2 (Int.toNat s.v3)).2.2.1) && (((s.v0.2.2.2.2 (Int.toNat s.v3)).2.2.2.1==(s.v1.2.2.2.2 (Int.toNat s.v3)).2.2.2.1) && (((s.v0.2.2.2.2 (Int.toNat s.v3)).2.2.2.2.1==(s.v1.2.2.2.2 (Int.toNat s.v3)).2.2.2.2.1) && ((((s.v0.2.2.2.2 (Int.toNat s.v3)).2.2.2.2.2.1.1==(s.v1.2.2.2.2 (Int.toNat s.v3)).2.2.2.2.2.1.1) && (((s.v0.2.2.2.2 (Int.toNat s.v3)).2.2.2.2.2.1.2.1==(s.v1.2.2.2.2 (Int.toNat s.v3)).2.2.2.2.2.1.2.1) && (((s.v0.2.2.2.2 (Int.toNat s.v3)).2.2.2.2.2.1.2.2.1==(s.v1.2.2.2.2 (Int.toNat s.v3)).2.2.2.2.2.1.2.2.1) && (((s.v0.2.2.2.2 (Int.toNat s.v3)).2.2.2.2.2.1.2.2.2.1==(s.v1.2.2.2.2 (Int.toNat s.v3)).2.2.2.2.2.1.2.2.2.1) && true)))) && (((s.v0.2.2.2.2 (Int.toNat s.v3)).2.2.2.2.2.2.1==(s.v1.2.2.2.2 (Int.toNat s.v3)).2.2.2.2.2.2.1) && (((s.v0.2.2.2.2 (Int.toNat s.v3)).2.2.2.2.2.2.2.1==(s.v1.2.2.2.2 (Int.toNat s.v3)).2.2.2.2.2.2.2.1) && (((s.v0.2.2.2.2 (Int.toNat s.v3)).2.2.2.2.2.2.2.2.1==(s.v1.2.2.2.2 (Int.toNat s.v3)).2.2.2.2.2.2.2.2.1) && true))))))))))
  cond b9 (
  k0 ⟨s.v0,s.v1,s.v3⟩) (
  let t10:Int:=(IntKind.i64.wrap (s.v3+ 1))
  kn ⟨s.v0,s.v1,s.v2,t10⟩)) none) none))) (
  k0 ⟨s.v0,s.v1,s.v2⟩))
def Lf_za {α:Type} (L:SgL_za α):LF α:=fun env σ k=>bif allB (fun b=>Nat.blt b σ.next) [] then (decT env 0 fun u1=>decV_st_int_u64_int_u32_int_i64_int_u64_bool_st_int_u64_int_u64_int_u64_bool_int_i64_bool_bool u1 fun v0=>decT env 1 fun u2=>decV_st_int_u64_int_u32_int_i64_int_u64_bool_st_int_u64_int_u64_int_u64_bool_int_i64_bool_bool u2 fun v1=>decT env 5 fun u3=>decI .i64 u3 fun v2=>decT env 6 fun u4=>decI .i64 u4 fun v3=>L ⟨v0,v1,v2,v3⟩ (fun x=>k (.exit 0) [(0,.vslc (.st [(.int .u64),(.int .u32),(.int .i64),(.int .u64),.bool,(.st [(.int .u64),(.int .u64),(.int .u64),.bool]),(.int .i64),.bool,.bool]) x.v0.1 x.v0.2.1 x.v0.2.2.1 x.v0.2.2.2.1 x.v0.2.2.2.2),(1,.vslc (.st [(.int .u64),(.int .u32),(.int .i64),(.int .u64),.bool,(.st [(.int .u64),(.int .u64),(.int .u64),.bool]),(.int .i64),.bool,.bool]) x.v1.1 x.v1.2.1 x.v1.2.2.1 x.v1.2.2.2.1 x.v1.2.2.2.2),(5,.int .i64 x.v2)] ⟨σ.next,[]++ σ.blocks⟩)) else none
abbrev Sg_z1f (α:Type):=(Bool × Addr × Nat × Nat × (Nat→(Int × Int × Int × Int × Bool × (Int × Int × Int × Bool × Unit) × Int × Bool × Bool × Unit)))→(Bool × Addr × Nat × Nat × (Nat→(Int × Int × Int × Int × Bool × (Int × Int × Int × Bool × Unit) × Int × Bool × Bool × Unit)))→(Bool→R α)→R α
def ad_z1f {α:Type} (F:Sg_z1f α):FP α:=fun args k=>match args with
  | [a0,a1]=>decV_st_int_u64_int_u32_int_i64_int_u64_bool_st_int_u64_int_u64_int_u64_bool_int_i64_bool_bool a0 fun x0=>decV_st_int_u64_int_u32_int_i64_int_u64_bool_st_int_u64_int_u64_int_u64_bool_int_i64_bool_bool a1 fun x1=>F x0 x1 (fun r0=>k (.bool r0))
  | _=>none
def dR_law23_AuditSame {α:Type} (a0:SV) (k:Bool→R α):R α:=decB a0 fun x0=>k x0
theorem dR_law23_AuditSame_spec {α:Type} {v:SV} {k:Bool→R α} {r:α} (h:dR_law23_AuditSame v k=some r):∃x0,v=(.bool x0)∧k x0=some r:=by
  unfold dR_law23_AuditSame at h
  obtain ⟨x0,rfl,h0⟩:=decB_spec h
  exact ⟨x0,rfl,h0⟩
def p_z1f {α:Type} (F_z1g:Sg_z1g α) (F_zs:Sg_zs α) (L_za:SgL_za α) (x0:(Bool × Addr × Nat × Nat × (Nat→(Int × Int × Int × Int × Bool × (Int × Int × Int × Bool × Unit) × Int × Bool × Bool × Unit)))) (x1:(Bool × Addr × Nat × Nat × (Nat→(Int × Int × Int × Int × Bool × (Int × Int × Int × Bool × Unit) × Int × Bool × Bool × Unit)))) (k:Bool→R α):R α:=
  F_z1g  (fun r1=>
  let b2:Bool:=(!r1)
  cond b2 (
  k false) (
  let b3:Bool:=(ltB 60 ((x0.2.2.1:Nat):Int))
  cond b3 (
  k true) (
  let b4:Bool:=(ltB 60 ((x1.2.2.1:Nat):Int))
  cond b4 (
  k true) (
  L_za ⟨x0,x1,(-1),0⟩ (fun x5=>
  F_zs x5.v0 x5.v1 (fun r6=>
  let b7:Bool:=(r6==x5.v2)
  cond b7 (
  F_zs x5.v1 x5.v0 (fun r8=>
  let b9:Bool:=(r8==x5.v2)
  cond b9 (
  F_zs x5.v0 x5.v0 (fun r10=>
  let b11:Bool:=(r10==(-1))
  k b11)) (
  k false))) (
  k false)))))))
theorem le_z1f {α:Type} {F F':Sg_z1f α} (h:∀x0 x1 k r,F' x0 x1 k=some r→F x0 x1 k=some r) {args:List SV} {k:SV→R α} {r:α} (hk:ad_z1f F' args k=some r):ad_z1f F args k=some r:=by
  unfold ad_z1f at hk
  split at hk<;>try (cases hk; done)
  obtain ⟨x0,rfl,hk0⟩:=decV_st_int_u64_int_u32_int_i64_int_u64_bool_st_int_u64_int_u64_int_u64_bool_int_i64_bool_bool_spec hk
  obtain ⟨x1,rfl,hk1⟩:=decV_st_int_u64_int_u32_int_i64_int_u64_bool_st_int_u64_int_u64_int_u64_bool_int_i64_bool_bool_spec hk0
  have hkz:=hk1
  exact h x0 x1 _ _ hkz
end Go.Sh
