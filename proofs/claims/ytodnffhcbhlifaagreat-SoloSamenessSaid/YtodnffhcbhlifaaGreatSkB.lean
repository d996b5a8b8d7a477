/-
  The shadow interpreter of Go code, with its proofs (three texts).
-/
import Derived.Test.YtodnffhcbhlifaaGreatSkA
import Derived.LoopN
import Derived.Scope
import Derived.Orders
import Derived.ChangeSame
import Derived.OpenShut
set_option linter.unusedSimpArgs false
set_option linter.unusedVariables false
namespace Go.Sh
open Go
section
variable {α:Type} {P:Program} {I:Imm}
abbrev free (D:Nat→Prop) (lo hi:Nat):Prop:=∀c,lo≤c→c < hi→¬ D c
def plus (D:Nat→Prop) (lo hi:Nat):Nat→Prop:=fun c=>D c∨(lo≤c∧c < hi)
theorem plus_same (D:Nat→Prop) (n:Nat):plus D n n=D:=by
  funext c; simp only [plus,eq_iff_iff]; constructor
  · rintro (h | h)
    · exact h
    · omega
  · exact .inl
theorem plus_plus {D:Nat→Prop} {a b c:Nat} (h:a≤b) (h':b≤c):plus (plus D a b) b c=plus D a c:=by
  funext x; simp only [plus,eq_iff_iff]; constructor
  · rintro ((h | h) | h)
    · exact .inl h
    · exact .inr (by omega)
    · exact .inr (by omega)
  · rintro (h | h)
    · exact .inl (.inl h)
    · by_cases hx:x < b
      · exact .inl (.inr (by omega))
      · exact .inr (by omega)
theorem free.left {D:Nat→Prop} {a b c:Nat} (h:free D a c) (hb:b≤c):free D a b:=fun x h1 h2=>h x h1 (by omega)
theorem free.right {D:Nat→Prop} {a b c:Nat} (h:free D a c) (hb:a≤b):free (plus D a b) b c:=fun x h1 h2 h3=>by
  rcases h3 with h3 | h3
  · exact h x (by omega) h2 h3
  · omega
theorem getL_append {l m:List (Nat × SObj)} {b:Nat} {o:SObj} (h:getL (l++ m) b=some o):(∃o',(b,o') ∈ l)∨getL m b=some o:=by
  induction l with
  | nil=>exact .inr h
  | cons x l ih=>
    obtain ⟨c,o'⟩:=x
    simp only [List.cons_append,getL] at h
    cases e:Nat.beq c b
    · rw [e] at h
      rcases ih (by simpa using h) with ⟨o2,h2⟩ | h2
      · exact .inl ⟨o2,List.mem_cons_of_mem _ h2⟩
      · exact .inr h2
    · have:=Nat.eq_of_beq_eq_true e
      subst this
      exact .inl ⟨o',by simp⟩
structure Grow (σ σ':Heap):Prop where
  le:σ.next≤σ'.next
  pre:∃l,σ'.blocks=l++ σ.blocks∧∀x ∈ l,(∃o,σ.get x.1=some o)∨(σ.next≤x.1∧x.1 < σ'.next)
theorem Grow.refl (σ:Heap):Grow σ σ:=⟨Nat.le_refl _,[],by simp,by simp⟩
theorem Grow.trans {a b c:Heap} (h:Grow a b) (g:Grow b c):Grow a c:=by
  obtain ⟨h1,l,h2,h3⟩:=h
  obtain ⟨g1,m,g2,g3⟩:=g
  refine ⟨Nat.le_trans h1 g1,m++ l,by rw [g2,h2,List.append_assoc],fun x hx=>?_⟩
  have old:∀y ∈ l,(∃o,a.get y.1=some o)∨(a.next≤y.1∧y.1 < c.next):=fun y hy=>by
    rcases h3 y hy with h4 | h4
    · exact .inl h4
    · exact .inr (by omega)
  rcases List.mem_append.1 hx with hx | hx
  · rcases g3 x hx with ⟨o,g4⟩ | g4
    · unfold Heap.get at g4
      rw [h2] at g4
      rcases getL_append g4 with ⟨o',h5⟩ | h5
      · exact old (x.1,o') h5
      · exact .inl ⟨o,h5⟩
    · exact .inr (by omega)
  · exact old x hx
theorem getL_cons (l:List (Nat × SObj)) (b:Nat) (o:SObj) (m:Nat):(Heap.mk m ((b,o)::l)).get=putH (Heap.mk m l).get b o:=by
  funext c; simp [Heap.get,getL,putH]
structure St (I:Imm) (N:Nat) (ρ:Nat→Pl) (D:Nat→Prop) (env:Env) (σ:Heap) (a:Act) (w:World):Prop where
  env:EnvOk I N ρ D (getE env) a
  heap:HRel I ρ D σ.get w
abbrev ExtS (ρ:Nat→Pl) (D:Nat→Prop) (σ:Heap) (w:World) (ρ':Nat→Pl) (σ':Heap) (w':World):Prop:=Ext ρ D σ.get w ρ' (plus D σ.next σ'.next) σ'.get w'
theorem ExtS.trans {ρ ρ' ρ'':Nat→Pl} {D:Nat→Prop} {σ σ' σ'':Heap} {w w' w'':World} (h:ExtS ρ D σ w ρ' σ' w') (g:ExtS ρ' (plus D σ.next σ'.next) σ' w' ρ'' σ'' w'') (h1:σ.next≤σ'.next) (h2:σ'.next≤σ''.next):ExtS ρ D σ w ρ'' σ'' w'':=by
  have:=Ext.trans h g
  rwa [plus_plus h1 h2] at this
theorem ExtS.same {ρ:Nat→Pl} {D:Nat→Prop} {σ:Heap} {w:World}:ExtS ρ D σ w ρ σ w:=by
  unfold ExtS; rw [plus_same]; exact Ext.refl _ _ _ _
theorem St.same {N:Nat} {ρ:Nat→Pl} {D:Nat→Prop} {env:Env} {σ:Heap} {n:Nat} {a:Act} {w:World} (h:St I N ρ D env σ a w):St I N ρ (plus D n n) env σ a w:=by rwa [plus_same]
def SCalls (P:Program) (I:Imm) (f:FuncId) (args:List SV) (σ:Heap) (v:SV) (σ':Heap):Prop:=
  ∀ ρ D w,HRel I ρ D σ.get w→free D σ.next σ'.next→(∀x ∈ args,Wf I D x)→Calls P f (args.map (val ρ)).toArray w fun e w'=>
    ∃ρ',e=.returned (val ρ' v)∧ExtS ρ D σ w ρ' σ' w'∧HRel I ρ' (plus D σ.next σ'.next) σ'.get w'∧Wf I (plus D σ.next σ'.next) v
def SPure (P:Program) (I:Imm) (f:FuncId) (args:List SV) (v:SV):Prop:=
  ∀D,(∀x ∈ args,Wf I D x)→∀ρ h w,HRel I ρ D h w→Calls P f (args.map (val ρ)).toArray w fun e w'=>e=.returned (val ρ v)∧Wf I D v∧Ext ρ D h w ρ D h w'∧HRel I ρ D h w'
abbrev FP (α:Type):=List SV→(SV→R α)→R α
abbrev FF (α:Type):=List SV→Heap→(SV→Heap→R α)→R α
inductive Orc (α:Type) where
  | pure (F:FP α)
  | full (F:FF α)
  /-- a function without a body, for which the model stands in -/
  | ext (F:FF α)
def Enters (P : Program) (f : FuncId) : Prop := ∃ fn, P.funcs[f]? = some fn ∧ (fn.name == "runtime.NumGoroutine") = false ∧ fn.body.isNone = false
def XCalls (P:Program) (I:Imm) (f:FuncId) (args:List SV) (σ:Heap) (v:SV) (σ':Heap):Prop:=
  ∀ ρ D w,HRel I ρ D σ.get w→free D σ.next σ'.next→(∀x ∈ args,Wf I D x)→
    ∃ρ' w',(callFunc f (args.map (val ρ)).toArray).run P w=.ok (.value (val ρ' v)) w'∧ExtS ρ D σ w ρ' σ' w'∧HRel I ρ' (plus D σ.next σ'.next) σ'.get w'∧Wf I (plus D σ.next σ'.next) v
def OrcOk (P:Program) (I:Imm) (f:FuncId):Orc α→Prop
  | .pure F=>Enters P f∧∀args k r,F args k=some r→∃v,k v=some r∧SPure P I f args v
  | .full F=>Enters P f∧∀args σ k r,F args σ k=some r→∃v σ',k v σ'=some r∧Grow σ σ'∧SCalls P I f args σ v σ'
  | .ext F=>∀args σ k r,F args σ k=some r→∃v σ',k v σ'=some r∧Grow σ σ'∧XCalls P I f args σ v σ'
abbrev ORC (α:Type):=List (Nat × Orc α)
def OOk (P:Program) (I:Imm) (O:ORC α):Prop:=∀x ∈ O,OrcOk P I x.1 x.2
theorem OOk.nil : OOk (α:=α) P I []:=by simp [OOk]
theorem OOk.cons {f:Nat} {o:Orc α} {O:ORC α} (h:OrcOk P I f o) (g:OOk P I O):OOk P I ((f,o)::O):=by
  intro x hx; rcases List.mem_cons.1 hx with rfl | hx
  · exact h
  · exact g x hx
def olook {β:Type}:ORC α→Nat→(Orc α→R β)→R β
  | [],_,_=>none
  | (s,v)::l,t,k=>bif Nat.beq s t then k v else olook l t k
theorem olook_spec {β:Type} {k:Orc α→R β} {r:β}:∀{O:ORC α} {t:Nat},olook O t k=some r→OOk P I O→∃s,k s=some r∧OrcOk P I t s
  | [],t,h,_=>by simp [olook] at h
  | (s,v)::l,t,h,hok=>by
    simp only [olook] at h
    cases hs:Nat.beq s t
    · rw [hs] at h; exact olook_spec (O:=l) (by simpa using h) (fun x hx=>hok x (List.mem_cons_of_mem _ hx))
    · rw [hs] at h
      have:s=t:=Nat.eq_of_beq_eq_true hs
      subst this
      exact ⟨v,by simpa using h,hok (s,v) (by simp)⟩
def putK {β:Type} (N:Nat) (d:Option Nat) (v:SV) (env:Env) (k:Env→R β):R β:=
  match d with
  | none=>k env
  | some d=>bif Nat.blt d N then k ((d,v)::env) else none
def nextK {β:Type} (c:Bool) (n:Nat) (k:Nat→R β):R β:=cond c (k (n+ 1)) (k n)
theorem nextK_eq {β:Type} (c:Bool) (n:Nat) (k:Nat→R β):nextK c n k=k (bif c then n+ 1 else n):=by cases c<;>rfl
def sop (te:TE) (O:ORC α) (N:Nat) (o:Oper) (env:Env) (σ:Heap) (k:Env→Heap→R α):R α:=
  match o.op with
  | .call c=>match c.callee with
    | .value f=>ev (getE env) f fun
      | .fn (.func fid) first cap=>evs (getE env) c.args.toList fun args=>olook O fid fun
        | .pure F=>F (first++ args++ cap) fun v=>putK N o.dst v env fun env=>k env σ
        | .full F=>F (first++ args++ cap) σ fun v σ=>putK N o.dst v env fun env=>k env σ
        | .ext F=>F (first++ args++ cap) σ fun v σ=>putK N o.dst v env fun env=>k env σ
      | _=>none
    | .builtin .copy=>wval te o.op (getE env) σ.get σ.next fun v b ob=>putK N o.dst v env fun env=>nextK (Nat.beq b σ.next) σ.next fun n=>k env ⟨n,(b,ob)::σ.blocks⟩
    | .builtin .append=>wgrow te o.op (getE env) σ.get σ.next (fun v=>putK N o.dst v env fun env=>k env σ) (fun v wr=>putK N o.dst v env fun env=>k env ⟨σ.next+ 1,wr++ σ.blocks⟩)
    | _=>pval te o.op (getE env) σ.get fun v=>putK N o.dst v env fun env=>k env σ
  | .alloc _ | .box .. | .store .. | .buildSlice .. | .makeSlice .. | .makeMap .. | .insert ..=>
    wval te o.op (getE env) σ.get σ.next fun v b ob=>putK N o.dst v env fun env=>nextK (Nat.beq b σ.next) σ.next fun n=>k env ⟨n,(b,ob)::σ.blocks⟩
  | .slice ..=>wgrow te o.op (getE env) σ.get σ.next (fun v=>putK N o.dst v env fun env=>k env σ) (fun v wr=>putK N o.dst v env fun env=>k env ⟨σ.next+ 1,wr++ σ.blocks⟩)
  | _=>pval te o.op (getE env) σ.get fun v=>putK N o.dst v env fun env=>k env σ
def OpTo (P:Program) (I:Imm) (N:Nat) (o:Oper) (env:Env) (σ:Heap) (env':Env) (σ':Heap):Prop:=
  ∀ ρ D a w,St I N ρ D env σ a w→free D σ.next σ'.next→∀(next:Act→World→Prop) (Q:Exit→Act→World→Prop),
    (∀ρ' a' w',St I N ρ' (plus D σ.next σ'.next) env' σ' a' w'→ExtS ρ D σ w ρ' σ' w'→next a' w')→o.wp P a w next Q
theorem putK_spec {β:Type} {N:Nat} {d:Option Nat} {v:SV} {env:Env} {k:Env→R β} {r:β} (h:putK N d v env k=some r):
    ∃env',k env'=some r∧∀ρ D a,EnvOk I N ρ D (getE env) a→Wf I D v→EnvOk I N ρ D (getE env') (a.put d (val ρ v)):=by
  cases d with
  | none=>exact ⟨env,by simpa [putK] using h,fun ρ D a he _=>he⟩
  | some d=>
    simp only [putK] at h
    obtain ⟨h1,h2⟩:=bif_some h
    have hd:d < N:=by simpa using h1
    refine ⟨_,h2,fun ρ D a he hv=>?_⟩
    rw [getE_cons]
    exact he.put hd hv
theorem pure_op {te:TE} (hte:TEok P te) {N:Nat} {o:Oper} {env:Env} {σ:Heap} {k:Env→Heap→R α} {r:α} (h:(pval te o.op (getE env) σ.get fun v=>putK N o.dst v env fun env=>k env σ)=some r):
    ∃env' σ',k env' σ'=some r∧Grow σ σ'∧OpTo P I N o env σ env' σ':=by
  obtain ⟨v,h1,hv⟩:=pval_spec (I:=I) hte h
  obtain ⟨env',h2,hp⟩:=putK_spec (I:=I) h1
  refine ⟨env',σ,h2,.refl _,fun ρ D a w hs _ next Q hn=>?_⟩
  obtain ⟨e1,e2⟩:=hv D N ρ a w hs.env hs.heap
  unfold Oper.wp
  rw [e1]
  exact hn ρ _ w (.same ⟨hp ρ _ a hs.env e2,hs.heap⟩) .same
theorem grow_one {n:Nat} {l:List (Nat × SObj)} {b:Nat} {ob:SObj} (h:b=n∨∃o,(Heap.mk n l).get b=some o):Grow ⟨n,l⟩ ⟨bif Nat.beq b n then n+ 1 else n,(b,ob)::l⟩:=by
  refine ⟨by cases Nat.beq b n<;>simp,[(b,ob)],rfl,fun x hx=>?_⟩
  simp only [List.mem_singleton] at hx
  subst hx
  rcases h with rfl | h
  · exact .inr (by simp)
  · exact .inl h
theorem write_op {te:TE} (hte:TEok P te) {N:Nat} {o:Oper} {env:Env} {σ:Heap} {k:Env→Heap→R α} {r:α}
    (h:(wval te o.op (getE env) σ.get σ.next fun v b ob=>putK N o.dst v env fun env=>k env ⟨bif Nat.beq b σ.next then σ.next+ 1 else σ.next,(b,ob)::σ.blocks⟩)=some r):
    ∃env' σ',k env' σ'=some r∧Grow σ σ'∧OpTo P I N o env σ env' σ':=by
  obtain ⟨v,b,ob,h1,hb,hv⟩:=wval_spec (I:=I) hte h
  obtain ⟨env',h2,hp⟩:=putK_spec (I:=I) h1
  refine ⟨env',_,h2,grow_one hb,fun ρ D a w hs hfr next Q hn=>?_⟩
  obtain ⟨σn,σl⟩:=σ
  simp only at *
  have fin:∀m ρ' w' nx,(execOp a.eval o).run P w=.ok nx w'→(nx=.value (val ρ' v)∨(nx=.skip∧v=.tuple []))→
      HRel I ρ' (plus D σn m) (putH (Heap.mk σn σl).get b ob) w'→Ext ρ D (Heap.mk σn σl).get w ρ' (plus D σn m) (putH (Heap.mk σn σl).get b ob) w'→Wf I (plus D σn m) v→
      (∀ρ' a' w',St I N ρ' (plus D σn m) env' ⟨m,(b,ob)::σl⟩ a' w'→ExtS ρ D ⟨σn,σl⟩ w ρ' ⟨m,(b,ob)::σl⟩ w'→next a' w')→o.wp P a w next Q:=by
    intro m ρ' w' nx e1 e2 e3 e4 e5 hn
    have henv:EnvOk I N ρ' (plus D σn m) (getE env') (a.put o.dst (val ρ' v)):=hp ρ' _ a (hs.env.ext e4.le e4.agree) e5
    have hst:St I N ρ' (plus D σn m) env' ⟨m,(b,ob)::σl⟩ (a.put o.dst (val ρ' v)) w':=⟨henv,by rw [getL_cons]; exact e3⟩
    have hext:ExtS ρ D ⟨σn,σl⟩ w ρ' ⟨m,(b,ob)::σl⟩ w':=by unfold ExtS; rw [getL_cons]; exact e4
    unfold Oper.wp
    rw [e1]
    rcases e2 with rfl | ⟨rfl,rfl⟩
    · exact hn _ _ _ hst hext
    · exact hn _ _ _ hst hext
  cases hbn:Nat.beq b σn
  · rw [hbn] at hn
    have hbne:b ≠ σn:=fun e=>by subst e; rw [Nat.beq_refl] at hbn; cases hbn
    obtain ⟨ρ',w',nx,e1,e2,e3,e4,e5⟩:=hv N ρ D (plus D σn σn) a w hs.env hs.heap (fun e=>absurd e hbne) (fun _ h=>.inl h) (fun e=>absurd e hbne)
    exact fin _ ρ' w' nx e1 e2 e3 e4 e5 hn
  · rw [hbn] at hn hfr
    obtain ⟨ρ',w',nx,e1,e2,e3,e4,e5⟩:=hv N ρ D (plus D σn (σn+ 1)) a w hs.env hs.heap (fun _=>hfr σn (Nat.le_refl _) (by simp)) (fun c hc=>.inl hc) (fun _=>.inr (by omega))
    exact fin _ ρ' w' nx e1 e2 e3 e4 e5 hn
theorem getL_puts (l m:List (Nat × SObj)):getL (l++ m)=putsH (getL m) l:=by
  induction l with
  | nil=>rfl
  | cons x l ih=>funext c; obtain ⟨b,o⟩:=x; simp only [List.cons_append,getL,ih,putsH,putH]
theorem append_op {te:TE} (hte:TEok P te) {N:Nat} {o:Oper} (ho:∀c,o.op=.call c→c.callee=.builtin .append) {env:Env} {σ:Heap} {k:Env→Heap→R α} {r:α}
    (h:(wgrow te o.op (getE env) σ.get σ.next (fun v=>putK N o.dst v env fun env=>k env σ) (fun v wr=>putK N o.dst v env fun env=>k env ⟨σ.next+ 1,wr++ σ.blocks⟩))=some r):
    ∃env' σ',k env' σ'=some r∧Grow σ σ'∧OpTo P I N o env σ env' σ':=by
  rcases wgrow_spec (I:=I) hte ho h with ⟨v,h1,hv⟩ | ⟨v,wr,h1,hids,hv⟩
  · obtain ⟨env',h2,hp⟩:=putK_spec (I:=I) h1
    refine ⟨env',σ,h2,.refl _,fun ρ D a w hs _ next Q hn=>?_⟩
    obtain ⟨e1,e2⟩:=hv D N ρ a w hs.env hs.heap
    unfold Oper.wp
    rw [e1]
    exact hn ρ _ w (.same ⟨hp ρ _ a hs.env e2,hs.heap⟩) .same
  · obtain ⟨env',h2,hp⟩:=putK_spec (I:=I) h1
    refine ⟨env',_,h2,⟨Nat.le_succ _,wr,rfl,fun x hx=>?_⟩,fun ρ D a w hs hfr next Q hn=>?_⟩
    · rcases hids x hx with e | e
      · rw [e]; exact .inr ⟨Nat.le_refl _,Nat.lt_succ_self _⟩
      · exact .inl e
    · obtain ⟨ρ',w',e1,e3,e4,e5⟩:=hv N ρ D (plus D σ.next (σ.next+ 1)) a w hs.env hs.heap (hfr σ.next (Nat.le_refl _) (by simp)) (fun _ h=>.inl h) (.inr (by omega))
      have hget:(Heap.mk (σ.next+ 1) (wr++ σ.blocks)).get=putsH σ.get wr:=getL_puts _ _
      unfold Oper.wp
      rw [e1]
      refine hn ρ' _ w' ⟨hp ρ' _ a (hs.env.ext e4.le e4.agree) e5,by rw [hget]; exact e3⟩ ?_
      unfold ExtS
      rw [hget]; exact e4
theorem evs_args {ρ:Nat→Pl} {a:Act} {args:Array Operand} {vs:List SV} (h:args.toList.map a.eval=vs.map (val ρ)):(args.map a.eval)=(vs.map (val ρ)).toArray:=by
  apply Array.toList_inj.1; simpa using h
theorem sop_spec {te:TE} (hte:TEok P te) {O:ORC α} (hO:OOk P I O) {N:Nat} {o:Oper} {env:Env} {σ:Heap} {k:Env→Heap→R α} {r:α} (h:sop te O N o env σ k=some r):
    ∃env' σ',k env' σ'=some r∧Grow σ σ'∧OpTo P I N o env σ env' σ':=by
  unfold sop at h
  simp only [nextK_eq] at h
  split at h
  · rename_i c hop
    split at h
    · rename_i f hcal
      obtain ⟨fv,h1,hf⟩:=ev_spec h
      split at h1<;>try (simp at h1; done)
      rename_i fid first cap
      obtain ⟨args,h2,ha⟩:=evs_spec h1
      obtain ⟨orc,h3,ho⟩:=olook_spec h2 hO
      have hrun:∀ρ D a w,St I N ρ D env σ a w→Enters P fid→(execOp a.eval o).run P w=.ok (.enter fid ((first++ args++ cap).map (val ρ)).toArray) w:=by
        intro ρ D a w hs ⟨fn,hfn,hname,hbody⟩
        have e1:=(hf I N ρ _ a hs.env).1
        have e2:=evs_args (ha I N ρ _ a hs.env).1
        have e3:a.eval f=.func (.func fid) (first.map (val ρ)).toArray (cap.map (val ρ)).toArray:=by
          rw [e1]; simp [val,pack,SV.isAgg,cells,vals_eq]
        simp only [execOp,hop,resolve,hcal,Sem.run_bind,e3,e2,Deferred.ofValue,Sem.run_pure,Result.andThen_ok,invoke,callFunc,run_program,hfn,hname,hbody,Bool.false_eq_true,if_false]
        simp
      have hrunx:∀ρ D a w,St I N ρ D env σ a w→(execOp a.eval o).run P w=(callFunc fid ((first++ args++ cap).map (val ρ)).toArray).run P w:=by
        intro ρ D a w hs
        have e1:=(hf I N ρ _ a hs.env).1
        have e2:=evs_args (ha I N ρ _ a hs.env).1
        have e3:a.eval f=.func (.func fid) (first.map (val ρ)).toArray (cap.map (val ρ)).toArray:=by
          rw [e1]; simp [val,pack,SV.isAgg,cells,vals_eq]
        simp only [execOp,hop,resolve,hcal,Sem.run_bind,e3,e2,Deferred.ofValue,Sem.run_pure,Result.andThen_ok,invoke]
        simp
      have hwf:∀ρ D a w,St I N ρ D env σ a w→∀x ∈ first++ args++ cap,Wf I D x:=by
        intro ρ D a w hs x hx
        have e1:=(hf I N ρ _ a hs.env).2
        have e2:=(ha I N ρ _ a hs.env).2
        simp only [Wf,wfs_iff] at e1
        rcases List.mem_append.1 hx with hx | hx
        · rcases List.mem_append.1 hx with hx | hx
          · exact e1.1 x hx
          · exact e2 x hx
        · exact e1.2 x hx
      cases orc with
      | pure F=>
        simp only at h3
        obtain ⟨hent,hF⟩:=ho
        obtain ⟨v,h4,hp⟩:=hF _ _ _ h3
        obtain ⟨env',h5,hput⟩:=putK_spec (I:=I) h4
        refine ⟨env',σ,h5,.refl _,fun ρ D a w hs _ next Q hn=>?_⟩
        have hc:=hp D (hwf ρ D a w hs)
        unfold Oper.wp
        rw [hrun ρ D a w hs hent]
        simp only [Oper.upon]
        refine (hc ρ _ w hs.heap).mono ?_
        rintro e w' ⟨rfl,hv,hx,hh⟩
        exact hn ρ _ w' (.same ⟨hput ρ _ a hs.env hv,hh⟩) (by unfold ExtS; rw [plus_same]; exact hx)
      | full F=>
        simp only at h3
        obtain ⟨hent,hF⟩:=ho
        obtain ⟨v,σ',h4,hg,hp⟩:=hF _ _ _ _ h3
        obtain ⟨env',h5,hput⟩:=putK_spec (I:=I) h4
        refine ⟨env',σ',h5,hg,fun ρ D a w hs hfr next Q hn=>?_⟩
        unfold Oper.wp
        rw [hrun ρ D a w hs hent]
        simp only [Oper.upon]
        refine (hp ρ D w hs.heap hfr (hwf ρ D a w hs)).mono ?_
        rintro e w' ⟨ρ',rfl,hx,hh,hv⟩
        exact hn ρ' _ w' ⟨hput ρ' _ a (hs.env.ext hx.le hx.agree) hv,hh⟩ hx
      | ext F=>
        simp only at h3
        obtain ⟨v,σ',h4,hg,hp⟩:=ho _ _ _ _ h3
        obtain ⟨env',h5,hput⟩:=putK_spec (I:=I) h4
        refine ⟨env',σ',h5,hg,fun ρ D a w hs hfr next Q hn=>?_⟩
        obtain ⟨ρ',w',e1,hx,hh,hv⟩:=hp ρ D w hs.heap hfr (hwf ρ D a w hs)
        unfold Oper.wp
        rw [hrunx ρ D a w hs,e1]
        exact hn ρ' _ w' ⟨hput ρ' _ a (hs.env.ext hx.le hx.agree) hv,hh⟩ hx
    · exact write_op hte h
    · rename_i hcal; exact append_op hte (fun c' hc'=>by rw [hop] at hc'; cases hc'; exact hcal) h
    · exact pure_op hte h
  all_goals first
    | exact write_op hte h
    | (rename_i hop; exact append_op hte (fun c' hc'=>by rw [hop] at hc'; cases hc') h)
    | exact pure_op hte h
def dstOf : List Oper→Nat→Option Nat
  | [],_=>none
  | o::_,0=>o.dst
  | _::r,j+ 1=>dstOf r j
theorem dstOf_spec : ∀{l:List Oper} {j:Nat},dstOf l j=(l[j]?).bind (·.dst)
  | [],_=>by simp [dstOf]
  | o::_,0=>by simp [dstOf]
  | _::r,j+ 1=>by simp [dstOf,dstOf_spec (l:=r) (j:=j)]
def skipOp (N:Nat) (o:Oper) (env:Env) (σ:Heap) (k:Env→Heap→R α):R α:=putK N o.dst (.tuple []) env fun env=>k env σ
def sops (te:TE) (O:ORC α) (N:Nat) (all:List Oper):List Oper→Env→Heap→(Env→Heap→R α)→R α
  | [],env,σ,k=>k env σ
  | o ::rest,env,σ,k=>
    match o.guard with
    | none=>sop te O N o env σ fun env σ=>sops te O N all rest env σ k
    | some (j,want)=>match dstOf all j with
      | none=>none
      | some d=>match getE env d with
        | some (.bool g)=>
          cond g (cond want (sop te O N o ((d,.bool true)::env) σ fun env σ=>sops te O N all rest env σ k) (skipOp N o ((d,.bool true)::env) σ fun env σ=>sops te O N all rest env σ k))
                 (cond want (skipOp N o ((d,.bool false)::env) σ fun env σ=>sops te O N all rest env σ k) (sop te O N o ((d,.bool false)::env) σ fun env σ=>sops te O N all rest env σ k))
        | some (.tuple _)=>skipOp N o env σ fun env σ=>sops te O N all rest env σ k
        | _=>none
def ListTo (P:Program) (I:Imm) (N:Nat) (all:List Oper) (l:List Oper) (env:Env) (σ:Heap) (env':Env) (σ':Heap):Prop:=
  ∀ ρ D a w,St I N ρ D env σ a w→free D σ.next σ'.next→∀(Q:Exit→Act→World→Prop),
    (∀ρ' a' w',St I N ρ' (plus D σ.next σ'.next) env' σ' a' w'→ExtS ρ D σ w ρ' σ' w'→Q .normal a' w')→wpList P all.toArray Q l a w
theorem yielded_of {all:List Oper} {j d:Nat} (h:dstOf all j=some d) {N:Nat} {ρ:Nat→Pl} {D:Nat→Prop} {env:Env} {a:Act} (he:EnvOk I N ρ D (getE env) a) {g:Bool} (hg:getE env d=some (.bool g)):
    yielded all.toArray a.tmps j=some g:=by
  rw [dstOf_spec] at h
  have e:=(he.env _ _ hg).1
  simp only [yielded,List.getElem?_toArray,h,Option.bind_some,e,val_bool]
theorem yielded_none {all:List Oper} {j d:Nat} (h:dstOf all j=some d) {N:Nat} {ρ:Nat→Pl} {D:Nat→Prop} {env:Env} {a:Act} (he:EnvOk I N ρ D (getE env) a) {l:List SV} (hg:getE env d=some (.tuple l)):
    yielded all.toArray a.tmps j=none:=by
  rw [dstOf_spec] at h
  have e:=(he.env _ _ hg).1
  simp only [yielded,List.getElem?_toArray,h,Option.bind_some,e,val]
theorem skip_spec {N:Nat} {o:Oper} {env:Env} {σ:Heap} {k:Env→Heap→R α} {r:α} (h:skipOp N o env σ k=some r):
    ∃env',k env' σ=some r∧∀ρ D a w,St I N ρ D env σ a w→St I N ρ D env' σ (a.put o.dst undef) w:=by
  obtain ⟨env',h2,hp⟩:=putK_spec (I:=I) h
  refine ⟨env',h2,fun ρ D a w hs=>⟨?_,hs.heap⟩⟩
  exact hp ρ _ a hs.env (by simp [Wf,Wfs])
theorem St.again {N:Nat} {ρ:Nat→Pl} {D:Nat→Prop} {env:Env} {σ:Heap} {a:Act} {w:World} (h:St I N ρ D env σ a w) {d:Nat} {b c:Bool} (hd:getE env d=some (.bool b)) (hc:b=c):St I N ρ D ((d,.bool c)::env) σ a w:=
  ⟨by rw [getE_cons]; exact h.env.again hd (by rw [hc]) (by simp [Wf]),h.heap⟩
theorem sops_spec {te:TE} (hte:TEok P te) {O:ORC α} (hO:OOk P I O) {N:Nat} {all:List Oper}:∀{l:List Oper} {env:Env} {σ:Heap} {k:Env→Heap→R α} {r:α},sops te O N all l env σ k=some r→
    ∃env' σ',k env' σ'=some r∧Grow σ σ'∧ListTo P I N all l env σ env' σ'
  | [],env,σ,k,r,h=>⟨env,σ,by simpa [sops] using h,.refl _,fun ρ D a w hs _ Q hn=>by simpa [wpList] using hn ρ a w (.same hs) .same⟩
  | o ::rest,env,σ,k,r,h=>by
    -- the operation is carried out
    have run:∀env1,(sop te O N o env1 σ fun env σ=>sops te O N all rest env σ k)=some r→
        ∃ env' σ',k env' σ'=some r∧Grow σ σ'∧∀ρ D a w,St I N ρ D env1 σ a w→free D σ.next σ'.next→Region.wanted o (yielded all.toArray a.tmps)=true→∀(Q:Exit→Act→World→Prop),
          (∀ρ' a' w',St I N ρ' (plus D σ.next σ'.next) env' σ' a' w'→ExtS ρ D σ w ρ' σ' w'→Q .normal a' w')→wpList P all.toArray Q (o::rest) a w:=by
      intro env1 h1
      obtain ⟨env2,σ2,h2,g2,hop⟩:=sop_spec hte hO h1
      obtain ⟨env3,σ3,h3,g3,hl⟩:=sops_spec hte hO h2
      refine ⟨env3,σ3,h3,g2.trans g3,fun ρ D a w hs hfr hw Q hn=>?_⟩
      unfold wpList
      rw [if_pos hw]
      refine .inl (hop ρ D a w hs (hfr.left g3.le) _ Q fun ρ' a' w' hs' hx=>hl ρ' _ a' w' hs' (hfr.right g2.le) Q fun ρ2 a2 w2 hs2 hx2=>hn ρ2 a2 w2 ?_ (hx.trans hx2 g2.le g3.le))
      rwa [plus_plus g2.le g3.le] at hs2
    have skip:∀env1,(skipOp N o env1 σ fun env σ=>sops te O N all rest env σ k)=some r→
        ∃ env' σ',k env' σ'=some r∧Grow σ σ'∧∀ρ D a w,St I N ρ D env1 σ a w→free D σ.next σ'.next→Region.wanted o (yielded all.toArray a.tmps)=false→∀(Q:Exit→Act→World→Prop),
          (∀ρ' a' w',St I N ρ' (plus D σ.next σ'.next) env' σ' a' w'→ExtS ρ D σ w ρ' σ' w'→Q .normal a' w')→wpList P all.toArray Q (o::rest) a w:=by
      intro env1 h1
      obtain ⟨env2,h2,hop⟩:=skip_spec (I:=I) h1
      obtain ⟨env3,σ3,h3,g3,hl⟩:=sops_spec hte hO h2
      refine ⟨env3,σ3,h3,g3,fun ρ D a w hs hfr hw Q hn=>?_⟩
      unfold wpList
      rw [if_neg (by rw [hw]; simp)]
      exact hl ρ D _ w (hop ρ D a w hs) hfr Q hn
    simp only [sops] at h
    split at h
    · rename_i hg
      obtain ⟨env',σ',h1,g1,h2⟩:=run env h
      exact ⟨env',σ',h1,g1,fun ρ D a w hs hfr Q hn=>h2 ρ D a w hs hfr (by simp [Region.wanted,hg]) Q hn⟩
    · rename_i j want hg
      split at h<;>try (simp at h; done)
      rename_i d hd
      split at h<;>try (simp at h; done)
      case h_2 l hgd=>
        obtain ⟨env',σ',h1,g1,h2⟩:=skip _ h
        exact ⟨env',σ',h1,g1,fun ρ D a w hs hfr Q hn=>h2 ρ D a w hs hfr (by simp [Region.wanted,hg,yielded_none hd hs.env hgd]) Q hn⟩
      rename_i g hgd
      cases g<;>cases want<;>simp only [cond_true,cond_false] at h
      · obtain ⟨env',σ',h1,g1,h2⟩:=run _ h
        exact ⟨env',σ',h1,g1,fun ρ D a w hs hfr Q hn=>h2 ρ D a w (hs.again hgd rfl) hfr (by simp [Region.wanted,hg,yielded_of hd hs.env hgd]) Q hn⟩
      · obtain ⟨env',σ',h1,g1,h2⟩:=skip _ h
        exact ⟨env',σ',h1,g1,fun ρ D a w hs hfr Q hn=>h2 ρ D a w (hs.again hgd rfl) hfr (by simp [Region.wanted,hg,yielded_of hd hs.env hgd]) Q hn⟩
      · obtain ⟨env',σ',h1,g1,h2⟩:=skip _ h
        exact ⟨env',σ',h1,g1,fun ρ D a w hs hfr Q hn=>h2 ρ D a w (hs.again hgd rfl) hfr (by simp [Region.wanted,hg,yielded_of hd hs.env hgd]) Q hn⟩
      · obtain ⟨env',σ',h1,g1,h2⟩:=run _ h
        exact ⟨env',σ',h1,g1,fun ρ D a w hs hfr Q hn=>h2 ρ D a w (hs.again hgd rfl) hfr (by simp [Region.wanted,hg,yielded_of hd hs.env hgd]) Q hn⟩
end
end Go.Sh
namespace Go.Sh
open Go
section
variable {α:Type} {P:Program} {I:Imm}
def hits (b:Nat) (l:List (Nat × SObj)):Bool:=l.any fun x=>Nat.beq x.1 b
theorem puts_off {h:HF} {l:List (Nat × SObj)} {b:Nat} (hb:hits b l=false):putsH h l b=h b:=by
  induction l with
  | nil=>rfl
  | cons x l ih=>
    simp only [hits,List.any_cons,Bool.or_eq_false_iff] at hb
    have hne:b ≠ x.1:=fun e=>by rw [e,Nat.beq_refl] at hb; simp at hb
    rw [putsH,putH_other hne]
    exact ih hb.2
theorem puts_on {h h':HF} {l:List (Nat × SObj)} {b:Nat} (hb:hits b l=true):putsH h l b=putsH h' l b:=by
  induction l with
  | nil=>simp [hits] at hb
  | cons x l ih=>
    by_cases e:b=x.1
    · subst e; simp only [putsH,putH_same]
    · simp only [putsH,putH_other e]
      refine ih ?_
      simp only [hits,List.any_cons,Bool.or_eq_true] at hb
      rcases hb with hb | hb
      · exact absurd (Nat.eq_of_beq_eq_true hb).symm e
      · exact hb
theorem EnvOk.less {N:Nat} {ρ:Nat→Pl} {D:Nat→Prop} {g g':EF} {a:Act} (h:EnvOk I N ρ D g a) (hg:∀t v,g' t=some v→g t=some v):EnvOk I N ρ D g' a:=
  ⟨h.size,h.defers,fun t v ht=>h.env t v (hg t v ht)⟩
theorem HRel.less {ρ:Nat→Pl} {D:Nat→Prop} {h h':HF} {w:World} (g:HRel I ρ D h w) (hh:∀b o,h' b=some o→h b=some o):HRel I ρ D h' w:=
  ⟨⟨fun b o hb=>g.wf.dom b o (hh b o hb)⟩,fun b o hb=>g.obj b o (hh b o hb),fun b o b' o' hb hb'=>g.inj b o b' o' (hh b o hb) (hh b' o' hb'),g.imm,fun b o hb=>g.off b o (hh b o hb),fun b o hb=>g.none_ b o (hh b o hb)⟩
theorem frame {ρ ρ':Nat→Pl} {D:Nat→Prop} {lo hi:Nat} {h hr:HF} {l:List (Nat × SObj)} {w w':World} (hh:HRel I ρ D h w) (hle:∀b o,hr b=some o→h b=some o)
    (hx:Ext ρ D hr w ρ' (plus D lo hi) (putsH hr l) w') (hh':HRel I ρ' (plus D lo hi) (putsH hr l) w'):
    HRel I ρ' (plus D lo hi) (putsH h l) w'∧Ext ρ D h w ρ' (plus D lo hi) (putsH h l) w':=by
  -- a block of the whole is one that the run saw, or one that it did not
  have parts:∀b o,putsH h l b=some o→putsH hr l b=some o∨(putsH hr l b=none∧hr b=none∧h b=some o):=by
    intro b o hb
    cases e:hits b l
    · rw [puts_off e] at hb ⊢
      cases e2:hr b with
      | none=>exact .inr ⟨rfl,rfl,hb⟩
      | some o2=>exact .inl (by rw [hle b o2 e2] at hb; exact hb)
    · exact .inl (by rw [puts_on (h':=h) e]; exact hb)
  have keep:∀b o,hr b=none→h b=some o→(ρ b).nil=false→w'.heap[(ρ b).blk]?=w.heap[(ρ b).blk]?:=fun b o e1 e2 hz=>
    hx.frame _ (hh.obj b o e2 hz).lt fun c oc hc hz' e=>by
      have:=hh.inj c oc b o (hle c oc hc) e2 hz' hz e
      subst this
      rw [e1] at hc; cases hc
  have agr:∀b o,h b=some o→ρ' b=ρ b:=fun b o hb=>hx.agree b (hh.wf.dom b o hb).1
  have mix:∀b o b' o',putsH hr l b=some o→hr b'=none→h b'=some o'→(ρ' b).nil=false→(ρ' b').nil=false→(ρ' b).blk=(ρ' b').blk→False:=fun b o b' o' h1 h2 h3 hz hz' e=>by
    rw [agr b' o' h3] at e hz'
    have hlt:=(hh.obj b' o' h3 hz').lt
    rcases hx.img b o h1 hz with h4 | ⟨b0,o0,h5,h0,h6⟩
    · omega
    · have:=hh.inj b0 o0 b' o' (hle b0 o0 h5) h3 h0 hz' (h6.trans e)
      subst this
      rw [h2] at h5; cases h5
  refine ⟨⟨⟨fun b o hb=>?_⟩,fun b o hb hz=>?_,fun b o b' o' hb hb' hz hz' e=>?_,hh'.imm,fun b o hb hz=>?_,fun b o hb hz=>?_⟩,⟨hx.le,hx.agree,hx.os,hx.tape,hx.output,hx.size,fun i hi hn=>hx.frame i hi fun b o hb=>hn b o (hle b o hb),fun b o hb hz=>?_⟩⟩
  · rcases parts b o hb with h1 | ⟨_,_,h3⟩
    · exact hh'.wf.dom b o h1
    · exact ⟨.inl (hh.wf.dom b o h3).1,(hh.wf.dom b o h3).2.mono fun c hc=>.inl hc⟩
  · rcases parts b o hb with h1 | ⟨_,h2,h3⟩
    · exact hh'.obj b o h1 hz
    · rw [agr b o h3] at hz
      exact ObjAt.congr (I:=I) (hh.obj b o h3 hz) (hh.wf.dom b o h3).2 hx.agree (hh.wf.dom b o h3).1 (keep b o h2 h3 hz)
  · rcases parts b o hb with h1 | ⟨_,h2,h3⟩<;>rcases parts b' o' hb' with h1' | ⟨_,h2',h3'⟩
    · exact hh'.inj b o b' o' h1 h1' hz hz' e
    · exact (mix b o b' o' h1 h2' h3' hz hz' e).elim
    · exact (mix b' o' b o h1' h2 h3 hz' hz e.symm).elim
    · rw [agr b o h3,agr b' o' h3'] at e
      rw [agr b o h3] at hz
      rw [agr b' o' h3'] at hz'
      exact hh.inj b o b' o' h3 h3' hz hz' e
  · rcases parts b o hb with h1 | ⟨_,_,h3⟩
    · exact hh'.off b o h1 hz
    · rw [agr b o h3] at hz ⊢; exact hh.off b o h3 hz
  · rcases parts b o hb with h1 | ⟨_,_,h3⟩
    · exact hh'.none_ b o h1 hz
    · rw [agr b o h3] at hz ⊢; exact hh.none_ b o h3 hz
  · rcases parts b o hb with h1 | ⟨_,_,h3⟩
    · rcases hx.img b o h1 hz with h4 | ⟨b0,o0,h5,h0,h6⟩
      · exact .inl h4
      · exact .inr ⟨b0,o0,hle b0 o0 h5,h0,h6⟩
    · rw [agr b o h3] at hz
      exact .inr ⟨b,o,h3,hz,by rw [agr b o h3]⟩
structure Rec where
  i:Nat
  dst:Option Nat
  v:SV
  wr:List (Nat × SObj)
  lo:Nat
  hi:Nat
  rd:Option (List Nat)
  tm:List Nat
def setD (d:Option Nat) (t:Nat):Bool:=match d with | some d=>Nat.beq d t | none=>false
def Rec.sets (r:Rec) (t:Nat):Bool:=setD r.dst t
def eF (s:Nat→Bool) (g:EF):List Rec→EF
  | []=>g
  | r::rs=>fun t=>bif s r.i && r.sets t then some r.v else eF s g rs t
def hF (s:Nat→Bool) (h:HF):List Rec→HF
  | []=>h
  | r::rs=>bif s r.i then putsH (hF s h rs) r.wr else hF s h rs
def dF (s:Nat→Bool) (D:Nat→Prop) (rs:List Rec):Nat→Prop:=fun c=>D c∨∃r ∈ rs,s r.i=true∧r.lo≤c∧c < r.hi
abbrev allS : Nat→Bool:=fun _=>true
abbrev addS (s:Nat→Bool) (i:Nat):Nat→Bool:=fun j=>s j || Nat.beq i j
theorem eF_congr {s s':Nat→Bool} {g:EF} {t:Nat}:∀{l:List Rec},(∀q ∈ l,q.sets t=true→s q.i=s' q.i)→eF s g l t=eF s' g l t
  | [],_=>rfl
  | r::rs,h=>by
    simp only [eF]
    rw [eF_congr (l:=rs) fun q hq=>h q (List.mem_cons_of_mem _ hq)]
    cases e:r.sets t
    · simp
    · rw [h r (by simp) e]
theorem eF_skip {s:Nat→Bool} {g:EF} {t:Nat} {m:List Rec}:∀{l:List Rec},(∀q ∈ l,q.sets t=true→s q.i=false)→eF s g (l++ m) t=eF s g m t
  | [],_=>rfl
  | r::rs,h=>by
    simp only [List.cons_append,eF]
    rw [eF_skip (l:=rs) fun q hq=>h q (List.mem_cons_of_mem _ hq)]
    cases e:r.sets t
    · simp
    · rw [h r (by simp) e]; simp
theorem hF_congr {s s':Nat→Bool} {g:HF} {b:Nat}:∀{l:List Rec},(∀q ∈ l,hits b q.wr=true→s q.i=s' q.i)→hF s g l b=hF s' g l b
  | [],_=>rfl
  | r ::rs,h=>by
    have ih:=hF_congr (s:=s) (s':=s') (g:=g) (l:=rs) fun q hq=>h q (List.mem_cons_of_mem _ hq)
    simp only [hF]
    cases e:hits b r.wr
    · cases s r.i<;>cases s' r.i<;>simp only [cond_true,cond_false,puts_off e,ih]
    · rw [h r (by simp) e]
      cases s' r.i
      · simp only [cond_false,ih]
      · simp only [cond_true]; exact puts_on e
theorem hF_skip {s:Nat→Bool} {g:HF} {b:Nat} {m:List Rec}:∀{l:List Rec},(∀q ∈ l,hits b q.wr=true→s q.i=false)→hF s g (l++ m) b=hF s g m b
  | [],_=>rfl
  | r::rs,h=>by
    have ih:=hF_skip (s:=s) (g:=g) (m:=m) (l:=rs) fun q hq=>h q (List.mem_cons_of_mem _ hq)
    simp only [List.cons_append,hF]
    cases e:hits b r.wr
    · cases s r.i<;>simp only [cond_true,cond_false,puts_off e,ih]
    · rw [h r (by simp) e]; exact ih
end
end Go.Sh
namespace Go.Sh
open Go
section
variable {α:Type} {P:Program} {I:Imm}
def inL (t:Nat):List Nat→Bool
  | []=>false
  | x::l=>Nat.beq x t || inL t l
def restr : List Nat→Env→Env
  | [],_=>[]
  | t::l,env=>match getE env t with
    | some v=>(t,v)::restr l env
    | none=>restr l env
theorem restr_get {env:Env} {t:Nat} {v:SV}:∀{l:List Nat},getE (restr l env) t=some v→inL t l=true∧getE env t=some v
  | [],h=>by simp [restr,getE] at h
  | x ::l,h=>by
    simp only [restr] at h
    split at h
    · rename_i u hu
      simp only [getE] at h
      cases e:Nat.beq x t
      · rw [e] at h
        obtain ⟨h1,h2⟩:=restr_get (l:=l) (by simpa using h)
        exact ⟨by simp [inL,h1],h2⟩
      · rw [e] at h
        have:=Nat.eq_of_beq_eq_true e
        subst this
        exact ⟨by simp [inL],by simp at h; rw [hu,h]⟩
    · obtain ⟨h1,h2⟩:=restr_get (l:=l) h
      exact ⟨by simp [inL,h1],h2⟩
def restH (l:List Nat) (h:HF):HF:=fun b=>bif inL b l then h b else none
theorem restH_get {l:List Nat} {h:HF} {b:Nat} {o:SObj} (hb:restH l h b=some o):inL b l=true∧h b=some o:=by
  unfold restH at hb
  cases e:inL b l<;>rw [e] at hb
  · cases hb
  · exact ⟨rfl,hb⟩
def headOf : SV→List Nat
  | .ptr b _=>[b]
  | .slc b ..=>[b]
  | .oslc b ..=>[b]
  | .map b=>[b]
  | _=>[]
def heads (env:Env):List Operand→List Nat
  | []=>[]
  | .tmp t::l=>(match getE env t with | some v=>headOf v | none=>[])++ heads env l
  | _::l=>heads env l
structure Did (P:Program) (I:Imm) (N:Nat) (all:List Oper) (o:Oper) (g:EF) (h:HF) (v:SV) (wr:List (Nat × SObj)) (lo hi:Nat):Prop where
  le:lo≤hi
  ids:∀b,hits b wr=true→(∃x,h b=some x)∨(lo≤b∧b < hi)
  run:∀ρ D a w,EnvOk I N ρ D g a→HRel I ρ D h w→free D lo hi→
    (Region.wanted o (yielded all.toArray a.tmps)=true∧∀(next:Act→World→Prop) Q,(∀ρ' w',Ext ρ D h w ρ' (plus D lo hi) (putsH h wr) w'→HRel I ρ' (plus D lo hi) (putsH h wr) w'→Wf I (plus D lo hi) v→next (a.put o.dst (val ρ' v)) w')→o.wp P a w next Q)∨
    (Region.wanted o (yielded all.toArray a.tmps)=false∧v=.tuple []∧wr=[]∧hi=lo)
def newW (σ' σ:Heap):List (Nat × SObj):=σ'.blocks.take (σ'.blocks.length - σ.blocks.length)
def dop (te:TE) (O:ORC α) (o:Oper) (env:Env) (σ:Heap) (k:SV→List (Nat × SObj)→Nat→Option (List Nat)→R α):R α:=
  match o.op with
  | .call c=>match c.callee with
    | .value f=>ev (getE env) f fun
      | .fn (.func fid) first cap=>evs (getE env) c.args.toList fun args=>olook O fid fun
        | .pure F=>F (first++ args++ cap) fun v=>k v [] σ.next (some [])
        | .full F=>F (first++ args++ cap) σ fun v σ'=>k v (newW σ' σ) σ'.next none
        | .ext F=>F (first++ args++ cap) σ fun v σ'=>k v (newW σ' σ) σ'.next none
      | _=>none
    | .builtin .copy=>wval te o.op (getE env) (restH (heads env o.op.operands.toList) σ.get) σ.next fun v b ob=>nextK (Nat.beq b σ.next) σ.next fun n=>k v [(b,ob)] n (some (heads env o.op.operands.toList))
    | .builtin .append=>wgrow te o.op (getE env) (restH (heads env o.op.operands.toList) σ.get) σ.next (fun v=>k v [] σ.next (some (heads env o.op.operands.toList))) (fun v wr=>k v wr (σ.next+ 1) (some (heads env o.op.operands.toList)))
    | _=>pval te o.op (getE env) (restH (heads env o.op.operands.toList) σ.get) fun v=>k v [] σ.next (some (heads env o.op.operands.toList))
  | .alloc _ | .box .. | .store .. | .buildSlice .. | .makeSlice .. | .makeMap .. | .insert ..=>
    wval te o.op (getE env) (restH (heads env o.op.operands.toList) σ.get) σ.next fun v b ob=>nextK (Nat.beq b σ.next) σ.next fun n=>k v [(b,ob)] n (some (heads env o.op.operands.toList))
  | .slice ..=>wgrow te o.op (getE env) (restH (heads env o.op.operands.toList) σ.get) σ.next (fun v=>k v [] σ.next (some (heads env o.op.operands.toList))) (fun v wr=>k v wr (σ.next+ 1) (some (heads env o.op.operands.toList)))
  | .fieldAddr .. | .indexAddr .. | .nilCheck .. | .move .. | .assign ..=>pval te o.op (getE env) (restH [] σ.get) fun v=>k v [] σ.next (some [])
  | _=>pval te o.op (getE env) (restH (heads env o.op.operands.toList) σ.get) fun v=>k v [] σ.next (some (heads env o.op.operands.toList))
def seen (rd:Option (List Nat)) (h:HF):HF:=match rd with | none=>h | some l=>restH l h
theorem seen_le {rd:Option (List Nat)} {h:HF} {b:Nat} {o:SObj} (hb:seen rd h b=some o):h b=some o:=by
  cases rd
  · exact hb
  · exact (restH_get hb).2
def DidW (P:Program) (I:Imm) (N:Nat) (o:Oper) (g:EF) (h:HF) (v:SV) (wr:List (Nat × SObj)) (lo hi:Nat):Prop:=
  ∀ ρ D a w,EnvOk I N ρ D g a→HRel I ρ D h w→free D lo hi→∀(next:Act→World→Prop) Q,
    (∀ρ' w',Ext ρ D h w ρ' (plus D lo hi) (putsH h wr) w'→HRel I ρ' (plus D lo hi) (putsH h wr) w'→Wf I (plus D lo hi) v→next (a.put o.dst (val ρ' v)) w')→o.wp P a w next Q
theorem dop_pure {te:TE} (hte:TEok P te) {N:Nat} {o:Oper} {g:EF} {h:HF} {n:Nat} {k:SV→R α} {r:α} (hk:pval te o.op g h k=some r):
    ∃v,k v=some r∧DidW P I N o g h v [] n n:=by
  obtain ⟨v,h1,hv⟩:=pval_spec (I:=I) hte hk
  refine ⟨v,h1,fun ρ D a w he hh _ next Q hn=>?_⟩
  obtain ⟨e1,e2⟩:=hv D N ρ a w he hh
  unfold Oper.wp
  rw [e1]
  simp only [plus_same,putsH] at hn
  exact hn ρ w (Ext.refl _ _ _ _) hh e2
theorem dop_spec {te:TE} (hte:TEok P te) {O:ORC α} (hO:OOk P I O) {N:Nat} {o:Oper} {env:Env} {σ:Heap} {k:SV→List (Nat × SObj)→Nat→Option (List Nat)→R α} {r:α} (h:dop te O o env σ k=some r):
    ∃v wr hi rd,k v wr hi rd=some r∧σ.next≤hi∧(∀b,hits b wr=true→(∃x,seen rd σ.get b=some x)∨(σ.next≤b∧b < hi))∧DidW P I N o (getE env) (seen rd σ.get) v wr σ.next hi:=by
  have pureCase:(pval te o.op (getE env) (restH (heads env o.op.operands.toList) σ.get) fun v=>k v [] σ.next (some (heads env o.op.operands.toList)))=some r→
      ∃v wr hi rd,k v wr hi rd=some r∧σ.next≤hi∧(∀b,hits b wr=true→(∃x,seen rd σ.get b=some x)∨(σ.next≤b∧b < hi))∧DidW P I N o (getE env) (seen rd σ.get) v wr σ.next hi:=by
    intro h
    obtain ⟨v,h1,h2⟩:=dop_pure (I:=I) (N:=N) (n:=σ.next) hte h
    exact ⟨v,[],_,_,h1,Nat.le_refl _,fun b hb=>by simp [hits] at hb,h2⟩
  have addrCase:(pval te o.op (getE env) (restH [] σ.get) fun v=>k v [] σ.next (some []))=some r→
      ∃v wr hi rd,k v wr hi rd=some r∧σ.next≤hi∧(∀b,hits b wr=true→(∃x,seen rd σ.get b=some x)∨(σ.next≤b∧b < hi))∧DidW P I N o (getE env) (seen rd σ.get) v wr σ.next hi:=by
    intro h
    obtain ⟨v,h1,h2⟩:=dop_pure (I:=I) (N:=N) (n:=σ.next) hte h
    exact ⟨v,[],_,_,h1,Nat.le_refl _,fun b hb=>by simp [hits] at hb,h2⟩
  have growCase:(∀c,o.op=.call c→c.callee=.builtin .append)→(wgrow te o.op (getE env) (restH (heads env o.op.operands.toList) σ.get) σ.next (fun v=>k v [] σ.next (some (heads env o.op.operands.toList))) (fun v wr=>k v wr (σ.next+ 1) (some (heads env o.op.operands.toList))))=some r→
      ∃v wr hi rd,k v wr hi rd=some r∧σ.next≤hi∧(∀b,hits b wr=true→(∃x,seen rd σ.get b=some x)∨(σ.next≤b∧b < hi))∧DidW P I N o (getE env) (seen rd σ.get) v wr σ.next hi:=by
    intro hop h
    rcases wgrow_spec (I:=I) hte hop h with ⟨v,h1,hv⟩ | ⟨v,wr,h1,hids,hv⟩
    · refine ⟨v,[],_,_,h1,Nat.le_refl _,fun b hb=>by simp [hits] at hb,fun ρ D a w he hh _ next Q hn=>?_⟩
      obtain ⟨e1,e2⟩:=hv D N ρ a w he hh
      unfold Oper.wp
      rw [e1]
      simp only [plus_same,putsH] at hn
      exact hn ρ w (Ext.refl _ _ _ _) hh e2
    · refine ⟨v,wr,_,_,h1,Nat.le_succ _,fun b hb=>?_,fun ρ D a w he hh hfr next Q hn=>?_⟩
      · simp only [hits,List.any_eq_true] at hb
        obtain ⟨x,hx,hb⟩:=hb
        have:=Nat.eq_of_beq_eq_true hb
        subst this
        rcases hids x hx with e | e
        · rw [e]; exact .inr ⟨Nat.le_refl _,Nat.lt_succ_self _⟩
        · exact .inl e
      · obtain ⟨ρ',w',e1,e3,e4,e5⟩:=hv N ρ D (plus D σ.next (σ.next+ 1)) a w he hh (hfr σ.next (Nat.le_refl _) (by simp)) (fun _ h=>.inl h) (.inr (by omega))
        unfold Oper.wp
        rw [e1]
        exact hn ρ' w' e4 e3 e5
  have writeCase:(wval te o.op (getE env) (restH (heads env o.op.operands.toList) σ.get) σ.next fun v b ob=>k v [(b,ob)] (bif Nat.beq b σ.next then σ.next+ 1 else σ.next) (some (heads env o.op.operands.toList)))=some r→
      ∃v wr hi rd,k v wr hi rd=some r∧σ.next≤hi∧(∀b,hits b wr=true→(∃x,seen rd σ.get b=some x)∨(σ.next≤b∧b < hi))∧DidW P I N o (getE env) (seen rd σ.get) v wr σ.next hi:=by
    intro h
    obtain ⟨v,b,ob,h1,hb,hv⟩:=wval_spec (I:=I) hte h
    refine ⟨v,_,_,_,h1,by cases Nat.beq b σ.next<;>simp,fun c hc=>?_,fun ρ D a w he hh hfr next Q hn=>?_⟩
    · simp only [hits,List.any_cons,List.any_nil,Bool.or_false] at hc
      have:=Nat.eq_of_beq_eq_true hc
      subst this
      rcases hb with rfl | hb
      · exact .inr (by simp)
      · exact .inl hb
    · have fin:∀m,(b=σ.next→¬ D σ.next)→(b=σ.next→plus D σ.next m σ.next)→(∀ρ' w',Ext ρ D (seen (some (heads env o.op.operands.toList)) σ.get) w ρ' (plus D σ.next m) (putsH (seen (some (heads env o.op.operands.toList)) σ.get) [(b,ob)]) w'→
          HRel I ρ' (plus D σ.next m) (putsH (seen (some (heads env o.op.operands.toList)) σ.get) [(b,ob)]) w'→Wf I (plus D σ.next m) v→next (a.put o.dst (val ρ' v)) w')→o.wp P a w next Q:=by
        intro m h2 h3 hn
        obtain ⟨ρ',w',nx,e1,e2,e3,e4,e5⟩:=hv N ρ D (plus D σ.next m) a w he hh h2 (fun _ h=>.inl h) h3
        have:=hn ρ' w' e4 e3 e5
        unfold Oper.wp
        rw [e1]
        rcases e2 with rfl | ⟨rfl,rfl⟩
        · exact this
        · exact this
      cases hbn:Nat.beq b σ.next
      · rw [hbn] at hn
        have hbne:b ≠ σ.next:=fun e=>by subst e; rw [Nat.beq_refl] at hbn; cases hbn
        exact fin _ (fun e=>absurd e hbne) (fun e=>absurd e hbne) hn
      · rw [hbn] at hn hfr
        exact fin _ (fun _=>hfr _ (Nat.le_refl _) (by simp)) (fun _=>.inr (by simp)) hn
  unfold dop at h
  simp only [nextK_eq] at h
  split at h
  · rename_i c hop
    split at h
    · rename_i f hcal
      obtain ⟨fv,h1,hf⟩:=ev_spec h
      split at h1<;>try (simp at h1; done)
      rename_i fid first cap
      obtain ⟨args,h2,ha⟩:=evs_spec h1
      obtain ⟨orc,h3,ho⟩:=olook_spec h2 hO
      have hrun:∀ρ D a w,EnvOk I N ρ D (getE env) a→Enters P fid→(execOp a.eval o).run P w=.ok (.enter fid ((first++ args++ cap).map (val ρ)).toArray) w:=by
        intro ρ D a w hs ⟨fn,hfn,hname,hbody⟩
        have e1:=(hf I N ρ _ a hs).1
        have e2:=evs_args (ha I N ρ _ a hs).1
        have e3:a.eval f=.func (.func fid) (first.map (val ρ)).toArray (cap.map (val ρ)).toArray:=by
          rw [e1]; simp [val,pack,SV.isAgg,cells,vals_eq]
        simp only [execOp,hop,resolve,hcal,Sem.run_bind,e3,e2,Deferred.ofValue,Sem.run_pure,Result.andThen_ok,invoke,callFunc,run_program,hfn,hname,hbody,Bool.false_eq_true,if_false]
        simp
      have hrunx:∀ρ D a w,EnvOk I N ρ D (getE env) a→(execOp a.eval o).run P w=(callFunc fid ((first++ args++ cap).map (val ρ)).toArray).run P w:=by
        intro ρ D a w hs
        have e1:=(hf I N ρ _ a hs).1
        have e2:=evs_args (ha I N ρ _ a hs).1
        have e3:a.eval f=.func (.func fid) (first.map (val ρ)).toArray (cap.map (val ρ)).toArray:=by
          rw [e1]; simp [val,pack,SV.isAgg,cells,vals_eq]
        simp only [execOp,hop,resolve,hcal,Sem.run_bind,e3,e2,Deferred.ofValue,Sem.run_pure,Result.andThen_ok,invoke]
        simp
      have hwf:∀ρ D a,EnvOk I N ρ D (getE env) a→∀x ∈ first++ args++ cap,Wf I D x:=by
        intro ρ D a hs x hx
        have e1:=(hf I N ρ _ a hs).2
        have e2:=(ha I N ρ _ a hs).2
        simp only [Wf,wfs_iff] at e1
        rcases List.mem_append.1 hx with hx | hx
        · rcases List.mem_append.1 hx with hx | hx
          · exact e1.1 x hx
          · exact e2 x hx
        · exact e1.2 x hx
      cases orc with
      | pure F=>
        simp only at h3
        obtain ⟨hent,hF⟩:=ho
        obtain ⟨v,h4,hp⟩:=hF _ _ _ h3
        refine ⟨v,_,_,_,h4,Nat.le_refl _,fun b hb=>by simp [hits] at hb,fun ρ D a w he hh _ next Q hn=>?_⟩
        have hc:=hp D (hwf ρ D a he)
        unfold Oper.wp
        rw [hrun ρ D a w he hent]
        simp only [Oper.upon]
        refine (hc ρ _ w hh).mono ?_
        rintro e w' ⟨rfl,hv,hx,hh'⟩
        simp only [plus_same,putsH] at hn
        exact hn ρ w' hx hh' hv
      | full F=>
        simp only at h3
        obtain ⟨hent,hF⟩:=ho
        obtain ⟨v,σ',h4,⟨hg1,l,hg2,hg3⟩,hp⟩:=hF _ _ _ _ h3
        have hl:newW σ' σ=l:=by unfold newW; rw [hg2]; simp
        have hputs:σ'.get=putsH σ.get l:=by unfold Heap.get; rw [hg2]; exact getL_puts _ _
        rw [hl] at h4
        refine ⟨v,_,_,_,h4,hg1,fun b hb=>?_,fun ρ D a w he hh hfr next Q hn=>?_⟩
        · simp only [hits,List.any_eq_true] at hb
          obtain ⟨x,hx,hb⟩:=hb
          have:=Nat.eq_of_beq_eq_true hb
          subst this
          exact hg3 x hx
        · unfold Oper.wp
          rw [hrun ρ D a w he hent]
          simp only [Oper.upon]
          refine (hp ρ D w hh hfr (hwf ρ D a he)).mono ?_
          rintro e w' ⟨ρ',rfl,hx,hh',hv⟩
          rw [hputs] at hh'
          unfold ExtS at hx
          rw [hputs] at hx
          exact hn ρ' w' hx hh' hv
      | ext F=>
        simp only at h3
        obtain ⟨v,σ',h4,⟨hg1,l,hg2,hg3⟩,hp⟩:=ho _ _ _ _ h3
        have hl:newW σ' σ=l:=by unfold newW; rw [hg2]; simp
        have hputs:σ'.get=putsH σ.get l:=by unfold Heap.get; rw [hg2]; exact getL_puts _ _
        rw [hl] at h4
        refine ⟨v,_,_,_,h4,hg1,fun b hb=>?_,fun ρ D a w he hh hfr next Q hn=>?_⟩
        · simp only [hits,List.any_eq_true] at hb
          obtain ⟨x,hx,hb⟩:=hb
          have:=Nat.eq_of_beq_eq_true hb
          subst this
          exact hg3 x hx
        · obtain ⟨ρ',w',e1,hx,hh',hv⟩:=hp ρ D w hh hfr (hwf ρ D a he)
          rw [hputs] at hh'
          unfold ExtS at hx
          rw [hputs] at hx
          unfold Oper.wp
          rw [hrunx ρ D a w he,e1]
          exact hn ρ' w' hx hh' hv
    · exact writeCase h
    · rename_i hcal; exact growCase (fun c' hc'=>by rw [hop] at hc'; cases hc'; exact hcal) h
    · exact pureCase h
  all_goals first
    | (rename_i hop; exact writeCase (by simpa only [hop] using h))
    | (rename_i hop; exact growCase (fun c' hc'=>by rw [hop] at hc'; cases hc') h)
    | exact pureCase h
    | exact addrCase h
end
end Go.Sh
namespace Go.Sh
open Go
section
variable {α:Type} {P:Program} {I:Imm}
abbrev bindsA (e:Edge):Bool:=Region.binds .any e
def rdOld (rd:Option (List Nat)) (b:Nat):Bool:=match rd with | none=>true | some l=>inL b l
def rdNew (rd:Option (List Nat)) (lo hi b:Nat):Bool:=match rd with | none=>!(Nat.ble lo b && Nat.blt b hi) | some l=>inL b l
def confE (qd:Option Nat) (qt:List Nat) (rd:Option Nat) (rt:List Nat):Bool:=
  (match qd with | some d=>inL d rt | none=>false) || (match rd with | some d=>inL d qt || setD qd d | none=>false)
def confD (q r:Rec):Bool:=
  (q.wr.any fun x=>rdOld r.rd x.1) || (r.wr.any fun x=>rdNew q.rd q.hi r.hi x.1) || (q.wr.any fun x=>hits x.1 r.wr)
def conf (q r:Rec):Bool:=confE q.dst q.tm r.dst r.tm || confD q r
def okPair (M:List Nat) (q r:Rec):Bool:=!Nat.beq q.i r.i && (!conf q r || (M.getD r.i 0).testBit q.i)
def okAll (M:List Nat):List Rec→Bool
  | []=>true
  | r::rs=>rs.all (fun q=>okPair M q r) && okAll M rs
def maskOf (acc:List Nat) (o:Oper):Nat:=o.after.toList.foldl (fun m e=>bif bindsA e then (m ||| 2 ^ e.on) ||| acc.getD e.on 0 else m) 0
def masks : List Oper→List Nat→List Nat
  | [],acc=>acc
  | o::l,acc=>masks l (acc++ [maskOf acc o])
def Closed (all:List Oper) (s:Nat→Bool):Prop:=∀(i:Nat) (o:Oper),all[i]?=some o→s i=true→∀e ∈ o.after.toList,bindsA e=true→s e.on=true
def MaskOk (all:List Oper) (acc:List Nat):Prop:=∀(i:Nat) (o:Oper),all[i]?=some o→∀s,Closed all s→(∀e ∈ o.after.toList,bindsA e=true→s e.on=true)→∀j,(acc.getD i 0).testBit j=true→s j=true
theorem maskOf_spec {all:List Oper} {acc:List Nat} (hacc:MaskOk all acc) (hlen:acc.length≤all.length) {o:Oper} {s:Nat→Bool} (hs:Closed all s) (ho:∀e ∈ o.after.toList,bindsA e=true→s e.on=true):
    ∀j,(maskOf acc o).testBit j=true→s j=true:=by
  unfold maskOf
  have gen:∀(l:List Edge) (m:Nat),(∀e ∈ l,bindsA e=true→s e.on=true)→(∀j,m.testBit j=true→s j=true)→∀j,(l.foldl (fun m e=>bif bindsA e then (m ||| 2 ^ e.on) ||| acc.getD e.on 0 else m) m).testBit j=true→s j=true:=by
    intro l
    induction l with
    | nil=>intro m _ hm j hj; exact hm j hj
    | cons e l ih=>
      intro m hl hm
      simp only [List.foldl_cons]
      refine ih _ (fun e' he'=>hl e' (List.mem_cons_of_mem _ he')) fun j hj=>?_
      cases hb:bindsA e<;>rw [hb] at hj
      · exact hm j hj
      · simp only [cond_true,Nat.testBit_or,Bool.or_eq_true,Nat.testBit_two_pow,decide_eq_true_eq] at hj
        have he:=hl e (by simp) hb
        rcases hj with (hj | hj) | hj
        · exact hm j hj
        · rw [← hj]; exact he
        · by_cases hlt:e.on < all.length
          · exact hacc e.on all[e.on] (by simp [hlt]) s hs (hs e.on all[e.on] (by simp [hlt]) he) j hj
          · have:acc.getD e.on 0=0:=by simp [List.getD,List.getElem?_eq_none (show acc.length≤e.on by omega)]
            rw [this] at hj
            simp at hj
  exact gen _ 0 ho (fun j hj=>by simp at hj)
theorem masks_ok {all:List Oper}:∀{l:List Oper} {acc:List Nat},MaskOk all acc→(∀(j:Nat),l[j]?=all[acc.length+ j]?)→MaskOk all (masks l acc)
  | [],acc,h,_=>h
  | o ::l,acc,h,hl=>by
    have h0:all[acc.length]?=some o:=by have:=hl 0; simpa using this.symm
    have hlt:=(List.getElem?_eq_some_iff.1 h0).1
    refine masks_ok (l:=l) ?_ (fun j=>by have:=hl (j+ 1); simpa [Nat.add_assoc,Nat.add_comm 1 j] using this)
    intro i o' ho' s hs hp j hj
    by_cases e:i < acc.length
    · have:(acc++ [maskOf acc o]).getD i 0=acc.getD i 0:=by simp [List.getD,List.getElem?_append_left e]
      rw [this] at hj
      exact h i o' ho' s hs hp j hj
    · by_cases e2:i=acc.length
      · subst e2
        have h3:(acc++ [maskOf acc o]).getD acc.length 0=maskOf acc o:=by simp [List.getD]
        rw [h3] at hj
        rw [h0] at ho'
        cases ho'
        exact maskOf_spec h (by omega) hs hp j hj
      · have:(acc++ [maskOf acc o]).getD i 0=0:=by simp [List.getD,List.getElem?_eq_none (show (acc++ [maskOf acc o]).length≤i by simp; omega)]
        rw [this] at hj
        simp at hj
theorem masks_all (all:List Oper):MaskOk all (masks all []):=masks_ok (fun i o _ s _ _ j hj=>by simp at hj) (fun j=>by simp)
def nx (n:Nat):List Rec→Nat
  | []=>n
  | r::_=>r.hi
def looks (g:EF) (tm:List Nat):EF:=fun t=>bif inL t tm then g t else none
def Good (P:Program) (I:Imm) (N:Nat) (all:List Oper) (n:Nat) (g:EF) (h:HF):List Rec→Prop
  | []=>True
  | r ::rs=>Good P I N all n g h rs∧r.lo=nx n rs∧∃o,all[r.i]?=some o∧o.dst=r.dst∧(∀d,r.dst=some d→d < N)∧(∀e ∈ o.after.toList,bindsA e=true→∃q ∈ rs,q.i=e.on)∧
      Did P I N all o (looks (eF allS g rs) r.tm) (seen r.rd (hF allS h rs)) r.v r.wr r.lo r.hi
theorem Good.nx {N n:Nat} {all:List Oper} {g:EF} {h:HF}:∀{l:List Rec},Good P I N all n g h l→n≤nx n l
  | [],_=>Nat.le_refl _
  | r::rs,⟨h1,h2,o,_,_,_,_,h3⟩=>by
    have:=Good.nx h1
    have:=h3.le
    simp only [Go.Sh.nx]
    omega
theorem Good.range {N n:Nat} {all:List Oper} {g:EF} {h:HF}:∀{l:List Rec},Good P I N all n g h l→∀q ∈ l,n≤q.lo∧q.lo≤q.hi∧q.hi≤Go.Sh.nx n l
  | [],_,q,hq=>by simp at hq
  | r ::rs,⟨h1,h2,o,_,_,_,_,h3⟩,q,hq=>by
    have h4:=h1.nx
    have h5:=h3.le
    rcases List.mem_cons.1 hq with rfl | hq
    · simp only [Go.Sh.nx]; omega
    · have:=Good.range h1 q hq
      simp only [Go.Sh.nx]; omega
theorem Good.app {N n:Nat} {all:List Oper} {g:EF} {h:HF}:∀{l m:List Rec},Good P I N all n g h (l++ m)→Good P I N all n g h m
  | [],_,hg=>hg
  | _::l,m,hg=>Good.app (l:=l) hg.1
theorem Good.newer {N n:Nat} {all:List Oper} {g:EF} {h:HF} {r:Rec} {m:List Rec}:∀{l:List Rec},Good P I N all n g h (l++ r::m)→∀q ∈ l,r.hi≤q.lo
  | [],_,q,hq=>by simp at hq
  | x ::l,⟨h1,h2,o,_,_,_,_,h3⟩,q,hq=>by
    rcases List.mem_cons.1 hq with rfl | hq
    · rw [h2]
      have:=Good.range h1 r (by simp)
      omega
    · exact Good.newer h1 q hq
theorem Good.dom {N n:Nat} {all:List Oper} {g:EF} {h:HF} {b:Nat} {o:SObj}:∀{l:List Rec},Good P I N all n g h l→hF allS h l b=some o→(∃x,h b=some x)∨(n≤b∧b < Go.Sh.nx n l)
  | [],_,hb=>.inl ⟨o,hb⟩
  | r ::rs,⟨h1,h2,o',_,_,_,_,h3⟩,hb=>by
    have h4:=h1.nx
    have h5:=h3.le
    have old:∀x,hF allS h rs b=some x→(∃x,h b=some x)∨(n≤b∧b < Go.Sh.nx n (r::rs)):=fun x hx=>by
      rcases Good.dom h1 hx with h6 | h6
      · exact .inl h6
      · exact .inr (by simp only [Go.Sh.nx] at *; omega)
    simp only [hF,cond_true] at hb
    cases e:hits b r.wr
    · rw [puts_off e] at hb; exact old o hb
    · rcases h3.ids b e with ⟨x,hx⟩ | hx
      · exact old x (seen_le hx)
      · exact .inr (by simp only [Go.Sh.nx]; omega)
end
end Go.Sh
namespace Go.Sh
open Go
section
variable {α:Type} {P:Program} {I:Imm}
theorem okAll_older {M:List Nat} {r:Rec} {m:List Rec}:∀{l:List Rec},okAll M (l++ r::m)=true→∀q ∈ m,okPair M q r=true
  | [],h,q,hq=>by simp only [List.nil_append,okAll,Bool.and_eq_true,List.all_eq_true] at h; exact h.1 q hq
  | x::l,h,q,hq=>by simp only [List.cons_append,okAll,Bool.and_eq_true] at h; exact okAll_older h.2 q hq
theorem okAll_newer {M:List Nat} {r:Rec} {m:List Rec}:∀{l:List Rec},okAll M (l++ r::m)=true→∀q ∈ l,okPair M r q=true
  | [],_,q,hq=>by simp at hq
  | x::l,h,q,hq=>by
    simp only [List.cons_append,okAll,Bool.and_eq_true,List.all_eq_true] at h
    rcases List.mem_cons.1 hq with rfl | hq
    · exact h.1 r (by simp)
    · exact okAll_newer h.2 q hq
theorem okPair_ne {M:List Nat} {q r:Rec} (h:okPair M q r=true):q.i ≠ r.i:=fun e=>by
  simp only [okPair,e,Nat.beq_refl,Bool.not_true,Bool.false_and] at h; cases h
theorem okPair_bit {M:List Nat} {q r:Rec} (h:okPair M q r=true) (hc:conf q r=true):(M.getD r.i 0).testBit q.i=true:=by
  simp only [okPair,hc,Bool.not_true,Bool.false_or,Bool.and_eq_true] at h; exact h.2
theorem Good.op {N n:Nat} {all:List Oper} {g:EF} {h:HF}:∀{l:List Rec},Good P I N all n g h l→∀q ∈ l,∃o,all[q.i]?=some o
  | [],_,q,hq=>by simp at hq
  | r::rs,⟨h1,_,o,h2,_⟩,q,hq=>by
    rcases List.mem_cons.1 hq with rfl | hq
    · exact ⟨o,h2⟩
    · exact Good.op h1 q hq
def JJ (I:Imm) (N:Nat) (recs:List Rec) (g:EF) (h:HF) (ρ0:Nat→Pl) (D0:Nat→Prop) (w0:World) (s:Nat→Bool) (a:Act) (w:World):Prop:=
  ∃ρ,EnvOk I N ρ (dF s D0 recs) (eF s g recs) a∧HRel I ρ (dF s D0 recs) (hF s h recs) w∧Ext ρ0 D0 h w0 ρ (dF s D0 recs) (hF s h recs) w
theorem sets_spec {r:Rec} {t:Nat} (h:r.sets t=true):r.dst=some t:=by
  unfold Rec.sets setD at h
  split at h
  · rename_i d hd; rw [hd,Nat.eq_of_beq_eq_true h]
  · cases h
theorem hits_spec {b:Nat} {l:List (Nat × SObj)} (h:hits b l=true):∃x ∈ l,x.1=b:=by
  simp only [hits,List.any_eq_true] at h
  obtain ⟨x,hx,e⟩:=h
  exact ⟨x,hx,Nat.eq_of_beq_eq_true e⟩
theorem step_any {N n:Nat} {all:List Oper} {g:EF} {h:HF} {M:List Nat} {newer older:List Rec} {r:Rec} {o:Oper} {ρ0:Nat→Pl} {D0:Nat→Prop} {w0:World}
    (hgood:Good P I N all n g h (newer++ r::older)) (hok:okAll M (newer++ r::older)=true) (hM:MaskOk all M) (hfr:free D0 n (nx n (newer++ r::older))) (hdom:∀b x,h b=some x→D0 b)
    {s:Nat→Bool} (hcl:Closed all s) (ho:all[r.i]?=some o) (hs:s r.i=false) (hpre:∀e ∈ o.after.toList,bindsA e=true→s e.on=true)
    {a:Act} {w:World} (hJ:JJ I N (newer++ r::older) g h ρ0 D0 w0 s a w) {K:Act→World→Prop} {Q:Exit→Act→World→Prop}
    (hK:∀a' w',JJ I N (newer++ r::older) g h ρ0 D0 w0 (addS s r.i) a' w'→K a' w'):
    if Region.wanted o (yielded all.toArray a.tmps) then o.wp P a w K Q else K (a.put o.dst undef) w:=by
  obtain ⟨ρ,he,hh,hx0⟩:=hJ
  obtain ⟨hg1,hlo,o',ho',hdst,hdN,_,hdid⟩:=hgood.app
  rw [ho] at ho'; cases ho'
  have rng:=hgood.range
  have rngr:=rng r (by simp)
  -- what meddles is ordered
  have old:∀q ∈ older,conf q r=true→s q.i=true:=fun q hq hc=>hM r.i o ho s hcl hpre q.i (okPair_bit (okAll_older hok q hq) hc)
  have new:∀q ∈ newer,conf r q=true→s q.i=false:=fun q hq hc=>by
    cases e:s q.i
    · rfl
    · obtain ⟨oq,hoq⟩:=hgood.op q (by simp [hq])
      have:=hM q.i oq hoq s hcl (hcl q.i oq hoq e) r.i (okPair_bit (okAll_newer hok q hq) hc)
      rw [hs] at this; cases this
  have neOld:∀q ∈ older,q.i ≠ r.i:=fun q hq=>okPair_ne (okAll_older hok q hq)
  have neNew:∀q ∈ newer,q.i ≠ r.i:=fun q hq e=>okPair_ne (okAll_newer hok q hq) e.symm
  have add_ne:∀q:Rec,q.i ≠ r.i→addS s r.i q.i=s q.i:=fun q hq=>by
    have:Nat.beq r.i q.i=false:=by cases e:Nat.beq r.i q.i; rfl; exact absurd (Nat.eq_of_beq_eq_true e).symm hq
    simp [addS,this]
  have add_r:addS s r.i r.i=true:=by simp [addS]
  -- what it looks at is as it was
  have A1:∀t v,looks (eF allS g older) r.tm t=some v→eF s g (newer++ r::older) t=some v:=fun t v ht=>by
    unfold looks at ht
    cases e:inL t r.tm<;>rw [e] at ht
    · cases ht
    · simp only [cond_true] at ht
      rw [eF_skip fun q hq hq2=>new q hq (by simp [conf,confE,Rec.sets,setD,sets_spec hq2,e])]
      simp only [eF,hs,Bool.false_and,cond_false]
      rw [eF_congr (s':=allS) fun q hq hq2=>old q hq (by simp [conf,confE,Rec.sets,setD,sets_spec hq2,e])]
      exact ht
  have A2 : ∀ b x,seen r.rd (hF allS h older) b=some x→hF s h (newer++ r::older) b=some x:=fun b x hb=>by
    have hb2:=seen_le hb
    rw [hF_skip fun q hq hq2=>new q hq ?_]
    · simp only [hF,hs,cond_false]
      rw [hF_congr (s':=allS) fun q hq hq2=>old q hq ?_]
      · exact hb2
      · obtain ⟨y,hy,rfl⟩:=hits_spec hq2
        have:(q.wr.any fun x=>rdOld r.rd x.1)=true:=by
          rw [List.any_eq_true]
          refine ⟨y,hy,?_⟩
          cases hrd:r.rd with
          | none=>simp [rdOld]
          | some l=>rw [hrd] at hb; exact (restH_get hb).1
        simp only [conf,confD,this,Bool.or_true,Bool.true_or]
    · obtain ⟨y,hy,rfl⟩:=hits_spec hq2
      have:(q.wr.any fun x=>rdNew r.rd r.hi q.hi x.1)=true:=by
        rw [List.any_eq_true]
        refine ⟨y,hy,?_⟩
        cases hrd:r.rd with
        | some l=>rw [hrd] at hb; exact (restH_get hb).1
        | none=>
          simp only [rdNew,Bool.not_eq_true',Bool.and_eq_false_iff]
          have hqr:=rng q (by simp [hq])
          have hnx:r.lo=nx n older:=hlo
          rcases hg1.dom hb2 with ⟨z,hz⟩ | hz
          · have:=hfr y.1 
            cases e1:Nat.ble r.hi y.1
            · exact .inl rfl
            · cases e2:Nat.blt y.1 q.hi
              · exact .inr rfl
              · have e1':=Nat.le_of_ble_eq_true e1
                have e2':y.1 < q.hi:=by simpa using e2
                exact absurd (hdom _ _ hz) (this (by omega) (by omega))
          · cases e1:Nat.ble r.hi y.1
            · exact .inl rfl
            · have e1':=Nat.le_of_ble_eq_true e1
              omega
      simp only [conf,confD,this,Bool.or_true,Bool.true_or]
  have A3:free (dF s D0 (newer++ r::older)) r.lo r.hi:=fun c h1 h2 h3=>by
    rcases h3 with h3 | ⟨q,hq,h4,h5,h6⟩
    · exact hfr c (by omega) (by omega) h3
    · rcases List.mem_append.1 hq with hq | hq
      · have:=hgood.newer q hq; omega
      · rcases List.mem_cons.1 hq with rfl | hq
        · rw [hs] at h4; cases h4
        · have:=hg1.range q hq; omega
  have A4:∀t,eF (addS s r.i) g (newer++ r::older) t=bif r.sets t then some r.v else eF s g (newer++ r::older) t:=fun t=>by
    cases e:r.sets t
    · simp only [cond_false]
      refine eF_congr fun q hq hq2=>add_ne q ?_
      rcases List.mem_append.1 hq with hq | hq
      · exact neNew q hq
      · rcases List.mem_cons.1 hq with rfl | hq
        · rw [e] at hq2; cases hq2
        · exact neOld q hq
    · rw [eF_skip fun q hq hq2=>(add_ne q (neNew q hq)).trans (new q hq (by simp [conf,confE,sets_spec hq2,setD,sets_spec e]))]
      simp only [eF,add_r,e,Bool.true_and,cond_true]
  have A5:hF (addS s r.i) h (newer++ r::older)=putsH (hF s h (newer++ r::older)) r.wr:=by
    funext b
    cases e:hits b r.wr
    · rw [puts_off e]
      refine hF_congr fun q hq hq2=>add_ne q ?_
      rcases List.mem_append.1 hq with hq | hq
      · exact neNew q hq
      · rcases List.mem_cons.1 hq with rfl | hq
        · rw [e] at hq2; cases hq2
        · exact neOld q hq
    · rw [hF_skip fun q hq hq2=>(add_ne q (neNew q hq)).trans (new q hq ?_)]
      · simp only [hF,add_r,cond_true]
        exact puts_on e
      · obtain ⟨y,hy,hyb⟩:=hits_spec e
        have:(r.wr.any fun x=>hits x.1 q.wr)=true:=by rw [List.any_eq_true]; exact ⟨y,hy,by rw [hyb]; exact hq2⟩
        simp only [conf,confD,this,Bool.or_true]
  have A6 : dF (addS s r.i) D0 (newer++ r::older)=plus (dF s D0 (newer++ r::older)) r.lo r.hi:=by
    funext c
    simp only [dF,plus,eq_iff_iff]
    constructor
    · rintro (h1 | ⟨q,hq,h2,h3⟩)
      · exact .inl (.inl h1)
      · by_cases e:q.i=r.i
        · have:q=r:=by
            rcases List.mem_append.1 hq with hq | hq
            · exact absurd e (neNew q hq)
            · rcases List.mem_cons.1 hq with rfl | hq
              · rfl
              · exact absurd e (neOld q hq)
          subst this
          exact .inr h3
        · rw [add_ne q e] at h2
          exact .inl (.inr ⟨q,hq,h2,h3⟩)
    · rintro ((h1 | ⟨q,hq,h2,h3⟩) | h1)
      · exact .inl h1
      · exact .inr ⟨q,hq,by simp [addS,h2],h3⟩
      · exact .inr ⟨r,by simp,add_r,h1⟩
  have close:∀ρ' w',EnvOk I N ρ' (plus (dF s D0 (newer++ r::older)) r.lo r.hi) (eF s g (newer++ r::older)) a→Wf I (plus (dF s D0 (newer++ r::older)) r.lo r.hi) r.v→
      HRel I ρ' (plus (dF s D0 (newer++ r::older)) r.lo r.hi) (putsH (hF s h (newer++ r::older)) r.wr) w'→Ext ρ (dF s D0 (newer++ r::older)) (hF s h (newer++ r::older)) w ρ' (plus (dF s D0 (newer++ r::older)) r.lo r.hi) (putsH (hF s h (newer++ r::older)) r.wr) w'→
      K (a.put o.dst (val ρ' r.v)) w':=by
    intro ρ' w' he' hv hh' hx
    refine hK _ _ ⟨ρ',?_,by rw [A5,A6]; exact hh',by rw [A5,A6]; exact hx0.trans hx⟩
    rw [A6,hdst]
    cases hd:r.dst with
    | none=>
      refine he'.less fun t v ht=>?_
      rw [A4] at ht
      simpa [Rec.sets,setD,hd] using ht
    | some d=>
      refine (he'.put (hdN d hd) hv).less fun t v ht=>?_
      rw [A4] at ht
      simpa [Rec.sets,setD,hd,putE] using ht
  rcases hdid.run ρ _ a w (he.less A1) (hh.less A2) A3 with ⟨hw,hrun⟩ | ⟨hw,hv,hwr,hhi⟩
  · rw [if_pos hw]
    refine hrun _ _ fun ρ' w' hx hh' hv=>?_
    obtain ⟨f1,f2⟩:=frame hh A2 hx hh'
    exact close ρ' w' (he.ext f2.le f2.agree) hv f1 f2
  · rw [if_neg (by rw [hw]; simp)]
    have hlh:r.hi=r.lo:=hhi
    have:=close ρ w (by rw [hlh,plus_same]; exact he) (by rw [hv]; simp [Wf,Wfs]) (by rw [hlh,plus_same,hwr]; exact hh) (by rw [hlh,plus_same,hwr]; exact Ext.refl _ _ _ _)
    rw [hv] at this
    exact this
end
end Go.Sh
namespace Go.Sh
open Go
section
variable {α:Type} {P:Program} {I:Imm}
abbrev sOf (listed:Array Bool):Nat→Bool:=fun i=>listed.getD i false
theorem eF_none {g:EF} {l:List Rec}:eF (fun _=>false) g l=g:=by
  funext t
  have:=eF_skip (s:=fun _=>false) (g:=g) (t:=t) (m:=[]) (l:=l) (fun _ _ _=>rfl)
  simpa [eF] using this
theorem hF_none {h:HF} {l:List Rec}:hF (fun _=>false) h l=h:=by
  funext b
  have:=hF_skip (s:=fun _=>false) (g:=h) (b:=b) (m:=[]) (l:=l) (fun _ _ _=>rfl)
  simpa [hF] using this
theorem dF_none {D:Nat→Prop} {l:List Rec}:dF (fun _=>false) D l=D:=by
  funext c; simp [dF]
theorem dF_all {N n:Nat} {all:List Oper} {g:EF} {h:HF} {D:Nat→Prop}:∀{l:List Rec},Good P I N all n g h l→dF allS D l=plus D n (nx n l)
  | [],_=>by rw [nx,plus_same]; funext c; simp [dF]
  | r ::rs,⟨h1,h2,o,_,_,_,_,h3⟩=>by
    have ih:=dF_all (D:=D) h1
    have e:dF allS D (r::rs)=plus (dF allS D rs) r.lo r.hi:=by
      funext c
      simp only [dF,plus,eq_iff_iff,List.mem_cons]
      constructor
      · rintro (h4 | ⟨q,rfl | hq,h5,h6⟩)
        · exact .inl (.inl h4)
        · exact .inr h6
        · exact .inl (.inr ⟨q,hq,trivial,h6⟩)
      · rintro ((h4 | ⟨q,hq,h5,h6⟩) | h4)
        · exact .inl h4
        · exact .inr ⟨q,.inr hq,trivial,h6⟩
        · exact .inr ⟨r,.inl rfl,trivial,h4⟩
    have:=h3.le
    rw [e,ih,h2,plus_plus h1.nx (by omega)]
    rfl
theorem any_all {N n:Nat} {all:List Oper} {g:EF} {h:HF} {M:List Nat} {recs:List Rec} {ρ0:Nat→Pl} {D0:Nat→Prop} {w0:World}
    (hgood:Good P I N all n g h recs) (hok:okAll M recs=true) (hM:MaskOk all M) (hcov:∀i,i < all.length→∃r ∈ recs,r.i=i) (hfr:free D0 n (nx n recs)) (hdom:∀b x,h b=some x→D0 b)
    {Q:Exit→Act→World→Prop} (hQ:∀a w,JJ I N recs g h ρ0 D0 w0 allS a w→Q .normal a w):
    ∀ (fuel:Nat) (listed:Array Bool) (a:Act) (w:World),listed.size=all.length→((List.range all.length).filter fun i=>!listed.getD i true).length≤fuel→Closed all (sOf listed)→
      JJ I N recs g h ρ0 D0 w0 (sOf listed) a w→wpAny P .any all.toArray Q fuel listed a w:=by
  have done : ∀ (listed:Array Bool) (a:Act) (w:World),listed.size=all.length→JJ I N recs g h ρ0 D0 w0 (sOf listed) a w→Region.ready .any all.toArray listed=[]→Q .normal a w:=by
    intro listed a w hsz hJ hr
    have hall : ∀l,(∃m,recs=m++ l)→∀q ∈ l,sOf listed q.i=true:=by
      intro l
      induction l with
      | nil=>intro _ q hq; simp at hq
      | cons r rs ih=>
        rintro ⟨m,rfl⟩ q hq
        have ih':=ih ⟨m++ [r],by simp⟩
        rcases List.mem_cons.1 hq with rfl | hq
        · obtain ⟨_,_,o,ho,_,_,hpre,_⟩:=hgood.app
          cases e:sOf listed q.i
          · exfalso
            have hlt:q.i < listed.size:=by rw [hsz]; exact (List.getElem?_eq_some_iff.1 ho).1
            have hin:q.i ∈ Region.ready .any all.toArray listed:=by
              refine mem_ready.2 ⟨?_,o,by simpa using ho,fun e he hb=>?_⟩
              · simp only [sOf,Array.getD_eq_getD_getElem?] at e ⊢
                simp only [hlt,getElem?_pos,Option.getD_some] at e ⊢
                exact e
              · obtain ⟨q',hq',e'⟩:=hpre e (by simpa using he) hb
                have:=ih' q' hq'
                rw [e'] at this
                exact this
            rw [hr] at hin; cases hin
          · rfl
        · exact ih' q hq
    have hsel:=hall recs ⟨[],rfl⟩
    obtain ⟨ρ,he,hh,hx⟩:=hJ
    have e1:eF (sOf listed) g recs=eF allS g recs:=by funext t; exact eF_congr fun q hq _=>hsel q hq
    have e2:hF (sOf listed) h recs=hF allS h recs:=by funext t; exact hF_congr fun q hq _=>hsel q hq
    have e3:dF (sOf listed) D0 recs=dF allS D0 recs:=by
      funext c; simp only [dF,eq_iff_iff]
      constructor
      · rintro (h1 | ⟨q,hq,_,h2⟩)
        · exact .inl h1
        · exact .inr ⟨q,hq,trivial,h2⟩
      · rintro (h1 | ⟨q,hq,_,h2⟩)
        · exact .inl h1
        · exact .inr ⟨q,hq,hsel q hq,h2⟩
    rw [e1,e3] at he
    rw [e2,e3] at hh hx
    exact hQ a w ⟨ρ,he,hh,hx⟩
  intro fuel
  induction fuel with
  | zero=>
    intro listed a w hsz hf hcl hJ
    have hr:Region.ready .any all.toArray listed=[]:=by
      cases e:Region.ready .any all.toArray listed with
      | nil=>rfl
      | cons x xs=>
        exfalso
        have hx:x ∈ Region.ready .any all.toArray listed:=by rw [e]; simp
        obtain ⟨h1,o,h2,_⟩:=mem_ready.1 hx
        have hlt:x < all.length:=by have:=(Array.getElem?_eq_some_iff.1 h2).1; simpa using this
        have:x ∈ (List.range all.length).filter fun i=>!listed.getD i true:=by
          rw [List.mem_filter]; exact ⟨List.mem_range.2 hlt,by rw [h1]; rfl⟩
        have hnil:(List.range all.length).filter (fun i=>!listed.getD i true)=[]:=List.eq_nil_of_length_eq_zero (by omega)
        rw [hnil] at this; cases this
    exact ⟨hr,done listed a w hsz hJ hr⟩
  | succ fuel ih=>
    intro listed a w hsz hf hcl hJ
    refine ⟨done listed a w hsz hJ,fun i hi=>?_⟩
    obtain ⟨h1,o,h2,h3⟩:=mem_ready.1 hi
    have ho:all[i]?=some o:=by simpa using h2
    have hlt:=(List.getElem?_eq_some_iff.1 ho).1
    have hls:i < listed.size:=by omega
    obtain ⟨r,hr,rfl⟩:=hcov i hlt
    obtain ⟨newer,older,rfl⟩:=List.append_of_mem hr
    have hs:sOf listed r.i=false:=by
      simp only [sOf,Array.getD_eq_getD_getElem?] at h1 ⊢
      simp only [hls,getElem?_pos,Option.getD_some] at h1 ⊢
      exact h1
    have hset:sOf (listed.setIfInBounds r.i true)=addS (sOf listed) r.i:=by
      funext j
      simp only [sOf,addS,Array.getD_eq_getD_getElem?]
      by_cases e:r.i=j
      · subst e; simp [hls]
      · have:Nat.beq r.i j=false:=by cases e2:Nat.beq r.i j; rfl; exact absurd (Nat.eq_of_beq_eq_true e2) e
        rw [Array.getElem?_setIfInBounds_ne e,this]; simp
    have hpre:∀e ∈ o.after.toList,bindsA e=true→sOf listed e.on=true:=fun e he hb=>h3 e (by simpa using he) hb
    have hcl':Closed all (sOf (listed.setIfInBounds r.i true)):=by
      rw [hset]
      intro j oj hoj hj e he hb
      simp only [addS,Bool.or_eq_true] at hj ⊢
      rcases hj with hj | hj
      · exact .inl (hcl j oj hoj hj e he hb)
      · have:=Nat.eq_of_beq_eq_true hj
        subst this
        rw [ho] at hoj; cases hoj
        exact .inl (hpre e he hb)
    have hcnt:((List.range all.length).filter fun j=>!(listed.setIfInBounds r.i true).getD j true).length≤fuel:=by
      have e:((List.range all.length).filter fun j=>!(listed.setIfInBounds r.i true).getD j true)=(((List.range all.length).filter fun j=>!listed.getD j true).filter fun j=>!Nat.beq r.i j):=by
        rw [List.filter_filter]
        congr 1
        funext j
        by_cases e:r.i=j
        · subst e; simp [hls]
        · have:Nat.beq r.i j=false:=by cases e2:Nat.beq r.i j; rfl; exact absurd (Nat.eq_of_beq_eq_true e2) e
          rw [getD_set_ne true e,this]; simp
      rw [e]
      have hlt2:(((List.range all.length).filter fun j=>!listed.getD j true).filter fun j=>!Nat.beq r.i j).length < ((List.range all.length).filter fun j=>!listed.getD j true).length:=by
        rw [List.length_filter_lt_length_iff_exists]
        exact ⟨r.i,by rw [List.mem_filter]; exact ⟨List.mem_range.2 hlt,by rw [h1]; rfl⟩,by simp⟩
      omega
    have st:=step_any hgood hok hM hfr hdom hcl ho hs hpre hJ (K:=wpAny P .any all.toArray Q fuel (listed.setIfInBounds r.i true)) (Q:=Q) fun a' w' hJ'=>
      ih _ a' w' (by simpa using hsz) hcnt hcl' (by rw [hset]; exact hJ')
    unfold wpOp
    simp only [h2]
    by_cases hw:Region.wanted o (yielded all.toArray a.tmps)=true
    · rw [if_pos hw] at st ⊢; exact .inl st
    · rw [if_neg hw] at st ⊢; exact st
end
end Go.Sh
namespace Go.Sh
open Go
section
variable {α:Type} {P:Program} {I:Imm}
def opTmps : List Operand→List Nat
  | []=>[]
  | .tmp t::l=>t::opTmps l
  | _::l=>opTmps l
def tmOf (all:List Oper) (o:Oper):List Nat:=
  match o.guard with
  | none=>opTmps o.op.operands.toList
  | some (j,_)=>match dstOf all j with
    | none=>opTmps o.op.operands.toList
    | some d=>d::opTmps o.op.operands.toList
def dguard (all:List Oper) (o:Oper) (env:Env) (run skip:Env→R α):R α:=
  match o.guard with
  | none=>run env
  | some (j,want)=>match dstOf all j with
    | none=>none
    | some d=>match getE env d with
      | some (.bool g)=>cond g (cond want (run ((d,.bool true)::env)) (skip ((d,.bool true)::env))) (cond want (skip ((d,.bool false)::env)) (run ((d,.bool false)::env)))
      | some (.tuple _)=>skip env
      | _=>none
def allB {β:Type} (p:β→Bool):List β→Bool
  | []=>true
  | x::l=>cond (p x) (allB p l) false
def anyB {β:Type} (p:β→Bool):List β→Bool
  | []=>false
  | x::l=>cond (p x) true (anyB p l)
theorem anyB_eq {β:Type} (p:β→Bool):∀l:List β,anyB p l=l.any p
  | []=>rfl
  | x::l=>by simp only [anyB,anyB_eq p l,List.any_cons]; cases p x<;>rfl
def bfO (rd:Option (List Nat)) (b:Nat):Bool:=match rd with | none=>true | some l=>inL b l
def bfN (rd:Option (List Nat)) (lo hi b:Nat):Bool:=match rd with | none=>cond (Nat.ble lo b) (cond (Nat.blt b hi) false true) true | some l=>inL b l
def confB (q r:Rec):Bool:=
  cond (anyB (fun x=>bfO r.rd x.1) q.wr) true (cond (anyB (fun x=>bfN q.rd q.hi r.hi x.1) r.wr) true (anyB (fun x=>anyB (fun y=>Nat.beq y.1 x.1) r.wr) q.wr))
theorem confB_eq (q r:Rec):confB q r=confD q r:=by
  have e1:∀x,bfO r.rd x=rdOld r.rd x:=fun x=>by cases h:r.rd<;>rfl
  have e2:∀x,bfN q.rd q.hi r.hi x=rdNew q.rd q.hi r.hi x:=fun x=>by
    cases h:q.rd with
    | none=>simp only [bfN,rdNew]; cases Nat.ble q.hi x<;>cases Nat.blt x r.hi<;>rfl
    | some l=>rfl
  unfold confB confD
  simp only [anyB_eq,e1,e2,hits]
  cases (q.wr.any fun x=>rdOld r.rd x.1)<;>cases (r.wr.any fun x=>rdNew q.rd q.hi r.hi x.1)<;>rfl
def bit (M:List Nat) (r q:Nat):Bool:=(M.getD r 0).testBit q
def dynOne (M:List Nat) (i:Nat) (r:Rec):List Nat→List Rec→Bool
  | j::js,q::qs=>cond (confB q r) (cond (bit M i j) (dynOne M i r js qs) false) (dynOne M i r js qs)
  | _,_=>true
def dynAll (M:List Nat):List Nat→List Rec→Bool
  | i::is,r::rs=>cond (dynOne M i r is rs) (dynAll M is rs) false
  | _,_=>true
def dops (te:TE) (O:ORC α) (N:Nat) (all:List Oper) (M:List Nat):List (Nat × Oper)→List Nat→List Rec→Env→Heap→(Env→Heap→R α)→R α
  | [],is,recs,env,σ,k=>bif dynAll M is recs then k env σ else none
  | (i, o)::rest,is,recs,env,σ,k=>
      dguard all o env
        (fun env=>dop te O o (restr (tmOf all o) env) σ fun v wr hi rd=>putK N o.dst v env fun env'=>
          dops te O N all M rest (i::is) (⟨i,o.dst,v,wr,σ.next,hi,rd,tmOf all o⟩::recs) env' ⟨hi,wr++ σ.blocks⟩ k)
        (fun env=>putK N o.dst (.tuple []) env fun env'=>
          dops te O N all M rest (i::is) (⟨i,o.dst,.tuple [],[],σ.next,σ.next,some [],tmOf all o⟩::recs) env' σ k)
abbrev Tri :=Nat × Option Nat × List Nat
def triI (all:List Oper) (x:Nat × Oper):Tri:=(x.1,x.2.dst,tmOf all x.2)
def triR (r:Rec):Tri:=(r.i,r.dst,r.tm)
def okPairE (M:List Nat) (q r:Tri):Bool:=!Nat.beq q.1 r.1 && (!confE q.2.1 q.2.2 r.2.1 r.2.2 || (M.getD r.1 0).testBit q.1)
def okE (M:List Nat):List Tri→Bool
  | []=>true
  | r::rs=>rs.all (fun q=>okPairE M q r) && okE M rs
def topo : List (Nat × Oper)→List Nat→Bool
  | [],_=>true
  | (i,o)::l,d=>(o.after.toList.all fun e=>!bindsA e || d.any fun j=>Nat.beq j e.on) && topo l (i::d)
theorem dynOne_spec {M:List Nat} {i:Nat} {r:Rec}:∀{l:List Rec},dynOne M i r (l.map (·.i)) l=true→∀q ∈ l,confD q r=true→(M.getD i 0).testBit q.i=true
  | [],_,q,hq,_=>by simp at hq
  | x ::l,h,q,hq,hc=>by
    simp only [List.map_cons,dynOne] at h
    rcases List.mem_cons.1 hq with rfl | hq
    · rw [confB_eq,hc] at h
      simp only [cond_true] at h
      cases e:bit M i q.i<;>rw [e] at h
      · cases h
      · exact e
    · refine dynOne_spec (l:=l) ?_ q hq hc
      cases e:confB x r<;>rw [e] at h
      · exact h
      · simp only [cond_true] at h
        cases e2:bit M i x.i<;>rw [e2] at h
        · cases h
        · exact h
theorem okAll_of {M:List Nat}:∀{l:List Rec},okE M (l.map triR)=true→dynAll M (l.map (·.i)) l=true→okAll M l=true
  | [],_,_=>rfl
  | r ::rs,h1,h2=>by
    simp only [List.map_cons,okE,Bool.and_eq_true,List.all_eq_true,List.mem_map] at h1
    simp only [List.map_cons,dynAll] at h2
    have h2':dynOne M r.i r (rs.map (·.i)) rs=true∧dynAll M (rs.map (·.i)) rs=true:=by
      cases e:dynOne M r.i r (rs.map (·.i)) rs<;>rw [e] at h2
      · cases h2
      · exact ⟨rfl,h2⟩
    obtain ⟨h3,h4⟩:=h2'
    simp only [okAll,Bool.and_eq_true,List.all_eq_true]
    refine ⟨fun q hq=>?_,okAll_of h1.2 h4⟩
    have a1:=h1.1 (triR q) ⟨q,hq,rfl⟩
    have a2:=dynOne_spec h3 q hq
    simp only [okPairE,triR,Bool.and_eq_true] at a1
    simp only [okPair,Bool.and_eq_true]
    refine ⟨a1.1,?_⟩
    cases e1:confE q.dst q.tm r.dst r.tm
    · cases e2:confD q r
      · simp [conf,e1,e2]
      · have:=a2 e2
        rw [this]; simp
    · rw [e1] at a1
      simpa using .inr (by simpa using a1.2)
structure Inv (P:Program) (I:Imm) (N:Nat) (all:List Oper) (n:Nat) (g:EF) (h:HF) (recs:List Rec) (env:Env) (σ:Heap):Prop where
  good:Good P I N all n g h recs
  env:getE env=eF allS g recs
  heap:σ.get=hF allS h recs
  next:σ.next=nx n recs
theorem getE_same {env:Env} {d:Nat} {v:SV} (h:getE env d=some v):getE ((d,v)::env)=getE env:=by
  funext t
  rw [getE_cons]
  unfold putE
  cases e:Nat.beq d t
  · rfl
  · have:=Nat.eq_of_beq_eq_true e
    subst this
    rw [h]; rfl
theorem putK_env {β:Type} {N:Nat} {d:Option Nat} {v:SV} {env:Env} {k:Env→R β} {r:β} (h:putK N d v env k=some r):
    ∃env',k env'=some r∧(∀t,getE env' t=bif setD d t then some v else getE env t)∧∀x,d=some x→x < N:=by
  cases d with
  | none=>exact ⟨env,by simpa [putK] using h,fun t=>rfl,fun x hx=>by cases hx⟩
  | some d=>
    simp only [putK] at h
    obtain ⟨h1,h2⟩:=bif_some h
    exact ⟨_,h2,fun t=>rfl,fun x hx=>by cases hx; simpa using h1⟩
theorem inL_head {d:Nat} {l:List Nat}:inL d (d::l)=true:=by simp [inL]
theorem yielded_of' {all:List Oper} {j d:Nat} (h:dstOf all j=some d) {N:Nat} {ρ:Nat→Pl} {D:Nat→Prop} {g:EF} {a:Act} (he:EnvOk I N ρ D g a) {b:Bool} (hg:g d=some (.bool b)):
    yielded all.toArray a.tmps j=some b:=by
  rw [dstOf_spec] at h
  have e:=(he.env _ _ hg).1
  simp only [yielded,List.getElem?_toArray,h,Option.bind_some,e,val_bool]
theorem yielded_none' {all:List Oper} {j d:Nat} (h:dstOf all j=some d) {N:Nat} {ρ:Nat→Pl} {D:Nat→Prop} {g:EF} {a:Act} (he:EnvOk I N ρ D g a) {l:List SV} (hg:g d=some (.tuple l)):
    yielded all.toArray a.tmps j=none:=by
  rw [dstOf_spec] at h
  have e:=(he.env _ _ hg).1
  simp only [yielded,List.getElem?_toArray,h,Option.bind_some,e,val]
theorem dops_spec {te:TE} (hte:TEok P te) {O:ORC α} (hO:OOk P I O) {N n:Nat} {all:List Oper} {M:List Nat} {g:EF} {h:HF} {k:Env→Heap→R α} {r:α}:∀{items:List (Nat × Oper)} {recs:List Rec} {env:Env} {σ:Heap},
    (∀x ∈ items,all[x.1]?=some x.2)→topo items (recs.map (·.i))=true→Inv P I N all n g h recs env σ→dops te O N all M items (recs.map (·.i)) recs env σ k=some r→
    ∃recs' env' σ',k env' σ'=some r∧Inv P I N all n g h recs' env' σ'∧Grow σ σ'∧dynAll M (recs'.map (·.i)) recs'=true∧recs'.map triR=(items.map (triI all)).reverse++ recs.map triR
  | [],recs,env,σ,_,_,hi,hk=>by
    simp only [dops] at hk
    obtain ⟨h1,h2⟩:=bif_some hk
    exact ⟨recs,env,σ,h2,hi,.refl _,h1,by simp⟩
  | (i, o)::rest,recs,env,σ,hitems,htopo,hi,hk=>by
    simp only [dops] at hk
    simp only [topo,Bool.and_eq_true] at htopo
    obtain ⟨hp,htopo⟩:=htopo
    have ho:all[i]?=some o:=hitems (i,o) (by simp)
    have hpre:∀e ∈ o.after.toList,bindsA e=true→∃q ∈ recs,q.i=e.on:=fun e he hb=>by
      have:=(List.all_eq_true.1 hp) e he
      rw [hb] at this
      simp only [Bool.not_true,Bool.false_or,List.any_eq_true,List.mem_map] at this
      obtain ⟨_,⟨q,hq,rfl⟩,e⟩:=this
      exact ⟨q,hq,Nat.eq_of_beq_eq_true e⟩
    have run:∀env1,getE env1=getE env→(∀ρ D a,EnvOk I N ρ D (looks (getE env) (tmOf all o)) a→Region.wanted o (yielded all.toArray a.tmps)=true)→
        (dop te O o (restr (tmOf all o) env1) σ fun v wr hi rd=>putK N o.dst v env1 fun env'=>dops te O N all M rest (i::recs.map (·.i)) (⟨i,o.dst,v,wr,σ.next,hi,rd,tmOf all o⟩::recs) env' ⟨hi,wr++ σ.blocks⟩ k)=some r→
        ∃recs' env' σ',k env' σ'=some r∧Inv P I N all n g h recs' env' σ'∧Grow σ σ'∧dynAll M (recs'.map (·.i)) recs'=true∧recs'.map triR=(((i,o)::rest).map (triI all)).reverse++ recs.map triR:=by
      intro env1 henv1 hw hk
      obtain ⟨v,wr,hi',rd,h1,hle,hids,hdid⟩:=dop_spec (I:=I) (N:=N) hte hO hk
      obtain ⟨env',h2,henv',hN⟩:=putK_env h1
      have hnew:∀b,hits b wr=true→(∃x,seen rd (hF allS h recs) b=some x)∨(σ.next≤b∧b < hi'):=by rw [← hi.heap]; exact hids
      have hlook:∀t u,getE (restr (tmOf all o) env1) t=some u→looks (getE env) (tmOf all o) t=some u:=fun t u ht=>by
        obtain ⟨h3,h4⟩:=restr_get ht
        unfold looks
        rw [h3,← henv1]; exact h4
      have hinv:Inv P I N all n g h (⟨i,o.dst,v,wr,σ.next,hi',rd,tmOf all o⟩::recs) env' ⟨hi',wr++ σ.blocks⟩:=by
        refine ⟨⟨hi.good,hi.next,o,ho,rfl,fun d hd=>hN d hd,hpre,⟨hle,hnew,fun ρ D a w he hh hfr=>.inl ⟨hw ρ D a (by rw [hi.env]; exact he),fun next Q hn=>?_⟩⟩⟩,?_,?_,rfl⟩
        · have:=hdid ρ D a w (he.less (by rw [← hi.env]; exact hlook)) (by rw [hi.heap]; exact hh) hfr next Q
          rw [hi.heap] at this
          exact this hn
        · funext t
          rw [henv' t,henv1,hi.env]
          simp only [eF,Bool.true_and,Rec.sets]
        · simp only [hF,cond_true]
          rw [← hi.heap]
          exact getL_puts _ _
      have hgr:Grow σ ⟨hi',wr++ σ.blocks⟩:=⟨hle,wr,rfl,fun x hx=>by
        rcases hids x.1 (by simp only [hits,List.any_eq_true]; exact ⟨x,hx,by simp⟩) with ⟨y,hy⟩ | hy
        · exact .inl ⟨y,seen_le hy⟩
        · exact .inr hy⟩
      obtain ⟨recs',env2,σ2,e1,e2,e3,e4,e5⟩:=dops_spec (recs:=⟨i,o.dst,v,wr,σ.next,hi',rd,tmOf all o⟩::recs) hte hO (fun x hx=>hitems x (List.mem_cons_of_mem _ hx)) htopo hinv h2
      exact ⟨recs',env2,σ2,e1,e2,hgr.trans e3,e4,by rw [e5]; simp [triI,triR]⟩
    have skip:∀env1,getE env1=getE env→(∀ρ D a,EnvOk I N ρ D (looks (getE env) (tmOf all o)) a→Region.wanted o (yielded all.toArray a.tmps)=false)→
        (putK N o.dst (.tuple []) env1 fun env'=>dops te O N all M rest (i::recs.map (·.i)) (⟨i,o.dst,.tuple [],[],σ.next,σ.next,some [],tmOf all o⟩::recs) env' σ k)=some r→
        ∃recs' env' σ',k env' σ'=some r∧Inv P I N all n g h recs' env' σ'∧Grow σ σ'∧dynAll M (recs'.map (·.i)) recs'=true∧recs'.map triR=(((i,o)::rest).map (triI all)).reverse++ recs.map triR:=by
      intro env1 henv1 hw hk
      obtain ⟨env',h2,henv',hN⟩:=putK_env hk
      have hinv:Inv P I N all n g h (⟨i,o.dst,.tuple [],[],σ.next,σ.next,some [],tmOf all o⟩::recs) env' σ:=by
        refine ⟨⟨hi.good,hi.next,o,ho,rfl,fun d hd=>hN d hd,hpre,⟨Nat.le_refl _,fun b hb=>by simp [hits] at hb,fun ρ D a w he hh hfr=>.inr ⟨hw ρ D a (by rw [hi.env]; exact he),rfl,rfl,rfl⟩⟩⟩,?_,?_,rfl⟩
        · funext t
          rw [henv' t,henv1,hi.env]
          simp only [eF,Bool.true_and,Rec.sets]
        · simp only [hF,cond_true,putsH]
          exact hi.heap
      obtain ⟨recs',env2,σ2,e1,e2,e3,e4,e5⟩:=dops_spec (recs:=⟨i,o.dst,.tuple [],[],σ.next,σ.next,some [],tmOf all o⟩::recs) hte hO (fun x hx=>hitems x (List.mem_cons_of_mem _ hx)) htopo hinv h2
      exact ⟨recs',env2,σ2,e1,e2,e3,e4,by rw [e5]; simp [triI,triR]⟩
    unfold dguard at hk
    split at hk
    · rename_i hg
      exact run env rfl (fun ρ D a _=>by simp [Region.wanted,hg]) hk
    · rename_i j want hg
      split at hk<;>try (simp at hk; done)
      rename_i d hd
      have htm:tmOf all o=d::opTmps o.op.operands.toList:=by simp [tmOf,hg,hd]
      have hl:∀u,getE env d=some u→looks (getE env) (tmOf all o) d=some u:=fun u hu=>by unfold looks; rw [htm,inL_head]; exact hu
      split at hk<;>try (simp at hk; done)
      case h_2 l hgd=>exact skip env rfl (fun ρ D a he=>by simp [Region.wanted,hg,yielded_none' hd he (hl _ hgd)]) hk
      rename_i b hgd
      cases b<;>cases want<;>simp only [cond_true,cond_false] at hk
      · exact run _ (getE_same hgd) (fun ρ D a he=>by simp [Region.wanted,hg,yielded_of' hd he (hl _ hgd)]) hk
      · exact skip _ (getE_same hgd) (fun ρ D a he=>by simp [Region.wanted,hg,yielded_of' hd he (hl _ hgd)]) hk
      · exact skip _ (getE_same hgd) (fun ρ D a he=>by simp [Region.wanted,hg,yielded_of' hd he (hl _ hgd)]) hk
      · exact run _ (getE_same hgd) (fun ρ D a he=>by simp [Region.wanted,hg,yielded_of' hd he (hl _ hgd)]) hk
def idx : Nat→List Oper→List (Nat × Oper)
  | _,[]=>[]
  | i,o::l=>(i,o)::idx (i+ 1) l
theorem idx_spec : ∀{l:List Oper} {n:Nat} {x:Nat × Oper},x ∈ idx n l→n≤x.1∧l[x.1 - n]?=some x.2
  | [],n,x,h=>by simp [idx] at h
  | o ::l,n,x,h=>by
    simp only [idx,List.mem_cons] at h
    rcases h with rfl | h
    · simp
    · obtain ⟨h1,h2⟩:=idx_spec h
      exact ⟨by omega,by rw [show x.1 - n=(x.1 - (n+ 1))+ 1 by omega]; simpa using h2⟩
def isLate (o:Oper):Bool:=match o.op with
  | .alloc _ | .box .. | .buildSlice .. | .makeSlice ..=>true
  | _=>false
def ordr : List (Nat × Oper)→List (Nat × Oper)→List (Nat × Oper)
  | [],post=>post
  | x::rest,post=>bif isLate x.2 then ordr rest (post++ [x])
    else bif x.2.after.toList.any (fun e=>bindsA e && post.any (fun y=>Nat.beq y.1 e.on)) then post++ x::ordr rest [] else x::ordr rest post
theorem ordr_mem {y:Nat × Oper}:∀{l post:List (Nat × Oper)},y ∈ ordr l post→y ∈ l∨y ∈ post
  | [],post,h=>.inr h
  | x ::rest,post,h=>by
    simp only [ordr] at h
    cases e:isLate x.2<;>rw [e] at h
    · simp only [cond_false] at h
      cases e2:(x.2.after.toList.any fun e=>bindsA e && post.any fun y=>Nat.beq y.1 e.on)<;>rw [e2] at h
      · simp only [cond_false,List.mem_cons] at h
        rcases h with rfl | h
        · exact .inl (by simp)
        · rcases ordr_mem h with h | h
          · exact .inl (List.mem_cons_of_mem _ h)
          · exact .inr h
      · simp only [cond_true,List.mem_append,List.mem_cons] at h
        rcases h with h | rfl | h
        · exact .inr h
        · exact .inl (by simp)
        · rcases ordr_mem h with h | h
          · exact .inl (List.mem_cons_of_mem _ h)
          · simp at h
    · simp only [cond_true] at h
      rcases ordr_mem h with h | h
      · exact .inl (List.mem_cons_of_mem _ h)
      · rcases List.mem_append.1 h with h | h
        · exact .inr h
        · simp only [List.mem_singleton] at h; subst h; exact .inl (by simp)
def dregion (te:TE) (O:ORC α) (N:Nat) (all:List Oper) (env:Env) (σ:Heap) (k:Env→Heap→R α):R α:=
  dops te O N all (masks all []) (ordr (idx 0 all) []) [] [] env σ k
def regOk (all:List Oper):Bool:=
  topo (ordr (idx 0 all) []) [] && (okE (masks all []) (((ordr (idx 0 all) []).map (triI all)).reverse) && (List.range all.length).all fun i=>(ordr (idx 0 all) []).any fun x=>Nat.beq x.1 i)
theorem dregion_spec {te:TE} (hte:TEok P te) (hm:P.follows .mixedOrders=true) {O:ORC α} (hO:OOk P I O) {N:Nat} {id:Nat} {all:List Oper} {env:Env} {σ:Heap} {k:Env→Heap→R α} {r:α} (hreg:regOk all=true) (hk:dregion te O N all env σ k=some r):
    ∃ env' σ',k env' σ'=some r∧Grow σ σ'∧∀ρ D a w,St I N ρ D env σ a w→free D σ.next σ'.next→∀(Q:Exit→Act→World→Prop),
      (∀ρ' a' w',St I N ρ' (plus D σ.next σ'.next) env' σ' a' w'→ExtS ρ D σ w ρ' σ' w'→Q .normal a' w')→(Code.region id all.toArray true).wp P Q a w:=by
  have hitems:∀x ∈ ordr (idx 0 all) [],all[x.1]?=some x.2:=fun x hx=>by
    rcases ordr_mem hx with hx | hx
    · simpa using (idx_spec hx).2
    · simp at hx
  simp only [regOk,Bool.and_eq_true] at hreg
  obtain ⟨hr1,hr2,hr3⟩:=hreg
  obtain ⟨recs,env',σ',h1,hi,hg,hdyn,htri⟩:=dops_spec (n:=σ.next) (g:=getE env) (h:=σ.get) (recs:=[]) hte hO hitems hr1 ⟨by unfold Good; trivial,rfl,rfl,rfl⟩ hk
  simp only [List.map_nil,List.append_nil] at htri
  have hok:okAll (masks all []) recs=true:=okAll_of (by rw [htri]; exact hr2) hdyn
  have hcov:∀i,i < all.length→∃r ∈ recs,r.i=i:=fun i hi=>by
    have:=List.all_eq_true.1 hr3 i (List.mem_range.2 hi)
    obtain ⟨x,hx,e⟩:=List.any_eq_true.1 this
    have hm:triI all x ∈ recs.map triR:=by rw [htri,List.mem_reverse]; exact List.mem_map_of_mem hx
    obtain ⟨q,hq,e2⟩:=List.mem_map.1 hm
    refine ⟨q,hq,?_⟩
    have:q.i=x.1:=congrArg Prod.fst e2
    rw [this]; exact Nat.eq_of_beq_eq_true e
  refine ⟨env',σ',h1,hg,fun ρ D a w hs hfr Q hn=>?_⟩
  refine wp_region_any hm (any_all (ρ0:=ρ) (D0:=D) (w0:={ w with drawn:=w.drawn+ 1 }) hi.good hok (masks_all all) hcov (by rw [← hi.next]; exact hfr) (fun b x hb=>(hs.heap.wf.dom b x hb).1) ?_ _ _ _ _ (by simp) ?_ ?_ ?_)
  · rintro a' w' ⟨ρ',he,hh,hx⟩
    rw [dF_all hi.good,← hi.next] at he hh hx
    rw [← hi.env] at he
    rw [← hi.heap] at hh hx
    refine hn ρ' a' w' ⟨he,hh⟩ ?_
    have:=(Ext.drew ρ D σ.get w (w.drawn+ 1)).trans hx
    exact this
  · refine Nat.le_trans (List.length_filter_le _ _) (by simp)
  · intro i o _ hi
    simp [sOf] at hi
    by_cases e:i < all.length<;>simp [e] at hi
  · have e:sOf (Array.replicate all.toArray.size false)=fun _=>false:=by
      funext i; simp only [sOf,Array.getD_eq_getD_getElem?]
      by_cases e:i < all.length<;>simp [e]
    rw [e]
    exact ⟨ρ,by rw [eF_none,dF_none]; exact hs.env,by rw [hF_none,dF_none]; exact hs.heap.drew _,by rw [hF_none,dF_none]; exact Ext.refl _ _ _ _⟩
end
end Go.Sh
namespace Go.Sh
open Go
section
variable {α:Type} {P:Program} {I:Imm}
inductive SX where
  | norm
  | exit (id:Nat)
  | ret
def SX.exit' : SX→Exit
  | .norm=>.normal
  | .exit id=>.exit id
  | .ret=>.ret
abbrev KC (α:Type):=SX→Env→Heap→R α
def headId : Code→Option Nat
  | .region id _ _=>some id
  | .seq a b=>match headId a with
    | some i=>some i
    | none=>headId b
  | .block _ c=>headId c
  | .loop c=>headId c
  | .scope c=>headId c
  | _=>none
def klook : List (Nat × List Nat)→Nat→Option (List Nat)
  | [],_=>none
  | (i,l)::r,j=>bif Nat.beq i j then some l else klook r j
def restC (env:Env):List Nat→(Env→R α)→R α
  | [],k=>k []
  | t::ts,k=>match getE env t with
    | some v=>restC env ts fun e=>k ((t,v)::e)
    | none=>restC env ts k
def forceN {β:Type}:Nat→(Nat→β)→β
  | 0,k=>k 0
  | n+ 1,k=>forceN n fun m=>k (m+ 1)
def forceB {β:Type}:List (Nat × SObj)→(List (Nat × SObj)→β)→β
  | [],k=>k []
  | (b,o)::l,k=>forceN b fun b=>forceB l fun l=>k ((b,o)::l)
theorem forceN_eq {β:Type}:∀{n:Nat} {k:Nat→β},forceN n k=k n
  | 0,_=>rfl
  | n+ 1,k=>by simp only [forceN,forceN_eq (n:=n)]
theorem forceB_eq {β:Type}:∀{l:List (Nat × SObj)} {k:List (Nat × SObj)→β},forceB l k=k l
  | [],_=>rfl
  | (b,o)::l,k=>by simp only [forceB,forceN_eq,forceB_eq (l:=l)]
def keepC (L:List (Nat × List Nat)) (id:Option Nat) (env:Env) (σ:Heap) (k:Env→Heap→R α):R α:=
  match id with
  | none=>k env σ
  | some i=>match klook L i with
    | none=>k env σ
    | some ts=>restC env ts fun e=>forceN σ.next fun n=>forceB σ.blocks fun bl=>k e ⟨n,bl⟩
theorem restC_spec {env:Env}:∀{ts:List Nat} {k:Env→R α} {r:α},restC env ts k=some r→∃e,(∀t v,getE e t=some v→getE env t=some v)∧k e=some r
  | [],k,r,h=>⟨[],fun t v h=>by simp [getE] at h,h⟩
  | t ::ts,k,r,h=>by
    simp only [restC] at h
    split at h
    · rename_i v hv
      obtain ⟨e,h1,h2⟩:=restC_spec h
      refine ⟨_,fun t' v' h'=>?_,h2⟩
      simp only [getE] at h'
      cases e2:Nat.beq t t'<;>rw [e2] at h'
      · exact h1 t' v' (by simpa using h')
      · have:=Nat.eq_of_beq_eq_true e2
        subst this
        simp only [cond_true,Option.some.injEq] at h'
        subst h'; exact hv
    · exact restC_spec h
theorem keepC_spec {L:List (Nat × List Nat)} {id:Option Nat} {env:Env} {σ:Heap} {k:Env→Heap→R α} {r:α} (h:keepC L id env σ k=some r):∃e,(∀t v,getE e t=some v→getE env t=some v)∧k e σ=some r:=by
  unfold keepC at h
  split at h
  · exact ⟨env,fun _ _ h=>h,h⟩
  · split at h
    · exact ⟨env,fun _ _ h=>h,h⟩
    · obtain ⟨e,h1,h2⟩:=restC_spec h
      rw [forceN_eq,forceB_eq] at h2
      exact ⟨e,h1,h2⟩
def srounds (body:Env→Heap→KC α→R α) (k:KC α):Nat→Env→Heap→R α
  | 0,_,_=>none
  | n+ 1,env,σ=>body env σ fun
    | .norm,env,σ=>srounds body k n env σ
    | x,env,σ=>k x env σ
abbrev LF (α:Type):=Env→Heap→KC α→R α
abbrev LO (α:Type):=List (Nat × LF α)
def llook : LO α→Option Nat→Option (LF α)
  | _,none=>none
  | [],some _=>none
  | (i,F)::l,some j=>bif Nat.beq i j then some F else llook l (some j)
structure Fuel where
  n:Nat
  keep:List (Nat × List Nat)
def seval (te:TE) (O:ORC α) (L:LO α) (N:Nat) (n:Fuel):Code→Env→Heap→KC α→R α
  | .skip,env,σ,k=>k .norm env σ
  | .region _ ops false,env,σ,k=>sops te O N ops.toList ops.toList env σ (k .norm)
  | .region _ ops true,env,σ,k=>dregion te O N ops.toList env σ (k .norm)
  | .seq a b,env,σ,k=>seval te O L N n a env σ fun
    | .norm,env,σ=>seval te O L N n b env σ k
    | x,env,σ=>k x env σ
  | .cond (.tmp t) x y,env,σ,k=>match getE env t with
    | some (.bool b)=>cond b (seval te O L N n x ((t,.bool true)::env) σ k) (seval te O L N n y ((t,.bool false)::env) σ k)
    | _=>none
  | .block id c,env,σ,k=>seval te O L N n c env σ fun
    | .exit i,env,σ=>bif Nat.beq i id then k .norm env σ else k (.exit i) env σ
    | x,env,σ=>k x env σ
  | .loop c,env,σ,k=>match llook L (headId c) with
    | some F=>F env σ k
    | none=>srounds (fun env σ k=>keepC n.keep (headId c) env σ fun env σ=>seval te O L N n c env σ k) k n.n env σ
  | .exit id,env,σ,k=>k (.exit id) env σ
  | .scope c,env,σ,k=>seval te O L N n c env σ k
  | .label _,env,σ,k=>k .norm env σ
  | .ret,env,σ,k=>k .ret env σ
  | _,_,_,_=>none
def codeOk : Code→Bool
  | .region _ ops true=>regOk ops.toList
  | .seq a b=>codeOk a && codeOk b
  | .cond _ a b=>codeOk a && codeOk b
  | .block _ c=>codeOk c
  | .loop c=>codeOk c
  | .scope c=>codeOk c
  | _=>true
def loopsOf : Code→List Code
  | .seq a b=>loopsOf a++ loopsOf b
  | .cond _ a b=>loopsOf a++ loopsOf b
  | .block _ c=>loopsOf c
  | .loop c=>c::loopsOf c
  | .scope c=>loopsOf c
  | _=>[]
def CodeTo (P:Program) (I:Imm) (N:Nat) (c:Code) (env:Env) (σ:Heap) (x:SX) (env':Env) (σ':Heap):Prop:=
  ∀ ρ D a w,St I N ρ D env σ a w→free D σ.next σ'.next→∀(Q:Exit→Act→World→Prop),
    (∀ρ' a' w',St I N ρ' (plus D σ.next σ'.next) env' σ' a' w'→ExtS ρ D σ w ρ' σ' w'→Q x.exit' a' w')→c.wp P Q a w
def SoundC (P:Program) (I:Imm) (N:Nat) (c:Code) (F:Env→Heap→KC α→R α):Prop:=
  ∀env σ k r,F env σ k=some r→∃x env' σ',k x env' σ'=some r∧Grow σ σ'∧CodeTo P I N c env σ x env' σ'
theorem sound_seq {N:Nat} {a b:Code} {A B:Env→Heap→KC α→R α} (ha:SoundC P I N a A) (hb:SoundC P I N b B):
    SoundC P I N (.seq a b) fun env σ k=>A env σ fun | .norm,env,σ=>B env σ k | x,env,σ=>k x env σ:=by
  intro env σ k r h
  obtain ⟨x,env1,σ1,h1,g1,c1⟩:=ha _ _ _ _ h
  cases x
  · obtain ⟨x2,env2,σ2,h2,g2,c2⟩:=hb _ _ _ _ h1
    refine ⟨x2,env2,σ2,h2,g1.trans g2,fun ρ D ac w hs hfr Q hn=>wp_seq (c1 ρ D ac w hs (hfr.left g2.le) _ fun ρ1 a1 w1 hs1 hx1=>?_)⟩
    exact c2 ρ1 _ a1 w1 hs1 (hfr.right g1.le) Q fun ρ2 a2 w2 hs2 hx2=>hn ρ2 a2 w2 (by rwa [plus_plus g1.le g2.le] at hs2) (hx1.trans hx2 g1.le g2.le)
  · exact ⟨_,env1,σ1,h1,g1,fun ρ D ac w hs hfr Q hn=>wp_seq (c1 ρ D ac w hs hfr _ fun ρ1 a1 w1 hs1 hx1=>hn ρ1 a1 w1 hs1 hx1)⟩
  · exact ⟨_,env1,σ1,h1,g1,fun ρ D ac w hs hfr Q hn=>wp_seq (c1 ρ D ac w hs hfr _ fun ρ1 a1 w1 hs1 hx1=>hn ρ1 a1 w1 hs1 hx1)⟩
theorem sound_cond {N:Nat} {t:Nat} {a b:Code} {A B:Env→Heap→KC α→R α} (ha:SoundC P I N a A) (hb:SoundC P I N b B):
    SoundC P I N (.cond (.tmp t) a b) fun env σ k=>match getE env t with
      | some (.bool b)=>cond b (A ((t,.bool true)::env) σ k) (B ((t,.bool false)::env) σ k)
      | _=>none:=by
  intro env σ k r h
  simp only at h
  split at h<;>try (simp at h; done)
  rename_i c hc
  have ev:∀ρ D ac w,St I N ρ D env σ ac w→ac.eval (.tmp t)=.bool c:=fun ρ D ac w hs=>by
    have:=(hs.env.env _ _ hc).1
    simp [Act.eval,this,val_bool]
  cases c<;>simp only [cond_true,cond_false] at h
  · obtain ⟨x,env1,σ1,h1,g1,c1⟩:=hb _ _ _ _ h
    exact ⟨x,env1,σ1,h1,g1,fun ρ D ac w hs hfr Q hn=>wp_cond_false (ev ρ D ac w hs) (c1 ρ D ac w (hs.again hc rfl) hfr Q hn)⟩
  · obtain ⟨x,env1,σ1,h1,g1,c1⟩:=ha _ _ _ _ h
    exact ⟨x,env1,σ1,h1,g1,fun ρ D ac w hs hfr Q hn=>wp_cond_true (ev ρ D ac w hs) (c1 ρ D ac w (hs.again hc rfl) hfr Q hn)⟩
theorem sound_block {N:Nat} {id:Nat} {a:Code} {A:Env→Heap→KC α→R α} (ha:SoundC P I N a A):
    SoundC P I N (.block id a) fun env σ k=>A env σ fun | .exit i,env,σ=>bif Nat.beq i id then k .norm env σ else k (.exit i) env σ | x,env,σ=>k x env σ:=by
  intro env σ k r h
  obtain ⟨x,env1,σ1,h1,g1,c1⟩:=ha _ _ _ _ h
  cases x
  · exact ⟨_,env1,σ1,h1,g1,fun ρ D ac w hs hfr Q hn=>wp_block (c1 ρ D ac w hs hfr _ fun ρ1 a1 w1 hs1 hx1=>hn ρ1 a1 w1 hs1 hx1)⟩
  · rename_i i
    simp only at h1
    cases hi:Nat.beq i id
    · rw [hi] at h1
      have hne:i ≠ id:=fun e=>by subst e; rw [Nat.beq_refl] at hi; cases hi
      refine ⟨_,env1,σ1,h1,g1,fun ρ D ac w hs hfr Q hn=>wp_block (c1 ρ D ac w hs hfr _ fun ρ1 a1 w1 hs1 hx1=>?_)⟩
      have:=hn ρ1 a1 w1 hs1 hx1
      simp only [SX.exit',Exit.inBlock,hne,if_false] at this ⊢
      exact this
    · rw [hi] at h1
      have:i=id:=Nat.eq_of_beq_eq_true hi
      subst this
      refine ⟨_,env1,σ1,h1,g1,fun ρ D ac w hs hfr Q hn=>wp_block (c1 ρ D ac w hs hfr _ fun ρ1 a1 w1 hs1 hx1=>?_)⟩
      have:=hn ρ1 a1 w1 hs1 hx1
      simp only [SX.exit',Exit.inBlock,if_true] at this ⊢
      exact this
  · exact ⟨_,env1,σ1,h1,g1,fun ρ D ac w hs hfr Q hn=>wp_block (c1 ρ D ac w hs hfr _ fun ρ1 a1 w1 hs1 hx1=>hn ρ1 a1 w1 hs1 hx1)⟩
def RoundsTo (P:Program) (I:Imm) (N:Nat) (c:Code) (env:Env) (σ:Heap) (x:SX) (env':Env) (σ':Heap):Prop:=
  ∃ n,∀ρ D a w,St I N ρ D env σ a w→free D σ.next σ'.next→∀(Q:Exit→Act→World→Prop),
    (∀ρ' a' w',St I N ρ' (plus D σ.next σ'.next) env' σ' a' w'→ExtS ρ D σ w ρ' σ' w'→Q x.exit' a' w')→Code.rounds P c Q n a w
theorem RoundsTo.last {N:Nat} {c:Code} {env env':Env} {σ σ':Heap} {x:SX} (h:CodeTo P I N c env σ x env' σ') (hx:x ≠ .norm):RoundsTo P I N c env σ x env' σ':=
  ⟨1,fun ρ D a w hs hfr Q hn=>by
    rw [rounds_succ]
    refine h ρ D a w hs hfr _ fun ρ1 a1 w1 hs1 hx1=>?_
    have:=hn ρ1 a1 w1 hs1 hx1
    cases x
    · exact absurd rfl hx
    · exact this
    · exact this⟩
theorem RoundsTo.round {N:Nat} {c:Code} {env env1 env':Env} {σ σ1 σ':Heap} {x:SX} (h:CodeTo P I N c env σ .norm env1 σ1) (g:RoundsTo P I N c env1 σ1 x env' σ') (h1:σ.next≤σ1.next) (h2:σ1.next≤σ'.next):RoundsTo P I N c env σ x env' σ':=by
  obtain ⟨n,g⟩:=g
  refine ⟨n+ 1,fun ρ D a w hs hfr Q hn=>?_⟩
  rw [rounds_succ]
  exact h ρ D a w hs (hfr.left h2) _ fun ρ1 a1 w1 hs1 hx1=>g ρ1 _ a1 w1 hs1 (hfr.right h1) Q fun ρ2 a2 w2 hs2 hx2=>hn ρ2 a2 w2 (by rwa [plus_plus h1 h2] at hs2) (hx1.trans hx2 h1 h2)
theorem RoundsTo.loop {N:Nat} {c:Code} {env env':Env} {σ σ':Heap} {x:SX} (h:RoundsTo P I N c env σ x env' σ'):CodeTo P I N (.loop c) env σ x env' σ':=by
  obtain ⟨n,h⟩:=h
  exact fun ρ D a w hs hfr Q hn=>wp_loop_rounds n (h ρ D a w hs hfr Q hn)
theorem srounds_spec {N:Nat} {c:Code} {F:Env→Heap→KC α→R α} (hF:SoundC P I N c F) {k:KC α} {r:α}:∀{n:Nat} {env:Env} {σ:Heap},srounds F k n env σ=some r→
    ∃x env' σ',k x env' σ'=some r∧Grow σ σ'∧RoundsTo P I N c env σ x env' σ'
  | 0,_,_,h=>by simp [srounds] at h
  | n + 1,env,σ,h=>by
    simp only [srounds] at h
    obtain ⟨x,env1,σ1,h1,g1,c1⟩:=hF _ _ _ _ h
    cases x
    · obtain ⟨x2,env2,σ2,h2,g2,c2⟩:=srounds_spec hF (n:=n) h1
      exact ⟨x2,env2,σ2,h2,g1.trans g2,c2.round c1 g1.le g2.le⟩
    · exact ⟨_,env1,σ1,h1,g1,.last c1 (by simp)⟩
    · exact ⟨_,env1,σ1,h1,g1,.last c1 (by simp)⟩
theorem sound_keepC {N:Nat} {c:Code} {A:Env→Heap→KC α→R α} (ha:SoundC P I N c A) {L:List (Nat × List Nat)} {id:Option Nat}:SoundC P I N c fun env σ k=>keepC L id env σ fun env σ=>A env σ k:=by
  intro env σ k r h
  obtain ⟨env',he,h1⟩:=keepC_spec h
  obtain ⟨x,env1,σ1,h2,g1,c1⟩:=ha _ _ _ _ h1
  exact ⟨x,env1,σ1,h2,g1,fun ρ D a w hs hfr Q hn=>c1 ρ D a w ⟨hs.env.less he,hs.heap⟩ hfr Q hn⟩
theorem sound_loop {N n:Nat} {a:Code} {A:Env→Heap→KC α→R α} (ha:SoundC P I N a A):SoundC P I N (.loop a) fun env σ k=>srounds A k n env σ:=by
  intro env σ k r h
  obtain ⟨x,env1,σ1,h1,g1,c1⟩:=srounds_spec ha h
  exact ⟨x,env1,σ1,h1,g1,c1.loop⟩
def LOk (P:Program) (I:Imm) (N:Nat) (L:LO α) (c:Code):Prop:=∀c' ∈ loopsOf c,∀F,llook L (headId c')=some F→SoundC P I N (.loop c') F
theorem LOk.nil {N:Nat} {c:Code}:LOk (α:=α) P I N [] c:=fun c' _ F h=>by cases e:headId c'<;>rw [e] at h<;>simp [llook] at h
theorem seval_spec {te:TE} (hte:TEok P te) (hm:P.follows .mixedOrders=true) {O:ORC α} (hO:OOk P I O) {L:LO α} {N:Nat} {n:Fuel}:∀c:Code,codeOk c=true→LOk P I N L c→SoundC P I N c (seval te O L N n c)
  | .skip,_,_=>fun env σ k r h=>⟨.norm,env,σ,by simpa [seval] using h,.refl _,fun ρ D a w hs _ Q hn=>wp_skip (hn ρ a w (.same hs) .same)⟩
  | .label _,_,_=>fun env σ k r h=>⟨.norm,env,σ,by simpa [seval] using h,.refl _,fun ρ D a w hs _ Q hn=>wp_label (hn ρ a w (.same hs) .same)⟩
  | .exit id,_,_=>fun env σ k r h=>⟨.exit id,env,σ,by simpa [seval] using h,.refl _,fun ρ D a w hs _ Q hn=>wp_exit (hn ρ a w (.same hs) .same)⟩
  | .ret,_,_=>fun env σ k r h=>⟨.ret,env,σ,by simpa [seval] using h,.refl _,fun ρ D a w hs _ Q hn=>wp_ret (hn ρ a w (.same hs) .same)⟩
  | .region id ops false,_,_=>fun env σ k r h=>by
    simp only [seval] at h
    obtain ⟨env',σ',h1,g1,h2⟩:=sops_spec hte hO h
    exact ⟨.norm,env',σ',h1,g1,fun ρ D a w hs hfr Q hn=>wp_region_list (by simpa using h2 ρ D a w hs hfr Q hn)⟩
  | .region id ops true,hc,_=>fun env σ k r h=>by
    simp only [seval] at h
    obtain ⟨env',σ',h1,g1,h2⟩:=dregion_spec (id:=id) hte hm hO (by simpa only [codeOk] using hc) h
    exact ⟨.norm,env',σ',h1,g1,fun ρ D a w hs hfr Q hn=>by simpa using h2 ρ D a w hs hfr Q hn⟩
  | .seq a b,hc,hL=>fun env σ k r h=>by
    simp only [codeOk,Bool.and_eq_true] at hc
    exact sound_seq (seval_spec hte hm hO a hc.1 fun c' h'=>hL c' (by simp only [loopsOf,List.mem_append]; exact .inl h')) (seval_spec hte hm hO b hc.2 fun c' h'=>hL c' (by simp only [loopsOf,List.mem_append]; exact .inr h')) env σ k r (by simpa only [seval] using h)
  | .cond (.tmp t) a b,hc,hL=>fun env σ k r h=>by
    simp only [codeOk,Bool.and_eq_true] at hc
    exact sound_cond (seval_spec hte hm hO a hc.1 fun c' h'=>hL c' (by simp only [loopsOf,List.mem_append]; exact .inl h')) (seval_spec hte hm hO b hc.2 fun c' h'=>hL c' (by simp only [loopsOf,List.mem_append]; exact .inr h')) env σ k r (by simpa only [seval] using h)
  | .cond (.const _) a b,_,_=>fun env σ k r h=>by simp [seval] at h
  | .cond (.global _) a b,_,_=>fun env σ k r h=>by simp [seval] at h
  | .cond (.func _) a b,_,_=>fun env σ k r h=>by simp [seval] at h
  | .block id a,hc,hL=>fun env σ k r h=>sound_block (seval_spec hte hm hO a (by simpa only [codeOk] using hc) fun c' h'=>hL c' (by simpa only [loopsOf] using h')) env σ k r (by simpa only [seval] using h)
  | .loop a,hc,hL=>fun env σ k r h=>by
    simp only [seval] at h
    split at h
    · rename_i F hF
      exact hL a (by simp [loopsOf]) F hF env σ k r h
    · exact sound_loop (sound_keepC (seval_spec hte hm hO a (by simpa only [codeOk] using hc) fun c' h'=>hL c' (by simp only [loopsOf]; exact List.mem_cons_of_mem _ h'))) env σ k r h
  | .scope a,hc,hL=>fun env σ k r h=>by
    simp only [seval] at h
    obtain ⟨x,env1,σ1,h1,g1,c1⟩:=seval_spec hte hm hO a (by simpa only [codeOk] using hc) (fun c' h'=>hL c' (by simpa only [loopsOf] using h')) env σ k r h
    exact ⟨x,env1,σ1,h1,g1,fun ρ D a w hs hfr Q hn=>wp_scope_straight (c1 ρ D a w hs hfr _ fun ρ1 a1 w1 hs1 hx1=>by have:=hn ρ1 a1 w1 hs1 hx1; cases x<;>exact this)⟩
  | .rangeFunc ..,_,_=>fun env σ k r h=>by simp [seval] at h
  | .goto _,_,_=>fun env σ k r h=>by simp [seval] at h
  | .refuse _,_,_=>fun env σ k r h=>by simp [seval] at h
theorem live_live {o o':SObj} (h:o.live=some o'):o'.live=some o':=by cases o<;>simp [SObj.live] at h<;>subst h<;>rfl
theorem getL_live : ∀{l:List (Nat × SObj)} {b:Nat} {o:SObj},getL l b=some o→o.live=some o
  | [],b,o,h=>by simp [getL] at h
  | (c,o')::l,b,o,h=>by
    simp only [getL] at h
    cases e:Nat.beq c b<;>rw [e] at h
    · exact getL_live (l:=l) h
    · exact live_live h
theorem CodeTo.heap {N:Nat} {c:Code} {env env':Env} {σ σ1 σ':Heap} {x:SX} (h:CodeTo P I N c env σ1 x env' σ') (hn:σ1.next=σ.next) (hg:σ1.get=σ.get):CodeTo P I N c env σ x env' σ':=by
  intro ρ D a w hs hfr Q hq
  refine h ρ D a w ⟨hs.env,by rw [hg]; exact hs.heap⟩ (by rw [hn]; exact hfr) Q fun ρ' a' w' hs' hx=>hq ρ' a' w' (by rw [hn] at hs'; exact hs') ?_
  unfold ExtS at hx ⊢
  rw [hn,hg] at hx; exact hx
end
end Go.Sh
namespace Go.Sh
open Go
section
variable {α:Type} {P:Program} {I:Imm}
def resK {β:Type} (te:TE):List ResultVar→Env→Heap→(List SV→R β)→R β
  | [],_,_,k=>k []
  | .tmp t::l,env,σ,k=>match getE env t with
    | some v=>resK te l env σ fun vs=>k (v::vs)
    | none=>none
  | .cell p t::l,env,σ,k=>tlook te t fun s=>match getE env p with
    | some (.ptr b q)=>match σ.get b with
      | some (.cells _ v)=>sub v q fun u=>bif okLoad s u then resK te l env σ fun vs=>k (u::vs) else none
      | _=>none
    | _=>none
def resOne (tmps:Array Value):ResultVar→Sem Value
  | .tmp t=>pure (tmps.getD t undef)
  | .cell p t=>do loadVar t (← asAddr (tmps.getD p undef))
theorem results_eq (fn:Func) (tmps:Array Value):results fn tmps=(do
  let vs ← fn.results.mapM (resOne tmps)
  pure (if h:vs.size=1 then vs[0] else .tuple vs)):=rfl
def resV : List SV→SV
  | [v]=>v
  | vs=>.tuple vs
def withV {β:Type} (vs:List SV) (k:SV→R β):R β:=
  match vs with
  | [v]=>k v
  | vs=>k (.tuple vs)
theorem withV_eq {β:Type} (vs:List SV) (k:SV→R β):withV vs k=k (resV vs):=by
  match vs with
  | []=>rfl
  | [v]=>rfl
  | v::u::vs=>rfl
theorem resK_spec {β:Type} {te:TE} (hte:TEok P te) {N:Nat}:∀{l:List ResultVar} {env:Env} {σ:Heap} {k:List SV→R β} {r:β},resK te l env σ k=some r→
    ∃ vs,k vs=some r∧∀ρ D a w,St I N ρ D env σ a w→(∀v ∈ vs,Wf I D v)∧
      (l.mapM (resOne a.tmps)).run P w=.ok (vs.map (val ρ)) w
  | [],env,σ,k,r,h=>⟨[],by simpa [resK] using h,fun ρ D a w hs=>⟨by simp,by simp⟩⟩
  | .tmp t::l,env,σ,k,r,h=>by
    simp only [resK] at h
    split at h<;>try (simp at h; done)
    rename_i v hv
    obtain ⟨vs,h1,hall⟩:=resK_spec hte h
    refine ⟨v::vs,h1,fun ρ D a w hs=>?_⟩
    obtain ⟨h2,h3⟩:=hall ρ D a w hs
    obtain ⟨h4,h5⟩:=hs.env.env _ _ hv
    refine ⟨by simpa using ⟨h5,h2⟩,?_⟩
    simp only [List.mapM_cons,resOne,Sem.run_bind,h3,Sem.run_pure,Result.andThen_ok]
    simp [h4]
  | .cell p t::l,env,σ,k,r,h=>by
    simp only [resK] at h
    obtain ⟨s,h0,ht⟩:=tlook_spec h hte
    split at h0<;>try (simp at h0; done)
    rename_i b q hv
    split at h0<;>try (simp at h0; done)
    rename_i g v hb
    obtain ⟨u,h1,hl,hw⟩:=sub_spec h0
    obtain ⟨h2,h3⟩:=bif_some h1
    obtain ⟨vs,h4,hall⟩:=resK_spec hte h3
    refine ⟨u::vs,h4,fun ρ D a w hs=>?_⟩
    obtain ⟨h5,h6⟩:=hall ρ D a w hs
    obtain ⟨h7,h8⟩:=hs.env.env _ _ hv
    refine ⟨by simpa using ⟨hw I _ (hs.heap.wf.dom b _ hb).2,h5⟩,?_⟩
    have e:=run_loadVar_of (P:=P) ht (a:=⟨(ρ b).blk,(ρ b).base+ offOf q,none⟩) rfl (ρ:=ρ) (u:=u) (w:=w) (fun j hj=>hs.heap.cell hb hl hj) h2
    have e2:a.tmps.getD p undef=.pointer (some ⟨(ρ b).blk,(ρ b).base+ offOf q,none⟩):=by simp [h7,val_ptr]
    have e3:(asAddr (a.tmps.getD p undef)).run P w=.ok ⟨(ρ b).blk,(ρ b).base+ offOf q,none⟩ w:=by rw [e2]; rfl
    simp only [List.mapM_cons,resOne,Sem.run_bind,e3,Sem.run_pure,Result.andThen_ok,e,h6]
    simp
def argEnv : Nat→List SV→Env
  | _,[]=>[]
  | i,v::l=>(i,v)::argEnv (i+ 1) l
theorem argEnv_get : ∀{l:List SV} {i t:Nat} {v:SV},getE (argEnv i l) t=some v→i≤t∧l[t - i]?=some v
  | [],i,t,v,h=>by simp [argEnv,getE] at h
  | x ::l,i,t,v,h=>by
    simp only [argEnv,getE] at h
    cases e:Nat.beq i t
    · rw [e] at h
      obtain ⟨h1,h2⟩:=argEnv_get (l:=l) (by simpa using h)
      exact ⟨by omega,by rw [show t - i=(t - (i+ 1))+ 1 by omega]; simpa using h2⟩
    · rw [e] at h
      have:i=t:=Nat.eq_of_beq_eq_true e
      subst this
      simp at h; subst h
      exact ⟨Nat.le_refl _,by simp⟩
def endK (te:TE) (rs:List ResultVar) (k:SV→Heap→R α):KC α
  | .exit _,_,_=>none
  | _,env,σ=>resK te rs env σ fun vs=>withV vs fun v=>k v σ
def bodyL (te:TE) (O:ORC α) (L:LO α) (n:Fuel) (fn:Func) (args:List SV) (σ:Heap) (k:SV→Heap→R α):R α:=
  match fn.body with
  | some c=>seval te O L fn.ntmps n c (argEnv 0 args) σ (endK te fn.results.toList k)
  | none=>none
abbrev bodyK (te:TE) (O:ORC α) (n:Fuel) (fn:Func) (args:List SV) (σ:Heap) (k:SV→Heap→R α):R α:=bodyL te O [] n fn args σ k
def fnOk (fn:Func):Bool:=match fn.body with | some c=>codeOk c | none=>true
def FLOk (P:Program) (I:Imm) (L:LO α) (fn:Func):Prop:=∀c,fn.body=some c→LOk P I fn.ntmps L c
theorem FLOk.nil {fn:Func}:FLOk (α:=α) P I [] fn:=fun _ _=>LOk.nil
theorem calls_of_code {te:TE} (hte:TEok P te) {f:FuncId} {fn:Func} {c:Code} (hf:P.funcs[f]?=some fn) (hb:fn.body=some c) {args:List SV} {σ:Heap} {x:SX} {env':Env} {σ':Heap} {k:SV→Heap→R α} {r:α}
    (hc:CodeTo P I fn.ntmps c (argEnv 0 args) σ x env' σ') (hk:endK te fn.results.toList k x env' σ'=some r):
    ∃v,k v σ'=some r∧SCalls P I f args σ v σ':=by
  have main:∀{vs:List SV},(∀ρ D a w,St I fn.ntmps ρ D env' σ' a w→(∀v ∈ vs,Wf I D v)∧
      (fn.results.toList.mapM (resOne a.tmps)).run P w=.ok (vs.map (val ρ)) w)→(x=.norm∨x=.ret)→
      SCalls P I f args σ (resV vs) σ':=by
    intro vs hall hx ρ D w hh hfr hargs
    refine calls_of_wp hf hb ?_
    have hst:St I fn.ntmps ρ D (argEnv 0 args) σ { tmps:=(args.map (val ρ)).toArray++ Array.replicate (fn.ntmps - (args.map (val ρ)).toArray.size) undef,defers:=[] } w:=by
      refine ⟨⟨by simp; omega,rfl,fun t v ht=>?_⟩,hh⟩
      obtain ⟨_,h1⟩:=argEnv_get ht
      simp only [Nat.sub_zero] at h1
      have hlt:=(List.getElem?_eq_some_iff.1 h1).1
      refine ⟨?_,hargs v (List.mem_of_getElem? h1)⟩
      rw [Array.getElem?_append_left (by simpa using hlt)]
      simp [h1]
    refine hc ρ D _ w hst hfr _ fun ρ' a' w' hs' hx'=>?_
    obtain ⟨hw,hr⟩:=hall ρ' _ a' w' hs'
    have hres:(results fn a'.tmps).run P w'=.ok (val ρ' (resV vs)) w':=by
      rw [results_eq,Sem.run_bind,Array.mapM_eq_mapM_toList]
      simp only [Sem.run_map,hr,Result.andThen_ok,Sem.run_pure]
      match vs,hw with
      | [],_=>simp [resV,val,vals]
      | [v],_=>simp [resV]
      | v::u::vs,_=>simp [resV,val,vals_eq]
    have hwv:Wf I (plus D σ.next σ'.next) (resV vs):=by
      match vs,hw with
      | [],_=>simp [resV,Wf,Wfs]
      | [v],hw=>exact hw v (by simp)
      | v::u::vs,hw=>simp only [resV,Wf]; exact wfs_iff.2 hw
    rcases hx with rfl | rfl
    · exact ⟨hs'.env.defers,_,hres,ρ',rfl,hx',hs'.heap,hwv⟩
    · exact ⟨hs'.env.defers,_,hres,ρ',rfl,hx',hs'.heap,hwv⟩
  cases x
  · simp only [endK] at hk
    obtain ⟨vs,h1,hall⟩:=resK_spec (I:=I) (N:=fn.ntmps) hte hk
    rw [withV_eq] at h1
    exact ⟨_,h1,main hall (.inl rfl)⟩
  · simp [endK] at hk
  · simp only [endK] at hk
    obtain ⟨vs,h1,hall⟩:=resK_spec (I:=I) (N:=fn.ntmps) hte hk
    rw [withV_eq] at h1
    exact ⟨_,h1,main hall (.inr rfl)⟩
structure Prg (P:Program) (te:TE):Prop where
  te:TEok P te
  mix:P.follows .mixedOrders=true
theorem body_calls {te:TE} (hp:Prg P te) {O:ORC α} (hO:OOk P I O) {L:LO α} {n:Fuel} {f:FuncId} {fn:Func} (hf:P.funcs[f]?=some fn) (hok:fnOk fn=true) (hL:FLOk P I L fn) {args:List SV} {σ:Heap} {k:SV→Heap→R α} {r:α}
    (h:bodyL te O L n fn args σ k=some r):∃v σ',k v σ'=some r∧Grow σ σ'∧SCalls P I f args σ v σ':=by
  unfold bodyL at h
  split at h<;>try (simp at h; done)
  rename_i c hc
  obtain ⟨x,env',σ',h1,h2,h3⟩:=seval_spec hp.te hp.mix hO c (by unfold fnOk at hok; rw [hc] at hok; exact hok) (hL c hc) _ _ _ _ h
  obtain ⟨v,h4,h5⟩:=calls_of_code hp.te hf hc h3 h1
  exact ⟨v,σ',h4,h2,h5⟩
abbrev byBody (te:TE) (O:ORC α) (n:Fuel) (fn:Func):FF α:=fun args σ k=>bodyK te O n fn args σ k
theorem enters_of {f : FuncId} {fn : Func} (hf : P.funcs[f]? = some fn) (h1 : (fn.name == "runtime.NumGoroutine") = false) (h2 : fn.body.isNone = false) : Enters P f := ⟨fn, hf, h1, h2⟩
theorem orc_body {te : TE} (hp : Prg P te) {O : ORC α} (hO : OOk P I O) (n : Fuel) {f : FuncId} {fn : Func} (hf : P.funcs[f]? = some fn) (h1 : (fn.name == "runtime.NumGoroutine") = false) (h2 : fn.body.isNone = false) (h3 : fnOk fn = true) :
    OrcOk P I f (.full (byBody te O n fn)):=
  ⟨enters_of hf h1 h2,fun _ _ _ _ h=>body_calls hp hO hf h3 .nil h⟩
def emp : Heap:=⟨0,[]⟩
abbrev Ans :=SV × Heap
def ans : SV→Heap→R Ans:=fun v σ=>some (v,σ)
def EndsV (x:R Ans) (v:SV):Prop:=∃σ,x=some (v,σ)
theorem ends_int {kd:IntKind} {x y:Int} {σ:Heap} (h:x=y):EndsV (some (.int kd x,σ)) (.int kd y):=by subst h; exact ⟨_,rfl⟩
theorem ends_bool {x y:Bool} {σ:Heap} (h:x=y):EndsV (some (.bool x,σ)) (.bool y):=by subst h; exact ⟨_,rfl⟩
theorem ends_any {x y:SV} {σ:Heap} (h:x=y):EndsV (some (x,σ)) y:=by subst h; exact ⟨_,rfl⟩
end
end Go.Sh
namespace Go.Sh
open Go
theorem nbeq (a b:Nat):Nat.beq a b=decide (a=b):=by
  cases h:Nat.beq a b
  · exact (decide_eq_false fun e=>by subst e; rw [Nat.beq_refl] at h; cases h).symm
  · exact (decide_eq_true (Nat.eq_of_beq_eq_true h)).symm
theorem wrap_i64 {n:Int} (h0 : -9223372036854775808≤n) (h1:n < 9223372036854775808):IntKind.i64.wrap n=n:=by
  have e:IntKind.i64.wrap n=(if IntKind.i64.signed && decide (n % 18446744073709551616 ≥ 9223372036854775808) then n % 18446744073709551616 - 18446744073709551616 else n % 18446744073709551616):=rfl
  rw [e]
  have hs:IntKind.i64.signed=true:=rfl
  simp only [hs,Bool.true_and,decide_eq_true_eq]
  split<;>omega
theorem wrap_u64 {n:Int} (h0:0≤n) (h1:n < 18446744073709551616):IntKind.u64.wrap n=n:=by
  have e:IntKind.u64.wrap n=(if IntKind.u64.signed && decide (n % 18446744073709551616 ≥ 9223372036854775808) then n % 18446744073709551616 - 18446744073709551616 else n % 18446744073709551616):=rfl
  rw [e]
  have hs:IntKind.u64.signed=false:=rfl
  simp only [hs,Bool.false_and,Bool.false_eq_true,if_false]
  omega
theorem wrap_u64_mod (n:Int):IntKind.u64.wrap n=n % 18446744073709551616:=by
  have e:IntKind.u64.wrap n=(if IntKind.u64.signed && decide (n % 18446744073709551616 ≥ 9223372036854775808) then n % 18446744073709551616 - 18446744073709551616 else n % 18446744073709551616):=rfl
  rw [e]
  have hs:IntKind.u64.signed=false:=rfl
  simp only [hs,Bool.false_and,Bool.false_eq_true,if_false]
theorem bitop_u64 (op:BinOp) (x y:Int):0≤bitop op .u64 x y∧bitop op .u64 x y < 18446744073709551616:=by
  unfold bitop; rw [wrap_u64_mod]; omega
theorem wrap_u64_bd (x:Int):0≤IntKind.u64.wrap x∧IntKind.u64.wrap x < 18446744073709551616:=by
  rw [wrap_u64_mod]; omega
end Go.Sh
namespace Go.Sh
open Go Go.RowKit
theorem ofInt_toNat {m:Int} (h0:0≤m) (h1:m < 18446744073709551616):(BitVec.ofInt 64 m).toNat=m.toNat:=by
  rw [BitVec.toNat_ofInt]
  congr 1
  omega
theorem bitop_xor {m n:Int} (h0:0≤m) (h1:m < 18446744073709551616) (h2:0≤n) (h3:n < 18446744073709551616):bitop .xor .u64 m n=((m.toNat ^^^ n.toNat:Nat):Int):=by
  have e:bitop .xor .u64 m n=IntKind.u64.wrap ((BitVec.ofInt 64 m ^^^ BitVec.ofInt 64 n).toNat:Int):=rfl
  have hlt:=(BitVec.ofInt 64 m ^^^ BitVec.ofInt 64 n).isLt
  rw [e,wrap_u64 (by omega) (by omega),BitVec.toNat_xor,ofInt_toNat h0 h1,ofInt_toNat h2 h3]
section
variable {H:Type} {enc:TypeId × Value→H} {P:Program}
open Go.WideShapes Go.ChangeShapes
theorem post_below {f:Func} {s:ChangeSpec} {apart fresh handsOn again:Bool} {W W':World} {args:Array Value} {v:Value} {ds gs:List (DataW H)} {before pa pv:List MemPlace}
    (hW:DataW.Whole enc P f.params.toList s.vars apart W args.toList ds gs before)
    (hres:∀(b:Nat) (sp:Nat→Bool) (hd:Bool),DataW.TrodAll enc P W' b sp hd f.resultTypes.toList (v.resultList f.resultTypes.size) (s.fn H (ds++ gs)).results [])
    (hargs:∀sp:Nat→Bool,(∀p ∈ before,sp p.block=true)→DataW.TrodAll enc P W' 0 sp true f.params.toList args.toList (s.fn H (ds++ gs)).args pa)
    (hvars:∀sp:Nat→Bool,(∀p ∈ before,sp p.block=true)→DataW.TrodVars enc P W' sp s.vars (s.fn H (ds++ gs)).vars pv)
    (hps:before=pa++ pv) (hb:Below W.heap.size W W')
    (hok:∀(j:Nat) (t:TypeId) (r:Value),f.resultTypes[j]?=some t→(v.resultList f.resultTypes.size)[j]?=some r→Value.okWide P W' .any 0 t r):
    s.post enc P f apart fresh handsOn again W args v W':=by
  have hlt:∀p ∈ before,p.block < W.heap.size:=fun p hp=>hW.lt p hp
  have hold:∀p ∈ before,(fun b=>decide (b < W.heap.size)) p.block=true:=fun p hp=>by simpa using hlt p hp
  refine ⟨ds,gs,before,[],pa,pv,hW,hres _ _ _,hargs _ hold,hvars _ hold,World.keptBut_mono (fun p hp=>⟨hp,?_⟩) (hb.frame (· ∈ before)),fun _=>?_⟩
  · rw [hps,List.mem_append] at hp
    exact Or.inr hp
  · obtain ⟨_,_,_,_,_,hz,hn⟩:=hW
    refine ⟨hok,_,_,([]++ pa)++ pv,⟨[]++ pa,pv,trodAll_append (hargs _ (fun _ _=>rfl)) (hres _ _ _),hvars _ (fun _ _=>rfl),rfl,?_,?_⟩,?_⟩
    · intro b off hp
      have hin:MemPlace.cell b off ∈ before:=by rw [hps]; simpa using hp
      rw [hb.frozen (hlt _ hin)]
      exact hz b off hin
    · intro ha
      have:=hn ha
      rw [hps] at this
      simpa using this
    · intro p hp _
      rw [hps]
      simpa using hp
end
def noPl : Nat→Pl:=fun _=>⟨0,0,0,false⟩
theorem law_calls {P:Program} {f:FuncId} {args:List SV} {v:SV} (h:∀I,SPure P I f args v) (w:World) (hw:∀x ∈ args,Wf (fun i=>w.heap[i]?) (fun _=>False) x):
    Calls P f (args.map (val noPl)).toArray w fun e w'=>e=.returned (val noPl v)∧Below w.heap.size w w':=by
  have hr:HRel (fun i=>w.heap[i]?) noPl (fun _=>False) (fun _=>none) w:=⟨⟨fun b o hb=>(nomatch hb)⟩,fun b o hb=>(nomatch hb),fun b o b' o' hb=>(nomatch hb),fun i o hi=>hi,fun b o hb=>(nomatch hb),fun b o hb=>(nomatch hb)⟩
  refine ((h _ _ hw) noPl _ w hr).mono ?_
  rintro e w' ⟨he,_,hx,_⟩
  exact ⟨he,⟨hx.os,hx.tape,hx.output,hx.size,fun i hi=>hx.frame i hi fun b o hb=>(nomatch hb)⟩⟩
theorem law_of {P:Program} {f:FuncId} {F:FP SV} {args:List SV} {v:SV} (c:∀I,OrcOk (α:=SV) P I f (.pure F)) (hF:F args (fun x=>some x)=some v) (w:World) (hw:∀x ∈ args,Wf (fun i=>w.heap[i]?) (fun _=>False) x):
    Calls P f (args.map (val noPl)).toArray w fun e w'=>e=.returned (val noPl v)∧Below w.heap.size w w':=by
  refine law_calls (fun I=>?_) w hw
  obtain ⟨v',h1,h2⟩:=(c I).2 args (fun x=>some x) v hF
  simp only [Option.some.injEq] at h1
  subst h1
  exact h2
end Go.Sh
namespace Go.Sh
open Go
def sx (n v:Int):Int:=if v % n ≥ n / 2 then v % n+ (18446744073709551616 - n) else v % n
end Go.Sh
