/-
  The shadow interpreter of Go code, with its proofs (three texts).
-/
import Derived.Test.YtodnffhcbhlifaaGreatSkB
import Derived.ReadAgain
import Derived.Deep.Slices
import Derived.Laws.LoneSync
set_option linter.unusedSimpArgs false
set_option linter.unusedVariables false
namespace Go.Sh
open Go
section
variable {α:Type} {P:Program} {I:Imm}
mutual
def Ids : (Nat→Prop)→SV→Prop
  | p,.ptr b _=>p b
  | p,.slc b _ _ _ _ _=>p b
  | p,.oslc b _ _=>p b
  | p,.map b=>p b
  | p,.fn _ a c=>Idss p a∧Idss p c
  | p,.arr _ _ f=>∀i,Ids p (f i)
  | p,.agg l=>Idss p l
  | p,.tuple l=>Idss p l
  | _,_=>True
def Idss : (Nat→Prop)→List SV→Prop
  | _,[]=>True
  | p,v::l=>Ids p v∧Idss p l
end
def OIds (p:Nat→Prop):SObj→Prop
  | .cells _ v=>Ids p v
  | .map es=>∀e ∈ es,Ids p e.1∧Ids p e.2
  | .dead=>True
mutual
theorem Wf.andIds {n p:Nat→Prop}:∀{v:SV},Wf I n v→Ids p v→Wf I (fun c=>n c∧p c) v
  | .bool _,_,_ | .int ..,_,_ | .str _,_,_ | .nilp,_,_ | .nils,_,_ | .nilfn,_,_ | .nilmap,_,_ | .nilifc,_,_ | .ints ..,_,_ | .bools ..,_,_=>by simp [Wf]
  | .ptr ..,g,h=>by simp only [Wf,Ids] at *; exact ⟨g,h⟩
  | .slc ..,g,h=>by simp only [Wf,Ids] at *; exact ⟨g,h⟩
  | .oslc ..,g,h=>by simp only [Wf,Ids] at *; exact ⟨g,h⟩
  | .map _,g,h=>by simp only [Wf,Ids] at *; exact ⟨g,h⟩
  | .vptr a v,g,_=>by simp only [Wf] at *; exact g
  | .vslc d nl a len cap f,g,_=>by simp only [Wf] at *; exact g
  | .fn _ a c,g,h=>by simp only [Wf,Ids] at *; exact ⟨Wfs.andIds g.1 h.1,Wfs.andIds g.2 h.2⟩
  | .arr _ _ f,g,h=>by simp only [Wf,Ids] at *; exact fun i hi=>Wf.andIds (g i hi) (h i)
  | .agg l,g,h=>by simp only [Wf,Ids] at *; exact Wfs.andIds g h
  | .tuple l,g,h=>by simp only [Wf,Ids] at *; exact Wfs.andIds g h
theorem Wfs.andIds {n p:Nat→Prop}:∀{l:List SV},Wfs I n l→Idss p l→Wfs I (fun c=>n c∧p c) l
  | [],_,_=>by simp [Wfs]
  | v::l,g,h=>by simp only [Wfs,Idss] at *; exact ⟨Wf.andIds g.1 h.1,Wfs.andIds g.2 h.2⟩
end
theorem OWf.andIds {n p:Nat→Prop} {o:SObj} (g:OWf I n o) (h:OIds p o):OWf I (fun c=>n c∧p c) o:=by
  cases o with
  | cells _ v=>exact Wf.andIds g h
  | map es=>exact fun e he=>⟨Wf.andIds (g e he).1 (h e he).1,Wf.andIds (g e he).2 (h e he).2⟩
  | dead=>trivial
theorem OWf.mono' {n m:Nat→Prop} {o:SObj} (g:OWf I n o) (h:∀c,n c→m c):OWf I m o:=OWf.mono h g
mutual
theorem Ids.mono {p q:Nat→Prop} (h:∀b,p b→q b):∀{v:SV},Ids p v→Ids q v
  | .bool _,_ | .int ..,_ | .str _,_ | .nilp,_ | .nils,_ | .nilfn,_ | .nilmap,_ | .nilifc,_ | .ints ..,_ | .bools ..,_ | .vptr ..,_ | .vslc ..,_=>by simp [Ids]
  | .ptr ..,g=>by simp only [Ids] at *; exact h _ g
  | .slc ..,g=>by simp only [Ids] at *; exact h _ g
  | .oslc ..,g=>by simp only [Ids] at *; exact h _ g
  | .map _,g=>by simp only [Ids] at *; exact h _ g
  | .fn _ a c,g=>by simp only [Ids] at *; exact ⟨Idss.mono h g.1,Idss.mono h g.2⟩
  | .arr _ _ f,g=>by simp only [Ids] at *; exact fun i=>Ids.mono h (g i)
  | .agg l,g=>by simp only [Ids] at *; exact Idss.mono h g
  | .tuple l,g=>by simp only [Ids] at *; exact Idss.mono h g
theorem Idss.mono {p q:Nat→Prop} (h:∀b,p b→q b):∀{l:List SV},Idss p l→Idss q l
  | [],_=>by simp [Idss]
  | v::l,g=>by simp only [Idss] at *; exact ⟨Ids.mono h g.1,Idss.mono h g.2⟩
end
theorem OIds.mono {p q:Nat→Prop} (h:∀b,p b→q b) {o:SObj} (g:OIds p o):OIds q o:=by
  cases o with
  | cells _ v=>exact Ids.mono h g
  | map es=>exact fun e he=>⟨Ids.mono h (g e he).1,Ids.mono h (g e he).2⟩
  | dead=>trivial
mutual
def ren (r:Nat→Nat):SV→SV
  | .bool b=>.bool b
  | .int k n=>.int k n
  | .str s=>.str s
  | .ptr b p=>.ptr (r b) p
  | .nilp=>.nilp
  | .slc b p s o n c=>.slc (r b) p s o n c
  | .oslc b s n=>.oslc (r b) s n
  | .nils=>.nils
  | .vptr a v=>.vptr a v
  | .vslc d nl a n c f=>.vslc d nl a n c f
  | .fn f a c=>.fn f (rens r a) (rens r c)
  | .nilfn=>.nilfn
  | .map b=>.map (r b)
  | .nilmap=>.nilmap
  | .nilifc=>.nilifc
  | .ints k n f=>.ints k n f
  | .bools n f=>.bools n f
  | .arr s n f=>.arr s n fun i=>ren r (f i)
  | .agg l=>.agg (rens r l)
  | .tuple l=>.tuple (rens r l)
def rens (r:Nat→Nat):List SV→List SV
  | []=>[]
  | v::l=>ren r v::rens r l
end
def renO (r:Nat→Nat):SObj→SObj
  | .cells g v=>.cells g (ren r v)
  | .map es=>.map (es.map fun e=>(ren r e.1,ren r e.2))
  | .dead=>.dead
theorem renO_live (r:Nat→Nat) (o:SObj):(renO r o).live=o.live.map (renO r):=by cases o<;>rfl
mutual
theorem ren_size (r:Nat→Nat):∀v:SV,(ren r v).size=v.size
  | .bool _ | .int .. | .str _ | .ptr .. | .nilp | .slc .. | .oslc .. | .nils | .vptr .. | .vslc .. | .nilfn | .map _ | .nilmap | .nilifc | .ints .. | .bools .. | .tuple _ | .fn .. | .arr ..=>by simp [ren,SV.size]
  | .agg l=>by simp only [ren,SV.size]; exact rens_size r l
theorem rens_size (r:Nat→Nat):∀l:List SV,sizes (rens r l)=sizes l
  | []=>by simp [rens,sizes]
  | v::l=>by simp [rens,sizes,ren_size r v,rens_size r l]
end
mutual
theorem cells_ren (ρ:Nat→Pl) (r:Nat→Nat):∀v:SV,cells ρ (ren r v)=cells (fun i=>ρ (r i)) v
  | .bool _ | .int .. | .str _ | .ptr .. | .nilp | .slc .. | .oslc .. | .nils | .vptr .. | .vslc .. | .nilfn | .map _ | .nilmap | .nilifc | .ints .. | .bools .. | .tuple _=>by simp [ren,cells]
  | .fn f a c=>by simp only [ren,cells,vals_ren ρ r a,vals_ren ρ r c]
  | .arr s n f=>by
    simp only [ren,cells]
    congr 1
    funext i
    rw [cells_ren ρ r (f i)]
  | .agg l=>by simp only [ren,cells]; exact cellss_ren ρ r l
theorem cellss_ren (ρ:Nat→Pl) (r:Nat→Nat):∀l:List SV,cellss ρ (rens r l)=cellss (fun i=>ρ (r i)) l
  | []=>by simp [rens,cellss]
  | v::l=>by simp only [rens,cellss,cells_ren ρ r v,cellss_ren ρ r l]
theorem vals_ren (ρ:Nat→Pl) (r:Nat→Nat):∀l:List SV,vals ρ (rens r l)=vals (fun i=>ρ (r i)) l
  | []=>by simp [rens,vals]
  | .tuple l::m=>by simp only [rens,ren,vals,vals_ren ρ r l,vals_ren ρ r m]
  | .bool b::m=>by have h:=cells_ren ρ r (.bool b); simp only [ren] at h; simp only [rens,ren,vals,vals_ren ρ r m,h]
  | .int k n::m=>by have h:=cells_ren ρ r (.int k n); simp only [ren] at h; simp only [rens,ren,vals,vals_ren ρ r m,h]
  | .str s::m=>by have h:=cells_ren ρ r (.str s); simp only [ren] at h; simp only [rens,ren,vals,vals_ren ρ r m,h]
  | .ptr b p::m=>by have h:=cells_ren ρ r (.ptr b p); simp only [ren] at h; simp only [rens,ren,vals,vals_ren ρ r m,h]; rfl
  | .nilp::m=>by have h:=cells_ren ρ r .nilp; simp only [ren] at h; simp only [rens,ren,vals,vals_ren ρ r m,h]
  | .oslc b s n::m=>by have h:=cells_ren ρ r (.oslc b s n); simp only [ren] at h; simp only [rens,ren,vals,vals_ren ρ r m,h]; rfl
  | .slc b p s o n c::m=>by have h:=cells_ren ρ r (.slc b p s o n c); simp only [ren] at h; simp only [rens,ren,vals,vals_ren ρ r m,h]; rfl
  | .nils::m=>by have h:=cells_ren ρ r .nils; simp only [ren] at h; simp only [rens,ren,vals,vals_ren ρ r m,h]
  | .vptr a v::m=>by have h:=cells_ren ρ r (.vptr a v); simp only [ren] at h; simp only [rens,ren,vals,vals_ren ρ r m,h]
  | .vslc d nl a n c f::m=>by have h:=cells_ren ρ r (.vslc d nl a n c f); simp only [ren] at h; simp only [rens,ren,vals,vals_ren ρ r m,h]
  | .fn f a c::m=>by have h:=cells_ren ρ r (.fn f a c); simp only [ren] at h; simp only [rens,ren,vals,vals_ren ρ r m,h]; rfl
  | .nilfn::m=>by have h:=cells_ren ρ r .nilfn; simp only [ren] at h; simp only [rens,ren,vals,vals_ren ρ r m,h]
  | .map b::m=>by have h:=cells_ren ρ r (.map b); simp only [ren] at h; simp only [rens,ren,vals,vals_ren ρ r m,h]; rfl
  | .nilmap::m=>by have h:=cells_ren ρ r .nilmap; simp only [ren] at h; simp only [rens,ren,vals,vals_ren ρ r m,h]
  | .nilifc::m=>by have h:=cells_ren ρ r .nilifc; simp only [ren] at h; simp only [rens,ren,vals,vals_ren ρ r m,h]
  | .ints k n f::m=>by have h:=cells_ren ρ r (.ints k n f); simp only [ren] at h; simp only [rens,ren,vals,vals_ren ρ r m,h]
  | .bools n f::m=>by have h:=cells_ren ρ r (.bools n f); simp only [ren] at h; simp only [rens,ren,vals,vals_ren ρ r m,h]
  | .arr s n f::m=>by have h:=cells_ren ρ r (.arr s n f); simp only [ren] at h; simp only [rens,ren,vals,vals_ren ρ r m,h]; rfl
  | .agg l::m=>by have h:=cells_ren ρ r (.agg l); simp only [ren] at h; simp only [rens,ren,vals,vals_ren ρ r m,h]; rfl
end
theorem val_ren (ρ:Nat→Pl) (r:Nat→Nat) (v:SV):val ρ (ren r v)=val (fun i=>ρ (r i)) v:=by
  have:=vals_ren ρ r [v]
  simpa [rens,vals_eq] using this
mutual
theorem wf_ren (r:Nat→Nat) {n:Nat→Prop}:∀{v:SV},Wf I n (ren r v) ↔ Wf I (fun i=>n (r i)) v
  | .bool _ | .int .. | .str _ | .ptr .. | .nilp | .slc .. | .oslc .. | .nils | .vptr .. | .vslc .. | .nilfn | .map _ | .nilmap | .nilifc | .ints .. | .bools ..=>by simp [ren,Wf]
  | .fn f a c=>by simp only [ren,Wf,wfs_ren r (l:=a),wfs_ren r (l:=c)]
  | .arr s m f=>by
    simp only [ren,Wf]
    exact forall_congr' fun i=>imp_congr Iff.rfl (wf_ren r (v:=f i))
  | .agg l=>by simp only [ren,Wf]; exact wfs_ren r
  | .tuple l=>by simp only [ren,Wf]; exact wfs_ren r
theorem wfs_ren (r:Nat→Nat) {n:Nat→Prop}:∀{l:List SV},Wfs I n (rens r l) ↔ Wfs I (fun i=>n (r i)) l
  | []=>by simp [rens,Wfs]
  | v::l=>by simp only [rens,Wfs,wf_ren r (v:=v),wfs_ren r (l:=l)]
end
theorem owf_ren (r:Nat→Nat) {n:Nat→Prop} {o:SObj}:OWf I n (renO r o) ↔ OWf I (fun i=>n (r i)) o:=by
  cases o with
  | cells g v=>exact wf_ren r
  | map es=>
    simp only [renO,OWf,List.mem_map,forall_exists_index,and_imp,forall_apply_eq_imp_iff₂,wf_ren r]
  | dead=>exact Iff.rfl
mutual
theorem ren_congr {r r':Nat→Nat} {p:Nat→Prop} (h:∀i,p i→r i=r' i):∀{v:SV},Ids p v→ren r v=ren r' v
  | .bool _,_ | .int ..,_ | .str _,_ | .nilp,_ | .nils,_ | .vptr ..,_ | .vslc ..,_ | .nilfn,_ | .nilmap,_ | .nilifc,_ | .ints ..,_ | .bools ..,_=>by simp [ren]
  | .ptr ..,g=>by simp only [Ids] at g; simp only [ren,h _ g]
  | .slc ..,g=>by simp only [Ids] at g; simp only [ren,h _ g]
  | .oslc ..,g=>by simp only [Ids] at g; simp only [ren,h _ g]
  | .map _,g=>by simp only [Ids] at g; simp only [ren,h _ g]
  | .fn f a c,g=>by simp only [Ids] at g; simp only [ren,rens_congr h g.1,rens_congr h g.2]
  | .arr s m f,g=>by
    simp only [Ids] at g
    simp only [ren]
    congr 1
    funext i
    exact ren_congr h (g i)
  | .agg l,g=>by simp only [Ids] at g; simp only [ren,rens_congr h g]
  | .tuple l,g=>by simp only [Ids] at g; simp only [ren,rens_congr h g]
theorem rens_congr {r r':Nat→Nat} {p:Nat→Prop} (h:∀i,p i→r i=r' i):∀{l:List SV},Idss p l→rens r l=rens r' l
  | [],_=>rfl
  | v::l,g=>by simp only [Idss] at g; simp only [rens,ren_congr h g.1,rens_congr h g.2]
end
theorem renO_congr {r r':Nat→Nat} {p:Nat→Prop} (h:∀i,p i→r i=r' i) {o:SObj} (g:OIds p o):renO r o=renO r' o:=by
  cases o with
  | cells g' v=>simp only [renO,ren_congr h g]
  | map es=>
    simp only [renO]
    congr 1
    apply List.map_congr_left
    intro e he
    rw [ren_congr h (g e he).1,ren_congr h (g e he).2]
  | dead=>rfl
theorem none_ren {c:Prop} {r:Nat→Nat} {o:SObj} (h:c∧∃g v,renO r o=.cells g v∧v.size=0):c∧∃g v,o=.cells g v∧v.size=0:=by
  obtain ⟨h1,g,v,h2,h3⟩:=h
  cases o with
  | cells g' v'=>
    simp only [renO,SObj.cells.injEq] at h2
    obtain ⟨rfl,rfl⟩:=h2
    exact ⟨h1,_,_,rfl,by rw [ren_size] at h3; exact h3⟩
  | map es=>simp [renO] at h2
  | dead=>simp [renO] at h2
theorem objAt_ren {ρ ρ0:Nat→Pl} {r:Nat→Nat} {p:Nat→Prop} (hρ:∀i,p i→ρ (r i)=ρ0 i) {i:Nat} (hi:p i) {w:World} {o:SObj} (ho:OWf I p o):ObjAt ρ (r i) w (renO r o) ↔ ObjAt ρ0 i w o:=by
  have hb:=hρ i hi
  cases o with
  | cells g v=>
    have e:cells ρ (ren r v)=cells ρ0 v:=by rw [cells_ren]; exact cells_congr (I:=I) (n:=p) (fun b hb=>hρ b hb) ho
    have es:=ren_size r v
    simp only [renO,ObjAt,hb,e,es]
    have er:reachOf (ρ0 i) g (ren r v)=reachOf (ρ0 i) g v:=by cases g<;>simp [reachOf,es]
    rw [er]
  | map es=>
    simp only [renO,ObjAt,hb,List.map_map]
    have e:List.map ((fun e=>(val ρ e.1,val ρ e.2)) ∘ fun e=>(ren r e.1,ren r e.2)) es=List.map (fun e=>(val ρ0 e.1,val ρ0 e.2)) es:=by
      apply List.map_congr_left
      intro x hx
      have:=ho x hx
      simp only [Function.comp,val_ren]
      rw [val_congr (I:=I) (n:=p) (fun b hb=>hρ b hb) this.1,val_congr (I:=I) (n:=p) (fun b hb=>hρ b hb) this.2]
    rw [e]
  | dead=>exact Iff.rfl
theorem getL_bl {r':Nat→Nat} {rest:List (Nat × SObj)} {b:Nat} {o:SObj}:∀{bl:List (Nat × SObj)},getL ((bl.map fun x=>(r' x.1,renO r' x.2))++ rest) b=some o→
    (∃i o0,(i,o0) ∈ bl∧getL bl i=some o0∧r' i=b∧renO r' o0=o)∨(getL rest b=some o∧∀x ∈ bl,r' x.1 ≠ b)
  | [],h=>.inr ⟨h,by simp⟩
  | (i, o0)::bl,h=>by
    simp only [List.map_cons,List.cons_append,getL] at h
    cases e:Nat.beq (r' i) b<;>rw [e] at h
    · have hne:r' i ≠ b:=fun e'=>by rw [e',Nat.beq_refl] at e; cases e
      rcases getL_bl (bl:=bl) (by simpa using h) with ⟨j,o1,h1,h2,h3,h4⟩ | ⟨h1,h2⟩
      · refine .inl ⟨j,o1,List.mem_cons_of_mem _ h1,?_,h3,h4⟩
        have:i ≠ j:=fun e'=>hne (e' ▸ h3)
        have e2:Nat.beq i j=false:=beq_ne this
        unfold getL; rw [e2]; exact h2
      · refine .inr ⟨h1,fun x hx=>?_⟩
        rcases List.mem_cons.1 hx with rfl | hx
        · exact hne
        · exact h2 x hx
    · have:=Nat.eq_of_beq_eq_true e
      subst this
      simp only [cond_true,renO_live] at h
      cases hl:o0.live with
      | none=>rw [hl] at h; cases h
      | some o2=>
        have e3:=live_some hl
        subst e3
        rw [hl] at h
        exact .inl ⟨i,o2,by simp,by simp [getL,hl],rfl,Option.some.inj h⟩
theorem getL_none_of {bl rest:List (Nat × SObj)} {i:Nat} (h:∀x ∈ bl,x.1 ≠ i):getL (bl++ rest) i=getL rest i:=by
  induction bl with
  | nil=>rfl
  | cons x bl ih=>
    obtain ⟨c,o⟩:=x
    have e2:Nat.beq c i=false:=beq_ne (h (c,o) (by simp))
    have e3:getL ((c,o)::bl++ rest) i=bif Nat.beq c i then o.live else getL (bl++ rest) i:=rfl
    rw [e3,e2]
    exact ih fun x hx=>h x (List.mem_cons_of_mem _ hx)
theorem getL_app_of {bl rest:List (Nat × SObj)} {i:Nat} {o:SObj} (h:getL bl i=some o):getL (bl++ rest) i=some o:=by
  induction bl with
  | nil=>simp [getL] at h
  | cons x bl ih=>
    obtain ⟨c,o'⟩:=x
    simp only [List.cons_append,getL] at h ⊢
    cases e:Nat.beq c i<;>rw [e] at h
    · exact ih h
    · exact h
theorem scalls_ren {f:FuncId} {args0:List SV} {σ0 σ1 σ:Heap} {v0:SV} (h:SCalls P I f args0 σ0 v0 σ1) {m:Nat} (hm:σ0.next=m) {r r':Nat→Nat}
    (hinj:∀i j,i < m→j < m→r i=r j→i=j) (hargs:∀x ∈ args0,Ids (· < m) x) (hob:∀i o,σ0.get i=some o→i < m∧OIds (· < m) o)
    (hσ:∀i o,σ0.get i=some o→σ.get (r i)=some (renO r o)) {nw:List Nat} (hr':∀i,i < m→r' i=r i) (hnw:∀(j i:Nat),nw[j]?=some i→m≤i∧i < σ1.next∧r' i=σ.next+ j)
    {K:Nat→Prop} (hK:∀i,K i ↔ i < m∨i ∈ nw) (hv:Ids K v0) {bl:List (Nat × SObj)} (hbl:∀x ∈ bl,K x.1∧OIds K x.2) (hget:∀i o,K i→getL (bl++ σ0.blocks) i=some o→σ1.get i=some o):
    SCalls P I f (args0.map (ren r)) σ (ren r' v0) ⟨σ.next+ nw.length,(bl.map fun x=>(r' x.1,renO r' x.2))++ σ.blocks⟩:=by
  subst hm
  intro ρ D w hh hfr hwf
  have hD0:HRel I (fun i=>ρ (r i)) (fun i=>D (r i)∧i < σ0.next) σ0.get w:=by
    have wfo:∀i o,σ0.get i=some o→(D (r i)∧i < σ0.next)∧OWf I (fun i=>D (r i)∧i < σ0.next) o:=fun i o hi=>by
      obtain ⟨h1,h2⟩:=hh.wf.dom _ _ (hσ i o hi)
      obtain ⟨h3,h4⟩:=hob i o hi
      exact ⟨⟨h1,h3⟩,OWf.andIds ((owf_ren r).1 h2) h4⟩
    refine ⟨⟨fun i o hi=>wfo i o hi⟩,fun i o hi=>?_,fun i o j o' hi hj hz hz' e=>hinj i j (hob i o hi).1 (hob j o' hj).1 (hh.inj _ _ _ _ (hσ i o hi) (hσ j o' hj) hz hz' e),hh.imm,fun i o hi=>hh.off _ _ (hσ i o hi),fun i o hi hz=>none_ren (hh.none_ _ _ (hσ i o hi) hz)⟩
    obtain ⟨h1,h2⟩:=wfo i o hi
    exact fun hz=>(objAt_ren (I:=I) (p:=fun i=>D (r i)∧i < σ0.next) (fun _ _=>rfl) h1 h2).1 (hh.obj _ _ (hσ i o hi) hz)
  have hav:(args0.map (ren r)).map (val ρ)=args0.map (val fun i=>ρ (r i)):=by
    rw [List.map_map]; apply List.map_congr_left; intro x _; exact val_ren ρ r x
  rw [hav]
  refine (h _ _ w hD0 (fun c hc _ hd=>by omega) (fun x hx=>Wf.andIds ((wf_ren r).1 (hwf _ (List.mem_map_of_mem hx))) (hargs x hx))).mono ?_
  rintro e w' ⟨ρ1,rfl,hx,hh',hwv⟩
  -- where the blocks lie now
  let ρ':Nat→Pl:=fun c=>if σ.next≤c then (match nw[c - σ.next]? with | some i=>ρ1 i | none=>ρ c) else ρ c
  have new:∀(j i:Nat),nw[j]?=some i→ρ' (σ.next+ j)=ρ1 i:=fun j i hj=>by
    simp only [ρ',Nat.le_add_right,if_true,Nat.add_sub_cancel_left,hj]
  have old:∀c,D c→ρ' c=ρ c:=fun c hc=>by
    by_cases h1:σ.next≤c
    · have h2:σ.next+ nw.length≤c:=by
        by_cases h2:c < σ.next+ nw.length
        · exact absurd hc (hfr c h1 h2)
        · omega
      simp only [ρ',h1,if_true]
      rw [List.getElem?_eq_none (by omega)]
    · simp only [ρ',h1,if_false]
  have oldi:∀i,D (r i)∧i < σ0.next→ρ' (r' i)=ρ1 i:=fun i hi=>by
    rw [hr' i hi.2,old _ hi.1]; exact (hx.agree i hi).symm
  have newi:∀i,i ∈ nw→ρ' (r' i)=ρ1 i:=fun i hi=>by
    obtain ⟨j,hj⟩:=List.getElem?_of_mem hi
    rw [(hnw j i hj).2.2,new j i hj]
  have all:∀i,plus (fun i=>D (r i)∧i < σ0.next) σ0.next σ1.next i∧K i→ρ' (r' i)=ρ1 i:=fun i hi=>by
    rcases (hK i).1 hi.2 with h1 | h1
    · rcases hi.1 with h2 | h2
      · exact oldi i h2
      · omega
    · exact newi i h1
  have dom':∀i,plus (fun i=>D (r i)∧i < σ0.next) σ0.next σ1.next i∧K i→plus D σ.next (σ.next+ nw.length) (r' i):=fun i hi=>by
    rcases (hK i).1 hi.2 with h1 | h1
    · rcases hi.1 with h2 | h2
      · rw [hr' i h1]; exact .inl h2.1
      · omega
    · obtain ⟨j,hj⟩:=List.getElem?_of_mem h1
      have hlt:=(List.getElem?_eq_some_iff.1 hj).1
      rw [(hnw j i hj).2.2]; exact .inr (by omega)
  have parts:∀b o,getL ((bl.map fun x=>(r' x.1,renO r' x.2))++ σ.blocks) b=some o→
      (∃i o0,K i∧σ1.get i=some o0∧OIds K o0∧r' i=b∧renO r' o0=o)∨(σ.get b=some o∧∀i o0,σ0.get i=some o0→r i ≠ b):=by
    intro b o hb
    rcases getL_bl hb with ⟨i,o0,h1,h2,h3,h4⟩ | ⟨h1,h2⟩
    · obtain ⟨h5,h6⟩:=hbl _ h1
      exact .inl ⟨i,o0,h5,hget i o0 h5 (getL_app_of h2),h6,h3,h4⟩
    · by_cases hc:∃i o0,σ0.get i=some o0∧r i=b
      · obtain ⟨i,o0,h3,h4⟩:=hc
        obtain ⟨h5,h6⟩:=hob i o0 h3
        have h7:K i:=(hK i).2 (.inl h5)
        refine .inl ⟨i,o0,h7,hget i o0 h7 ?_,h6.mono fun c hc=>(hK c).2 (.inl hc),by rw [hr' i h5,h4],?_⟩
        · rw [getL_none_of]
          · exact h3
          · rintro x hx rfl
            exact h2 x hx (by rw [hr' _ h5,h4])
        · have h8:=hσ i o0 h3
          rw [h4] at h8
          have h9:σ.get b=some o:=h1
          rw [h9] at h8
          rw [Option.some.inj h8]
          exact renO_congr (fun c hc=>hr' c hc) h6
      · exact .inr ⟨h1,fun i o0 h3 h4=>hc ⟨i,o0,h3,h4⟩⟩
  have far:∀b o,σ.get b=some o→(∀i o0,σ0.get i=some o0→r i ≠ b)→(ρ b).nil=false→w'.heap[(ρ b).blk]?=w.heap[(ρ b).blk]?:=fun b o hb hn hz=>
    hx.frame _ (hh.obj b o hb hz).lt fun c oc hc hz' e=>hn c oc hc (hh.inj _ _ _ _ (hσ c oc hc) hb hz' hz e)
  have apart:∀i o0 b o,σ1.get i=some o0→σ.get b=some o→(∀i o0,σ0.get i=some o0→r i ≠ b)→(ρ1 i).nil=false→(ρ b).nil=false→(ρ1 i).blk=(ρ b).blk→False:=fun i o0 b o h1 h2 h3 hz hz' e=>by
    have hlt:=(hh.obj b o h2 hz').lt
    rcases hx.img i o0 h1 hz with h4 | ⟨b0,o1,h5,h0,h6⟩
    · omega
    · exact h3 b0 o1 h5 (hh.inj _ _ _ _ (hσ b0 o1 h5) h2 h0 hz' (h6.trans e))
  have wf1:∀i o0,σ1.get i=some o0→OIds K o0→K i→OWf I (fun i=>plus (fun i=>D (r i)∧i < σ0.next) σ0.next σ1.next i∧K i) o0∧(plus (fun i=>D (r i)∧i < σ0.next) σ0.next σ1.next i∧K i):=fun i o0 h1 h2 h3=>by
    obtain ⟨h4,h5⟩:=hh'.wf.dom i o0 h1
    exact ⟨OWf.andIds h5 h2,h4,h3⟩
  have hwv2:=Wf.andIds hwv hv
  refine ⟨ρ',?_,?_,?_,?_⟩
  · rw [val_ren,val_congr (I:=I) (n:=fun i=>plus (fun i=>D (r i)∧i < σ0.next) σ0.next σ1.next i∧K i) (fun i hi=>all i hi) hwv2]
  · refine ⟨fun _ h=>.inl h,old,hx.os,hx.tape,hx.output,hx.size,fun i hi hn=>hx.frame i hi fun b o hb hz e=>hn (r b) _ (hσ b o hb) hz e,fun b o hb hz=>?_⟩
    rcases parts b o hb with ⟨i,o0,h1,h2,h3,rfl,rfl⟩ | ⟨h1,h2⟩
    · rw [all i (wf1 i o0 h2 h3 h1).2] at hz ⊢
      rcases hx.img i o0 h2 hz with h4 | ⟨b0,o1,h5,h0,h6⟩
      · exact .inl h4
      · exact .inr ⟨r b0,_,hσ b0 o1 h5,h0,h6⟩
    · rw [old b (hh.wf.dom b o h1).1] at hz ⊢
      exact .inr ⟨b,o,h1,hz,rfl⟩
  · refine ⟨⟨fun b o hb=>?_⟩,fun b o hb hz=>?_,fun b o b' o' hb hb' hz hz' e=>?_,hh'.imm,fun b o hb hz=>?_,fun b o hb hz=>?_⟩
    · rcases parts b o hb with ⟨i,o0,h1,h2,h3,rfl,rfl⟩ | ⟨h1,h2⟩
      · obtain ⟨h4,h5⟩:=wf1 i o0 h2 h3 h1
        exact ⟨dom' i h5,(owf_ren r').2 (h4.mono' dom')⟩
      · exact ⟨.inl (hh.wf.dom b o h1).1,(hh.wf.dom b o h1).2.mono' fun c hc=>.inl hc⟩
    · rcases parts b o hb with ⟨i,o0,h1,h2,h3,rfl,rfl⟩ | ⟨h1,h2⟩
      · obtain ⟨h4,h5⟩:=wf1 i o0 h2 h3 h1
        exact (objAt_ren (I:=I) (p:=fun i=>plus (fun i=>D (r i)∧i < σ0.next) σ0.next σ1.next i∧K i) all h5 h4).2 (hh'.obj i o0 h2 (by rw [all i h5] at hz; exact hz))
      · rw [old b (hh.wf.dom b o h1).1] at hz
        exact ObjAt.congr (I:=I) (hh.obj b o h1 hz) (hh.wf.dom b o h1).2 old (hh.wf.dom b o h1).1 (far b o h1 h2 hz)
    · rcases parts b o hb with ⟨i,o0,h1,h2,h3,rfl,rfl⟩ | ⟨h1,h2⟩<;>rcases parts b' o' hb' with ⟨i',o0',h1',h2',h3',rfl,rfl⟩ | ⟨h1',h2'⟩
      · rw [all i (wf1 i o0 h2 h3 h1).2] at e hz
        rw [all i' (wf1 i' o0' h2' h3' h1').2] at e hz'
        rw [hh'.inj i o0 i' o0' h2 h2' hz hz' e]
      · rw [all i (wf1 i o0 h2 h3 h1).2] at e hz
        rw [old b' (hh.wf.dom b' o' h1').1] at e hz'
        exact (apart i o0 b' o' h2 h1' h2' hz hz' e).elim
      · rw [all i' (wf1 i' o0' h2' h3' h1').2] at e hz'
        rw [old b (hh.wf.dom b o h1).1] at e hz
        exact (apart i' o0' b o h2' h1 h2 hz' hz e.symm).elim
      · rw [old b (hh.wf.dom b o h1).1] at e hz
        rw [old b' (hh.wf.dom b' o' h1').1] at e hz'
        exact hh.inj b o b' o' h1 h1' hz hz' e
    · rcases parts b o hb with ⟨i,o0,h1,h2,h3,rfl,rfl⟩ | ⟨h1,h2⟩
      · rw [all i (wf1 i o0 h2 h3 h1).2] at hz ⊢; exact hh'.off i o0 h2 hz
      · rw [old b (hh.wf.dom b o h1).1] at hz ⊢; exact hh.off b o h1 hz
    · rcases parts b o hb with ⟨i,o0,h1,h2,h3,rfl,rfl⟩ | ⟨h1,h2⟩
      · rw [all i (wf1 i o0 h2 h3 h1).2] at hz ⊢
        obtain ⟨q1,g',v',rfl,q3⟩:=hh'.none_ i _ h2 hz
        exact ⟨q1,g',_,rfl,by rw [ren_size]; exact q3⟩
      · rw [old b (hh.wf.dom b o h1).1] at hz ⊢; exact hh.none_ b o h1 hz
  · exact (wf_ren r').2 (hwv2.mono dom')
end
end Go.Sh
namespace Go.Sh
open Go
section
variable {α:Type} {P:Program} {I:Imm}
def getN : List Nat→Nat→Option Nat
  | [],_=>none
  | b::_,0=>some b
  | _::l,i+ 1=>getN l i
theorem getN_eq : ∀(l:List Nat) (i:Nat),getN l i=l[i]?
  | [],_=>by simp [getN]
  | b::_,0=>by simp [getN]
  | _::l,i+ 1=>by simp [getN,getN_eq l i]
def posN : List Nat→Nat→Nat
  | [],_=>0
  | b::l,i=>bif Nat.beq b i then 0 else posN l i+ 1
theorem posN_spec : ∀{l:List Nat} {j i:Nat},l.Nodup→l[j]?=some i→posN l i=j
  | [],_,_,_,h=>by simp at h
  | b::l,0,i,_,h=>by simp at h; subst h; simp [posN]
  | b::l,j+ 1,i,hn,h=>by
    simp only [List.getElem?_cons_succ] at h
    have hm:i ∈ l:=List.mem_of_getElem? h
    have hne:b ≠ i:=fun e=>(List.nodup_cons.1 hn).1 (e ▸ hm)
    simp only [posN,beq_ne hne,cond_false,posN_spec (List.nodup_cons.1 hn).2 h]
def rnm (rl:List Nat) (n:Nat) (nw:List Nat) (i:Nat):Nat:=
  match getN rl i with
  | some b=>b
  | none=>n+ posN nw i
def enumO : Nat→List SObj→List (Nat × SObj)
  | _,[]=>[]
  | i,o::l=>(i,o)::enumO (i+ 1) l
theorem enumO_get : ∀{l:List SObj} {n i:Nat} {o:SObj},getL (enumO n l) i=some o→n≤i∧l[i - n]?=some o
  | [],n,i,o,h=>by simp [enumO,getL] at h
  | x ::l,n,i,o,h=>by
    simp only [enumO,getL] at h
    cases e:Nat.beq n i<;>rw [e] at h
    · obtain ⟨h1,h2⟩:=enumO_get (l:=l) (by simpa using h)
      exact ⟨by omega,by rw [show i - n=(i - (n+ 1))+ 1 by omega]; simpa using h2⟩
    · have:=Nat.eq_of_beq_eq_true e
      subst this
      have h2:=live_some (show x.live=some o by simpa using h)
      subst h2
      exact ⟨Nat.le_refl _,by simp⟩
theorem enumO_mem : ∀{l:List SObj} {n i:Nat} {o:SObj},n≤i→l[i - n]?=some o→(i,o) ∈ enumO n l
  | [],n,i,o,_,h=>by simp at h
  | x ::l,n,i,o,h0,h=>by
    by_cases e:i=n
    · subst e; simp at h; subst h; simp [enumO]
    · rw [show i - n=(i - (n+ 1))+ 1 by omega] at h
      exact List.mem_cons_of_mem _ (enumO_mem (l:=l) (by omega) (by simpa using h))
def hp (os:List SObj):Heap:=⟨os.length,enumO 0 os⟩
def inK (i:Nat):List (Nat × SObj)→Bool
  | []=>false
  | x::l=>bif Nat.beq x.1 i then true else inK i l
theorem inK_app {i:Nat} {o:SObj} {rest:List (Nat × SObj)}:∀{l:List (Nat × SObj)},inK i l=true→getL (l++ rest) i=some o→getL l i=some o
  | [],h,_=>by simp [inK] at h
  | (c,o')::l,h,h2=>by
    simp only [inK] at h
    simp only [List.cons_append,getL] at h2 ⊢
    cases e:Nat.beq c i<;>rw [e] at h h2
    · exact inK_app (l:=l) (by simpa using h) h2
    · exact h2
def Ends (x:R Ans) (Q:SV→Heap→Prop):Prop:=∃v σ,x=some (v,σ)∧Q v σ
structure Pub (rl:List Nat) (os:List SObj) (σ:Heap) (v0:SV) (σ1:Heap) (nw:List Nat) (bl:List (Nat × SObj)):Prop where
  nodup:nw.Nodup
  new:∀i ∈ nw,os.length≤i∧i < σ1.next
  ids:Ids (fun i=>i < os.length∨i ∈ nw) v0
  key:∀x ∈ bl,(x.1 < os.length∨x.1 ∈ nw)∧OIds (fun i=>i < os.length∨i ∈ nw) x.2
  told:∀x ∈ bl,(∀o,x.2.live=some o→σ1.get x.1=some o)
  kept:∀y ∈ enumO 0 os,inK y.1 bl=true∨σ1.get y.1=some y.2
structure Lay (rl:List Nat) (os:List SObj) (args0:List SV) (args:List SV) (σ:Heap):Prop where
  len:rl.length=os.length
  nodup:rl.Nodup
  args:args0.map (ren (rnm rl 0 []))=args
  have_:∀y ∈ enumO 0 os,σ.get (rnm rl 0 [] y.1)=some (renO (rnm rl 0 []) y.2)
  aids:∀x ∈ args0,Ids (fun i=>i < os.length) x
  oids:∀o ∈ os,OIds (fun i=>i < os.length) o
theorem getL_mem {i:Nat} {o:SObj}:∀{l:List (Nat × SObj)},getL l i=some o→(i,o) ∈ l
  | [],h=>by simp [getL] at h
  | (c,o')::l,h=>by
    simp only [getL] at h
    cases e:Nat.beq c i<;>rw [e] at h
    · exact List.mem_cons_of_mem _ (getL_mem (l:=l) (by simpa using h))
    · have:=Nat.eq_of_beq_eq_true e
      subst this
      have h2:=live_some (show o'.live=some o by simpa using h)
      subst h2; simp
theorem inK_false {i:Nat}:∀{l:List (Nat × SObj)},inK i l=false→∀x ∈ l,x.1 ≠ i
  | [],_,x,hx=>by simp at hx
  | y ::l,h,x,hx=>by
    simp only [inK] at h
    cases e:Nat.beq y.1 i<;>rw [e] at h
    · rcases List.mem_cons.1 hx with rfl | hx
      · rintro rfl; rw [Nat.beq_refl] at e; cases e
      · exact inK_false (l:=l) (by simpa using h) x hx
    · simp at h
theorem canon_calls {f:FuncId} {rl:List Nat} {os:List SObj} {args0 args:List SV} {σ σ1:Heap} {v0:SV} {nw:List Nat} {bl:List (Nat × SObj)} (h:SCalls P I f args0 (hp os) v0 σ1) (hg:Grow (hp os) σ1) (hl:Lay rl os args0 args σ) (hp':Pub rl os σ v0 σ1 nw bl):
    SCalls P I f args σ (ren (rnm rl σ.next nw) v0) ⟨σ.next+ nw.length,(bl.map fun x=>(rnm rl σ.next nw x.1,renO (rnm rl σ.next nw) x.2))++ σ.blocks⟩∧
      Grow σ ⟨σ.next+ nw.length,(bl.map fun x=>(rnm rl σ.next nw x.1,renO (rnm rl σ.next nw) x.2))++ σ.blocks⟩:=by
  have hr:∀n nw' i,i < os.length→rnm rl n nw' i=rl[i]?.getD 0:=fun n nw' i hi=>by
    have:i < rl.length:=by rw [hl.len]; exact hi
    simp [rnm,getN_eq,this]
  have hob:∀i o,(hp os).get i=some o→i < os.length∧OIds (fun i=>i < os.length) o:=fun i o hi=>by
    obtain ⟨_,h2⟩:=enumO_get hi
    exact ⟨(List.getElem?_eq_some_iff.1 h2).1,hl.oids o (List.mem_of_getElem? h2)⟩
  have hσ:∀i o,(hp os).get i=some o→σ.get (rnm rl 0 [] i)=some (renO (rnm rl 0 []) o):=fun i o hi=>hl.have_ (i,o) (getL_mem hi)
  have hnew:∀(j i:Nat),nw[j]?=some i→rnm rl σ.next nw i=σ.next+ j:=fun j i hj=>by
    have hge:=(hp'.new i (List.mem_of_getElem? hj)).1
    simp only [rnm,getN_eq,List.getElem?_eq_none (show rl.length≤i by rw [hl.len]; exact hge),posN_spec hp'.nodup hj]
  subst_vars
  refine ⟨?_,Nat.le_add_right _ _,_,rfl,?_⟩
  · have hargs:=hl.args
    subst hargs
    refine scalls_ren (m:=os.length) (r:=rnm rl 0 []) (K:=fun i=>i < os.length∨i ∈ nw) h rfl (fun i j hi hj e=>?_) hl.aids hob hσ (fun i hi=>by rw [hr _ _ i hi,hr _ _ i hi]) (fun j i hj=>?_) (fun i=>Iff.rfl) hp'.ids hp'.key (fun i o hi ho=>?_)
    · rw [hr _ _ i hi,hr _ _ j hj] at e
      have h1:i < rl.length:=by rw [hl.len]; exact hi
      have h2:j < rl.length:=by rw [hl.len]; exact hj
      simp only [h1,h2,List.getElem?_eq_getElem,Option.getD_some] at e
      exact (List.getElem_inj hl.nodup).1 e
    · have hmem:=List.mem_of_getElem? hj
      obtain ⟨h1,h2⟩:=hp'.new i hmem
      exact ⟨h1,h2,hnew j i hj⟩
    · cases e:inK i bl
      · rw [getL_none_of (inK_false e)] at ho
        rcases hp'.kept (i,o) (getL_mem ho) with h1 | h1
        · rw [e] at h1; cases h1
        · exact h1
      · have h1:=inK_app e ho
        exact hp'.told _ (getL_mem h1) o (getL_live h1)
  · intro x hx
    obtain ⟨y,hy,rfl⟩:=List.mem_map.1 hx
    rcases (hp'.key y hy).1 with h1 | h1
    · left
      have:=hl.have_ (y.1,os[y.1]) (enumO_mem (n:=0) (by omega) (by simp))
      rw [hr _ _ _ h1] at this
      exact ⟨_,by simp only [hr _ _ _ h1]; exact this⟩
    · right
      obtain ⟨j,hj⟩:=List.getElem?_of_mem h1
      have hlt:=(List.getElem?_eq_some_iff.1 hj).1
      simp only [hnew j y.1 hj]
      omega
theorem orc_canon {te : TE} (hpr : Prg P te) {O : ORC Ans} (hO : OOk P I O) {L : LO Ans} (n : Fuel) {f : FuncId} {fn : Func} (hf : P.funcs[f]? = some fn) (h1 : (fn.name == "runtime.NumGoroutine") = false) (h2 : fn.body.isNone = false) (hok : fnOk fn = true) (hL : FLOk P I L fn)
    {F:FF α} (hF:∀args σ k r,F args σ k=some r→∃rl os args0,Lay rl os args0 args σ∧Ends (bodyL te O L n fn args0 (hp os) ans) fun v0 σ1=>∃nw bl,Pub rl os σ v0 σ1 nw bl∧
      k (ren (rnm rl σ.next nw) v0) ⟨σ.next+ nw.length,(bl.map fun x=>(rnm rl σ.next nw x.1,renO (rnm rl σ.next nw) x.2))++ σ.blocks⟩=some r):OrcOk P I f (.full F):=by
  refine ⟨enters_of hf h1 h2,fun args σ k r hk=>?_⟩
  obtain ⟨rl,os,args0,h3,v0,σ1,h4,nw,bl,h5,h6⟩:=hF args σ k r hk
  obtain ⟨v',σ',h7,hg,h8⟩:=body_calls hpr hO hf hok hL h4
  simp only [ans,Option.some.injEq,Prod.mk.injEq] at h7
  obtain ⟨rfl,rfl⟩:=h7
  obtain ⟨h9,h10⟩:=canon_calls h8 hg h3 h5
  exact ⟨_,_,h6,h10,h9⟩
theorem pure_of_calls {f:FuncId} {args:List SV} {v:SV} {σe:Heap} (h:SCalls P I f args emp v σe) (hv:Ids (fun _=>False) v) (ha:∀x ∈ args,Ids (fun _=>False) x):SPure P I f args v:=by
  refine fun D hargs ρ e w hh=>?_
  have hargs':∀x ∈ args,Wf I (fun _=>False) x:=fun x hx=>(Wf.andIds (hargs x hx) (ha x hx)).mono fun _ h=>h.2
  have hemp:HRel I ρ (fun _=>False) emp.get w:=⟨⟨fun b o hb=>by simp [emp,Heap.get,getL] at hb⟩,fun b o hb=>by simp [emp,Heap.get,getL] at hb,fun b o b' o' hb=>by simp [emp,Heap.get,getL] at hb,hh.imm,fun b o hb=>by simp [emp,Heap.get,getL] at hb,fun b o hb=>by simp [emp,Heap.get,getL] at hb⟩
  refine (h ρ _ w hemp (fun _ _ _ h=>h) hargs').mono ?_
  rintro en w' ⟨ρ',rfl,hx,hr,hwv⟩
  have hwv':Wf I (fun _=>False) v:=(Wf.andIds hwv hv).mono fun _ h=>h.2
  have hfr:∀i,i < w.heap.size→w'.heap[i]?=w.heap[i]?:=fun i hi=>hx.frame i hi fun b o hb=>by simp [emp,Heap.get,getL] at hb
  refine ⟨?_,hwv'.mono fun _ h=>h.elim,⟨fun _ h=>h,fun _ _=>rfl,hx.os,hx.tape,hx.output,hx.size,fun i hi _=>hfr i hi,fun b o hb hz=>.inr ⟨b,o,hb,hz,rfl⟩⟩,⟨hh.wf,fun b o hb hz=>?_,hh.inj,hr.imm,hh.off,hh.none_⟩⟩
  · rw [val_congr (I:=I) (n:=fun _=>False) (fun b hb=>hb.elim) hwv']
  · exact ObjAt.congr (I:=I) (hh.obj b o hb hz) (hh.wf.dom b o hb).2 (fun _ _=>rfl) (hh.wf.dom b o hb).1 (hfr _ (hh.obj b o hb hz).lt)
theorem orc_pure {te : TE} (hpr : Prg P te) {O : ORC Ans} (hO : OOk P I O) {L : LO Ans} (n : Fuel) {f : FuncId} {fn : Func} (hf : P.funcs[f]? = some fn) (h1 : (fn.name == "runtime.NumGoroutine") = false) (h2 : fn.body.isNone = false) (hok : fnOk fn = true) (hL : FLOk P I L fn)
    {F:FP α} (hF:∀args k r,F args k=some r→∃v,k v=some r∧Ids (fun _=>False) v∧(∀x ∈ args,Ids (fun _=>False) x)∧EndsV (bodyL te O L n fn args emp ans) v):OrcOk P I f (.pure F):=by
  refine ⟨enters_of hf h1 h2,fun args k r hk=>?_⟩
  obtain ⟨v,h3,h4,h5,σe,h6⟩:=hF args k r hk
  refine ⟨v,h3,?_⟩
  obtain ⟨v',σ',h7,hg,h8⟩:=body_calls hpr hO hf hok hL h6
  simp only [ans,Option.some.injEq,Prod.mk.injEq] at h7
  obtain ⟨rfl,rfl⟩:=h7
  exact pure_of_calls h8 h4 h5
end
end Go.Sh
namespace Go.Sh
open Go
section
variable {α:Type} {P:Program} {I:Imm}
def AllL {β:Type} (p:β→Prop):List β→Prop
  | []=>True
  | x::l=>p x∧AllL p l
theorem allL_iff {β:Type} {p:β→Prop}:∀{l:List β},AllL p l ↔ ∀x ∈ l,p x
  | []=>by simp [AllL]
  | x::l=>by simp [AllL,allL_iff (l:=l)]
theorem lay_mk {rl:List Nat} {os:List SObj} {args0 args:List SV} {σ:Heap} (h1:rl.length=os.length) (h2:rl.Nodup) (h3:args0.map (ren (rnm rl 0 []))=args)
    (h4:AllL (fun y=>σ.get (rnm rl 0 [] y.1)=some (renO (rnm rl 0 []) y.2)) (enumO 0 os)) (h5:AllL (Ids (fun i=>i < os.length)) args0) (h6:AllL (OIds (fun i=>i < os.length)) os):Lay rl os args0 args σ:=
  ⟨h1,h2,h3,allL_iff.1 h4,allL_iff.1 h5,allL_iff.1 h6⟩
def Told (σ1:Heap) (y:Nat × SObj):Prop:=match y.2 with
  | .dead=>True
  | o=>σ1.get y.1=some o
def KeptO (bl:List (Nat × SObj)) (σ1:Heap) (y:Nat × SObj):Prop:=inK y.1 bl=true∨σ1.get y.1=some y.2
def EndsK (x:R Ans) (v:SV) (bl:List (Nat × SObj)) (os:List SObj):Prop:=
  ∃v0 σ1,x=some (v0,σ1)∧v0=v∧AllL (Told σ1) bl∧AllL (KeptO bl σ1) (enumO 0 os)
theorem told_of {σ1:Heap} {y:Nat × SObj} (h:Told σ1 y) (o:SObj) (ho:y.2.live=some o):σ1.get y.1=some o:=by
  obtain ⟨i,ob⟩:=y
  cases ob with
  | cells g v=>simp only [SObj.live,Option.some.injEq] at ho; subst ho; exact h
  | map es=>simp only [SObj.live,Option.some.injEq] at ho; subst ho; exact h
  | dead=>cases ho
theorem ends_keep {x:R Ans} {v:SV} {rl:List Nat} {os:List SObj} {σ:Heap} {k:SV→Heap→R α} {r:α} {bl:List (Nat × SObj)} (h:EndsK x v bl os) (hv:Ids (fun i=>i < os.length) v) (hb:AllL (fun y=>y.1 < os.length∧OIds (fun i=>i < os.length) y.2) bl)
    (hk:k (ren (rnm rl σ.next []) v) ⟨σ.next,(bl.map fun x=>(rnm rl σ.next [] x.1,renO (rnm rl σ.next []) x.2))++ σ.blocks⟩=some r):
    Ends x fun v0 σ1=>∃nw bl,Pub rl os σ v0 σ1 nw bl∧k (ren (rnm rl σ.next nw) v0) ⟨σ.next+ nw.length,(bl.map fun x=>(rnm rl σ.next nw x.1,renO (rnm rl σ.next nw) x.2))++ σ.blocks⟩=some r:=by
  obtain ⟨v0,σ1,rfl,rfl,h1,h2⟩:=h
  refine ⟨_,_,rfl,[],bl,⟨by simp,by simp,hv.mono fun _ h=>.inl h,fun y hy=>?_,fun y hy=>told_of (allL_iff.1 h1 y hy),allL_iff.1 h2⟩,hk⟩
  obtain ⟨h3,h4⟩:=allL_iff.1 hb y hy
  exact ⟨.inl h3,h4.mono fun _ h=>.inl h⟩
def EndsN (x:R Ans) (v:SV) (nw:List Nat) (bl:List (Nat × SObj)) (os:List SObj):Prop:=
  ∃v0 σ1,x=some (v0,σ1)∧v0=v∧AllL (fun i=>os.length≤i∧i < σ1.next) nw∧AllL (Told σ1) bl∧AllL (KeptO bl σ1) (enumO 0 os)
theorem ends_new {x:R Ans} {v:SV} {rl nw:List Nat} {os:List SObj} {σ:Heap} {k:SV→Heap→R α} {r:α} {bl:List (Nat × SObj)} (h:EndsN x v nw bl os) (hn:nw.Nodup) (hv:Ids (fun i=>i < os.length∨i ∈ nw) v) (hb:AllL (fun y=>(y.1 < os.length∨y.1 ∈ nw)∧OIds (fun i=>i < os.length∨i ∈ nw) y.2) bl)
    (hk:k (ren (rnm rl σ.next nw) v) ⟨σ.next+ nw.length,(bl.map fun x=>(rnm rl σ.next nw x.1,renO (rnm rl σ.next nw) x.2))++ σ.blocks⟩=some r):
    Ends x fun v0 σ1=>∃nw bl,Pub rl os σ v0 σ1 nw bl∧k (ren (rnm rl σ.next nw) v0) ⟨σ.next+ nw.length,(bl.map fun x=>(rnm rl σ.next nw x.1,renO (rnm rl σ.next nw) x.2))++ σ.blocks⟩=some r:=by
  obtain ⟨v0,σ1,rfl,rfl,h0,h1,h2⟩:=h
  exact ⟨_,_,rfl,nw,bl,⟨hn,allL_iff.1 h0,hv,allL_iff.1 hb,fun y hy=>told_of (allL_iff.1 h1 y hy),allL_iff.1 h2⟩,hk⟩
abbrev memO (b1:Nat) (g0:Option Nat):SObj:=.cells g0 (.agg [.slc b1 [] 1 0 32768 none])
abbrev byO (_:Option Nat) (f:Nat→Int):SObj:=.cells (some 1) (.ints .u8 32768 f)
def withMem (σ:Heap) (p:SV) (k:Nat→Nat→Option Nat→Option Nat→(Nat→Int)→R α):R α:=
  match p with
  | .ptr b []=>match σ.get b with
    | some (.cells g0 (.agg [.slc b1 [] sz off len none]))=>bif (Nat.beq sz 1 && Nat.beq off 0) && Nat.beq len 32768 then match σ.get b1 with
      | some (.cells (some g1) (.ints .u8 m f))=>bif Nat.beq m 32768 && (!Nat.beq b b1 && Nat.beq g1 1) then k b b1 g0 none f else none
      | _=>none else none
    | _=>none
  | _=>none
theorem withMem_spec {σ:Heap} {p:SV} {k:Nat→Nat→Option Nat→Option Nat→(Nat→Int)→R α} {r:α} (h:withMem σ p k=some r):
    ∃b b1 g0 g1 f,p=.ptr b []∧σ.get b=some (memO b1 g0)∧σ.get b1=some (byO g1 f)∧b ≠ b1∧k b b1 g0 g1 f=some r:=by
  unfold withMem at h
  split at h<;>try (simp at h; done)
  rename_i b
  split at h<;>try (simp at h; done)
  rename_i g0 b1 sz off len h0
  obtain ⟨h1,h2⟩:=bif_some h
  split at h2<;>try (simp at h2; done)
  rename_i g1 m f h3
  obtain ⟨h4,h5⟩:=bif_some h2
  simp only [Bool.and_eq_true,Nat.beq_eq,Bool.not_eq_true'] at h1 h4
  obtain ⟨⟨rfl,rfl⟩,rfl⟩:=h1
  obtain ⟨rfl,h4,rfl⟩:=h4
  exact ⟨b,b1,g0,none,f,rfl,h0,h3,fun e=>by subst e; simp at h4,h5⟩
theorem nodup2 {a b:Nat} (h:a ≠ b):[a,b].Nodup:=by simp [h]
end
end Go.Sh
namespace Go.Sh
open Go Go.RowKit Go.WideShapes Go.ChangeShapes
mutual
def TD.Fit : (d:TD)→d.Val→Prop
  | .int k,n=>(Lit.int k n).wf=true
  | .bool,_=>True
  | .str,s=>s.size≤maxLen
  | .st l,vs=>tdFits l vs
  | .ints n k,f=>∀i,i < n→(Lit.int k (f i)).wf=true
  | .sl e,(nl,_,len,cap,f)=>(nl=true→len=0∧cap=0)∧len≤cap∧cap≤maxLen∧∀i,i < len→e.Fit (f i)
def tdFits : (l:List TD)→tdVals l→Prop
  | [],_=>True
  | d::l,(v,vs)=>d.Fit v∧tdFits l vs
end
def isIntT (P:Program) (t:TypeId) (k:IntKind):Bool:=match P.underlying t with | some (.int k')=>decide (k'=k) | _=>false
mutual
def tdB (P:Program):TypeId→TD→Bool
  | t,.int k=>isIntT P t k
  | t,.bool=>match P.underlying t with | some .bool=>true | _=>false
  | t,.str=>match P.underlying t with | some .string=>true | _=>false
  | t,.st l=>match P.underlying t with | some (.struct fs)=>Nat.beq (P.cellsOf t) (tdSizes l) && tdsB P fs.toList 0 l | _=>false
  | t,.ints n k=>match P.underlying t with | some (.array n' e)=>Nat.beq n' n && (Nat.beq (P.cellsOf t) n && (Nat.beq (P.cellsOf e) 1 && isIntT P e k)) | _=>false
  | t,.sl d=>match P.underlying t with | some (.slice e)=>Nat.beq (P.cellsOf e) d.size && (!Nat.beq d.size 0 && tdB P e d) | _=>false
def tdsB (P:Program):List Field→Nat→List TD→Bool
  | [],_,[]=>true
  | f::fs,o,d::l=>Nat.beq f.offset o && (Nat.beq (P.cellsOf f.type) d.size && (tdB P f.type d && tdsB P fs (o+ d.size) l))
  | _,_,_=>false
end
theorem isIntT_spec {P:Program} {t:TypeId} {k:IntKind} (h:isIntT P t k=true):P.underlying t=some (.int k):=by
  unfold isIntT at h
  split at h
  · rename_i k' h'
    rw [h',of_decide_eq_true h]
  · cases h
structure Opened (w:World) (td:TD) (cs:List Value) (x:td.Val):Prop where
  fit:td.Fit x
  cells:∀ρ,cells ρ (td.sv x)=cs
  wf:Wf (fun i=>w.heap[i]?) (fun _=>False) (td.sv x)
  size:(td.sv x).size=td.size
  ntup:(td.sv x).isTuple=false
section
variable {H:Type} {enc:TypeId × Value→H} {P:Program} {w:World}
mutual
theorem open_td : ∀{td:TD} {t:TypeId} {fuel:Nat} {cs:List Value} {x:DataW H × List MemPlace},tdB P t td=true→DataW.trod enc P w 0 (fun _=>true) true fuel t cs=some x→∃v,Opened w td cs v
  | .int k,t,fuel,cs,x,hb,h=>by
    simp only [tdB] at hb
    obtain ⟨n,rfl,_,hwf⟩:=DataW.trod_int (isIntT_spec hb) h
    exact ⟨n,by simpa only [TD.Fit] using hwf,fun ρ=>rfl,by simp [TD.sv,Wf],rfl,rfl⟩
  | .bool,t,fuel,cs,x,hb,h=>by
    simp only [tdB] at hb
    split at hb<;>try (simp at hb; done)
    rename_i hu
    obtain ⟨b,rfl,_⟩:=DataW.trod_bool hu h
    exact ⟨b,by simp [TD.Fit],fun ρ=>rfl,by simp [TD.sv,Wf],rfl,rfl⟩
  | .str,t,fuel,cs,x,hb,h=>by
    simp only [tdB] at hb
    split at hb<;>try (simp at hb; done)
    rename_i hu
    obtain ⟨s,rfl,_,hs⟩:=DataW.trod_string hu h
    exact ⟨s,by simpa only [TD.Fit] using hs,fun ρ=>rfl,by simp [TD.sv,Wf],rfl,rfl⟩
  | .st l,t,fuel,cs,x,hb,h=>by
    simp only [tdB] at hb
    split at hb<;>try (simp at hb; done)
    rename_i fs hu
    simp only [Bool.and_eq_true] at hb
    obtain ⟨hb1,hb2⟩:=hb
    obtain ⟨xs,n,_,_,hlen,hxl,hall⟩:=DataW.trod_struct hu h
    have hsz:=Nat.eq_of_beq_eq_true hb1
    obtain ⟨vs,h1,h2,h3,h4⟩:=opens_td (n:=n) (cs:=cs) hb2 (by omega) (fun f hf=>by
      obtain ⟨i,hi⟩:=List.getElem?_of_mem hf
      have h5:=hall i f (by simpa using hi)
      have hlt:i < fs.size:=by have:=(List.getElem?_eq_some_iff.1 hi).1; simpa using this
      rw [List.getElem?_eq_getElem (by omega)] at h5
      exact ⟨_,h5⟩)
    refine ⟨vs,by simp only [TD.Fit]; exact h1,fun ρ=>by simp only [TD.sv,Sh.cells]; rw [h2 ρ]; simp,by simp only [TD.sv,Wf]; exact h3,by simp only [TD.sv,SV.size,TD.size]; exact h4,rfl⟩
  | .ints n k,t,fuel,cs,x,hb,h=>by
    simp only [tdB] at hb
    split at hb<;>try (simp at hb; done)
    rename_i n' e hu
    simp only [Bool.and_eq_true] at hb
    obtain ⟨hb1,hb2,hb3,hb4⟩:=hb
    have e1:=Nat.eq_of_beq_eq_true hb1
    subst e1
    obtain ⟨xs,m,_,_,hlen,hxl,hall⟩:=DataW.trod_array hu h
    rw [Nat.eq_of_beq_eq_true hb2] at hlen
    rw [Nat.eq_of_beq_eq_true hb3] at hall
    have hel:∀i,i < n'→∃z,cs[i]?=some (.int k z)∧(Lit.int k z).wf=true:=fun i hi=>by
      have h1:=hall i hi
      have hlt:i < xs.length:=by omega
      rw [List.getElem?_eq_getElem hlt] at h1
      obtain ⟨z,h2,_,h3⟩:=DataW.trod_int (isIntT_spec hb4) h1
      refine ⟨z,?_,h3⟩
      rw [Nat.mul_one] at h2
      have h4:(List.take 1 (List.drop i cs))[0]?=some (.int k z):=by rw [h2]; rfl
      simpa using h4
    let f:Nat→Int:=fun i=>match cs[i]? with | some (.int _ z)=>z | _=>0
    have hf:∀i,i < n'→cs[i]?=some (.int k (f i))∧(Lit.int k (f i)).wf=true:=fun i hi=>by
      obtain ⟨z,h1,h2⟩:=hel i hi
      have:f i=z:=by simp only [f,h1]
      rw [this]; exact ⟨h1,h2⟩
    refine ⟨f,by simp only [TD.Fit]; exact fun i hi=>(hf i hi).2,fun ρ=>?_,by simp [TD.sv,Wf],rfl,rfl⟩
    simp only [TD.sv,Sh.cells]
    apply List.ext_getElem?
    intro i
    by_cases hi:i < n'
    · rw [(hf i hi).1]; simp [hi]
    · rw [List.getElem?_eq_none (by simp; omega),List.getElem?_eq_none (by omega)]
  | .sl d, t, fuel,cs,x,hb,h=>by
    simp only [tdB] at hb
    split at hb<;>try (simp at hb; done)
    rename_i e hu
    simp only [Bool.and_eq_true] at hb
    obtain ⟨hb1,hb2,hb3⟩:=hb
    have hsz:=Nat.eq_of_beq_eq_true hb1
    have hd0:d.size ≠ 0:=fun e0=>by rw [e0] at hb2; simp at hb2
    rcases Go.Deep.open_slice hu h with ⟨rfl,_⟩ | ⟨a,len,cap,m,n,D,Pl,rfl,_,hl,hm,hmm,_,hall⟩
    · exact ⟨(true,⟨0,0,none⟩,0,0,fun _=>d.dflt),by simp [TD.Fit],fun ρ=>rfl,by simp [TD.sv,Wf,VW],rfl,rfl⟩
    · simp only [if_true] at hmm
      subst hmm
      rw [hsz] at hall
      have hel:∀i,i < m→∃cs' v,w.cells? 0 (a.add (i * d.size)) d.size=some cs'∧Opened w d cs' v:=fun i hi=>by
        obtain ⟨cs',h1,h2⟩:=hall i hi
        obtain ⟨sv,h3⟩:=open_td hb3 h2
        exact ⟨cs',sv,h1,h3⟩
      have cellAt:∀i j,i < m→j < d.size→∃v,w.cell? ((a.add (i * d.size)).add j)=some v:=fun i j hi hj=>by
        obtain ⟨cs',sv,h1,h2⟩:=hel i hi
        obtain ⟨_,h3,h4⟩:=World.cells?_some h1
        exact ⟨cs'[j],by rw [h4 j hj]; simp⟩
      have hspot:0 < m→a.spot=none:=fun h0=>by
        obtain ⟨v,hv⟩:=cellAt 0 0 h0 (by omega)
        simp only [Nat.zero_mul] at hv
        unfold World.cell? at hv
        split at hv
        · rename_i c T fz hc
          cases hs:a.spot with
          | none=>rfl
          | some s=>
            have:((a.add 0).add 0).spot=some s:=by
              have:∀b:Addr,b.spot=some s→(b.add 0).spot=some s:=fun b hb=>by unfold Addr.add; split<;>simp_all
              exact this _ (this _ hs)
            rw [this] at hv
            simp at hv
        · cases hv
      have hblk:0 < m→∃c T fz,w.heap[a.block]?=some (.cells c T fz):=fun h0=>by
        obtain ⟨v,hv⟩:=cellAt 0 0 h0 (by omega)
        rw [addr_add (hspot h0),addr_add rfl] at hv
        unfold World.cell? at hv
        split at hv
        · rename_i c T fz hc
          exact ⟨c,T,fz,hc⟩
        · cases hv
      let F:Nat→d.Val:=fun i=>if hi:i < m then Classical.choose (Classical.choose_spec (hel i hi)) else d.dflt
      have hF:∀i (hi:i < m),∃cs',w.cells? 0 (a.add (i * d.size)) d.size=some cs'∧Opened w d cs' (F i):=fun i hi=>by
        have:=Classical.choose_spec (Classical.choose_spec (hel i hi))
        refine ⟨_,this.1,?_⟩
        simp only [F,hi,dif_pos]
        exact this.2
      refine ⟨(false,a,len,m,F),?_,fun ρ=>rfl,?_,rfl,rfl⟩
      · simp only [TD.Fit]
        exact ⟨by simp,hl,hm,fun i hi=>by obtain ⟨cs',_,h2⟩:=hF i (by omega); exact h2.fit⟩
      · simp only [TD.sv,Wf]
        simp only [VW]
        refine ⟨by simp,hl,hspot,fun i hi=>?_⟩
        have him:i < m:=by omega
        obtain ⟨cs',h1,h2⟩:=hF i him
        obtain ⟨c,T,fz,hc⟩:=hblk (by omega)
        refine ⟨⟨rfl,c,T,fz,hc,fun ρ j hj=>?_⟩,(wf_sv d _).1 h2.wf⟩
        obtain ⟨_,h3,h4⟩:=World.cells?_some h1
        rw [h2.size] at hj
        have h5:=h4 j hj
        rw [addr_add (hspot (by omega)),addr_add rfl] at h5
        simp only [World.cell?,hc,Option.isSome_none,Bool.false_eq_true,if_false] at h5
        rw [h2.cells ρ]
        exact h5
theorem opens_td : ∀{l:List TD} {fs:List Field} {o n:Nat} {cs:List Value},tdsB P fs o l=true→cs.length=o+ tdSizes l→
    (∀f ∈ fs,∃x,DataW.trod enc P w 0 (fun _=>true) true n f.type ((cs.drop f.offset).take (P.cellsOf f.type))=some x)→
    ∃vs,tdFits l vs∧(∀ρ,cellss ρ (tdSvs l vs)=cs.drop o)∧Wfs (fun i=>w.heap[i]?) (fun _=>False) (tdSvs l vs)∧sizes (tdSvs l vs)=tdSizes l
  | [],fs,o,n,cs,hb,hl,_=>by
    cases fs with
    | nil=>
      simp only [tdSizes,Nat.add_zero] at hl
      exact ⟨(),by simp [tdFits],fun ρ=>by simp [tdSvs,cellss,List.drop_eq_nil_of_le (Nat.le_of_eq hl)],by simp [tdSvs,Wfs],rfl⟩
    | cons f fs=>simp [tdsB] at hb
  | d ::l,fs,o,n,cs,hb,hl,hall=>by
    cases fs with
    | nil=>simp [tdsB] at hb
    | cons f fs=>
      simp only [tdsB,Bool.and_eq_true] at hb
      obtain ⟨hb1,hb2,hb3,hb4⟩:=hb
      have e1:=Nat.eq_of_beq_eq_true hb1
      have e2:=Nat.eq_of_beq_eq_true hb2
      simp only [tdSizes] at hl
      obtain ⟨x,hx⟩:=hall f (by simp)
      rw [e1,e2] at hx
      obtain ⟨sv,h1⟩:=open_td hb3 hx
      obtain ⟨vs,h2,h3,h4,h5⟩:=opens_td (n:=n) (cs:=cs) hb4 (by omega) (fun g hg=>hall g (List.mem_cons_of_mem _ hg))
      refine ⟨(sv,vs),by simp only [tdFits]; exact ⟨h1.fit,h2⟩,fun ρ=>?_,by simp only [tdSvs,Wfs]; exact ⟨h1.wf,h4⟩,by simp only [tdSvs,sizes,tdSizes,h1.size,h5]⟩
      simp only [tdSvs,cellss,h1.cells ρ,h3 ρ]
      have:cs.drop (o+ d.size)=(cs.drop o).drop d.size:=by rw [List.drop_drop]
      rw [this,List.take_append_drop]
end
def tdAll (P:Program):List TypeId→List TD→Bool
  | [],[]=>true
  | t::ts,d::ds=>tdB P t d && tdAll P ts ds
  | _,_=>false
theorem val_of_open {td:TD} {t:TypeId} {v:Value} {x:td.Val} {base:Nat} (hb:tdB P t td=true) (hv:Value.okWide P w .any base t v) (h:Opened w td v.cells.toList x):v=val noPl (td.sv x):=by
  have hc:=h.cells noPl
  have sc:∀u:Value,v=u→u.cells=#[u]→(td.sv x).isAgg=false→v=val noPl (td.sv x):=fun u hu hcu ha=>by
    have h1:=val_scalar noPl h.ntup ha
    rw [hu,hcu] at hc
    rw [h1] at hc
    simp only [List.cons.injEq,and_true] at hc
    rw [hu]; exact hc.symm
  cases td with
  | int k=>
    simp only [tdB] at hb
    obtain ⟨n,rfl⟩:=okWide_int (isIntT_spec hb) hv
    exact sc _ rfl rfl rfl
  | bool=>
    simp only [tdB] at hb
    split at hb<;>try (simp at hb; done)
    rename_i hu
    obtain ⟨b,rfl⟩:=okWide_bool hu hv
    exact sc _ rfl rfl rfl
  | str=>
    simp only [tdB] at hb
    split at hb<;>try (simp at hb; done)
    rename_i hu
    obtain ⟨b,rfl⟩:=okWide_string hu hv
    exact sc _ rfl rfl rfl
  | sl d=>
    simp only [tdB] at hb
    split at hb<;>try (simp at hb; done)
    rename_i e hu
    obtain ⟨a,l,c,rfl⟩:=okWide_slice hu hv
    exact sc _ rfl rfl rfl
  | st l=>
    simp only [tdB] at hb
    split at hb<;>try (simp at hb; done)
    rename_i fs hu
    have ha:(TD.sv _ x).isAgg=true:=rfl
    have:∃cs,v=.agg cs:=by
      unfold Value.okWide at hv
      rw [hu] at hv
      obtain ⟨cs,h1,_⟩:=hv
      exact ⟨cs,h1⟩
    obtain ⟨cs,rfl⟩:=this
    rw [val_agg noPl ha,hc]
    rfl
  | ints n k=>
    simp only [tdB] at hb
    split at hb<;>try (simp at hb; done)
    rename_i n' e hu
    have ha:(TD.sv _ x).isAgg=true:=rfl
    have:∃cs,v=.agg cs:=by
      unfold Value.okWide at hv
      rw [hu] at hv
      obtain ⟨cs,h1,_⟩:=hv
      exact ⟨cs,h1⟩
    obtain ⟨cs,rfl⟩:=this
    rw [val_agg noPl ha,hc]
    rfl
theorem open_args {base:Nat}:∀{tds:List TD} {ts:List TypeId} {vs:List Value} {ds:List (DataW H)} {ps:List MemPlace},tdAll P ts tds=true→DataW.TrodAll enc P w 0 (fun _=>true) true ts vs ds ps→
    (∀(j:Nat) t v,ts[j]?=some t→vs[j]?=some v→Value.okWide P w .any base t v)→∃xs,tdFits tds xs∧vs=(tdSvs tds xs).map (val noPl)∧∀x ∈ tdSvs tds xs,Wf (fun i=>w.heap[i]?) (fun _=>False) x
  | [],ts,vs,ds,ps,hb,h,_=>by
    cases ts with
    | nil=>
      obtain ⟨rfl,_,_⟩:=trodAll_nil h
      exact ⟨(),by simp [tdFits],rfl,by simp [tdSvs]⟩
    | cons t ts=>simp [tdAll] at hb
  | td :: tds,ts,vs,ds,ps,hb,h,hv=>by
    cases ts with
    | nil=>simp [tdAll] at hb
    | cons t ts=>
      simp only [tdAll,Bool.and_eq_true] at hb
      cases vs with
      | nil=>cases ds<;>simp [DataW.TrodAll] at h
      | cons v vs=>
        cases ds with
        | nil=>simp [DataW.TrodAll] at h
        | cons d ds=>
          obtain ⟨p,q,⟨fuel,h1⟩,h2,_⟩:=h
          obtain ⟨sv,h3⟩:=open_td hb.1 h1
          obtain ⟨svs,h4,h5,h6⟩:=open_args hb.2 h2 (fun j t' v' hj hj'=>hv (j+ 1) t' v' (by simpa using hj) (by simpa using hj'))
          have h7:=val_of_open hb.1 (hv 0 t v rfl rfl) h3
          refine ⟨(sv,svs),by simp only [tdFits]; exact ⟨h3.fit,h4⟩,by rw [h5,h7]; rfl,fun x hx=>?_⟩
          simp only [tdSvs] at hx
          rcases List.mem_cons.1 hx with rfl | hx
          · exact h3.wf
          · exact h6 x hx
theorem trodAll_carry {w':World} {sp:Nat→Bool}:∀{ts:List TypeId} {vs:List Value} {ds:List (DataW H)} {ps:List MemPlace},DataW.TrodAll enc P w 0 sp true ts vs ds ps→(∀p ∈ ps,w.sameAt w' p)→DataW.TrodAll enc P w' 0 sp true ts vs ds ps
  | [],[],[],_,h,_=>h
  | _::_,_::_,_::_,_,⟨p,q,⟨n,h1⟩,h2,e⟩,hs=>⟨p,q,⟨n,DataW.trod_carry n _ _ _ h1 fun x hx=>hs x (by rw [e]; exact List.mem_append_left _ hx)⟩,trodAll_carry h2 (fun x hx=>hs x (by rw [e]; exact List.mem_append_right _ hx)),e⟩
  | [],[],_::_,_,h,_=>by simp [DataW.TrodAll] at h
  | [],_::_,_,_,h,_=>by cases ‹List (DataW H)›<;>simp [DataW.TrodAll] at h
  | _::_,[],_,_,h,_=>by cases ‹List (DataW H)›<;>simp [DataW.TrodAll] at h
  | _::_,_::_,[],_,h,_=>by simp [DataW.TrodAll] at h
theorem law_end {f:Func} {s:ChangeSpec} {apart:Bool} {W W':World} {args:Array Value} {ds:List (DataW H)} {before:List MemPlace} {tb:TypeId}
    (hvars:s.vars=[]) (hW:DataW.Whole enc P f.params.toList s.vars apart W args.toList ds [] before) (hA:DataW.TrodAll enc P W 0 (fun _=>true) true f.params.toList args.toList ds before)
    (hres:(s.fn H ds).results=[.lit (.bool true)]) (hargs:(s.fn H ds).args=ds) (hsv:(s.fn H ds).vars=[]) (hr:f.resultTypes=#[tb]) (htb:P.underlying tb=some .bool)
    (hl:laidOutB P=true) (hm:mapsRowed P=true) (hz:((List.range P.types.size).all fun t=>match P.underlying t with | some (.slice e)=>decide (0 < P.cellsOf e) | _=>true)=true) (ht:(f.params.toList.all fun t=>decide (t < P.types.size))=true)
    (hb:Below W.heap.size W W'):s.post enc P f apart true false false W args (.bool true) W':=by
  refine post_below (pa:=before) (pv:=[]) (ds:=ds) (gs:=[]) hW ?_ ?_ ?_ (by simp) hb ?_
  · intro b sp hd
    rw [List.append_nil,hr,hres]
    exact trodAll_cons_mk (shut_bool htb _) trodAll_mk0
  · intro sp hsp
    rw [List.append_nil,hargs]
    have h1:=DataW.TrodAll.respare (spare':=sp) (kids_rows hl hm) (slices_full_of P hz) (fun t h=>of_decide_eq_true (List.all_eq_true.1 ht t h)) hA hsp
    exact trodAll_carry h1 fun p hp=>hb.same (hW.lt p hp)
  · intro sp hsp
    rw [List.append_nil,hsv,hvars]
    rfl
  · intro j t r h1 h2
    rw [hr] at h1 h2
    exact ok_one (f:={ f with resultTypes:=#[tb] }) (by rfl) rfl (okWide_bool_mk htb _) j t r h1 h2
end
def endsT (x:R Ans):Bool:=match x with | some (.bool true,_)=>true | _=>false
theorem endsT_spec {x:R Ans} (h:endsT x=true):EndsV x (.bool true):=by
  unfold endsT at h; split at h
  · exact ⟨_,rfl⟩
  · cases h
def trueF {α:Type}:FP α:=fun args k=>match args with
  | []=>k (.bool true)
  | _=>none
end Go.Sh
namespace Go.Sh
open Go
abbrev Out :=SX × Env × Heap
def outK : KC Out:=fun x env σ=>some (x,env,σ)
section
variable {α:Type} {P:Program} {I:Imm}
def Gives (x:R Out) (Q:SX→Env→Heap→Prop):Prop:=∃sx env σ,x=some (sx,env,σ)∧Q sx env σ
theorem Gives.mono {x:R Out} {Q Q':SX→Env→Heap→Prop} (h:Gives x Q) (hq:∀sx env σ,Q sx env σ→Q' sx env σ):Gives x Q':=by
  obtain ⟨sx,env,σ,h1,h2⟩:=h
  exact ⟨sx,env,σ,h1,hq _ _ _ h2⟩
inductive Loops (B:Env→Heap→KC Out→R Out):Env→Heap→SX→Env→Heap→Prop where
  | last {env env':Env} {σ σ':Heap} {x:SX}:B env σ outK=some (x,env',σ')→x ≠ .norm→Loops B env σ x env' σ'
  | round {env env1 env':Env} {σ σ1 σ':Heap} {x:SX}:B env σ outK=some (.norm,env1,σ1)→Loops B env1 σ1 x env' σ'→Loops B env σ x env' σ'
theorem code_of_out {N:Nat} {c:Code} {B:Env→Heap→KC Out→R Out} (hB:SoundC P I N c B) {env env':Env} {σ σ':Heap} {x:SX} (h:B env σ outK=some (x,env',σ')):Grow σ σ'∧CodeTo P I N c env σ x env' σ':=by
  obtain ⟨x1,env1,σ1,h1,h2,h3⟩:=hB _ _ _ _ h
  simp only [outK,Option.some.injEq,Prod.mk.injEq] at h1
  obtain ⟨rfl,rfl,rfl⟩:=h1
  exact ⟨h2,h3⟩
theorem Loops.rounds {N:Nat} {c:Code} {B:Env→Heap→KC Out→R Out} (hB:SoundC P I N c B) {env env':Env} {σ σ':Heap} {x:SX} (h:Loops B env σ x env' σ'):Grow σ σ'∧RoundsTo P I N c env σ x env' σ':=by
  induction h with
  | last h hx=>
    obtain ⟨h1,h2⟩:=code_of_out hB h
    exact ⟨h1,.last h2 hx⟩
  | round h _ ih=>
    obtain ⟨h1,h2⟩:=code_of_out hB h
    exact ⟨h1.trans ih.1,ih.2.round h2 h1.le ih.1.le⟩
structure Less (env':Env) (σ σ':Heap) (env1:Env) (σ1:Heap):Prop where
  env:∀t v,getE env' t=some v→getE env1 t=some v
  next:σ'.next=σ1.next
  heap:∀b o,σ'.get b=some o→σ1.get b=some o
  grow:Grow σ σ'
theorem CodeTo.less {N:Nat} {c:Code} {env env1 env':Env} {σ σ1 σ':Heap} {x:SX} (h:CodeTo P I N c env σ x env1 σ1) (hl:Less env' σ σ' env1 σ1):CodeTo P I N c env σ x env' σ':=by
  intro ρ D a w hs hfr Q hq
  refine h ρ D a w hs (by rw [← hl.next]; exact hfr) Q fun ρ' a' w' hs' hx=>hq ρ' a' w' ⟨by rw [hl.next]; exact hs'.env.less hl.env,by rw [hl.next]; exact hs'.heap.less hl.heap⟩ ?_
  unfold ExtS at hx ⊢
  rw [hl.next]
  exact ⟨hx.le,hx.agree,hx.os,hx.tape,hx.output,hx.size,hx.frame,fun b o hb=>hx.img b o (hl.heap b o hb)⟩
end
end Go.Sh
namespace Go.Sh
open Go
section
variable {α:Type} {P:Program} {I:Imm}
def decI (kd:IntKind) (v:SV) (k:Int→R α):R α:=match v with
  | .int kd' x=>bif decide (kd'=kd) then k x else none
  | _=>none
theorem decI_spec {kd:IntKind} {v:SV} {k:Int→R α} {r:α} (h:decI kd v k=some r):∃x,v=.int kd x∧k x=some r:=by
  unfold decI at h
  split at h<;>try (cases h; done)
  rename_i kd' x
  obtain ⟨h1,h2⟩:=bif_some h
  exact ⟨x,by rw [of_decide_eq_true h1],h2⟩
def decB (v:SV) (k:Bool→R α):R α:=match v with
  | .bool x=>k x
  | _=>none
theorem decB_spec {v:SV} {k:Bool→R α} {r:α} (h:decB v k=some r):∃x,v=.bool x∧k x=some r:=by
  unfold decB at h
  split at h<;>try (cases h; done)
  exact ⟨_,rfl,h⟩
def decA (kd:IntKind) (n:Nat) (v:SV) (k:(Nat→Int)→R α):R α:=match v with
  | .ints kd' m f=>bif decide (kd'=kd) && Nat.beq m n then k f else none
  | _=>none
theorem decA_spec {kd:IntKind} {n:Nat} {v:SV} {k:(Nat→Int)→R α} {r:α} (h:decA kd n v k=some r):∃f,v=.ints kd n f∧k f=some r:=by
  unfold decA at h
  split at h<;>try (cases h; done)
  rename_i kd' m f
  obtain ⟨h1,h2⟩:=bif_some h
  simp only [Bool.and_eq_true,decide_eq_true_eq,Nat.beq_eq] at h1
  obtain ⟨rfl,rfl⟩:=h1
  exact ⟨f,rfl,h2⟩
theorem orc_pureK {te : TE} (hpr : Prg P te) {O : ORC α} (hO : OOk P I O) {L : LO α} (n : Fuel) {f : FuncId} {fn : Func} (hf : P.funcs[f]? = some fn) (h1 : (fn.name == "runtime.NumGoroutine") = false) (h2 : fn.body.isNone = false) (hok : fnOk fn = true) (hL : FLOk P I L fn)
    {F:FP α} (hF:∀args k r,F args k=some r→(∀x ∈ args,Ids (fun _=>False) x)∧∃D:SV→R α,bodyL te O L n fn args emp (fun v _=>D v)=some r∧∀v,D v=some r→k v=some r∧Ids (fun _=>False) v):OrcOk P I f (.pure F):=by
  refine ⟨enters_of hf h1 h2,fun args k r hk=>?_⟩
  obtain ⟨h5,D,h6,h7⟩:=hF args k r hk
  obtain ⟨v,σ',h8,hg,h9⟩:=body_calls hpr hO hf hok hL h6
  obtain ⟨h10,h11⟩:=h7 v h8
  exact ⟨v,h10,pure_of_calls h9 h11 h5⟩
theorem orc_le {f:FuncId} {F F':FP α} (h:OrcOk P I f (.pure F)) (hle:∀args k r,F' args k=some r→F args k=some r):OrcOk P I f (.pure F'):=
  ⟨h.1,fun args k r hk=>h.2 args k r (hle args k r hk)⟩
def kept (m:Nat) (σ1:Heap):Bool:=allB (fun x=>Nat.ble m x.1) (σ1.blocks.take (σ1.blocks.length - m))
end
end Go.Sh
namespace Go.Sh
open Go
section
variable {α:Type} {P:Program} {I:Imm}
def nmL (rl:List Nat) (i:Nat):Nat:=match getN rl i with
  | some b=>b
  | none=>0
structure Lays (rl:List Nat) (E:Env) (os:List SObj) (env:Env) (σ:Heap):Prop where
  len:rl.length=os.length
  nodup:rl.Nodup
  env:∀t v,getE E t=some v→Ids (· < os.length) v∧getE env t=some (ren (nmL rl) v)
  obj:∀y ∈ enumO 0 os,σ.get (nmL rl y.1)=some (renO (nmL rl) y.2)
  oids:∀o ∈ os,OIds (· < os.length) o
  lt:∀i ∈ rl,i < σ.next
mutual
theorem Ids.ren {p:Nat→Prop} (r:Nat→Nat):∀{v:SV},Ids (fun i=>p (r i)) v→Ids p (ren r v)
  | .bool _,_ | .int ..,_ | .str _,_ | .nilp,_ | .nils,_ | .nilfn,_ | .nilmap,_ | .nilifc,_ | .ints ..,_ | .bools ..,_ | .vptr ..,_ | .vslc ..,_=>by simp [Sh.ren,Ids]
  | .ptr ..,g=>by simp only [Sh.ren,Ids] at *; exact g
  | .oslc ..,g=>by simp only [Ids,Sh.ren] at *; exact g
  | .slc ..,g=>by simp only [Sh.ren,Ids] at *; exact g
  | .map _,g=>by simp only [Sh.ren,Ids] at *; exact g
  | .fn _ a c,g=>by simp only [Sh.ren,Ids] at *; exact ⟨Idss.ren r g.1,Idss.ren r g.2⟩
  | .arr _ _ f,g=>by simp only [Sh.ren,Ids] at *; exact fun i=>Ids.ren r (g i)
  | .agg l,g=>by simp only [Sh.ren,Ids] at *; exact Idss.ren r g
  | .tuple l,g=>by simp only [Sh.ren,Ids] at *; exact Idss.ren r g
theorem Idss.ren {p:Nat→Prop} (r:Nat→Nat):∀{l:List SV},Idss (fun i=>p (r i)) l→Idss p (rens r l)
  | [],_=>by simp [rens,Idss]
  | v::l,g=>by simp only [rens,Idss] at *; exact ⟨Ids.ren r g.1,Idss.ren r g.2⟩
end
theorem OIds.ren {p:Nat→Prop} (r:Nat→Nat) {o:SObj} (g:OIds (fun i=>p (r i)) o):OIds p (renO r o):=by
  cases o with
  | cells g' v=>exact Ids.ren r g
  | map es=>
    intro e he
    simp only [List.mem_map] at he
    obtain ⟨x,hx,rfl⟩:=he
    exact ⟨Ids.ren r (g x hx).1,Ids.ren r (g x hx).2⟩
  | dead=>trivial
structure Rnd (P:Program) (I:Imm) (N:Nat) (c:Code) (E:Env) (os:List SObj) (x:SX) (E1:Env) (os1:List SObj):Prop where
  ex:∃env1 σ1 rl1,CodeTo P I N c E (hp os) x env1 σ1∧Lays rl1 E1 os1 env1 σ1∧∀y ∈ enumO 0 os,y.1 ∈ rl1∨σ1.get y.1=some y.2
structure SameN (P:Program) (I:Imm) (N:Nat) (c:Code) (E:Env) (os:List SObj) (x:SX) (E1:Env) (os1:List SObj):Prop where
  len:os1.length=os.length
  ex:∃env1 σ1,CodeTo P I N c E (hp os) x env1 σ1∧(∀t v,getE E1 t=some v→Ids (· < os.length) v∧getE env1 t=some v)∧(∀y ∈ enumO 0 os1,σ1.get y.1=some y.2)∧(∀o ∈ os1,OIds (· < os.length) o)
end
end Go.Sh
namespace Go.Sh
open Go
section
variable {α:Type} {P:Program} {I:Imm}
end
end Go.Sh
namespace Go.Sh
open Go
section
variable {α:Type}
end
end Go.Sh
namespace Go.Sh
open Go
section
variable {α:Type} {P:Program} {I:Imm}
def nilPl : Pl:=⟨0,0,0,true⟩
def plO (ρ:Nat→Pl):Option Nat→Pl
  | some b=>ρ b
  | none=>nilPl
def plL (ρ:Nat→Pl) (rl:List (Option Nat)) (i:Nat):Pl:=plO ρ (rl[i]?.join)
def Compat (fl:List (Nat × Option Nat)) (ρ2 ρ1:Nat→Pl):Prop:=∀x ∈ fl,ρ2 x.1=plO ρ1 x.2
structure SameO (C:(Nat→Pl)→(Nat→Pl)→Prop) (o2 o1:SObj):Prop where
  ex:∃g v2 v1,o2=.cells g v2∧o1=.cells g v1∧v2.size=v1.size∧∀ρ2 ρ1,C ρ2 ρ1→cells ρ2 v2=cells ρ1 v1
structure EntryO (rl:List (Option Nat)) (os:List SObj) (args0 args:List SV) (σ:Heap):Prop where
  len:rl.length=os.length
  nodup:∀(i j b:Nat),rl[i]?=some (some b)→rl[j]?=some (some b)→i=j
  wf:∀(I:Imm) o,o ∈ os→OWf I (· < os.length) o
  awf:∀(I:Imm) (D:Nat→Prop),(∀x ∈ args,Wf I D x)→∀x ∈ args0,Wf I (· < os.length) x
  obj:∀(i:Nat) (o:SObj) (b:Nat),os[i]?=some o→rl[i]?=some (some b)→∃o',σ.get b=some o'∧SameO (fun ρ0 ρ=>ρ0=plL ρ rl) o o'
  gho:∀(i:Nat) (o:SObj),os[i]?=some o→rl[i]?=some none→∃g v,o=.cells g v∧v.size=0
  args:∀ρ,args.map (val ρ)=args0.map (val (plL ρ rl))
structure Told2 (rl:List (Option Nat)) (m:Nat) (σ σ1:Heap) (v0 v2:SV) (fl:List (Nat × Option Nat)) (n2:Nat) (bl:List (Nat × SObj)):Prop where
  le:σ.next≤n2
  nodup:(fl.map (·.1)).Nodup
  inj:∀c c' i,(c,some i) ∈ fl→(c',some i) ∈ fl→c=c'
  name:∀x ∈ fl,(∃j,x.2=some j∧rl[j]?=some (some x.1))∨(σ.next≤x.1∧x.1 < n2)
  obj:∀c o,getL bl c=some o→(∀(I:Imm) D,(∀x ∈ fl,D x.1)→OWf I D o)∧((∃i o1,(c,some i) ∈ fl∧σ1.get i=some o1∧SameO (Compat fl) o o1)∨((c,none) ∈ fl∧∃g v,o=.cells g v∧v.size=0))
  cover:∀(j b:Nat),rl[j]?=some (some b)→inK b bl=true
  grow:∀x ∈ bl,(∃o,σ.get x.1=some o)∨(σ.next≤x.1∧x.1 < n2)
  val:∀ρ2 ρ1,Compat fl ρ2 ρ1→val ρ2 v2=val ρ1 v0
  vwf:∀(I:Imm) D,(∀x ∈ fl,D x.1)→Wf I D v2
end
end Go.Sh
namespace Go.Sh
open Go
structure Lf (T:Type) where
  sv:T→SV
  dec:{α:Type}→SV→(T→R α)→R α
  spec:∀{α:Type} {v:SV} {k:T→R α} {r:α},dec v k=some r→∃t,v=sv t∧k t=some r
  flat:∀t ρ ρ',cells ρ (sv t)=cells ρ' (sv t)
  mono:∀t (I:Imm) D D',Wf I D (sv t)→Wf I D' (sv t)
  tup:∀t,(sv t).isTuple=false
structure LfR (T:Type) where
  L:Lf T
  es:Nat
  inv:SV→T
  inv_sv:∀t,inv (L.sv t)=t
  size:∀t,(L.sv t).size=es
  plain:∀t (I:Imm) D,Wf I D (L.sv t)
structure RowS (T:Type) where
  n:Nat
  f:Nat→T
noncomputable def gate {α:Type} (p:Prop) (k:R α):R α:=@ite _ p (Classical.propDecidable p) k none
theorem gate_some {α:Type} {p:Prop} {k:R α} {r:α} (h:gate p k=some r):p∧k=some r:=by
  unfold gate at h
  split at h
  · rename_i hp; exact ⟨hp,h⟩
  · cases h
structure Row where
  n:Nat
  f:Nat→Int
mutual
inductive OSh : Type→Type 1
  | leaf {T:Type} (L:Lf T):OSh T
  | own {T:Type} (s:OSh T):OSh T
  | cap (k:IntKind) (n:Nat):OSh (Nat→Int)
  | orow (k:IntKind):OSh Row
  | wrow (k:IntKind):OSh Row
  | srow {T:Type} (L:LfR T):OSh (RowS T)
  | st {X T:Type} (l:OShs X) (mk:X→T) (un:T→X) (h:∀x,un (mk x)=x):OSh T
  | arr {T:Type} (n es:Nat) (s:OSh T):OSh (Nat→T)
inductive OShs : Type→Type 1
  | nil:OShs Unit
  | cons {A B:Type} (a:OSh A) (b:OShs B):OShs (A × B)
end
mutual
def OSh.cnt : {T:Type}→OSh T→Nat
  | _,.leaf _=>0
  | _,.own s=>s.cnt+ 1
  | _,.cap _ _=>1
  | _,.orow _=>1
  | _,.wrow _=>1
  | _,.srow _=>1
  | _,.st l _ _ _=>l.cnt
  | _,.arr n _ s=>n * s.cnt
def OShs.cnt : {X:Type}→OShs X→Nat
  | _,.nil=>0
  | _,.cons a b=>a.cnt+ b.cnt
end
mutual
def OSh.enc : {T:Type}→OSh T→T→(Nat→Nat)→Nat→SV
  | _,.leaf L,x,_,_=>L.sv x
  | _,.own _,_,nm,o=>.ptr (nm o) []
  | _,.cap _ n,_,nm,o=>.slc (nm o) [] 1 0 n none
  | _,.orow _,x,nm,o=>.oslc (nm o) 1 x.n
  | _,.wrow _,x,nm,o=>.slc (nm o) [] 1 0 x.n none
  | _,.srow L,x,nm,o=>.oslc (nm o) L.es x.n
  | _,.st l _ un _,x,nm,o=>.agg (l.encs (un x) nm o)
  | _,.arr n es s,x,nm,o=>.arr es n fun i=>s.enc (x i) nm (o+ i * s.cnt)
def OShs.encs : {X:Type}→OShs X→X→(Nat→Nat)→Nat→List SV
  | _,.nil,_,_,_=>[]
  | _,.cons a b,x,nm,o=>a.enc x.1 nm o::b.encs x.2 nm (o+ a.cnt)
end
def flatN {β:Type} (f:Nat→List β):Nat→List β
  | 0=>[]
  | n+ 1=>flatN f n++ f n
mutual
def OSh.Is : {T:Type}→OSh T→HF→SV→T→List (Option Nat)→Prop
  | _,.leaf L,_,v,x,ids=>v=L.sv x∧ids=[]
  | _,.own s,h,v,x,ids=>∃b u is,v=.ptr b []∧h b=some (.cells none u)∧s.Is h u x is∧ids=some b::is
  | _,.cap k n,h,v,x,ids=>∃b,v=.slc b [] 1 0 n none∧h b=some (.cells (some 1) (.ints k n x))∧ids=[some b]
  | _,.orow k,h,v,x,ids=>(v=.nils∧x.n=0∧ids=[none])∨∃b,(v=.oslc b 1 x.n∨(v=.slc b [] 1 0 x.n none∧0 < x.n))∧h b=some (.cells (some 1) (.ints k x.n x.f))∧ids=[some b]
  | _,.wrow k,h,v,x,ids=>∃b,v=.slc b [] 1 0 x.n none∧h b=some (.cells (some 1) (.ints k x.n x.f))∧ids=[some b]
  | _,.srow L,h,v,x,ids=>(v=.nils∧x.n=0∧ids=[none])∨∃b f,(v=.oslc b L.es x.n∨(v=.slc b [] L.es 0 x.n none∧0 < x.n))∧h b=some (.cells (some L.es) (.arr L.es x.n f))∧(∀i,i < x.n→f i=L.L.sv (x.f i))∧ids=[some b]
  | _,.st l _ un _,h,v,x,ids=>∃vs,v=.agg vs∧l.Iss h vs (un x) ids
  | _,.arr n es s,h,v,x,ids=>∃f is,v=.arr es n f∧(∀i,i < n→s.Is h (f i) (x i) (is i))∧ids=flatN is n
def OShs.Iss : {X:Type}→OShs X→HF→List SV→X→List (Option Nat)→Prop
  | _,.nil,_,vs,_,ids=>vs=[]∧ids=[]
  | _,.cons a b,h,vs,x,ids=>∃v ws is js,vs=v::ws∧a.Is h v x.1 is∧b.Iss h ws x.2 js∧ids=is++ js
end
section
variable {α:Type} {P:Program} {I:Imm}
def CompS (ρ ρ':Nat→Pl) (nm:Nat→Nat) (o:Nat) (ids:List (Option Nat)):Prop:=∀(k:Nat) (ro:Option Nat),ids[k]?=some ro→ρ' (nm (o+ k))=plO ρ ro
theorem CompS.left {ρ ρ':Nat→Pl} {nm:Nat→Nat} {o:Nat} {is js:List (Option Nat)} (h:CompS ρ ρ' nm o (is++ js)):CompS ρ ρ' nm o is:=fun k ro hk=>h k ro (by
  rw [List.getElem?_append_left (List.getElem?_eq_some_iff.1 hk).1]; exact hk)
theorem CompS.right {ρ ρ':Nat→Pl} {nm:Nat→Nat} {o:Nat} {is js:List (Option Nat)} (h:CompS ρ ρ' nm o (is++ js)):CompS ρ ρ' nm (o+ is.length) js:=fun k ro hk=>by
  have:=h (is.length+ k) ro (by rw [List.getElem?_append_right (by omega)]; rw [show is.length+ k - is.length=k by omega]; exact hk)
  rwa [← Nat.add_assoc] at this
def SlotOk (h:HF) (C:(Nat→Pl)→(Nat→Pl)→Prop) (ro:Option Nat) (ob:SObj):Prop:=
  match ro with
  | some b=>∃o',h b=some o'∧SameO C ob o'
  | none=>∃g v,ob=.cells g v∧v.size=0
theorem SlotOk.mono {h:HF} {C C':(Nat→Pl)→(Nat→Pl)→Prop} {ro:Option Nat} {ob:SObj} (g:SlotOk h C ro ob) (hc:∀a b,C' a b→C a b):SlotOk h C' ro ob:=by
  cases ro with
  | none=>exact g
  | some b=>
    obtain ⟨o',h1,⟨g',v2,v1,h2,h3,h4,h5⟩⟩:=g
    exact ⟨o',h1,⟨g',v2,v1,h2,h3,h4,fun _ _ hx=>h5 _ _ (hc _ _ hx)⟩⟩
end
end Go.Sh
namespace Go.Sh
open Go
section
variable {α:Type} {P:Program} {I:Imm}
def decAr {T α:Type} (g:Nat→(T→List (Option Nat)→R α)→R α):Nat→((Nat→T)→List (Option Nat)→R α)→R α
  | 0,_=>none
  | 1,k=>g 0 fun x is=>k (fun _=>x) is
  | n+ 2,k=>decAr g (n+ 1) fun xs is=>g (n+ 1) fun x js=>k (upd xs (n+ 1) x) (is++ js)
mutual
noncomputable def OSh.dec : {T:Type}→OSh T→{α:Type}→Heap→SV→(T→List (Option Nat)→R α)→R α
  | _,.leaf L,_,_,v,k=>L.dec v fun x=>k x []
  | _,.own s,_,σ,v,k=>match v with
    | .ptr b []=>(match σ.get b with
      | some (.cells none u)=>s.dec σ u fun x is=>k x (some b::is)
      | _=>none)
    | _=>none
  | _,.cap kd n,_,σ,v,k=>match v with
    | .slc b [] s 0 n' none=>bif Nat.beq s 1 && Nat.beq n' n then (match σ.get b with
      | some (.cells (some s') (.ints kd' m f))=>bif decide (kd'=kd) && (Nat.beq m n && Nat.beq s' 1) then k f [some b] else none
      | _=>none) else none
    | _=>none
  | _,.orow kd,_,σ,v,k=>match v with
    | .nils=>k ⟨0,fun _=>0⟩ [none]
    | .oslc b s n=>bif Nat.beq s 1 then (match σ.get b with
      | some (.cells (some s') (.ints kd' m f))=>bif Nat.beq s' 1 && decide (kd'=kd) then bif Nat.beq m n then k ⟨n,f⟩ [some b] else none else none
      | _=>none) else none
    | .slc b [] s 0 n none=>bif Nat.beq s 1 then (match σ.get b with
      | some (.cells (some s') (.ints kd' m f))=>bif Nat.beq s' 1 && decide (kd'=kd) then bif Nat.beq m n && Nat.blt 0 n then k ⟨n,f⟩ [some b] else none else none
      | _=>none) else none
    | _=>none
  | _,.wrow kd,_,σ,v,k=>match v with
    | .slc b [] s 0 n none=>bif Nat.beq s 1 then (match σ.get b with
      | some (.cells (some s') (.ints kd' m f))=>bif decide (kd'=kd) then bif Nat.beq s' 1 then bif Nat.beq m n then k ⟨n,f⟩ [some b] else none else none else none
      | _=>none) else none
    | _=>none
  | _,.srow L,_,σ,v,k=>match v with
    | .nils=>k ⟨0,fun _=>L.inv .nilp⟩ [none]
    | .oslc b s n=>bif Nat.beq s L.es then (match σ.get b with
      | some (.cells (some s') (.arr es m f))=>bif Nat.beq s' L.es && Nat.beq es L.es then bif Nat.beq m n then gate (∀i,i < n→f i=L.L.sv (L.inv (f i))) (k ⟨n,fun i=>L.inv (f i)⟩ [some b]) else none else none
      | _=>none) else none
    | .slc b [] s 0 n none=>bif Nat.beq s L.es then (match σ.get b with
      | some (.cells (some s') (.arr es m f))=>bif Nat.beq s' L.es && Nat.beq es L.es then bif Nat.beq m n && Nat.blt 0 n then gate (∀i,i < n→f i=L.L.sv (L.inv (f i))) (k ⟨n,fun i=>L.inv (f i)⟩ [some b]) else none else none
      | _=>none) else none
    | _=>none
  | _,.st l mk _ _,_,σ,v,k=>match v with
    | .agg vs=>l.decs σ vs fun x is=>k (mk x) is
    | _=>none
  | _,.arr n es s,_,σ,v,k=>match v with
    | .arr es' n' f=>bif Nat.beq es' es && Nat.beq n' n then decAr (fun i k=>s.dec σ (f i) k) n k else none
    | _=>none
noncomputable def OShs.decs : {X:Type}→OShs X→{α:Type}→Heap→List SV→(X→List (Option Nat)→R α)→R α
  | _,.nil,_,_,vs,k=>match vs with
    | []=>k () []
    | _=>none
  | _,.cons a b,_,σ,vs,k=>match vs with
    | v::ws=>a.dec σ v fun x is=>b.decs σ ws fun y js=>k (x,y) (is++ js)
    | _=>none
end
theorem decAr_spec {T : Type} {g : Nat → (T → List (Option Nat)→R α)→R α} {Q:Nat→T→List (Option Nat)→Prop} (hg:∀i k r,g i k=some r→∃x is,Q i x is∧k x is=some r):
    ∀{n:Nat} {k:(Nat→T)→List (Option Nat)→R α} {r:α},decAr g n k=some r→∃xs is,(∀i,i < n→Q i (xs i) (is i))∧k xs (flatN is n)=some r
  | 0,k,r,h=>by simp [decAr] at h
  | 1,k,r,h=>by
    simp only [decAr] at h
    obtain ⟨x,is,h1,h2⟩:=hg _ _ _ h
    exact ⟨fun _ => x, fun _ => is, fun i hi => by have:i=0:=by omega
                                                   subst this; exact h1,by simpa [flatN] using h2⟩
  | n + 2,k,r,h=>by
    simp only [decAr] at h
    obtain ⟨xs,is,h1,h2⟩:=decAr_spec hg (n:=n+ 1) h
    obtain ⟨x,js,h3,h4⟩:=hg _ _ _ h2
    refine ⟨upd xs (n+ 1) x,upd is (n+ 1) js,fun i hi=>?_,?_⟩
    · by_cases e:i=n+ 1
      · subst e; simp only [upd,Nat.beq_refl,cond_true]; exact h3
      · simp only [upd,beq_ne e,cond_false]; exact h1 i (by omega)
    · have e1:∀m,m≤n+ 1→flatN (upd is (n+ 1) js) m=flatN is m:=by
        intro m
        induction m with
        | zero=>intro _; rfl
        | succ m ih=>intro hm; simp only [flatN,ih (by omega)]; rw [show upd is (n+ 1) js m=is m by simp only [upd,beq_ne (show m ≠ n+ 1 by omega),cond_false]]
      have e2:flatN (upd is (n+ 1) js) (n+ 2)=flatN is (n+ 1)++ js:=by
        show flatN (upd is (n+ 1) js) (n+ 1)++ upd is (n+ 1) js (n+ 1)=_
        rw [e1 _ (Nat.le_refl _)]; simp [upd]
      rw [e2]; exact h4
mutual
theorem OSh.dec_spec : ∀{T:Type} (s:OSh T) {α:Type} {σ:Heap} {v:SV} {k:T→List (Option Nat)→R α} {r:α},s.dec σ v k=some r→∃x ids,s.Is σ.get v x ids∧k x ids=some r
  | _,.leaf L,α,σ,v,k,r,h=>by
    simp only [OSh.dec] at h
    obtain ⟨t,h1,h2⟩:=L.spec h
    exact ⟨t,[],⟨h1,rfl⟩,h2⟩
  | _,.own s,α,σ,v,k,r,h=>by
    simp only [OSh.dec] at h
    split at h<;>try (cases h; done)
    rename_i b
    split at h<;>try (cases h; done)
    rename_i u hb
    obtain ⟨x,is,h1,h2⟩:=s.dec_spec h
    exact ⟨x,_,⟨b,u,is,rfl,hb,h1,rfl⟩,h2⟩
  | _,.cap kd n,α,σ,v,k,r,h=>by
    simp only [OSh.dec] at h
    split at h<;>try (cases h; done)
    rename_i b s n'
    obtain ⟨h1,h2⟩:=bif_some h
    split at h2<;>try (cases h2; done)
    rename_i s' kd' m f hb
    obtain ⟨h3,h4⟩:=bif_some h2
    simp only [Bool.and_eq_true,decide_eq_true_eq,Nat.beq_eq] at h1 h3
    obtain ⟨rfl,rfl⟩:=h1
    obtain ⟨rfl,rfl,rfl⟩:=h3
    exact ⟨f,_,⟨b,rfl,hb,rfl⟩,h4⟩
  | _,.orow kd,α,σ,v,k,r,h=>by
    simp only [OSh.dec] at h
    split at h<;>try (cases h; done)
    · exact ⟨_,_,.inl ⟨rfl,rfl,rfl⟩,h⟩
    · rename_i b s n
      obtain ⟨h1,h2⟩:=bif_some h
      split at h2<;>try (cases h2; done)
      rename_i s' kd' m f hb
      obtain ⟨h3,h4⟩:=bif_some h2
      obtain ⟨h5,h6⟩:=bif_some h4
      simp only [Bool.and_eq_true,decide_eq_true_eq,Nat.beq_eq] at h1 h3 h5
      obtain ⟨rfl,rfl⟩:=h3
      subst h1; subst h5
      exact ⟨_,_,.inr ⟨b,.inl rfl,hb,rfl⟩,h6⟩
    · rename_i b s n
      obtain ⟨h1,h2⟩:=bif_some h
      split at h2<;>try (cases h2; done)
      rename_i s' kd' m f hb
      obtain ⟨h3,h4⟩:=bif_some h2
      obtain ⟨h5,h6⟩:=bif_some h4
      simp only [Bool.and_eq_true,decide_eq_true_eq,Nat.beq_eq] at h1 h3 h5
      obtain ⟨rfl,rfl⟩:=h3
      obtain ⟨rfl,h7⟩:=h5
      subst h1
      exact ⟨_,_,.inr ⟨b,.inr ⟨rfl,by simpa using h7⟩,hb,rfl⟩,h6⟩
  | _,.wrow kd,α,σ,v,k,r,h=>by
    simp only [OSh.dec] at h
    split at h<;>try (cases h; done)
    rename_i b s n
    obtain ⟨h1,h2⟩:=bif_some h
    split at h2<;>try (cases h2; done)
    rename_i s' kd' m f hb
    obtain ⟨h3,h4⟩:=bif_some h2
    obtain ⟨h5,h6⟩:=bif_some h4
    obtain ⟨h7,h8⟩:=bif_some h6
    simp only [decide_eq_true_eq,Nat.beq_eq] at h1 h3 h5 h7
    subst h1; subst h3; subst h5; subst h7
    exact ⟨_,_,⟨b,rfl,hb,rfl⟩,h8⟩
  | _,.srow L,α,σ,v,k,r,h=>by
    simp only [OSh.dec] at h
    split at h<;>try (cases h; done)
    · exact ⟨_,_,.inl ⟨rfl,rfl,rfl⟩,h⟩
    · rename_i b s n
      obtain ⟨h1,h2⟩:=bif_some h
      split at h2<;>try (cases h2; done)
      rename_i s' es m f hb
      obtain ⟨h3,h4⟩:=bif_some h2
      obtain ⟨h5,h6⟩:=bif_some h4
      obtain ⟨h7,h8⟩:=gate_some h6
      simp only [Bool.and_eq_true,Nat.beq_eq] at h1 h3 h5
      obtain ⟨h3,h3'⟩:=h3
      subst h1; subst h3; subst h3'; subst h5
      exact ⟨_,_,.inr ⟨b,f,.inl rfl,hb,h7,rfl⟩,h8⟩
    · rename_i b s n
      obtain ⟨h1,h2⟩:=bif_some h
      split at h2<;>try (cases h2; done)
      rename_i s' es m f hb
      obtain ⟨h3,h4⟩:=bif_some h2
      obtain ⟨h5,h6⟩:=bif_some h4
      obtain ⟨h7,h8⟩:=gate_some h6
      simp only [Bool.and_eq_true,Nat.beq_eq] at h1 h3 h5
      obtain ⟨h3,h3'⟩:=h3
      obtain ⟨h5,h9⟩:=h5
      subst h1; subst h3; subst h3'; subst h5
      exact ⟨_,_,.inr ⟨b,f,.inr ⟨rfl,by simpa using h9⟩,hb,h7,rfl⟩,h8⟩
  | _,.st l mk un hmk,α,σ,v,k,r,h=>by
    simp only [OSh.dec] at h
    split at h<;>try (cases h; done)
    rename_i vs
    obtain ⟨x,is,h1,h2⟩:=l.decs_spec h
    exact ⟨mk x,is,⟨vs,rfl,by rw [hmk]; exact h1⟩,h2⟩
  | _,.arr n es s,α,σ,v,k,r,h=>by
    simp only [OSh.dec] at h
    split at h<;>try (cases h; done)
    rename_i es' n' f
    obtain ⟨h1,h2⟩:=bif_some h
    simp only [Bool.and_eq_true,Nat.beq_eq] at h1
    obtain ⟨rfl,rfl⟩:=h1
    obtain ⟨xs,is,h3,h4⟩:=decAr_spec (Q:=fun i x is=>s.Is σ.get (f i) x is) (fun i k r h=>s.dec_spec h) h2
    exact ⟨xs,_,⟨f,is,rfl,h3,rfl⟩,h4⟩
theorem OShs.decs_spec : ∀{X:Type} (l:OShs X) {α:Type} {σ:Heap} {vs:List SV} {k:X→List (Option Nat)→R α} {r:α},l.decs σ vs k=some r→∃x ids,l.Iss σ.get vs x ids∧k x ids=some r
  | _,.nil,α,σ,vs,k,r,h=>by
    simp only [OShs.decs] at h
    split at h<;>try (cases h; done)
    exact ⟨(),[],⟨rfl,rfl⟩,h⟩
  | _,.cons a b,α,σ,vs,k,r,h=>by
    simp only [OShs.decs] at h
    split at h<;>try (cases h; done)
    rename_i v ws
    obtain ⟨x,is,h1,h2⟩:=a.dec_spec h
    obtain ⟨y,js,h3,h4⟩:=b.decs_spec h2
    exact ⟨(x,y),_,⟨v,ws,is,js,rfl,h1,h3,rfl⟩,h4⟩
end
variable {A B C:Type}
end
end Go.Sh
namespace Go.Sh
open Go
mutual
theorem cells_ids {ρ ρ':Nat→Pl}:∀{v:SV},Ids (fun _=>False) v→cells ρ v=cells ρ' v
  | .bool _,_ | .int ..,_ | .str _,_ | .nilp,_ | .nils,_ | .nilfn,_ | .nilmap,_ | .nilifc,_ | .ints ..,_ | .bools ..,_ | .vptr ..,_ | .vslc ..,_ | .tuple _,_=>by simp [cells]
  | .ptr ..,g=>by simp only [Ids] at g
  | .slc ..,g=>by simp only [Ids] at g
  | .oslc ..,g=>by simp only [Ids] at g
  | .map _,g=>by simp only [Ids] at g
  | .fn _ a c,g=>by simp only [Ids] at g; simp only [cells,vals_ids (ρ:=ρ) (ρ':=ρ') g.1,vals_ids (ρ:=ρ) (ρ':=ρ') g.2]
  | .arr s n f,g=>by
    simp only [Ids] at g
    simp only [cells]
    congr 1
    funext i
    rw [cells_ids (ρ:=ρ) (ρ':=ρ') (g i)]
  | .agg l,g=>by simp only [Ids] at g; simp only [cells]; exact cellss_ids g
theorem cellss_ids {ρ ρ':Nat→Pl}:∀{l:List SV},Idss (fun _=>False) l→cellss ρ l=cellss ρ' l
  | [],_=>by simp [cellss]
  | v::l,g=>by simp only [Idss] at g; simp only [cellss]; rw [cells_ids (ρ:=ρ) (ρ':=ρ') g.1,cellss_ids (ρ:=ρ) (ρ':=ρ') g.2]
theorem vals_ids {ρ ρ':Nat→Pl}:∀{l:List SV},Idss (fun _=>False) l→vals ρ l=vals ρ' l
  | [],_=>by simp [vals]
  | .tuple l::r,g=>by simp only [Idss,Ids] at g; simp only [vals]; rw [vals_ids (ρ:=ρ) (ρ':=ρ') g.1,vals_ids (ρ:=ρ) (ρ':=ρ') g.2]
  | .ptr ..::r,g | .slc ..::r,g | .oslc ..::r,g | .map _::r,g=>by simp only [Idss,Ids] at g; exact g.1.elim
  | .bool _::r,g | .int ..::r,g | .str _::r,g | .nilp::r,g | .nils::r,g | .vptr ..::r,g | .vslc ..::r,g | .nilfn::r,g | .nilmap::r,g | .nilifc::r,g | .ints ..::r,g | .bools ..::r,g | .arr ..::r,g | .agg _::r,g | .fn ..::r,g=>by
    simp only [Idss] at g
    simp only [vals]
    rw [vals_ids (ρ:=ρ) (ρ':=ρ') g.2,cells_ids (ρ:=ρ) (ρ':=ρ') g.1]
end
theorem wf_ids {I:Imm} {D D':Nat→Prop} {v:SV} (h:Wf I D v) (g:Ids (fun _=>False) v):Wf I D' v:=(Wf.andIds h g).mono fun _ h=>h.2.elim
def Lf.of {T:Type} (sv:T→SV) (dec:{α:Type}→SV→(T→R α)→R α) (spec:∀{α:Type} {v:SV} {k:T→R α} {r:α},dec v k=some r→∃t,v=sv t∧k t=some r) (ids:∀t,Ids (fun _=>False) (sv t)) (tup:∀t,(sv t).isTuple=false):Lf T:=
  ⟨sv,dec,spec,fun t _ _=>cells_ids (ids t),fun t _ _ _ h=>wf_ids h (ids t),tup⟩
def gN {α:Type} (m n:Nat) (k:R α):R α:=bif Nat.beq m n then k else none
@[simp] theorem gN_self {α:Type} (n:Nat) (k:R α):gN n n k=k:=by simp [gN]
end Go.Sh
namespace Go.Sh
open Go
section
variable {α:Type} {P:Program} {I:Imm}
def xLoad (k:IntKind):FF α:=fun args σ g=>match args with
  | [.ptr b p]=>(match σ.get b with
    | some (.cells _ v)=>sub v p fun u=>match u with
      | .int k' n=>bif decide (k'=k) then g (.int k' n) σ else none
      | _=>none
    | _=>none)
  | _=>none
def xStore (k:IntKind):FF α:=fun args σ g=>match args with
  | [.ptr b p,.int k' n]=>bif decide (k'=k) then (match σ.get b with
    | some (.cells c v)=>setSub v p (.int k' n) fun u=>g (.tuple []) ⟨σ.next,(b,.cells c u)::σ.blocks⟩
    | _=>none) else none
  | _=>none
def xAdd (k:IntKind):FF α:=fun args σ g=>match args with
  | [.ptr b p,.int k' y]=>bif decide (k'=k) then (match σ.get b with
    | some (.cells c v)=>sub v p fun u=>match u with
      | .int k2 x=>bif decide (k2=k) then setSub v p (.int k (k.wrap (x+ y))) fun u=>g (.int k (k.wrap (x+ y))) ⟨σ.next,(b,.cells c u)::σ.blocks⟩ else none
      | _=>none
    | _=>none) else none
  | _=>none
theorem write_cell (P:Program) {σ:Heap} {ρ:Nat→Pl} {D:Nat→Prop} {w:World} (hh:HRel I ρ D σ.get w) {b:Nat} {p:Path} {c:Option Nat} {v u:SV} {k:IntKind} {n:Int} (hb:σ.get b=some (.cells c v)) (hw:Written v (offOf p) (.int k n) u) (hwf:Wf I D u):
    w.frozen? ⟨(ρ b).blk,(ρ b).base+ offOf p,none⟩=false∧(∃u0,w.cell? ⟨(ρ b).blk,(ρ b).base+ offOf p,none⟩=some u0)∧
      HRel I ρ D (Heap.mk σ.next ((b,.cells c u)::σ.blocks)).get (w.setCell ⟨(ρ b).blk,(ρ b).base+ offOf p,none⟩ (.int k n))∧Ext ρ D σ.get w ρ D (Heap.mk σ.next ((b,.cells c u)::σ.blocks)).get (w.setCell ⟨(ρ b).blk,(ρ b).base+ offOf p,none⟩ (.int k n)):=by
  have hroom:=hw.room
  simp only [SV.size] at hroom
  have hbn:=hh.real hb (by omega)
  obtain ⟨cc,T,fz,q1,q2,q3,q4,q5⟩:=hh.obj b _ hb hbn
  obtain ⟨w',e1,e2,e3⟩:=write_cells (P:=P) hh hb (u:=u) (o:=offOf p) (cs:=[.int k n]) (by simp; omega) hw.size (fun j hj=>by
    have:=hw.new ρ j (by simpa [SV.size] using hj)
    simpa [cells] using this) (fun j hj=>hw.old ρ j (by simpa [SV.size] using hj)) (fun x hx=>by simp at hx; subst hx; rfl) hwf
  have hlt:(ρ b).base+ offOf p < cc.size:=by omega
  have hcell:w.cell? ⟨(ρ b).blk,(ρ b).base+ offOf p,none⟩=some cc[(ρ b).base+ offOf p]:=by simp [World.cell?,q1,hlt]
  have hfro:w.frozen? ⟨(ρ b).blk,(ρ b).base+ offOf p,none⟩=false:=by
    have:=q5 (offOf p) (by omega)
    simp only [World.frozen?,q1,Bool.and_eq_false_iff,decide_eq_false_iff_not]
    omega
  have hst:(storeCells ⟨(ρ b).blk,(ρ b).base+ offOf p,none⟩ [.int k n] 0).run P w=.ok () (w.setCell ⟨(ρ b).blk,(ρ b).base+ offOf p,none⟩ (.int k n)):=by
    simp only [storeCells,Sem.run_bind,addr_add,Nat.add_zero]
    rw [run_store P w _ (.int k n) _ rfl,hcell]
    simp [hfro]
  rw [hst] at e1
  cases e1
  rw [getL_cons]
  exact ⟨hfro,⟨_,hcell⟩,e2,e3⟩
theorem load_ext {f : FuncId} {fn : Func} (hf : P.funcs[f]? = some fn) (hname : (fn.name == "runtime.NumGoroutine") = false) (hb : fn.body.isNone = true) (hn : Extern.findNext fn = none) (k : IntKind) (he : Extern.find fn = some (Extern.Atomic.loadT (.int k))) :
    OrcOk (α:=α) P I f (.ext (xLoad k)):=by
  intro args σ g r h
  unfold xLoad at h
  split at h<;>try (cases h; done)
  rename_i b p
  split at h<;>try (cases h; done)
  rename_i c v hg
  obtain ⟨u,h1,hl,_⟩:=sub_spec h
  split at h1<;>try (cases h1; done)
  rename_i k' n _
  obtain ⟨h2,h3⟩:=bif_some h1
  have:=of_decide_eq_true h2
  subst this
  refine ⟨_,_,h3,.refl _,fun ρ D w hh _ _=>⟨ρ,w,?_,.same,by rwa [plus_same],by simp [Wf]⟩⟩
  have hc:=hh.cell (j:=0) hg hl (by simp [SV.size])
  have e:(List.map (val ρ) [SV.ptr b p]).toArray=#[.pointer (some ⟨(ρ b).blk,(ρ b).base+ offOf p,none⟩)]:=by simp [val_ptr]
  rw [e,val_int]
  exact run_call_load hf hname hb hn k' he (by simpa [cells] using hc)
theorem store_ext {f : FuncId} {fn : Func} (hf : P.funcs[f]? = some fn) (hname : (fn.name == "runtime.NumGoroutine") = false) (hb : fn.body.isNone = true) (hn : Extern.findNext fn = none) (k : IntKind) (he : Extern.find fn = some Extern.Atomic.storeT) :
    OrcOk (α:=α) P I f (.ext (xStore k)):=by
  intro args σ g r h
  unfold xStore at h
  split at h<;>try (cases h; done)
  rename_i b p k' n
  obtain ⟨h0,h'⟩:=bif_some h
  clear h
  have:=of_decide_eq_true h0
  subst this
  split at h'<;>try (cases h'; done)
  rename_i c v hg
  obtain ⟨u,h1,_,hw,hwf⟩:=setSub_spec h'
  refine ⟨_,_,h1,⟨Nat.le_refl _,[(b,.cells c u)],rfl,fun x hx=>by simp at hx; subst hx; exact .inl ⟨_,hg⟩⟩,fun ρ D w hh _ _=>?_⟩
  obtain ⟨e1,⟨u0,e2⟩,e3,e4⟩:=write_cell P hh hg hw (hwf I D (hh.wf.dom b _ hg).2 (by simp [Wf]))
  refine ⟨ρ,_,?_,by unfold ExtS; rw [plus_same]; exact e4,by rw [plus_same]; exact e3,by simp [Wf,Wfs]⟩
  have e:(List.map (val ρ) [SV.ptr b p,.int k' n]).toArray=#[.pointer (some ⟨(ρ b).blk,(ρ b).base+ offOf p,none⟩),.int k' n]:=by simp [val_ptr,val_int]
  rw [e]
  have:=run_call_store (P:=P) hf hname hb hn he (y:=n) (k:=k') e2 e1
  rw [this]; simp [val,vals]
theorem add_ext {f : FuncId} {fn : Func} (hf : P.funcs[f]? = some fn) (hname : (fn.name == "runtime.NumGoroutine") = false) (hb : fn.body.isNone = true) (hn : Extern.findNext fn = none) (k : IntKind) (he : Extern.find fn = some (Extern.Atomic.update (Op.intArith .add) k true)) :
    OrcOk (α:=α) P I f (.ext (xAdd k)):=by
  intro args σ g r h
  unfold xAdd at h
  split at h<;>try (cases h; done)
  rename_i b p k' y
  obtain ⟨h0,h'⟩:=bif_some h
  clear h
  have:=of_decide_eq_true h0
  subst this
  split at h'<;>try (cases h'; done)
  rename_i c v hg
  obtain ⟨u1,h1,hl,_⟩:=sub_spec h'
  split at h1<;>try (cases h1; done)
  rename_i k2 x _
  obtain ⟨h2,h3⟩:=bif_some h1
  have:=of_decide_eq_true h2
  subst this
  obtain ⟨u,h4,_,hw,hwf⟩:=setSub_spec h3
  refine ⟨_,_,h4,⟨Nat.le_refl _,[(b,.cells c u)],rfl,fun x hx=>by simp at hx; subst hx; exact .inl ⟨_,hg⟩⟩,fun ρ D w hh _ _=>?_⟩
  obtain ⟨e1,⟨u0,e2⟩,e3,e4⟩:=write_cell P hh hg hw (hwf I D (hh.wf.dom b _ hg).2 (by simp [Wf]))
  have hc:=hh.cell (j:=0) hg hl (by simp [SV.size])
  refine ⟨ρ,_,?_,by unfold ExtS; rw [plus_same]; exact e4,by rw [plus_same]; exact e3,by simp [Wf]⟩
  have e:(List.map (val ρ) [SV.ptr b p,.int k2 y]).toArray=#[.pointer (some ⟨(ρ b).blk,(ρ b).base+ offOf p,none⟩),.int k2 y]:=by simp [val_ptr,val_int]
  rw [e,val_int]
  exact run_call_add (P:=P) hf hname hb hn k2 he (x:=x) (y:=y) (s:=k2.wrap (x+ y)) (by simpa [cells] using hc) e1 (by simp [Op.intArith])
end
end Go.Sh
namespace Go.Sh
open Go
section
variable {α:Type} {P:Program} {I:Imm}
end
end Go.Sh
namespace Go.Sh
open Go
section
variable {α:Type} {P:Program} {I:Imm}
end
end Go.Sh
namespace Go.Sh
open Go
section
variable {α:Type} {P:Program} {I:Imm}
abbrev doneP : Path:=[.fld 1 0,.fld 1 0]
abbrev stateP : Path:=[.fld 2 1,.fld 1 0,.fld 0 0]
def isN {β:Type} (v:SV) (kd:IntKind) (n:Int) (k:R β):R β:=match v with
  | .int kd' m=>bif decide (kd'=kd) && decide (m=n) then k else none
  | _=>none
theorem isN_spec {β:Type} {v:SV} {kd:IntKind} {n:Int} {k:R β} {r:β} (h:isN v kd n k=some r):v=.int kd n∧k=some r:=by
  unfold isN at h
  split at h
  · obtain ⟨h1,h2⟩:=bif_some h
    simp only [Bool.and_eq_true,decide_eq_true_eq] at h1
    obtain ⟨rfl,rfl⟩:=h1
    exact ⟨rfl,h2⟩
  · cases h
def isU {β:Type} (v:SV) (k:R β):R β:=match v with
  | .tuple []=>k
  | _=>none
theorem isU_spec {β:Type} {v:SV} {k:R β} {r:β} (h:isU v k=some r):v=.tuple []∧k=some r:=by
  unfold isU at h
  split at h
  · exact ⟨rfl,h⟩
  · cases h
def xDo (c:Nat) (G:FF α):FF α:=fun args σ k=>match args with
  | [.ptr b p,.fn (.func c') [] [x]]=>bif Nat.beq c' c then (match σ.get b with
    | some (.cells g v)=>sub v (p++ doneP) fun d=>isN d .u32 0 (sub v (p++ stateP) fun s=>isN s .i32 0 (setSub v (p++ stateP) (.int .i32 1) fun u1=>
        G [x] ⟨σ.next,(b,.cells g u1)::σ.blocks⟩ fun v2 σ2=>isU v2 (match σ2.get b with
          | some (.cells g2 w2)=>sub w2 (p++ stateP) fun s2=>isN s2 .i32 1 (setSub w2 (p++ doneP) (.int .u32 1) fun u3=>setSub u3 (p++ stateP) (.int .i32 0) fun u4=>
              k (.tuple []) ⟨σ2.next,(b,.cells g2 u4)::(b,.cells g2 u3)::σ2.blocks⟩)
          | _=>none)))
    | _=>none) else none
  | _=>none
def OnceDo (P:Program) (f c:Nat):Prop:=∀(b off:Nat) (pl:Value) (w:World) (Q:World→Prop),
    w.cell? ⟨b,off,none⟩=some (.int .u32 0)→w.cell? ⟨b,off+ 1,none⟩=some (.int .i32 0)→w.frozen? ⟨b,off+ 1,none⟩=false→
    (Calls P c #[pl] (w.setCell ⟨b,off+ 1,none⟩ (.int .i32 1)) fun e w2=>e=.returned (.tuple #[])∧(∃x,w2.cell? ⟨b,off,none⟩=some x)∧w2.frozen? ⟨b,off,none⟩=false∧w2.cell? ⟨b,off+ 1,none⟩=some (.int .i32 1)∧w2.frozen? ⟨b,off+ 1,none⟩=false∧Q w2)→
    Calls P f #[.pointer (some ⟨b,off,none⟩),.func (.func c) #[] #[pl]] w fun e w'=>e=.returned (.tuple #[])∧
      ∃w2,Q w2∧w'=(w2.drew.setCell ⟨b,off,none⟩ (.int .u32 1)).setCell ⟨b,off+ 1,none⟩ (.int .i32 0)
theorem once_orc {f c:Nat} (hraw:OnceDo P f c) (hent:Enters P f) {G:FF α} (hG:OrcOk P I c (.full G)):OrcOk P I f (.full (xDo c G)):=by
  refine ⟨hent,fun args σ k r h=>?_⟩
  unfold xDo at h
  split at h<;>try (cases h; done)
  rename_i b p c' x
  obtain ⟨hc,h1⟩:=bif_some h
  have:=Nat.eq_of_beq_eq_true hc
  subst this
  split at h1<;>try (cases h1; done)
  rename_i g v hb
  obtain ⟨d,h2,hld,_⟩:=sub_spec h1
  obtain ⟨rfl,h3⟩:=isN_spec h2
  obtain ⟨s,h4,hls,_⟩:=sub_spec h3
  obtain ⟨rfl,h5⟩:=isN_spec h4
  obtain ⟨u1,h6,_,hw1,hwf1⟩:=setSub_spec h5
  obtain ⟨v2,σ2,h7,hg,hC⟩:=hG.2 _ _ _ _ h6
  obtain ⟨rfl,h8⟩:=isU_spec h7
  split at h8<;>try (cases h8; done)
  rename_i g2 w2v hb2
  obtain ⟨s2,h9,hls2,_⟩:=sub_spec h8
  obtain ⟨rfl,h10⟩:=isN_spec h9
  obtain ⟨u3,h11,_,hw3,hwf3⟩:=setSub_spec h10
  obtain ⟨u4,h12,_,hw4,hwf4⟩:=setSub_spec h11
  have o1:offOf (p++ doneP)=offOf p:=by simp [offOf_append,offOf,Step.off]
  have o2:offOf (p++ stateP)=offOf p+ 1:=by simp [offOf_append,offOf,Step.off]
  refine ⟨_,_,h12,?_,?_⟩
  · refine Grow.trans (b:=⟨σ.next,(b,.cells g u1)::σ.blocks⟩) ⟨Nat.le_refl _,[(b,.cells g u1)],rfl,fun y hy=>by simp at hy; subst hy; exact .inl ⟨_,hb⟩⟩ (hg.trans ⟨Nat.le_refl _,[(b,.cells g2 u4),(b,.cells g2 u3)],rfl,fun y hy=>by
      simp at hy; rcases hy with rfl | rfl<;>exact .inl ⟨_,hb2⟩⟩)
  · intro ρ D w hh hfr hwf
    have hDb:D b:=(hh.wf.dom b _ hb).1
    obtain ⟨f1,_,hh1,hx1⟩:=write_cell P hh hb hw1 (hwf1 I D (hh.wf.dom b _ hb).2 (by simp [Wf]))
    rw [o2] at f1 hh1 hx1
    have c0:=hh.cell (j:=0) hb hld (by simp [SV.size])
    have c1:=hh.cell (j:=0) hb hls (by simp [SV.size])
    rw [o1] at c0
    rw [o2] at c1
    simp only [Nat.add_zero,cells,List.getElem?_cons_zero] at c0 c1
    have hxw:Wf I D x:=by
      have:=hwf (.fn (.func c') [] [x]) (by simp)
      simp only [Wf,Wfs] at this
      exact this.2.1
    have hcall:=hC ρ D _ hh1 hfr (fun y hy=>by simp at hy; subst hy; exact hxw)
    have hne1:(ρ b).base+ (offOf p+ 1)=(ρ b).base+ offOf p+ 1:=by omega
    rw [hne1] at f1 c1 hcall hx1
    have main:=hraw (ρ b).blk ((ρ b).base+ offOf p) (val ρ x) w (fun w2=>∃ρ2,ExtS ρ D ⟨σ.next,(b,.cells g u1)::σ.blocks⟩ (w.setCell ⟨(ρ b).blk,(ρ b).base+ offOf p+ 1,none⟩ (.int .i32 1)) ρ2 σ2 w2∧HRel I ρ2 (plus D σ.next σ2.next) σ2.get w2) c0 c1 f1 ?_
    · have e:(List.map (val ρ) [SV.ptr b p,SV.fn (.func c') [] [x]]).toArray=#[.pointer (some ⟨(ρ b).blk,(ρ b).base+ offOf p,none⟩),.func (.func c') #[] #[val ρ x]]:=by
        simp [val_ptr,val,pack,SV.isAgg,cells,vals_eq]
      rw [e]
      refine main.mono ?_
      rintro en w' ⟨rfl,w2,⟨ρ2,hx2,hh2⟩,rfl⟩
      have hρb:ρ2 b=ρ b:=hx2.agree b hDb
      have hh2d:HRel I ρ2 (plus D σ.next σ2.next) σ2.get w2.drew:=hh2.drew (w2.drawn+ 1)
      have hx2d:ExtS ρ D ⟨σ.next,(b,.cells g u1)::σ.blocks⟩ (w.setCell ⟨(ρ b).blk,(ρ b).base+ offOf p+ 1,none⟩ (.int .i32 1)) ρ2 σ2 w2.drew:=Ext.trans hx2 (Ext.drew _ _ _ _ (w2.drawn+ 1))
      obtain ⟨_,_,hh3,hx3⟩:=write_cell P hh2d hb2 hw3 (hwf3 I _ (hh2.wf.dom b _ hb2).2 (by simp [Wf]))
      have hb3:(Heap.mk σ2.next ((b,.cells g2 u3)::σ2.blocks)).get b=some (.cells g2 u3):=by simp [Heap.get,getL,SObj.live]
      obtain ⟨_,_,hh4,hx4⟩:=write_cell P hh3 hb3 hw4 (hwf4 I _ (hh3.wf.dom b _ hb3).2 (by simp [Wf]))
      rw [hρb,o1,o2,hne1] at hh4 hx4
      rw [hρb,o1] at hx3
      refine ⟨ρ2,by simp [val,vals],?_,hh4,by simp [Wf,Wfs]⟩
      have t1:ExtS ρ D σ w ρ ⟨σ.next,(b,.cells g u1)::σ.blocks⟩ (w.setCell ⟨(ρ b).blk,(ρ b).base+ offOf p+ 1,none⟩ (.int .i32 1)):=by unfold ExtS; rw [plus_same]; exact hx1
      have t2:=ExtS.trans t1 (by rw [plus_same]; exact hx2d) (Nat.le_refl _) hg.le
      exact Ext.trans t2 (Ext.trans hx3 hx4)
    · have e:(List.map (val ρ) [x]).toArray=#[val ρ x]:=rfl
      rw [e] at hcall
      refine hcall.mono ?_
      rintro en w2 ⟨ρ2,rfl,hx2,hh2,_⟩
      have hρb:ρ2 b=ρ b:=hx2.agree b hDb
      obtain ⟨z0,e0,_,_⟩:=write_cell P hh2 hb2 hw3 (hwf3 I _ (hh2.wf.dom b _ hb2).2 (by simp [Wf]))
      have cs:=hh2.cell (j:=0) hb2 hls2 (by simp [SV.size])
      have hws:Written w2v (offOf (p++ stateP)) (.int .i32 1) w2v:=⟨rfl,hls2.1,fun ρ j hj=>hls2.2 ρ j hj,fun _ _ _=>rfl⟩
      obtain ⟨z1,_,_,_⟩:=write_cell P hh2 hb2 hws (hh2.wf.dom b _ hb2).2
      rw [hρb,o1] at z0 e0
      rw [hρb,o2,hne1] at z1
      rw [hρb,o2] at cs
      simp only [Nat.add_zero,cells,List.getElem?_cons_zero] at cs
      rw [hne1] at cs
      exact ⟨by simp [val,vals],e0,z0,cs,z1,ρ2,hx2,hh2⟩
end
end Go.Sh
