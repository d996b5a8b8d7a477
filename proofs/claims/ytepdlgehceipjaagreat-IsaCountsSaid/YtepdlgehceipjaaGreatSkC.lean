/-
  The shadow interpreter of Go code, with its proofs (three texts).
-/
import Derived.Test.YtepdlgehceipjaaGreatSkB
import Derived.ReadAgain
import Derived.Deep.Slices
import Derived.Laws.LoneSync
set_option linter.unusedSimpArgs false
set_option linter.unusedVariables false
namespace Go.Sh
open Go
section
variable {α:Type} {P:Program} {I:Imm}
mutual
def Ids : (Nat→Prop)→SV→Prop
  | p,.ptr b _=>p b
  | p,.slc b _ _ _ _ _=>p b
  | p,.oslc b _ _=>p b
  | p,.map b=>p b
  | p,.fn _ a c=>Idss p a∧Idss p c
  | p,.arr _ _ f=>∀i,Ids p (f i)
  | p,.agg l=>Idss p l
  | p,.tuple l=>Idss p l
  | _,_=>True
def Idss : (Nat→Prop)→List SV→Prop
  | _,[]=>True
  | p,v::l=>Ids p v∧Idss p l
end
def OIds (p:Nat→Prop):SObj→Prop
  | .cells _ v=>Ids p v
  | .map es=>∀e ∈ es,Ids p e.1∧Ids p e.2
  | .dead=>True
mutual
theorem Wf.andIds {n p:Nat→Prop}:∀{v:SV},Wf I n v→Ids p v→Wf I (fun c=>n c∧p c) v
  | .bool _,_,_ | .int ..,_,_ | .str _,_,_ | .nilp,_,_ | .nils,_,_ | .nilfn,_,_ | .nilmap,_,_ | .nilifc,_,_ | .ints ..,_,_ | .bools ..,_,_=>by simp [Wf]
  | .ptr ..,g,h=>by simp only [Wf,Ids] at *; exact ⟨g,h⟩
  | .slc ..,g,h=>by simp only [Wf,Ids] at *; exact ⟨g,h⟩
  | .oslc ..,g,h=>by simp only [Wf,Ids] at *; exact ⟨g,h⟩
  | .map _,g,h=>by simp only [Wf,Ids] at *; exact ⟨g,h⟩
  | .vptr a v,g,_=>by simp only [Wf] at *; exact g
  | .vslc d nl a len cap f,g,_=>by simp only [Wf] at *; exact g
  | .fn _ a c,g,h=>by simp only [Wf,Ids] at *; exact ⟨Wfs.andIds g.1 h.1,Wfs.andIds g.2 h.2⟩
  | .arr _ _ f,g,h=>by simp only [Wf,Ids] at *; exact fun i hi=>Wf.andIds (g i hi) (h i)
  | .agg l,g,h=>by simp only [Wf,Ids] at *; exact Wfs.andIds g h
  | .tuple l,g,h=>by simp only [Wf,Ids] at *; exact Wfs.andIds g h
theorem Wfs.andIds {n p:Nat→Prop}:∀{l:List SV},Wfs I n l→Idss p l→Wfs I (fun c=>n c∧p c) l
  | [],_,_=>by simp [Wfs]
  | v::l,g,h=>by simp only [Wfs,Idss] at *; exact ⟨Wf.andIds g.1 h.1,Wfs.andIds g.2 h.2⟩
end
theorem OWf.andIds {n p:Nat→Prop} {o:SObj} (g:OWf I n o) (h:OIds p o):OWf I (fun c=>n c∧p c) o:=by
  cases o with
  | cells _ v=>exact Wf.andIds g h
  | map es=>exact fun e he=>⟨Wf.andIds (g e he).1 (h e he).1,Wf.andIds (g e he).2 (h e he).2⟩
  | dead=>trivial
theorem OWf.mono' {n m:Nat→Prop} {o:SObj} (g:OWf I n o) (h:∀c,n c→m c):OWf I m o:=OWf.mono h g
mutual
theorem Ids.mono {p q:Nat→Prop} (h:∀b,p b→q b):∀{v:SV},Ids p v→Ids q v
  | .bool _,_ | .int ..,_ | .str _,_ | .nilp,_ | .nils,_ | .nilfn,_ | .nilmap,_ | .nilifc,_ | .ints ..,_ | .bools ..,_ | .vptr ..,_ | .vslc ..,_=>by simp [Ids]
  | .ptr ..,g=>by simp only [Ids] at *; exact h _ g
  | .slc ..,g=>by simp only [Ids] at *; exact h _ g
  | .oslc ..,g=>by simp only [Ids] at *; exact h _ g
  | .map _,g=>by simp only [Ids] at *; exact h _ g
  | .fn _ a c,g=>by simp only [Ids] at *; exact ⟨Idss.mono h g.1,Idss.mono h g.2⟩
  | .arr _ _ f,g=>by simp only [Ids] at *; exact fun i=>Ids.mono h (g i)
  | .agg l,g=>by simp only [Ids] at *; exact Idss.mono h g
  | .tuple l,g=>by simp only [Ids] at *; exact Idss.mono h g
theorem Idss.mono {p q:Nat→Prop} (h:∀b,p b→q b):∀{l:List SV},Idss p l→Idss q l
  | [],_=>by simp [Idss]
  | v::l,g=>by simp only [Idss] at *; exact ⟨Ids.mono h g.1,Idss.mono h g.2⟩
end
theorem OIds.mono {p q:Nat→Prop} (h:∀b,p b→q b) {o:SObj} (g:OIds p o):OIds q o:=by
  cases o with
  | cells _ v=>exact Ids.mono h g
  | map es=>exact fun e he=>⟨Ids.mono h (g e he).1,Ids.mono h (g e he).2⟩
  | dead=>trivial
mutual
def ren (r:Nat→Nat):SV→SV
  | .bool b=>.bool b
  | .int k n=>.int k n
  | .str s=>.str s
  | .ptr b p=>.ptr (r b) p
  | .nilp=>.nilp
  | .slc b p s o n c=>.slc (r b) p s o n c
  | .oslc b s n=>.oslc (r b) s n
  | .nils=>.nils
  | .vptr a v=>.vptr a v
  | .vslc d nl a n c f=>.vslc d nl a n c f
  | .fn f a c=>.fn f (rens r a) (rens r c)
  | .nilfn=>.nilfn
  | .map b=>.map (r b)
  | .nilmap=>.nilmap
  | .nilifc=>.nilifc
  | .ints k n f=>.ints k n f
  | .bools n f=>.bools n f
  | .arr s n f=>.arr s n fun i=>ren r (f i)
  | .agg l=>.agg (rens r l)
  | .tuple l=>.tuple (rens r l)
def rens (r:Nat→Nat):List SV→List SV
  | []=>[]
  | v::l=>ren r v::rens r l
end
def renO (r:Nat→Nat):SObj→SObj
  | .cells g v=>.cells g (ren r v)
  | .map es=>.map (es.map fun e=>(ren r e.1,ren r e.2))
  | .dead=>.dead
theorem renO_live (r:Nat→Nat) (o:SObj):(renO r o).live=o.live.map (renO r):=by cases o<;>rfl
mutual
theorem ren_size (r:Nat→Nat):∀v:SV,(ren r v).size=v.size
  | .bool _ | .int .. | .str _ | .ptr .. | .nilp | .slc .. | .oslc .. | .nils | .vptr .. | .vslc .. | .nilfn | .map _ | .nilmap | .nilifc | .ints .. | .bools .. | .tuple _ | .fn .. | .arr ..=>by simp [ren,SV.size]
  | .agg l=>by simp only [ren,SV.size]; exact rens_size r l
theorem rens_size (r:Nat→Nat):∀l:List SV,sizes (rens r l)=sizes l
  | []=>by simp [rens,sizes]
  | v::l=>by simp [rens,sizes,ren_size r v,rens_size r l]
end
mutual
theorem cells_ren (ρ:Nat→Pl) (r:Nat→Nat):∀v:SV,cells ρ (ren r v)=cells (fun i=>ρ (r i)) v
  | .bool _ | .int .. | .str _ | .ptr .. | .nilp | .slc .. | .oslc .. | .nils | .vptr .. | .vslc .. | .nilfn | .map _ | .nilmap | .nilifc | .ints .. | .bools .. | .tuple _=>by simp [ren,cells]
  | .fn f a c=>by simp only [ren,cells,vals_ren ρ r a,vals_ren ρ r c]
  | .arr s n f=>by
    simp only [ren,cells]
    congr 1
    funext i
    rw [cells_ren ρ r (f i)]
  | .agg l=>by simp only [ren,cells]; exact cellss_ren ρ r l
theorem cellss_ren (ρ:Nat→Pl) (r:Nat→Nat):∀l:List SV,cellss ρ (rens r l)=cellss (fun i=>ρ (r i)) l
  | []=>by simp [rens,cellss]
  | v::l=>by simp only [rens,cellss,cells_ren ρ r v,cellss_ren ρ r l]
theorem vals_ren (ρ:Nat→Pl) (r:Nat→Nat):∀l:List SV,vals ρ (rens r l)=vals (fun i=>ρ (r i)) l
  | []=>by simp [rens,vals]
  | .tuple l::m=>by simp only [rens,ren,vals,vals_ren ρ r l,vals_ren ρ r m]
  | .bool b::m=>by have h:=cells_ren ρ r (.bool b); simp only [ren] at h; simp only [rens,ren,vals,vals_ren ρ r m,h]
  | .int k n::m=>by have h:=cells_ren ρ r (.int k n); simp only [ren] at h; simp only [rens,ren,vals,vals_ren ρ r m,h]
  | .str s::m=>by have h:=cells_ren ρ r (.str s); simp only [ren] at h; simp only [rens,ren,vals,vals_ren ρ r m,h]
  | .ptr b p::m=>by have h:=cells_ren ρ r (.ptr b p); simp only [ren] at h; simp only [rens,ren,vals,vals_ren ρ r m,h]; rfl
  | .nilp::m=>by have h:=cells_ren ρ r .nilp; simp only [ren] at h; simp only [rens,ren,vals,vals_ren ρ r m,h]
  | .oslc b s n::m=>by have h:=cells_ren ρ r (.oslc b s n); simp only [ren] at h; simp only [rens,ren,vals,vals_ren ρ r m,h]; rfl
  | .slc b p s o n c::m=>by have h:=cells_ren ρ r (.slc b p s o n c); simp only [ren] at h; simp only [rens,ren,vals,vals_ren ρ r m,h]; rfl
  | .nils::m=>by have h:=cells_ren ρ r .nils; simp only [ren] at h; simp only [rens,ren,vals,vals_ren ρ r m,h]
  | .vptr a v::m=>by have h:=cells_ren ρ r (.vptr a v); simp only [ren] at h; simp only [rens,ren,vals,vals_ren ρ r m,h]
  | .vslc d nl a n c f::m=>by have h:=cells_ren ρ r (.vslc d nl a n c f); simp only [ren] at h; simp only [rens,ren,vals,vals_ren ρ r m,h]
  | .fn f a c::m=>by have h:=cells_ren ρ r (.fn f a c); simp only [ren] at h; simp only [rens,ren,vals,vals_ren ρ r m,h]; rfl
  | .nilfn::m=>by have h:=cells_ren ρ r .nilfn; simp only [ren] at h; simp only [rens,ren,vals,vals_ren ρ r m,h]
  | .map b::m=>by have h:=cells_ren ρ r (.map b); simp only [ren] at h; simp only [rens,ren,vals,vals_ren ρ r m,h]; rfl
  | .nilmap::m=>by have h:=cells_ren ρ r .nilmap; simp only [ren] at h; simp only [rens,ren,vals,vals_ren ρ r m,h]
  | .nilifc::m=>by have h:=cells_ren ρ r .nilifc; simp only [ren] at h; simp only [rens,ren,vals,vals_ren ρ r m,h]
  | .ints k n f::m=>by have h:=cells_ren ρ r (.ints k n f); simp only [ren] at h; simp only [rens,ren,vals,vals_ren ρ r m,h]
  | .bools n f::m=>by have h:=cells_ren ρ r (.bools n f); simp only [ren] at h; simp only [rens,ren,vals,vals_ren ρ r m,h]
  | .arr s n f::m=>by have h:=cells_ren ρ r (.arr s n f); simp only [ren] at h; simp only [rens,ren,vals,vals_ren ρ r m,h]; rfl
  | .agg l::m=>by have h:=cells_ren ρ r (.agg l); simp only [ren] at h; simp only [rens,ren,vals,vals_ren ρ r m,h]; rfl
end
theorem val_ren (ρ:Nat→Pl) (r:Nat→Nat) (v:SV):val ρ (ren r v)=val (fun i=>ρ (r i)) v:=by
  have:=vals_ren ρ r [v]
  simpa [rens,vals_eq] using this
mutual
theorem wf_ren (r:Nat→Nat) {n:Nat→Prop}:∀{v:SV},Wf I n (ren r v) ↔ Wf I (fun i=>n (r i)) v
  | .bool _ | .int .. | .str _ | .ptr .. | .nilp | .slc .. | .oslc .. | .nils | .vptr .. | .vslc .. | .nilfn | .map _ | .nilmap | .nilifc | .ints .. | .bools ..=>by simp [ren,Wf]
  | .fn f a c=>by simp only [ren,Wf,wfs_ren r (l:=a),wfs_ren r (l:=c)]
  | .arr s m f=>by
    simp only [ren,Wf]
    exact forall_congr' fun i=>imp_congr Iff.rfl (wf_ren r (v:=f i))
  | .agg l=>by simp only [ren,Wf]; exact wfs_ren r
  | .tuple l=>by simp only [ren,Wf]; exact wfs_ren r
theorem wfs_ren (r:Nat→Nat) {n:Nat→Prop}:∀{l:List SV},Wfs I n (rens r l) ↔ Wfs I (fun i=>n (r i)) l
  | []=>by simp [rens,Wfs]
  | v::l=>by simp only [rens,Wfs,wf_ren r (v:=v),wfs_ren r (l:=l)]
end
theorem owf_ren (r:Nat→Nat) {n:Nat→Prop} {o:SObj}:OWf I n (renO r o) ↔ OWf I (fun i=>n (r i)) o:=by
  cases o with
  | cells g v=>exact wf_ren r
  | map es=>
    simp only [renO,OWf,List.mem_map,forall_exists_index,and_imp,forall_apply_eq_imp_iff₂,wf_ren r]
  | dead=>exact Iff.rfl
mutual
theorem ren_congr {r r':Nat→Nat} {p:Nat→Prop} (h:∀i,p i→r i=r' i):∀{v:SV},Ids p v→ren r v=ren r' v
  | .bool _,_ | .int ..,_ | .str _,_ | .nilp,_ | .nils,_ | .vptr ..,_ | .vslc ..,_ | .nilfn,_ | .nilmap,_ | .nilifc,_ | .ints ..,_ | .bools ..,_=>by simp [ren]
  | .ptr ..,g=>by simp only [Ids] at g; simp only [ren,h _ g]
  | .slc ..,g=>by simp only [Ids] at g; simp only [ren,h _ g]
  | .oslc ..,g=>by simp only [Ids] at g; simp only [ren,h _ g]
  | .map _,g=>by simp only [Ids] at g; simp only [ren,h _ g]
  | .fn f a c,g=>by simp only [Ids] at g; simp only [ren,rens_congr h g.1,rens_congr h g.2]
  | .arr s m f,g=>by
    simp only [Ids] at g
    simp only [ren]
    congr 1
    funext i
    exact ren_congr h (g i)
  | .agg l,g=>by simp only [Ids] at g; simp only [ren,rens_congr h g]
  | .tuple l,g=>by simp only [Ids] at g; simp only [ren,rens_congr h g]
theorem rens_congr {r r':Nat→Nat} {p:Nat→Prop} (h:∀i,p i→r i=r' i):∀{l:List SV},Idss p l→rens r l=rens r' l
  | [],_=>rfl
  | v::l,g=>by simp only [Idss] at g; simp only [rens,ren_congr h g.1,rens_congr h g.2]
end
theorem renO_congr {r r':Nat→Nat} {p:Nat→Prop} (h:∀i,p i→r i=r' i) {o:SObj} (g:OIds p o):renO r o=renO r' o:=by
  cases o with
  | cells g' v=>simp only [renO,ren_congr h g]
  | map es=>
    simp only [renO]
    congr 1
    apply List.map_congr_left
    intro e he
    rw [ren_congr h (g e he).1,ren_congr h (g e he).2]
  | dead=>rfl
theorem none_ren {c:Prop} {r:Nat→Nat} {o:SObj} (h:c∧∃g v,renO r o=.cells g v∧v.size=0):c∧∃g v,o=.cells g v∧v.size=0:=by
  obtain ⟨h1,g,v,h2,h3⟩:=h
  cases o with
  | cells g' v'=>
    simp only [renO,SObj.cells.injEq] at h2
    obtain ⟨rfl,rfl⟩:=h2
    exact ⟨h1,_,_,rfl,by rw [ren_size] at h3; exact h3⟩
  | map es=>simp [renO] at h2
  | dead=>simp [renO] at h2
theorem objAt_ren {ρ ρ0:Nat→Pl} {r:Nat→Nat} {p:Nat→Prop} (hρ:∀i,p i→ρ (r i)=ρ0 i) {i:Nat} (hi:p i) {w:World} {o:SObj} (ho:OWf I p o):ObjAt ρ (r i) w (renO r o) ↔ ObjAt ρ0 i w o:=by
  have hb:=hρ i hi
  cases o with
  | cells g v=>
    have e:cells ρ (ren r v)=cells ρ0 v:=by rw [cells_ren]; exact cells_congr (I:=I) (n:=p) (fun b hb=>hρ b hb) ho
    have es:=ren_size r v
    simp only [renO,ObjAt,hb,e,es]
    have er:reachOf (ρ0 i) g (ren r v)=reachOf (ρ0 i) g v:=by cases g<;>simp [reachOf,es]
    rw [er]
  | map es=>
    simp only [renO,ObjAt,hb,List.map_map]
    have e:List.map ((fun e=>(val ρ e.1,val ρ e.2)) ∘ fun e=>(ren r e.1,ren r e.2)) es=List.map (fun e=>(val ρ0 e.1,val ρ0 e.2)) es:=by
      apply List.map_congr_left
      intro x hx
      have:=ho x hx
      simp only [Function.comp,val_ren]
      rw [val_congr (I:=I) (n:=p) (fun b hb=>hρ b hb) this.1,val_congr (I:=I) (n:=p) (fun b hb=>hρ b hb) this.2]
    rw [e]
  | dead=>exact Iff.rfl
theorem getL_bl {r':Nat→Nat} {rest:List (Nat × SObj)} {b:Nat} {o:SObj}:∀{bl:List (Nat × SObj)},getL ((bl.map fun x=>(r' x.1,renO r' x.2))++ rest) b=some o→
    (∃i o0,(i,o0) ∈ bl∧getL bl i=some o0∧r' i=b∧renO r' o0=o)∨(getL rest b=some o∧∀x ∈ bl,r' x.1 ≠ b)
  | [],h=>.inr ⟨h,by simp⟩
  | (i, o0)::bl,h=>by
    simp only [List.map_cons,List.cons_append,getL] at h
    cases e:Nat.beq (r' i) b<;>rw [e] at h
    · have hne:r' i ≠ b:=fun e'=>by rw [e',Nat.beq_refl] at e; cases e
      rcases getL_bl (bl:=bl) (by simpa using h) with ⟨j,o1,h1,h2,h3,h4⟩ | ⟨h1,h2⟩
      · refine .inl ⟨j,o1,List.mem_cons_of_mem _ h1,?_,h3,h4⟩
        have:i ≠ j:=fun e'=>hne (e' ▸ h3)
        have e2:Nat.beq i j=false:=beq_ne this
        unfold getL; rw [e2]; exact h2
      · refine .inr ⟨h1,fun x hx=>?_⟩
        rcases List.mem_cons.1 hx with rfl | hx
        · exact hne
        · exact h2 x hx
    · have:=Nat.eq_of_beq_eq_true e
      subst this
      simp only [cond_true,renO_live] at h
      cases hl:o0.live with
      | none=>rw [hl] at h; cases h
      | some o2=>
        have e3:=live_some hl
        subst e3
        rw [hl] at h
        exact .inl ⟨i,o2,by simp,by simp [getL,hl],rfl,Option.some.inj h⟩
theorem getL_none_of {bl rest:List (Nat × SObj)} {i:Nat} (h:∀x ∈ bl,x.1 ≠ i):getL (bl++ rest) i=getL rest i:=by
  induction bl with
  | nil=>rfl
  | cons x bl ih=>
    obtain ⟨c,o⟩:=x
    have e2:Nat.beq c i=false:=beq_ne (h (c,o) (by simp))
    have e3:getL ((c,o)::bl++ rest) i=bif Nat.beq c i then o.live else getL (bl++ rest) i:=rfl
    rw [e3,e2]
    exact ih fun x hx=>h x (List.mem_cons_of_mem _ hx)
theorem getL_app_of {bl rest:List (Nat × SObj)} {i:Nat} {o:SObj} (h:getL bl i=some o):getL (bl++ rest) i=some o:=by
  induction bl with
  | nil=>simp [getL] at h
  | cons x bl ih=>
    obtain ⟨c,o'⟩:=x
    simp only [List.cons_append,getL] at h ⊢
    cases e:Nat.beq c i<;>rw [e] at h
    · exact ih h
    · exact h
theorem scalls_ren {f:FuncId} {args0:List SV} {σ0 σ1 σ:Heap} {v0:SV} (h:SCalls P I f args0 σ0 v0 σ1) {m:Nat} (hm:σ0.next=m) {r r':Nat→Nat}
    (hinj:∀i j,i < m→j < m→r i=r j→i=j) (hargs:∀x ∈ args0,Ids (· < m) x) (hob:∀i o,σ0.get i=some o→i < m∧OIds (· < m) o)
    (hσ:∀i o,σ0.get i=some o→σ.get (r i)=some (renO r o)) {nw:List Nat} (hr':∀i,i < m→r' i=r i) (hnw:∀(j i:Nat),nw[j]?=some i→m≤i∧i < σ1.next∧r' i=σ.next+ j)
    {K:Nat→Prop} (hK:∀i,K i ↔ i < m∨i ∈ nw) (hv:Ids K v0) {bl:List (Nat × SObj)} (hbl:∀x ∈ bl,K x.1∧OIds K x.2) (hget:∀i o,K i→getL (bl++ σ0.blocks) i=some o→σ1.get i=some o):
    SCalls P I f (args0.map (ren r)) σ (ren r' v0) ⟨σ.next+ nw.length,(bl.map fun x=>(r' x.1,renO r' x.2))++ σ.blocks⟩:=by
  subst hm
  intro ρ D w hh hfr hwf
  have hD0:HRel I (fun i=>ρ (r i)) (fun i=>D (r i)∧i < σ0.next) σ0.get w:=by
    have wfo:∀i o,σ0.get i=some o→(D (r i)∧i < σ0.next)∧OWf I (fun i=>D (r i)∧i < σ0.next) o:=fun i o hi=>by
      obtain ⟨h1,h2⟩:=hh.wf.dom _ _ (hσ i o hi)
      obtain ⟨h3,h4⟩:=hob i o hi
      exact ⟨⟨h1,h3⟩,OWf.andIds ((owf_ren r).1 h2) h4⟩
    refine ⟨⟨fun i o hi=>wfo i o hi⟩,fun i o hi=>?_,fun i o j o' hi hj hz hz' e=>hinj i j (hob i o hi).1 (hob j o' hj).1 (hh.inj _ _ _ _ (hσ i o hi) (hσ j o' hj) hz hz' e),hh.imm,fun i o hi=>hh.off _ _ (hσ i o hi),fun i o hi hz=>none_ren (hh.none_ _ _ (hσ i o hi) hz)⟩
    obtain ⟨h1,h2⟩:=wfo i o hi
    exact fun hz=>(objAt_ren (I:=I) (p:=fun i=>D (r i)∧i < σ0.next) (fun _ _=>rfl) h1 h2).1 (hh.obj _ _ (hσ i o hi) hz)
  have hav:(args0.map (ren r)).map (val ρ)=args0.map (val fun i=>ρ (r i)):=by
    rw [List.map_map]; apply List.map_congr_left; intro x _; exact val_ren ρ r x
  rw [hav]
  refine (h _ _ w hD0 (fun c hc _ hd=>by omega) (fun x hx=>Wf.andIds ((wf_ren r).1 (hwf _ (List.mem_map_of_mem hx))) (hargs x hx))).mono ?_
  rintro e w' ⟨ρ1,rfl,hx,hh',hwv⟩
  -- where the blocks lie now
  let ρ':Nat→Pl:=fun c=>if σ.next≤c then (match nw[c - σ.next]? with | some i=>ρ1 i | none=>ρ c) else ρ c
  have new:∀(j i:Nat),nw[j]?=some i→ρ' (σ.next+ j)=ρ1 i:=fun j i hj=>by
    simp only [ρ',Nat.le_add_right,if_true,Nat.add_sub_cancel_left,hj]
  have old:∀c,D c→ρ' c=ρ c:=fun c hc=>by
    by_cases h1:σ.next≤c
    · have h2:σ.next+ nw.length≤c:=by
        by_cases h2:c < σ.next+ nw.length
        · exact absurd hc (hfr c h1 h2)
        · omega
      simp only [ρ',h1,if_true]
      rw [List.getElem?_eq_none (by omega)]
    · simp only [ρ',h1,if_false]
  have oldi:∀i,D (r i)∧i < σ0.next→ρ' (r' i)=ρ1 i:=fun i hi=>by
    rw [hr' i hi.2,old _ hi.1]; exact (hx.agree i hi).symm
  have newi:∀i,i ∈ nw→ρ' (r' i)=ρ1 i:=fun i hi=>by
    obtain ⟨j,hj⟩:=List.getElem?_of_mem hi
    rw [(hnw j i hj).2.2,new j i hj]
  have all:∀i,plus (fun i=>D (r i)∧i < σ0.next) σ0.next σ1.next i∧K i→ρ' (r' i)=ρ1 i:=fun i hi=>by
    rcases (hK i).1 hi.2 with h1 | h1
    · rcases hi.1 with h2 | h2
      · exact oldi i h2
      · omega
    · exact newi i h1
  have dom':∀i,plus (fun i=>D (r i)∧i < σ0.next) σ0.next σ1.next i∧K i→plus D σ.next (σ.next+ nw.length) (r' i):=fun i hi=>by
    rcases (hK i).1 hi.2 with h1 | h1
    · rcases hi.1 with h2 | h2
      · rw [hr' i h1]; exact .inl h2.1
      · omega
    · obtain ⟨j,hj⟩:=List.getElem?_of_mem h1
      have hlt:=(List.getElem?_eq_some_iff.1 hj).1
      rw [(hnw j i hj).2.2]; exact .inr (by omega)
  have parts:∀b o,getL ((bl.map fun x=>(r' x.1,renO r' x.2))++ σ.blocks) b=some o→
      (∃i o0,K i∧σ1.get i=some o0∧OIds K o0∧r' i=b∧renO r' o0=o)∨(σ.get b=some o∧∀i o0,σ0.get i=some o0→r i ≠ b):=by
    intro b o hb
    rcases getL_bl hb with ⟨i,o0,h1,h2,h3,h4⟩ | ⟨h1,h2⟩
    · obtain ⟨h5,h6⟩:=hbl _ h1
      exact .inl ⟨i,o0,h5,hget i o0 h5 (getL_app_of h2),h6,h3,h4⟩
    · by_cases hc:∃i o0,σ0.get i=some o0∧r i=b
      · obtain ⟨i,o0,h3,h4⟩:=hc
        obtain ⟨h5,h6⟩:=hob i o0 h3
        have h7:K i:=(hK i).2 (.inl h5)
        refine .inl ⟨i,o0,h7,hget i o0 h7 ?_,h6.mono fun c hc=>(hK c).2 (.inl hc),by rw [hr' i h5,h4],?_⟩
        · rw [getL_none_of]
          · exact h3
          · rintro x hx rfl
            exact h2 x hx (by rw [hr' _ h5,h4])
        · have h8:=hσ i o0 h3
          rw [h4] at h8
          have h9:σ.get b=some o:=h1
          rw [h9] at h8
          rw [Option.some.inj h8]
          exact renO_congr (fun c hc=>hr' c hc) h6
      · exact .inr ⟨h1,fun i o0 h3 h4=>hc ⟨i,o0,h3,h4⟩⟩
  have far:∀b o,σ.get b=some o→(∀i o0,σ0.get i=some o0→r i ≠ b)→(ρ b).nil=false→w'.heap[(ρ b).blk]?=w.heap[(ρ b).blk]?:=fun b o hb hn hz=>
    hx.frame _ (hh.obj b o hb hz).lt fun c oc hc hz' e=>hn c oc hc (hh.inj _ _ _ _ (hσ c oc hc) hb hz' hz e)
  have apart:∀i o0 b o,σ1.get i=some o0→σ.get b=some o→(∀i o0,σ0.get i=some o0→r i ≠ b)→(ρ1 i).nil=false→(ρ b).nil=false→(ρ1 i).blk=(ρ b).blk→False:=fun i o0 b o h1 h2 h3 hz hz' e=>by
    have hlt:=(hh.obj b o h2 hz').lt
    rcases hx.img i o0 h1 hz with h4 | ⟨b0,o1,h5,h0,h6⟩
    · omega
    · exact h3 b0 o1 h5 (hh.inj _ _ _ _ (hσ b0 o1 h5) h2 h0 hz' (h6.trans e))
  have wf1:∀i o0,σ1.get i=some o0→OIds K o0→K i→OWf I (fun i=>plus (fun i=>D (r i)∧i < σ0.next) σ0.next σ1.next i∧K i) o0∧(plus (fun i=>D (r i)∧i < σ0.next) σ0.next σ1.next i∧K i):=fun i o0 h1 h2 h3=>by
    obtain ⟨h4,h5⟩:=hh'.wf.dom i o0 h1
    exact ⟨OWf.andIds h5 h2,h4,h3⟩
  have hwv2:=Wf.andIds hwv hv
  refine ⟨ρ',?_,?_,?_,?_⟩
  · rw [val_ren,val_congr (I:=I) (n:=fun i=>plus (fun i=>D (r i)∧i < σ0.next) σ0.next σ1.next i∧K i) (fun i hi=>all i hi) hwv2]
  · refine ⟨fun _ h=>.inl h,old,hx.os,hx.tape,hx.output,hx.size,fun i hi hn=>hx.frame i hi fun b o hb hz e=>hn (r b) _ (hσ b o hb) hz e,fun b o hb hz=>?_⟩
    rcases parts b o hb with ⟨i,o0,h1,h2,h3,rfl,rfl⟩ | ⟨h1,h2⟩
    · rw [all i (wf1 i o0 h2 h3 h1).2] at hz ⊢
      rcases hx.img i o0 h2 hz with h4 | ⟨b0,o1,h5,h0,h6⟩
      · exact .inl h4
      · exact .inr ⟨r b0,_,hσ b0 o1 h5,h0,h6⟩
    · rw [old b (hh.wf.dom b o h1).1] at hz ⊢
      exact .inr ⟨b,o,h1,hz,rfl⟩
  · refine ⟨⟨fun b o hb=>?_⟩,fun b o hb hz=>?_,fun b o b' o' hb hb' hz hz' e=>?_,hh'.imm,fun b o hb hz=>?_,fun b o hb hz=>?_⟩
    · rcases parts b o hb with ⟨i,o0,h1,h2,h3,rfl,rfl⟩ | ⟨h1,h2⟩
      · obtain ⟨h4,h5⟩:=wf1 i o0 h2 h3 h1
        exact ⟨dom' i h5,(owf_ren r').2 (h4.mono' dom')⟩
      · exact ⟨.inl (hh.wf.dom b o h1).1,(hh.wf.dom b o h1).2.mono' fun c hc=>.inl hc⟩
    · rcases parts b o hb with ⟨i,o0,h1,h2,h3,rfl,rfl⟩ | ⟨h1,h2⟩
      · obtain ⟨h4,h5⟩:=wf1 i o0 h2 h3 h1
        exact (objAt_ren (I:=I) (p:=fun i=>plus (fun i=>D (r i)∧i < σ0.next) σ0.next σ1.next i∧K i) all h5 h4).2 (hh'.obj i o0 h2 (by rw [all i h5] at hz; exact hz))
      · rw [old b (hh.wf.dom b o h1).1] at hz
        exact ObjAt.congr (I:=I) (hh.obj b o h1 hz) (hh.wf.dom b o h1).2 old (hh.wf.dom b o h1).1 (far b o h1 h2 hz)
    · rcases parts b o hb with ⟨i,o0,h1,h2,h3,rfl,rfl⟩ | ⟨h1,h2⟩<;>rcases parts b' o' hb' with ⟨i',o0',h1',h2',h3',rfl,rfl⟩ | ⟨h1',h2'⟩
      · rw [all i (wf1 i o0 h2 h3 h1).2] at e hz
        rw [all i' (wf1 i' o0' h2' h3' h1').2] at e hz'
        rw [hh'.inj i o0 i' o0' h2 h2' hz hz' e]
      · rw [all i (wf1 i o0 h2 h3 h1).2] at e hz
        rw [old b' (hh.wf.dom b' o' h1').1] at e hz'
        exact (apart i o0 b' o' h2 h1' h2' hz hz' e).elim
      · rw [all i' (wf1 i' o0' h2' h3' h1').2] at e hz'
        rw [old b (hh.wf.dom b o h1).1] at e hz
        exact (apart i' o0' b o h2' h1 h2 hz' hz e.symm).elim
      · rw [old b (hh.wf.dom b o h1).1] at e hz
        rw [old b' (hh.wf.dom b' o' h1').1] at e hz'
        exact hh.inj b o b' o' h1 h1' hz hz' e
    · rcases parts b o hb with ⟨i,o0,h1,h2,h3,rfl,rfl⟩ | ⟨h1,h2⟩
      · rw [all i (wf1 i o0 h2 h3 h1).2] at hz ⊢; exact hh'.off i o0 h2 hz
      · rw [old b (hh.wf.dom b o h1).1] at hz ⊢; exact hh.off b o h1 hz
    · rcases parts b o hb with ⟨i,o0,h1,h2,h3,rfl,rfl⟩ | ⟨h1,h2⟩
      · rw [all i (wf1 i o0 h2 h3 h1).2] at hz ⊢
        obtain ⟨q1,g',v',rfl,q3⟩:=hh'.none_ i _ h2 hz
        exact ⟨q1,g',_,rfl,by rw [ren_size]; exact q3⟩
      · rw [old b (hh.wf.dom b o h1).1] at hz ⊢; exact hh.none_ b o h1 hz
  · exact (wf_ren r').2 (hwv2.mono dom')
end
end Go.Sh
namespace Go.Sh
open Go
section
variable {α:Type} {P:Program} {I:Imm}
def getN : List Nat→Nat→Option Nat
  | [],_=>none
  | b::_,0=>some b
  | _::l,i+ 1=>getN l i
theorem getN_eq : ∀(l:List Nat) (i:Nat),getN l i=l[i]?
  | [],_=>by simp [getN]
  | b::_,0=>by simp [getN]
  | _::l,i+ 1=>by simp [getN,getN_eq l i]
def posN : List Nat→Nat→Nat
  | [],_=>0
  | b::l,i=>bif Nat.beq b i then 0 else posN l i+ 1
theorem posN_spec : ∀{l:List Nat} {j i:Nat},l.Nodup→l[j]?=some i→posN l i=j
  | [],_,_,_,h=>by simp at h
  | b::l,0,i,_,h=>by simp at h; subst h; simp [posN]
  | b::l,j+ 1,i,hn,h=>by
    simp only [List.getElem?_cons_succ] at h
    have hm:i ∈ l:=List.mem_of_getElem? h
    have hne:b ≠ i:=fun e=>(List.nodup_cons.1 hn).1 (e ▸ hm)
    simp only [posN,beq_ne hne,cond_false,posN_spec (List.nodup_cons.1 hn).2 h]
def rnm (rl:List Nat) (n:Nat) (nw:List Nat) (i:Nat):Nat:=
  match getN rl i with
  | some b=>b
  | none=>n+ posN nw i
def enumO : Nat→List SObj→List (Nat × SObj)
  | _,[]=>[]
  | i,o::l=>(i,o)::enumO (i+ 1) l
theorem enumO_get : ∀{l:List SObj} {n i:Nat} {o:SObj},getL (enumO n l) i=some o→n≤i∧l[i - n]?=some o
  | [],n,i,o,h=>by simp [enumO,getL] at h
  | x ::l,n,i,o,h=>by
    simp only [enumO,getL] at h
    cases e:Nat.beq n i<;>rw [e] at h
    · obtain ⟨h1,h2⟩:=enumO_get (l:=l) (by simpa using h)
      exact ⟨by omega,by rw [show i - n=(i - (n+ 1))+ 1 by omega]; simpa using h2⟩
    · have:=Nat.eq_of_beq_eq_true e
      subst this
      have h2:=live_some (show x.live=some o by simpa using h)
      subst h2
      exact ⟨Nat.le_refl _,by simp⟩
theorem enumO_mem : ∀{l:List SObj} {n i:Nat} {o:SObj},n≤i→l[i - n]?=some o→(i,o) ∈ enumO n l
  | [],n,i,o,_,h=>by simp at h
  | x ::l,n,i,o,h0,h=>by
    by_cases e:i=n
    · subst e; simp at h; subst h; simp [enumO]
    · rw [show i - n=(i - (n+ 1))+ 1 by omega] at h
      exact List.mem_cons_of_mem _ (enumO_mem (l:=l) (by omega) (by simpa using h))
def hp (os:List SObj):Heap:=⟨os.length,enumO 0 os⟩
def inK (i:Nat):List (Nat × SObj)→Bool
  | []=>false
  | x::l=>bif Nat.beq x.1 i then true else inK i l
theorem inK_app {i:Nat} {o:SObj} {rest:List (Nat × SObj)}:∀{l:List (Nat × SObj)},inK i l=true→getL (l++ rest) i=some o→getL l i=some o
  | [],h,_=>by simp [inK] at h
  | (c,o')::l,h,h2=>by
    simp only [inK] at h
    simp only [List.cons_append,getL] at h2 ⊢
    cases e:Nat.beq c i<;>rw [e] at h h2
    · exact inK_app (l:=l) (by simpa using h) h2
    · exact h2
def Ends (x:R Ans) (Q:SV→Heap→Prop):Prop:=∃v σ,x=some (v,σ)∧Q v σ
structure Pub (rl:List Nat) (os:List SObj) (σ:Heap) (v0:SV) (σ1:Heap) (nw:List Nat) (bl:List (Nat × SObj)):Prop where
  nodup:nw.Nodup
  new:∀i ∈ nw,os.length≤i∧i < σ1.next
  ids:Ids (fun i=>i < os.length∨i ∈ nw) v0
  key:∀x ∈ bl,(x.1 < os.length∨x.1 ∈ nw)∧OIds (fun i=>i < os.length∨i ∈ nw) x.2
  told:∀x ∈ bl,(∀o,x.2.live=some o→σ1.get x.1=some o)
  kept:∀y ∈ enumO 0 os,inK y.1 bl=true∨σ1.get y.1=some y.2
structure Lay (rl:List Nat) (os:List SObj) (args0:List SV) (args:List SV) (σ:Heap):Prop where
  len:rl.length=os.length
  nodup:rl.Nodup
  args:args0.map (ren (rnm rl 0 []))=args
  have_:∀y ∈ enumO 0 os,σ.get (rnm rl 0 [] y.1)=some (renO (rnm rl 0 []) y.2)
  aids:∀x ∈ args0,Ids (fun i=>i < os.length) x
  oids:∀o ∈ os,OIds (fun i=>i < os.length) o
theorem getL_mem {i:Nat} {o:SObj}:∀{l:List (Nat × SObj)},getL l i=some o→(i,o) ∈ l
  | [],h=>by simp [getL] at h
  | (c,o')::l,h=>by
    simp only [getL] at h
    cases e:Nat.beq c i<;>rw [e] at h
    · exact List.mem_cons_of_mem _ (getL_mem (l:=l) (by simpa using h))
    · have:=Nat.eq_of_beq_eq_true e
      subst this
      have h2:=live_some (show o'.live=some o by simpa using h)
      subst h2; simp
theorem inK_false {i:Nat}:∀{l:List (Nat × SObj)},inK i l=false→∀x ∈ l,x.1 ≠ i
  | [],_,x,hx=>by simp at hx
  | y ::l,h,x,hx=>by
    simp only [inK] at h
    cases e:Nat.beq y.1 i<;>rw [e] at h
    · rcases List.mem_cons.1 hx with rfl | hx
      · rintro rfl; rw [Nat.beq_refl] at e; cases e
      · exact inK_false (l:=l) (by simpa using h) x hx
    · simp at h
theorem canon_calls {f:FuncId} {rl:List Nat} {os:List SObj} {args0 args:List SV} {σ σ1:Heap} {v0:SV} {nw:List Nat} {bl:List (Nat × SObj)} (h:SCalls P I f args0 (hp os) v0 σ1) (hg:Grow (hp os) σ1) (hl:Lay rl os args0 args σ) (hp':Pub rl os σ v0 σ1 nw bl):
    SCalls P I f args σ (ren (rnm rl σ.next nw) v0) ⟨σ.next+ nw.length,(bl.map fun x=>(rnm rl σ.next nw x.1,renO (rnm rl σ.next nw) x.2))++ σ.blocks⟩∧
      Grow σ ⟨σ.next+ nw.length,(bl.map fun x=>(rnm rl σ.next nw x.1,renO (rnm rl σ.next nw) x.2))++ σ.blocks⟩:=by
  have hr:∀n nw' i,i < os.length→rnm rl n nw' i=rl[i]?.getD 0:=fun n nw' i hi=>by
    have:i < rl.length:=by rw [hl.len]; exact hi
    simp [rnm,getN_eq,this]
  have hob:∀i o,(hp os).get i=some o→i < os.length∧OIds (fun i=>i < os.length) o:=fun i o hi=>by
    obtain ⟨_,h2⟩:=enumO_get hi
    exact ⟨(List.getElem?_eq_some_iff.1 h2).1,hl.oids o (List.mem_of_getElem? h2)⟩
  have hσ:∀i o,(hp os).get i=some o→σ.get (rnm rl 0 [] i)=some (renO (rnm rl 0 []) o):=fun i o hi=>hl.have_ (i,o) (getL_mem hi)
  have hnew:∀(j i:Nat),nw[j]?=some i→rnm rl σ.next nw i=σ.next+ j:=fun j i hj=>by
    have hge:=(hp'.new i (List.mem_of_getElem? hj)).1
    simp only [rnm,getN_eq,List.getElem?_eq_none (show rl.length≤i by rw [hl.len]; exact hge),posN_spec hp'.nodup hj]
  subst_vars
  refine ⟨?_,Nat.le_add_right _ _,_,rfl,?_⟩
  · have hargs:=hl.args
    subst hargs
    refine scalls_ren (m:=os.length) (r:=rnm rl 0 []) (K:=fun i=>i < os.length∨i ∈ nw) h rfl (fun i j hi hj e=>?_) hl.aids hob hσ (fun i hi=>by rw [hr _ _ i hi,hr _ _ i hi]) (fun j i hj=>?_) (fun i=>Iff.rfl) hp'.ids hp'.key (fun i o hi ho=>?_)
    · rw [hr _ _ i hi,hr _ _ j hj] at e
      have h1:i < rl.length:=by rw [hl.len]; exact hi
      have h2:j < rl.length:=by rw [hl.len]; exact hj
      simp only [h1,h2,List.getElem?_eq_getElem,Option.getD_some] at e
      exact (List.getElem_inj hl.nodup).1 e
    · have hmem:=List.mem_of_getElem? hj
      obtain ⟨h1,h2⟩:=hp'.new i hmem
      exact ⟨h1,h2,hnew j i hj⟩
    · cases e:inK i bl
      · rw [getL_none_of (inK_false e)] at ho
        rcases hp'.kept (i,o) (getL_mem ho) with h1 | h1
        · rw [e] at h1; cases h1
        · exact h1
      · have h1:=inK_app e ho
        exact hp'.told _ (getL_mem h1) o (getL_live h1)
  · intro x hx
    obtain ⟨y,hy,rfl⟩:=List.mem_map.1 hx
    rcases (hp'.key y hy).1 with h1 | h1
    · left
      have:=hl.have_ (y.1,os[y.1]) (enumO_mem (n:=0) (by omega) (by simp))
      rw [hr _ _ _ h1] at this
      exact ⟨_,by simp only [hr _ _ _ h1]; exact this⟩
    · right
      obtain ⟨j,hj⟩:=List.getElem?_of_mem h1
      have hlt:=(List.getElem?_eq_some_iff.1 hj).1
      simp only [hnew j y.1 hj]
      omega
theorem orc_canon {te : TE} (hpr : Prg P te) {O : ORC Ans} (hO : OOk P I O) {L : LO Ans} (n : Fuel) {f : FuncId} {fn : Func} (hf : P.funcs[f]? = some fn) (h1 : (fn.name == "runtime.NumGoroutine") = false) (h2 : fn.body.isNone = false) (hok : fnOk fn = true) (hL : FLOk P I L fn)
    {F:FF α} (hF:∀args σ k r,F args σ k=some r→∃rl os args0,Lay rl os args0 args σ∧Ends (bodyL te O L n fn args0 (hp os) ans) fun v0 σ1=>∃nw bl,Pub rl os σ v0 σ1 nw bl∧
      k (ren (rnm rl σ.next nw) v0) ⟨σ.next+ nw.length,(bl.map fun x=>(rnm rl σ.next nw x.1,renO (rnm rl σ.next nw) x.2))++ σ.blocks⟩=some r):OrcOk P I f (.full F):=by
  refine ⟨enters_of hf h1 h2,fun args σ k r hk=>?_⟩
  obtain ⟨rl,os,args0,h3,v0,σ1,h4,nw,bl,h5,h6⟩:=hF args σ k r hk
  obtain ⟨v',σ',h7,hg,h8⟩:=body_calls hpr hO hf hok hL h4
  simp only [ans,Option.some.injEq,Prod.mk.injEq] at h7
  obtain ⟨rfl,rfl⟩:=h7
  obtain ⟨h9,h10⟩:=canon_calls h8 hg h3 h5
  exact ⟨_,_,h6,h10,h9⟩
theorem pure_of_calls {f:FuncId} {args:List SV} {v:SV} {σe:Heap} (h:SCalls P I f args emp v σe) (hv:Ids (fun _=>False) v) (ha:∀x ∈ args,Ids (fun _=>False) x):SPure P I f args v:=by
  refine fun D hargs ρ e w hh=>?_
  have hargs':∀x ∈ args,Wf I (fun _=>False) x:=fun x hx=>(Wf.andIds (hargs x hx) (ha x hx)).mono fun _ h=>h.2
  have hemp:HRel I ρ (fun _=>False) emp.get w:=⟨⟨fun b o hb=>by simp [emp,Heap.get,getL] at hb⟩,fun b o hb=>by simp [emp,Heap.get,getL] at hb,fun b o b' o' hb=>by simp [emp,Heap.get,getL] at hb,hh.imm,fun b o hb=>by simp [emp,Heap.get,getL] at hb,fun b o hb=>by simp [emp,Heap.get,getL] at hb⟩
  refine (h ρ _ w hemp (fun _ _ _ h=>h) hargs').mono ?_
  rintro en w' ⟨ρ',rfl,hx,hr,hwv⟩
  have hwv':Wf I (fun _=>False) v:=(Wf.andIds hwv hv).mono fun _ h=>h.2
  have hfr:∀i,i < w.heap.size→w'.heap[i]?=w.heap[i]?:=fun i hi=>hx.frame i hi fun b o hb=>by simp [emp,Heap.get,getL] at hb
  refine ⟨?_,hwv'.mono fun _ h=>h.elim,⟨fun _ h=>h,fun _ _=>rfl,hx.os,hx.tape,hx.output,hx.size,fun i hi _=>hfr i hi,fun b o hb hz=>.inr ⟨b,o,hb,hz,rfl⟩⟩,⟨hh.wf,fun b o hb hz=>?_,hh.inj,hr.imm,hh.off,hh.none_⟩⟩
  · rw [val_congr (I:=I) (n:=fun _=>False) (fun b hb=>hb.elim) hwv']
  · exact ObjAt.congr (I:=I) (hh.obj b o hb hz) (hh.wf.dom b o hb).2 (fun _ _=>rfl) (hh.wf.dom b o hb).1 (hfr _ (hh.obj b o hb hz).lt)
theorem orc_pure {te : TE} (hpr : Prg P te) {O : ORC Ans} (hO : OOk P I O) {L : LO Ans} (n : Fuel) {f : FuncId} {fn : Func} (hf : P.funcs[f]? = some fn) (h1 : (fn.name == "runtime.NumGoroutine") = false) (h2 : fn.body.isNone = false) (hok : fnOk fn = true) (hL : FLOk P I L fn)
    {F:FP α} (hF:∀args k r,F args k=some r→∃v,k v=some r∧Ids (fun _=>False) v∧(∀x ∈ args,Ids (fun _=>False) x)∧EndsV (bodyL te O L n fn args emp ans) v):OrcOk P I f (.pure F):=by
  refine ⟨enters_of hf h1 h2,fun args k r hk=>?_⟩
  obtain ⟨v,h3,h4,h5,σe,h6⟩:=hF args k r hk
  refine ⟨v,h3,?_⟩
  obtain ⟨v',σ',h7,hg,h8⟩:=body_calls hpr hO hf hok hL h6
  simp only [ans,Option.some.injEq,Prod.mk.injEq] at h7
  obtain ⟨rfl,rfl⟩:=h7
  exact pure_of_calls h8 h4 h5
end
end Go.Sh
namespace Go.Sh
open Go
section
variable {α:Type} {P:Program} {I:Imm}
def AllL {β:Type} (p:β→Prop):List β→Prop
  | []=>True
  | x::l=>p x∧AllL p l
theorem allL_iff {β:Type} {p:β→Prop}:∀{l:List β},AllL p l ↔ ∀x ∈ l,p x
  | []=>by simp [AllL]
  | x::l=>by simp [AllL,allL_iff (l:=l)]
theorem lay_mk {rl:List Nat} {os:List SObj} {args0 args:List SV} {σ:Heap} (h1:rl.length=os.length) (h2:rl.Nodup) (h3:args0.map (ren (rnm rl 0 []))=args)
    (h4:AllL (fun y=>σ.get (rnm rl 0 [] y.1)=some (renO (rnm rl 0 []) y.2)) (enumO 0 os)) (h5:AllL (Ids (fun i=>i < os.length)) args0) (h6:AllL (OIds (fun i=>i < os.length)) os):Lay rl os args0 args σ:=
  ⟨h1,h2,h3,allL_iff.1 h4,allL_iff.1 h5,allL_iff.1 h6⟩
def Told (σ1:Heap) (y:Nat × SObj):Prop:=match y.2 with
  | .dead=>True
  | o=>σ1.get y.1=some o
def KeptO (bl:List (Nat × SObj)) (σ1:Heap) (y:Nat × SObj):Prop:=inK y.1 bl=true∨σ1.get y.1=some y.2
def EndsK (x:R Ans) (v:SV) (bl:List (Nat × SObj)) (os:List SObj):Prop:=
  ∃v0 σ1,x=some (v0,σ1)∧v0=v∧AllL (Told σ1) bl∧AllL (KeptO bl σ1) (enumO 0 os)
theorem told_of {σ1:Heap} {y:Nat × SObj} (h:Told σ1 y) (o:SObj) (ho:y.2.live=some o):σ1.get y.1=some o:=by
  obtain ⟨i,ob⟩:=y
  cases ob with
  | cells g v=>simp only [SObj.live,Option.some.injEq] at ho; subst ho; exact h
  | map es=>simp only [SObj.live,Option.some.injEq] at ho; subst ho; exact h
  | dead=>cases ho
theorem ends_keep {x:R Ans} {v:SV} {rl:List Nat} {os:List SObj} {σ:Heap} {k:SV→Heap→R α} {r:α} {bl:List (Nat × SObj)} (h:EndsK x v bl os) (hv:Ids (fun i=>i < os.length) v) (hb:AllL (fun y=>y.1 < os.length∧OIds (fun i=>i < os.length) y.2) bl)
    (hk:k (ren (rnm rl σ.next []) v) ⟨σ.next,(bl.map fun x=>(rnm rl σ.next [] x.1,renO (rnm rl σ.next []) x.2))++ σ.blocks⟩=some r):
    Ends x fun v0 σ1=>∃nw bl,Pub rl os σ v0 σ1 nw bl∧k (ren (rnm rl σ.next nw) v0) ⟨σ.next+ nw.length,(bl.map fun x=>(rnm rl σ.next nw x.1,renO (rnm rl σ.next nw) x.2))++ σ.blocks⟩=some r:=by
  obtain ⟨v0,σ1,rfl,rfl,h1,h2⟩:=h
  refine ⟨_,_,rfl,[],bl,⟨by simp,by simp,hv.mono fun _ h=>.inl h,fun y hy=>?_,fun y hy=>told_of (allL_iff.1 h1 y hy),allL_iff.1 h2⟩,hk⟩
  obtain ⟨h3,h4⟩:=allL_iff.1 hb y hy
  exact ⟨.inl h3,h4.mono fun _ h=>.inl h⟩
def EndsN (x:R Ans) (v:SV) (nw:List Nat) (bl:List (Nat × SObj)) (os:List SObj):Prop:=
  ∃v0 σ1,x=some (v0,σ1)∧v0=v∧AllL (fun i=>os.length≤i∧i < σ1.next) nw∧AllL (Told σ1) bl∧AllL (KeptO bl σ1) (enumO 0 os)
theorem ends_new {x:R Ans} {v:SV} {rl nw:List Nat} {os:List SObj} {σ:Heap} {k:SV→Heap→R α} {r:α} {bl:List (Nat × SObj)} (h:EndsN x v nw bl os) (hn:nw.Nodup) (hv:Ids (fun i=>i < os.length∨i ∈ nw) v) (hb:AllL (fun y=>(y.1 < os.length∨y.1 ∈ nw)∧OIds (fun i=>i < os.length∨i ∈ nw) y.2) bl)
    (hk:k (ren (rnm rl σ.next nw) v) ⟨σ.next+ nw.length,(bl.map fun x=>(rnm rl σ.next nw x.1,renO (rnm rl σ.next nw) x.2))++ σ.blocks⟩=some r):
    Ends x fun v0 σ1=>∃nw bl,Pub rl os σ v0 σ1 nw bl∧k (ren (rnm rl σ.next nw) v0) ⟨σ.next+ nw.length,(bl.map fun x=>(rnm rl σ.next nw x.1,renO (rnm rl σ.next nw) x.2))++ σ.blocks⟩=some r:=by
  obtain ⟨v0,σ1,rfl,rfl,h0,h1,h2⟩:=h
  exact ⟨_,_,rfl,nw,bl,⟨hn,allL_iff.1 h0,hv,allL_iff.1 hb,fun y hy=>told_of (allL_iff.1 h1 y hy),allL_iff.1 h2⟩,hk⟩
abbrev memO (b1:Nat) (g0:Option Nat):SObj:=.cells g0 (.agg [.slc b1 [] 1 0 32768 (some 32768)])
abbrev byO (g1:Option Nat) (f:Nat→Int):SObj:=.cells g1 (.ints .u8 32768 f)
def withMem (σ:Heap) (p:SV) (k:Nat→Nat→Option Nat→Option Nat→(Nat→Int)→R α):R α:=
  match p with
  | .ptr b []=>match σ.get b with
    | some (.cells g0 (.agg [.slc b1 [] sz off len (some cap)]))=>bif (Nat.beq sz 1 && Nat.beq off 0) && (Nat.beq len 32768 && Nat.beq cap 32768) then match σ.get b1 with
      | some (.cells g1 (.ints .u8 m f))=>bif Nat.beq m 32768 && !Nat.beq b b1 then k b b1 g0 g1 f else none
      | _=>none else none
    | _=>none
  | _=>none
theorem withMem_spec {σ:Heap} {p:SV} {k:Nat→Nat→Option Nat→Option Nat→(Nat→Int)→R α} {r:α} (h:withMem σ p k=some r):
    ∃b b1 g0 g1 f,p=.ptr b []∧σ.get b=some (memO b1 g0)∧σ.get b1=some (byO g1 f)∧b ≠ b1∧k b b1 g0 g1 f=some r:=by
  unfold withMem at h
  split at h<;>try (simp at h; done)
  rename_i b
  split at h<;>try (simp at h; done)
  rename_i g0 b1 sz off len cap h0
  obtain ⟨h1,h2⟩:=bif_some h
  split at h2<;>try (simp at h2; done)
  rename_i g1 m f h3
  obtain ⟨h4,h5⟩:=bif_some h2
  simp only [Bool.and_eq_true,Nat.beq_eq,Bool.not_eq_true'] at h1 h4
  obtain ⟨⟨rfl,rfl⟩,rfl,rfl⟩:=h1
  obtain ⟨rfl,h4⟩:=h4
  exact ⟨b,b1,g0,g1,f,rfl,h0,h3,fun e=>by subst e; simp at h4,h5⟩
theorem nodup2 {a b:Nat} (h:a ≠ b):[a,b].Nodup:=by simp [h]
end
end Go.Sh
namespace Go.Sh
open Go Go.RowKit Go.WideShapes Go.ChangeShapes
mutual
def TD.Fit : (d:TD)→d.Val→Prop
  | .int k,n=>(Lit.int k n).wf=true
  | .bool,_=>True
  | .str,s=>s.size≤maxLen
  | .st l,vs=>tdFits l vs
  | .ints n k,f=>∀i,i < n→(Lit.int k (f i)).wf=true
  | .sl e,(nl,_,len,cap,f)=>(nl=true→len=0∧cap=0)∧len≤cap∧cap≤maxLen∧∀i,i < len→e.Fit (f i)
def tdFits : (l:List TD)→tdVals l→Prop
  | [],_=>True
  | d::l,(v,vs)=>d.Fit v∧tdFits l vs
end
def isIntT (P:Program) (t:TypeId) (k:IntKind):Bool:=match P.underlying t with | some (.int k')=>decide (k'=k) | _=>false
mutual
def tdB (P:Program):TypeId→TD→Bool
  | t,.int k=>isIntT P t k
  | t,.bool=>match P.underlying t with | some .bool=>true | _=>false
  | t,.str=>match P.underlying t with | some .string=>true | _=>false
  | t,.st l=>match P.underlying t with | some (.struct fs)=>Nat.beq (P.cellsOf t) (tdSizes l) && tdsB P fs.toList 0 l | _=>false
  | t,.ints n k=>match P.underlying t with | some (.array n' e)=>Nat.beq n' n && (Nat.beq (P.cellsOf t) n && (Nat.beq (P.cellsOf e) 1 && isIntT P e k)) | _=>false
  | t,.sl d=>match P.underlying t with | some (.slice e)=>Nat.beq (P.cellsOf e) d.size && (!Nat.beq d.size 0 && tdB P e d) | _=>false
def tdsB (P:Program):List Field→Nat→List TD→Bool
  | [],_,[]=>true
  | f::fs,o,d::l=>Nat.beq f.offset o && (Nat.beq (P.cellsOf f.type) d.size && (tdB P f.type d && tdsB P fs (o+ d.size) l))
  | _,_,_=>false
end
theorem isIntT_spec {P:Program} {t:TypeId} {k:IntKind} (h:isIntT P t k=true):P.underlying t=some (.int k):=by
  unfold isIntT at h
  split at h
  · rename_i k' h'
    rw [h',of_decide_eq_true h]
  · cases h
structure Opened (w:World) (td:TD) (cs:List Value) (x:td.Val):Prop where
  fit:td.Fit x
  cells:∀ρ,cells ρ (td.sv x)=cs
  wf:Wf (fun i=>w.heap[i]?) (fun _=>False) (td.sv x)
  size:(td.sv x).size=td.size
  ntup:(td.sv x).isTuple=false
section
variable {H:Type} {enc:TypeId × Value→H} {P:Program} {w:World}
mutual
theorem open_td : ∀{td:TD} {t:TypeId} {fuel:Nat} {cs:List Value} {x:DataW H × List MemPlace},tdB P t td=true→DataW.trod enc P w 0 (fun _=>true) true fuel t cs=some x→∃v,Opened w td cs v
  | .int k,t,fuel,cs,x,hb,h=>by
    simp only [tdB] at hb
    obtain ⟨n,rfl,_,hwf⟩:=DataW.trod_int (isIntT_spec hb) h
    exact ⟨n,by simpa only [TD.Fit] using hwf,fun ρ=>rfl,by simp [TD.sv,Wf],rfl,rfl⟩
  | .bool,t,fuel,cs,x,hb,h=>by
    simp only [tdB] at hb
    split at hb<;>try (simp at hb; done)
    rename_i hu
    obtain ⟨b,rfl,_⟩:=DataW.trod_bool hu h
    exact ⟨b,by simp [TD.Fit],fun ρ=>rfl,by simp [TD.sv,Wf],rfl,rfl⟩
  | .str,t,fuel,cs,x,hb,h=>by
    simp only [tdB] at hb
    split at hb<;>try (simp at hb; done)
    rename_i hu
    obtain ⟨s,rfl,_,hs⟩:=DataW.trod_string hu h
    exact ⟨s,by simpa only [TD.Fit] using hs,fun ρ=>rfl,by simp [TD.sv,Wf],rfl,rfl⟩
  | .st l,t,fuel,cs,x,hb,h=>by
    simp only [tdB] at hb
    split at hb<;>try (simp at hb; done)
    rename_i fs hu
    simp only [Bool.and_eq_true] at hb
    obtain ⟨hb1,hb2⟩:=hb
    obtain ⟨xs,n,_,_,hlen,hxl,hall⟩:=DataW.trod_struct hu h
    have hsz:=Nat.eq_of_beq_eq_true hb1
    obtain ⟨vs,h1,h2,h3,h4⟩:=opens_td (n:=n) (cs:=cs) hb2 (by omega) (fun f hf=>by
      obtain ⟨i,hi⟩:=List.getElem?_of_mem hf
      have h5:=hall i f (by simpa using hi)
      have hlt:i < fs.size:=by have:=(List.getElem?_eq_some_iff.1 hi).1; simpa using this
      rw [List.getElem?_eq_getElem (by omega)] at h5
      exact ⟨_,h5⟩)
    refine ⟨vs,by simp only [TD.Fit]; exact h1,fun ρ=>by simp only [TD.sv,Sh.cells]; rw [h2 ρ]; simp,by simp only [TD.sv,Wf]; exact h3,by simp only [TD.sv,SV.size,TD.size]; exact h4,rfl⟩
  | .ints n k,t,fuel,cs,x,hb,h=>by
    simp only [tdB] at hb
    split at hb<;>try (simp at hb; done)
    rename_i n' e hu
    simp only [Bool.and_eq_true] at hb
    obtain ⟨hb1,hb2,hb3,hb4⟩:=hb
    have e1:=Nat.eq_of_beq_eq_true hb1
    subst e1
    obtain ⟨xs,m,_,_,hlen,hxl,hall⟩:=DataW.trod_array hu h
    rw [Nat.eq_of_beq_eq_true hb2] at hlen
    rw [Nat.eq_of_beq_eq_true hb3] at hall
    have hel:∀i,i < n'→∃z,cs[i]?=some (.int k z)∧(Lit.int k z).wf=true:=fun i hi=>by
      have h1:=hall i hi
      have hlt:i < xs.length:=by omega
      rw [List.getElem?_eq_getElem hlt] at h1
      obtain ⟨z,h2,_,h3⟩:=DataW.trod_int (isIntT_spec hb4) h1
      refine ⟨z,?_,h3⟩
      rw [Nat.mul_one] at h2
      have h4:(List.take 1 (List.drop i cs))[0]?=some (.int k z):=by rw [h2]; rfl
      simpa using h4
    let f:Nat→Int:=fun i=>match cs[i]? with | some (.int _ z)=>z | _=>0
    have hf:∀i,i < n'→cs[i]?=some (.int k (f i))∧(Lit.int k (f i)).wf=true:=fun i hi=>by
      obtain ⟨z,h1,h2⟩:=hel i hi
      have:f i=z:=by simp only [f,h1]
      rw [this]; exact ⟨h1,h2⟩
    refine ⟨f,by simp only [TD.Fit]; exact fun i hi=>(hf i hi).2,fun ρ=>?_,by simp [TD.sv,Wf],rfl,rfl⟩
    simp only [TD.sv,Sh.cells]
    apply List.ext_getElem?
    intro i
    by_cases hi:i < n'
    · rw [(hf i hi).1]; simp [hi]
    · rw [List.getElem?_eq_none (by simp; omega),List.getElem?_eq_none (by omega)]
  | .sl d, t, fuel,cs,x,hb,h=>by
    simp only [tdB] at hb
    split at hb<;>try (simp at hb; done)
    rename_i e hu
    simp only [Bool.and_eq_true] at hb
    obtain ⟨hb1,hb2,hb3⟩:=hb
    have hsz:=Nat.eq_of_beq_eq_true hb1
    have hd0:d.size ≠ 0:=fun e0=>by rw [e0] at hb2; simp at hb2
    rcases Go.Deep.open_slice hu h with ⟨rfl,_⟩ | ⟨a,len,cap,m,n,D,Pl,rfl,_,hl,hm,hmm,_,hall⟩
    · exact ⟨(true,⟨0,0,none⟩,0,0,fun _=>d.dflt),by simp [TD.Fit],fun ρ=>rfl,by simp [TD.sv,Wf,VW],rfl,rfl⟩
    · simp only [if_true] at hmm
      subst hmm
      rw [hsz] at hall
      have hel:∀i,i < m→∃cs' v,w.cells? 0 (a.add (i * d.size)) d.size=some cs'∧Opened w d cs' v:=fun i hi=>by
        obtain ⟨cs',h1,h2⟩:=hall i hi
        obtain ⟨sv,h3⟩:=open_td hb3 h2
        exact ⟨cs',sv,h1,h3⟩
      have cellAt:∀i j,i < m→j < d.size→∃v,w.cell? ((a.add (i * d.size)).add j)=some v:=fun i j hi hj=>by
        obtain ⟨cs',sv,h1,h2⟩:=hel i hi
        obtain ⟨_,h3,h4⟩:=World.cells?_some h1
        exact ⟨cs'[j],by rw [h4 j hj]; simp⟩
      have hspot:0 < m→a.spot=none:=fun h0=>by
        obtain ⟨v,hv⟩:=cellAt 0 0 h0 (by omega)
        simp only [Nat.zero_mul] at hv
        unfold World.cell? at hv
        split at hv
        · rename_i c T fz hc
          cases hs:a.spot with
          | none=>rfl
          | some s=>
            have:((a.add 0).add 0).spot=some s:=by
              have:∀b:Addr,b.spot=some s→(b.add 0).spot=some s:=fun b hb=>by unfold Addr.add; split<;>simp_all
              exact this _ (this _ hs)
            rw [this] at hv
            simp at hv
        · cases hv
      have hblk:0 < m→∃c T fz,w.heap[a.block]?=some (.cells c T fz):=fun h0=>by
        obtain ⟨v,hv⟩:=cellAt 0 0 h0 (by omega)
        rw [addr_add (hspot h0),addr_add rfl] at hv
        unfold World.cell? at hv
        split at hv
        · rename_i c T fz hc
          exact ⟨c,T,fz,hc⟩
        · cases hv
      let F:Nat→d.Val:=fun i=>if hi:i < m then Classical.choose (Classical.choose_spec (hel i hi)) else d.dflt
      have hF:∀i (hi:i < m),∃cs',w.cells? 0 (a.add (i * d.size)) d.size=some cs'∧Opened w d cs' (F i):=fun i hi=>by
        have:=Classical.choose_spec (Classical.choose_spec (hel i hi))
        refine ⟨_,this.1,?_⟩
        simp only [F,hi,dif_pos]
        exact this.2
      refine ⟨(false,a,len,m,F),?_,fun ρ=>rfl,?_,rfl,rfl⟩
      · simp only [TD.Fit]
        exact ⟨by simp,hl,hm,fun i hi=>by obtain ⟨cs',_,h2⟩:=hF i (by omega); exact h2.fit⟩
      · simp only [TD.sv,Wf]
        simp only [VW]
        refine ⟨by simp,hl,hspot,fun i hi=>?_⟩
        have him:i < m:=by omega
        obtain ⟨cs',h1,h2⟩:=hF i him
        obtain ⟨c,T,fz,hc⟩:=hblk (by omega)
        refine ⟨⟨rfl,c,T,fz,hc,fun ρ j hj=>?_⟩,(wf_sv d _).1 h2.wf⟩
        obtain ⟨_,h3,h4⟩:=World.cells?_some h1
        rw [h2.size] at hj
        have h5:=h4 j hj
        rw [addr_add (hspot (by omega)),addr_add rfl] at h5
        simp only [World.cell?,hc,Option.isSome_none,Bool.false_eq_true,if_false] at h5
        rw [h2.cells ρ]
        exact h5
theorem opens_td : ∀{l:List TD} {fs:List Field} {o n:Nat} {cs:List Value},tdsB P fs o l=true→cs.length=o+ tdSizes l→
    (∀f ∈ fs,∃x,DataW.trod enc P w 0 (fun _=>true) true n f.type ((cs.drop f.offset).take (P.cellsOf f.type))=some x)→
    ∃vs,tdFits l vs∧(∀ρ,cellss ρ (tdSvs l vs)=cs.drop o)∧Wfs (fun i=>w.heap[i]?) (fun _=>False) (tdSvs l vs)∧sizes (tdSvs l vs)=tdSizes l
  | [],fs,o,n,cs,hb,hl,_=>by
    cases fs with
    | nil=>
      simp only [tdSizes,Nat.add_zero] at hl
      exact ⟨(),by simp [tdFits],fun ρ=>by simp [tdSvs,cellss,List.drop_eq_nil_of_le (Nat.le_of_eq hl)],by simp [tdSvs,Wfs],rfl⟩
    | cons f fs=>simp [tdsB] at hb
  | d ::l,fs,o,n,cs,hb,hl,hall=>by
    cases fs with
    | nil=>simp [tdsB] at hb
    | cons f fs=>
      simp only [tdsB,Bool.and_eq_true] at hb
      obtain ⟨hb1,hb2,hb3,hb4⟩:=hb
      have e1:=Nat.eq_of_beq_eq_true hb1
      have e2:=Nat.eq_of_beq_eq_true hb2
      simp only [tdSizes] at hl
      obtain ⟨x,hx⟩:=hall f (by simp)
      rw [e1,e2] at hx
      obtain ⟨sv,h1⟩:=open_td hb3 hx
      obtain ⟨vs,h2,h3,h4,h5⟩:=opens_td (n:=n) (cs:=cs) hb4 (by omega) (fun g hg=>hall g (List.mem_cons_of_mem _ hg))
      refine ⟨(sv,vs),by simp only [tdFits]; exact ⟨h1.fit,h2⟩,fun ρ=>?_,by simp only [tdSvs,Wfs]; exact ⟨h1.wf,h4⟩,by simp only [tdSvs,sizes,tdSizes,h1.size,h5]⟩
      simp only [tdSvs,cellss,h1.cells ρ,h3 ρ]
      have:cs.drop (o+ d.size)=(cs.drop o).drop d.size:=by rw [List.drop_drop]
      rw [this,List.take_append_drop]
end
def tdAll (P:Program):List TypeId→List TD→Bool
  | [],[]=>true
  | t::ts,d::ds=>tdB P t d && tdAll P ts ds
  | _,_=>false
theorem val_of_open {td:TD} {t:TypeId} {v:Value} {x:td.Val} {base:Nat} (hb:tdB P t td=true) (hv:Value.okWide P w .any base t v) (h:Opened w td v.cells.toList x):v=val noPl (td.sv x):=by
  have hc:=h.cells noPl
  have sc:∀u:Value,v=u→u.cells=#[u]→(td.sv x).isAgg=false→v=val noPl (td.sv x):=fun u hu hcu ha=>by
    have h1:=val_scalar noPl h.ntup ha
    rw [hu,hcu] at hc
    rw [h1] at hc
    simp only [List.cons.injEq,and_true] at hc
    rw [hu]; exact hc.symm
  cases td with
  | int k=>
    simp only [tdB] at hb
    obtain ⟨n,rfl⟩:=okWide_int (isIntT_spec hb) hv
    exact sc _ rfl rfl rfl
  | bool=>
    simp only [tdB] at hb
    split at hb<;>try (simp at hb; done)
    rename_i hu
    obtain ⟨b,rfl⟩:=okWide_bool hu hv
    exact sc _ rfl rfl rfl
  | str=>
    simp only [tdB] at hb
    split at hb<;>try (simp at hb; done)
    rename_i hu
    obtain ⟨b,rfl⟩:=okWide_string hu hv
    exact sc _ rfl rfl rfl
  | sl d=>
    simp only [tdB] at hb
    split at hb<;>try (simp at hb; done)
    rename_i e hu
    obtain ⟨a,l,c,rfl⟩:=okWide_slice hu hv
    exact sc _ rfl rfl rfl
  | st l=>
    simp only [tdB] at hb
    split at hb<;>try (simp at hb; done)
    rename_i fs hu
    have ha:(TD.sv _ x).isAgg=true:=rfl
    have:∃cs,v=.agg cs:=by
      unfold Value.okWide at hv
      rw [hu] at hv
      obtain ⟨cs,h1,_⟩:=hv
      exact ⟨cs,h1⟩
    obtain ⟨cs,rfl⟩:=this
    rw [val_agg noPl ha,hc]
    rfl
  | ints n k=>
    simp only [tdB] at hb
    split at hb<;>try (simp at hb; done)
    rename_i n' e hu
    have ha:(TD.sv _ x).isAgg=true:=rfl
    have:∃cs,v=.agg cs:=by
      unfold Value.okWide at hv
      rw [hu] at hv
      obtain ⟨cs,h1,_⟩:=hv
      exact ⟨cs,h1⟩
    obtain ⟨cs,rfl⟩:=this
    rw [val_agg noPl ha,hc]
    rfl
theorem open_args {base:Nat}:∀{tds:List TD} {ts:List TypeId} {vs:List Value} {ds:List (DataW H)} {ps:List MemPlace},tdAll P ts tds=true→DataW.TrodAll enc P w 0 (fun _=>true) true ts vs ds ps→
    (∀(j:Nat) t v,ts[j]?=some t→vs[j]?=some v→Value.okWide P w .any base t v)→∃xs,tdFits tds xs∧vs=(tdSvs tds xs).map (val noPl)∧∀x ∈ tdSvs tds xs,Wf (fun i=>w.heap[i]?) (fun _=>False) x
  | [],ts,vs,ds,ps,hb,h,_=>by
    cases ts with
    | nil=>
      obtain ⟨rfl,_,_⟩:=trodAll_nil h
      exact ⟨(),by simp [tdFits],rfl,by simp [tdSvs]⟩
    | cons t ts=>simp [tdAll] at hb
  | td :: tds,ts,vs,ds,ps,hb,h,hv=>by
    cases ts with
    | nil=>simp [tdAll] at hb
    | cons t ts=>
      simp only [tdAll,Bool.and_eq_true] at hb
      cases vs with
      | nil=>cases ds<;>simp [DataW.TrodAll] at h
      | cons v vs=>
        cases ds with
        | nil=>simp [DataW.TrodAll] at h
        | cons d ds=>
          obtain ⟨p,q,⟨fuel,h1⟩,h2,_⟩:=h
          obtain ⟨sv,h3⟩:=open_td hb.1 h1
          obtain ⟨svs,h4,h5,h6⟩:=open_args hb.2 h2 (fun j t' v' hj hj'=>hv (j+ 1) t' v' (by simpa using hj) (by simpa using hj'))
          have h7:=val_of_open hb.1 (hv 0 t v rfl rfl) h3
          refine ⟨(sv,svs),by simp only [tdFits]; exact ⟨h3.fit,h4⟩,by rw [h5,h7]; rfl,fun x hx=>?_⟩
          simp only [tdSvs] at hx
          rcases List.mem_cons.1 hx with rfl | hx
          · exact h3.wf
          · exact h6 x hx
theorem trodAll_carry {w':World} {sp:Nat→Bool}:∀{ts:List TypeId} {vs:List Value} {ds:List (DataW H)} {ps:List MemPlace},DataW.TrodAll enc P w 0 sp true ts vs ds ps→(∀p ∈ ps,w.sameAt w' p)→DataW.TrodAll enc P w' 0 sp true ts vs ds ps
  | [],[],[],_,h,_=>h
  | _::_,_::_,_::_,_,⟨p,q,⟨n,h1⟩,h2,e⟩,hs=>⟨p,q,⟨n,DataW.trod_carry n _ _ _ h1 fun x hx=>hs x (by rw [e]; exact List.mem_append_left _ hx)⟩,trodAll_carry h2 (fun x hx=>hs x (by rw [e]; exact List.mem_append_right _ hx)),e⟩
  | [],[],_::_,_,h,_=>by simp [DataW.TrodAll] at h
  | [],_::_,_,_,h,_=>by cases ‹List (DataW H)›<;>simp [DataW.TrodAll] at h
  | _::_,[],_,_,h,_=>by cases ‹List (DataW H)›<;>simp [DataW.TrodAll] at h
  | _::_,_::_,[],_,h,_=>by simp [DataW.TrodAll] at h
theorem law_end {f:Func} {s:ChangeSpec} {apart:Bool} {W W':World} {args:Array Value} {ds:List (DataW H)} {before:List MemPlace} {tb:TypeId}
    (hvars:s.vars=[]) (hW:DataW.Whole enc P f.params.toList s.vars apart W args.toList ds [] before) (hA:DataW.TrodAll enc P W 0 (fun _=>true) true f.params.toList args.toList ds before)
    (hres:(s.fn H ds).results=[.lit (.bool true)]) (hargs:(s.fn H ds).args=ds) (hsv:(s.fn H ds).vars=[]) (hr:f.resultTypes=#[tb]) (htb:P.underlying tb=some .bool)
    (hl:laidOutB P=true) (hm:mapsRowed P=true) (hz:((List.range P.types.size).all fun t=>match P.underlying t with | some (.slice e)=>decide (0 < P.cellsOf e) | _=>true)=true) (ht:(f.params.toList.all fun t=>decide (t < P.types.size))=true)
    (hb:Below W.heap.size W W'):s.post enc P f apart true false false W args (.bool true) W':=by
  refine post_below (pa:=before) (pv:=[]) (ds:=ds) (gs:=[]) hW ?_ ?_ ?_ (by simp) hb ?_
  · intro b sp hd
    rw [List.append_nil,hr,hres]
    exact trodAll_cons_mk (shut_bool htb _) trodAll_mk0
  · intro sp hsp
    rw [List.append_nil,hargs]
    have h1:=DataW.TrodAll.respare (spare':=sp) (kids_rows hl hm) (slices_full_of P hz) (fun t h=>of_decide_eq_true (List.all_eq_true.1 ht t h)) hA hsp
    exact trodAll_carry h1 fun p hp=>hb.same (hW.lt p hp)
  · intro sp hsp
    rw [List.append_nil,hsv,hvars]
    rfl
  · intro j t r h1 h2
    rw [hr] at h1 h2
    exact ok_one (f:={ f with resultTypes:=#[tb] }) (by rfl) rfl (okWide_bool_mk htb _) j t r h1 h2
end
end Go.Sh
namespace Go.Sh
open Go
abbrev Out :=SX × Env × Heap
def outK : KC Out:=fun x env σ=>some (x,env,σ)
section
variable {α:Type} {P:Program} {I:Imm}
def Gives (x:R Out) (Q:SX→Env→Heap→Prop):Prop:=∃sx env σ,x=some (sx,env,σ)∧Q sx env σ
theorem Gives.mono {x:R Out} {Q Q':SX→Env→Heap→Prop} (h:Gives x Q) (hq:∀sx env σ,Q sx env σ→Q' sx env σ):Gives x Q':=by
  obtain ⟨sx,env,σ,h1,h2⟩:=h
  exact ⟨sx,env,σ,h1,hq _ _ _ h2⟩
inductive Loops (B:Env→Heap→KC Out→R Out):Env→Heap→SX→Env→Heap→Prop where
  | last {env env':Env} {σ σ':Heap} {x:SX}:B env σ outK=some (x,env',σ')→x ≠ .norm→Loops B env σ x env' σ'
  | round {env env1 env':Env} {σ σ1 σ':Heap} {x:SX}:B env σ outK=some (.norm,env1,σ1)→Loops B env1 σ1 x env' σ'→Loops B env σ x env' σ'
theorem code_of_out {N:Nat} {c:Code} {B:Env→Heap→KC Out→R Out} (hB:SoundC P I N c B) {env env':Env} {σ σ':Heap} {x:SX} (h:B env σ outK=some (x,env',σ')):Grow σ σ'∧CodeTo P I N c env σ x env' σ':=by
  obtain ⟨x1,env1,σ1,h1,h2,h3⟩:=hB _ _ _ _ h
  simp only [outK,Option.some.injEq,Prod.mk.injEq] at h1
  obtain ⟨rfl,rfl,rfl⟩:=h1
  exact ⟨h2,h3⟩
theorem Loops.rounds {N:Nat} {c:Code} {B:Env→Heap→KC Out→R Out} (hB:SoundC P I N c B) {env env':Env} {σ σ':Heap} {x:SX} (h:Loops B env σ x env' σ'):Grow σ σ'∧RoundsTo P I N c env σ x env' σ':=by
  induction h with
  | last h hx=>
    obtain ⟨h1,h2⟩:=code_of_out hB h
    exact ⟨h1,.last h2 hx⟩
  | round h _ ih=>
    obtain ⟨h1,h2⟩:=code_of_out hB h
    exact ⟨h1.trans ih.1,ih.2.round h2 h1.le ih.1.le⟩
structure Less (env':Env) (σ σ':Heap) (env1:Env) (σ1:Heap):Prop where
  env:∀t v,getE env' t=some v→getE env1 t=some v
  next:σ'.next=σ1.next
  heap:∀b o,σ'.get b=some o→σ1.get b=some o
  grow:Grow σ σ'
theorem CodeTo.less {N:Nat} {c:Code} {env env1 env':Env} {σ σ1 σ':Heap} {x:SX} (h:CodeTo P I N c env σ x env1 σ1) (hl:Less env' σ σ' env1 σ1):CodeTo P I N c env σ x env' σ':=by
  intro ρ D a w hs hfr Q hq
  refine h ρ D a w hs (by rw [← hl.next]; exact hfr) Q fun ρ' a' w' hs' hx=>hq ρ' a' w' ⟨by rw [hl.next]; exact hs'.env.less hl.env,by rw [hl.next]; exact hs'.heap.less hl.heap⟩ ?_
  unfold ExtS at hx ⊢
  rw [hl.next]
  exact ⟨hx.le,hx.agree,hx.os,hx.tape,hx.output,hx.size,hx.frame,fun b o hb=>hx.img b o (hl.heap b o hb)⟩
end
end Go.Sh
namespace Go.Sh
open Go
section
variable {α:Type} {P:Program} {I:Imm}
def decI (kd:IntKind) (v:SV) (k:Int→R α):R α:=match v with
  | .int kd' x=>bif decide (kd'=kd) then k x else none
  | _=>none
theorem decI_spec {kd:IntKind} {v:SV} {k:Int→R α} {r:α} (h:decI kd v k=some r):∃x,v=.int kd x∧k x=some r:=by
  unfold decI at h
  split at h<;>try (cases h; done)
  rename_i kd' x
  obtain ⟨h1,h2⟩:=bif_some h
  exact ⟨x,by rw [of_decide_eq_true h1],h2⟩
def decB (v:SV) (k:Bool→R α):R α:=match v with
  | .bool x=>k x
  | _=>none
theorem decB_spec {v:SV} {k:Bool→R α} {r:α} (h:decB v k=some r):∃x,v=.bool x∧k x=some r:=by
  unfold decB at h
  split at h<;>try (cases h; done)
  exact ⟨_,rfl,h⟩
def decA (kd:IntKind) (n:Nat) (v:SV) (k:(Nat→Int)→R α):R α:=match v with
  | .ints kd' m f=>bif decide (kd'=kd) && Nat.beq m n then k f else none
  | _=>none
theorem decA_spec {kd:IntKind} {n:Nat} {v:SV} {k:(Nat→Int)→R α} {r:α} (h:decA kd n v k=some r):∃f,v=.ints kd n f∧k f=some r:=by
  unfold decA at h
  split at h<;>try (cases h; done)
  rename_i kd' m f
  obtain ⟨h1,h2⟩:=bif_some h
  simp only [Bool.and_eq_true,decide_eq_true_eq,Nat.beq_eq] at h1
  obtain ⟨rfl,rfl⟩:=h1
  exact ⟨f,rfl,h2⟩
theorem orc_pureK {te : TE} (hpr : Prg P te) {O : ORC α} (hO : OOk P I O) {L : LO α} (n : Fuel) {f : FuncId} {fn : Func} (hf : P.funcs[f]? = some fn) (h1 : (fn.name == "runtime.NumGoroutine") = false) (h2 : fn.body.isNone = false) (hok : fnOk fn = true) (hL : FLOk P I L fn)
    {F:FP α} (hF:∀args k r,F args k=some r→(∀x ∈ args,Ids (fun _=>False) x)∧∃D:SV→R α,bodyL te O L n fn args emp (fun v _=>D v)=some r∧∀v,D v=some r→k v=some r∧Ids (fun _=>False) v):OrcOk P I f (.pure F):=by
  refine ⟨enters_of hf h1 h2,fun args k r hk=>?_⟩
  obtain ⟨h5,D,h6,h7⟩:=hF args k r hk
  obtain ⟨v,σ',h8,hg,h9⟩:=body_calls hpr hO hf hok hL h6
  obtain ⟨h10,h11⟩:=h7 v h8
  exact ⟨v,h10,pure_of_calls h9 h11 h5⟩
theorem orc_le {f:FuncId} {F F':FP α} (h:OrcOk P I f (.pure F)) (hle:∀args k r,F' args k=some r→F args k=some r):OrcOk P I f (.pure F'):=
  ⟨h.1,fun args k r hk=>h.2 args k r (hle args k r hk)⟩
theorem orc_leF {f:FuncId} {F F':FF α} (h:OrcOk P I f (.full F)) (hle:∀args σ k r,F' args σ k=some r→F args σ k=some r):OrcOk P I f (.full F'):=
  ⟨h.1,fun args σ k r hk=>h.2 args σ k r (hle args σ k r hk)⟩
theorem orc_canonK {te : TE} (hpr : Prg P te) {O : ORC α} (hO : OOk P I O) {L : LO α} (n : Fuel) {f : FuncId} {fn : Func} (hf : P.funcs[f]? = some fn) (h1 : (fn.name == "runtime.NumGoroutine") = false) (h2 : fn.body.isNone = false) (hok : fnOk fn = true) (hL : FLOk P I L fn)
    {F:FF α} (hF:∀args σ k r,F args σ k=some r→∃rl os args0,Lay rl os args0 args σ∧∃D:SV→Heap→R α,bodyL te O L n fn args0 (hp os) D=some r∧
      ∀v0 σ1,Grow (hp os) σ1→D v0 σ1=some r→∃nw bl,Pub rl os σ v0 σ1 nw bl∧k (ren (rnm rl σ.next nw) v0) ⟨σ.next+ nw.length,(bl.map fun x=>(rnm rl σ.next nw x.1,renO (rnm rl σ.next nw) x.2))++ σ.blocks⟩=some r):OrcOk P I f (.full F):=by
  refine ⟨enters_of hf h1 h2,fun args σ k r hk=>?_⟩
  obtain ⟨rl,os,args0,h3,D,h4,h5⟩:=hF args σ k r hk
  obtain ⟨v0,σ1,h6,hg,h8⟩:=body_calls hpr hO hf hok hL h4
  obtain ⟨nw,bl,h9,h10⟩:=h5 v0 σ1 hg h6
  obtain ⟨h11,h12⟩:=canon_calls h8 hg h3 h9
  exact ⟨_,_,h10,h12,h11⟩
theorem withMem_eq {σ:Heap} {b b1:Nat} {g0 g1:Option Nat} {f:Nat→Int} (h0:σ.get b=some (memO b1 g0)) (h1:σ.get b1=some (byO g1 f)) (hne:b ≠ b1) (k:Nat→Nat→Option Nat→Option Nat→(Nat→Int)→R α):withMem σ (.ptr b []) k=k b b1 g0 g1 f:=by
  have e:Nat.beq b b1=false:=beq_ne hne
  simp only [withMem,h0,h1,Nat.beq_refl,Bool.and_self,cond_true,e,Bool.not_false]
def kept (m:Nat) (σ1:Heap):Bool:=allB (fun x=>Nat.ble m x.1) (σ1.blocks.take (σ1.blocks.length - m))
def keptX (m i:Nat) (σ1:Heap):Bool:=allB (fun x=>cond (Nat.ble m x.1) true (Nat.beq x.1 i)) (σ1.blocks.take (σ1.blocks.length - m))
theorem allB_iff {β:Type} {p:β→Bool}:∀{l:List β},allB p l=true ↔ ∀x ∈ l,p x=true
  | []=>by simp [allB]
  | x::l=>by cases h:p x<;>simp [allB,h,allB_iff (l:=l)]
theorem enumO_length : ∀(l:List SObj) (n:Nat),(enumO n l).length=l.length
  | [],_=>rfl
  | x::l,n=>by simp [enumO,enumO_length l]
theorem grow_take {os:List SObj} {σ1:Heap} (hg:Grow (hp os) σ1):σ1.blocks=σ1.blocks.take (σ1.blocks.length - os.length)++ enumO 0 os:=by
  obtain ⟨l,h,_⟩:=hg.pre
  rw [h]
  simp [hp,enumO_length]
theorem enumO_lt : ∀{l:List SObj} {n:Nat} {y:Nat × SObj},y ∈ enumO n l→n≤y.1∧y.1 < n+ l.length
  | [],n,y,h=>by simp [enumO] at h
  | x ::l,n,y,h=>by
    simp only [enumO,List.mem_cons] at h
    rcases h with rfl | h
    · simp
    · have:=enumO_lt h
      simp only [List.length_cons]; omega
theorem enumO_self : ∀{l:List SObj} {n:Nat} {y:Nat × SObj},y ∈ enumO n l→(∀o ∈ l,o.live=some o)→getL (enumO n l) y.1=some y.2
  | [],n,y,h,_=>by simp [enumO] at h
  | x ::l,n,y,h,hl=>by
    simp only [enumO,List.mem_cons] at h
    rcases h with rfl | h
    · simp [enumO,getL,hl x (by simp)]
    · have h1:=enumO_lt h
      have e:Nat.beq n y.1=false:=beq_ne (by omega)
      simp only [enumO,getL,e,cond_false]
      exact enumO_self h fun o ho=>hl o (List.mem_cons_of_mem _ ho)
theorem keptX_get {os:List SObj} {i:Nat} {σ1:Heap} (hg:Grow (hp os) σ1) (hl:∀o ∈ os,o.live=some o) (h:keptX os.length i σ1=true):∀y ∈ enumO 0 os,y.1 ≠ i→σ1.get y.1=some y.2:=by
  intro y hy hne
  have h1:=enumO_lt hy
  unfold Heap.get
  rw [grow_take hg,getL_none_of]
  · exact enumO_self hy hl
  · intro x hx e
    have h2:=allB_iff.1 h x hx
    cases hb:Nat.ble os.length x.1<;>rw [hb] at h2
    · simp only [cond_false] at h2
      exact hne (by rw [← e]; exact Nat.eq_of_beq_eq_true h2)
    · have:=Nat.le_of_ble_eq_true hb
      omega
def nowAt (σ1:Heap) (i:Nat) (k:Option Nat→(Nat→Int)→R α):R α:=match σ1.get i with
  | some (.cells g (.ints .u8 m f))=>bif Nat.beq m 32768 then k g f else none
  | _=>none
theorem nowAt_spec {σ1:Heap} {i:Nat} {k:Option Nat→(Nat→Int)→R α} {r:α} (h:nowAt σ1 i k=some r):∃g f,σ1.get i=some (byO g f)∧k g f=some r:=by
  unfold nowAt at h
  split at h<;>try (cases h; done)
  rename_i g m f h0
  obtain ⟨h1,h2⟩:=bif_some h
  simp only [Nat.beq_eq] at h1
  subst h1
  exact ⟨g,f,h0,h2⟩
theorem pub_write {rl:List Nat} {os:List SObj} {σ σ1:Heap} {v0:SV} {i:Nat} {g:Option Nat} {f:Nat→Int} (hg:Grow (hp os) σ1) (hl:∀o ∈ os,o.live=some o) (h:keptX os.length i σ1=true) (hi:i < os.length) (hn:σ1.get i=some (byO g f)) (hv:Ids (fun _=>False) v0):Pub rl os σ v0 σ1 [] [(i,byO g f)]:=by
  refine ⟨by simp,by simp,hv.mono fun _ h=>h.elim,?_,?_,fun y hy=>?_⟩
  · simp [hi,OIds,Ids]
  · intro x hx o ho
    simp only [List.mem_singleton] at hx
    subst hx
    simp only [SObj.live,Option.some.injEq] at ho
    subst ho
    exact hn
  · by_cases e:y.1=i
    · left; simp [inK,e]
    · right; exact keptX_get hg hl h y hy e
end
end Go.Sh
namespace Go.Sh
open Go
section
variable {α:Type} {P:Program} {I:Imm}
def nmL (rl:List Nat) (i:Nat):Nat:=match getN rl i with
  | some b=>b
  | none=>0
structure Lays (rl:List Nat) (E:Env) (os:List SObj) (env:Env) (σ:Heap):Prop where
  len:rl.length=os.length
  nodup:rl.Nodup
  env:∀t v,getE E t=some v→Ids (· < os.length) v∧getE env t=some (ren (nmL rl) v)
  obj:∀y ∈ enumO 0 os,σ.get (nmL rl y.1)=some (renO (nmL rl) y.2)
  oids:∀o ∈ os,OIds (· < os.length) o
  lt:∀i ∈ rl,i < σ.next
mutual
theorem Ids.ren {p:Nat→Prop} (r:Nat→Nat):∀{v:SV},Ids (fun i=>p (r i)) v→Ids p (ren r v)
  | .bool _,_ | .int ..,_ | .str _,_ | .nilp,_ | .nils,_ | .nilfn,_ | .nilmap,_ | .nilifc,_ | .ints ..,_ | .bools ..,_ | .vptr ..,_ | .vslc ..,_=>by simp [Sh.ren,Ids]
  | .ptr ..,g=>by simp only [Sh.ren,Ids] at *; exact g
  | .oslc ..,g=>by simp only [Ids,Sh.ren] at *; exact g
  | .slc ..,g=>by simp only [Sh.ren,Ids] at *; exact g
  | .map _,g=>by simp only [Sh.ren,Ids] at *; exact g
  | .fn _ a c,g=>by simp only [Sh.ren,Ids] at *; exact ⟨Idss.ren r g.1,Idss.ren r g.2⟩
  | .arr _ _ f,g=>by simp only [Sh.ren,Ids] at *; exact fun i=>Ids.ren r (g i)
  | .agg l,g=>by simp only [Sh.ren,Ids] at *; exact Idss.ren r g
  | .tuple l,g=>by simp only [Sh.ren,Ids] at *; exact Idss.ren r g
theorem Idss.ren {p:Nat→Prop} (r:Nat→Nat):∀{l:List SV},Idss (fun i=>p (r i)) l→Idss p (rens r l)
  | [],_=>by simp [rens,Idss]
  | v::l,g=>by simp only [rens,Idss] at *; exact ⟨Ids.ren r g.1,Idss.ren r g.2⟩
end
theorem OIds.ren {p:Nat→Prop} (r:Nat→Nat) {o:SObj} (g:OIds (fun i=>p (r i)) o):OIds p (renO r o):=by
  cases o with
  | cells g' v=>exact Ids.ren r g
  | map es=>
    intro e he
    simp only [List.mem_map] at he
    obtain ⟨x,hx,rfl⟩:=he
    exact ⟨Ids.ren r (g x hx).1,Ids.ren r (g x hx).2⟩
  | dead=>trivial
def lps {S X:Type} (stp:S→Option (S ⊕ X)):Nat→S→Option X
  | 0,_=>none
  | n+ 1,s=>match stp s with
    | some (.inl s')=>lps stp n s'
    | some (.inr x)=>some x
    | none=>none
structure Rnd (P:Program) (I:Imm) (N:Nat) (c:Code) (E:Env) (os:List SObj) (x:SX) (E1:Env) (os1:List SObj):Prop where
  ex:∃env1 σ1 rl1,CodeTo P I N c E (hp os) x env1 σ1∧Lays rl1 E1 os1 env1 σ1∧∀y ∈ enumO 0 os,y.1 ∈ rl1∨σ1.get y.1=some y.2
structure SameN (P:Program) (I:Imm) (N:Nat) (c:Code) (E:Env) (os:List SObj) (x:SX) (E1:Env) (os1:List SObj):Prop where
  len:os1.length=os.length
  ex:∃env1 σ1,CodeTo P I N c E (hp os) x env1 σ1∧(∀t v,getE E1 t=some v→Ids (· < os.length) v∧getE env1 t=some v)∧(∀y ∈ enumO 0 os1,σ1.get y.1=some y.2)∧(∀o ∈ os1,OIds (· < os.length) o)
end
end Go.Sh
namespace Go.Sh
open Go
section
variable {α:Type} {P:Program} {I:Imm}
end
end Go.Sh
namespace Go.Sh
open Go
section
variable {α:Type}
end
end Go.Sh
namespace Go.Sh
open Go
section
variable {α:Type} {P:Program} {I:Imm}
def nilPl : Pl:=⟨0,0,0,true⟩
def plO (ρ:Nat→Pl):Option Nat→Pl
  | some b=>ρ b
  | none=>nilPl
def plL (ρ:Nat→Pl) (rl:List (Option Nat)) (i:Nat):Pl:=plO ρ (rl[i]?.join)
def lookF : List (Nat × Option Nat)→Nat→Option (Option Nat)
  | [],_=>none
  | x::l,c=>bif Nat.beq x.1 c then some x.2 else lookF l c
theorem lookF_mem {ro:Option Nat} {c:Nat}:∀{l:List (Nat × Option Nat)},(l.map (·.1)).Nodup→(c,ro) ∈ l→lookF l c=some ro
  | [],_,h=>by simp at h
  | x ::l,hn,h=>by
    simp only [List.map_cons,List.nodup_cons] at hn
    simp only [lookF]
    rcases List.mem_cons.1 h with rfl | h
    · simp
    · have:x.1 ≠ c:=fun e=>hn.1 (e ▸ List.mem_map_of_mem (f:=(·.1)) h)
      rw [beq_ne this]; exact lookF_mem hn.2 h
def Compat (fl:List (Nat × Option Nat)) (ρ2 ρ1:Nat→Pl):Prop:=∀x ∈ fl,ρ2 x.1=plO ρ1 x.2
structure SameO (C:(Nat→Pl)→(Nat→Pl)→Prop) (o2 o1:SObj):Prop where
  ex:∃g v2 v1,o2=.cells g v2∧o1=.cells g v1∧v2.size=v1.size∧∀ρ2 ρ1,C ρ2 ρ1→cells ρ2 v2=cells ρ1 v1
structure EntryO (rl:List (Option Nat)) (os:List SObj) (args0 args:List SV) (σ:Heap):Prop where
  len:rl.length=os.length
  nodup:∀(i j b:Nat),rl[i]?=some (some b)→rl[j]?=some (some b)→i=j
  wf:∀(I:Imm) o,o ∈ os→OWf I (· < os.length) o
  awf:∀(I:Imm) (D:Nat→Prop),(∀x ∈ args,Wf I D x)→∀x ∈ args0,Wf I (· < os.length) x
  obj:∀(i:Nat) (o:SObj) (b:Nat),os[i]?=some o→rl[i]?=some (some b)→∃o',σ.get b=some o'∧SameO (fun ρ0 ρ=>ρ0=plL ρ rl) o o'
  gho:∀(i:Nat) (o:SObj),os[i]?=some o→rl[i]?=some none→∃g v,o=.cells g v∧v.size=0
  args:∀ρ,args.map (val ρ)=args0.map (val (plL ρ rl))
structure Told2 (rl:List (Option Nat)) (m:Nat) (σ σ1:Heap) (v0 v2:SV) (fl:List (Nat × Option Nat)) (n2:Nat) (bl:List (Nat × SObj)):Prop where
  le:σ.next≤n2
  nodup:(fl.map (·.1)).Nodup
  inj:∀c c' i,(c,some i) ∈ fl→(c',some i) ∈ fl→c=c'
  name:∀x ∈ fl,(∃j,x.2=some j∧rl[j]?=some (some x.1))∨(σ.next≤x.1∧x.1 < n2)
  obj:∀c o,getL bl c=some o→(∀(I:Imm) D,(∀x ∈ fl,D x.1)→OWf I D o)∧((∃i o1,(c,some i) ∈ fl∧σ1.get i=some o1∧SameO (Compat fl) o o1)∨((c,none) ∈ fl∧∃g v,o=.cells g v∧v.size=0))
  cover:∀(j b:Nat),rl[j]?=some (some b)→inK b bl=true
  grow:∀x ∈ bl,(∃o,σ.get x.1=some o)∨(σ.next≤x.1∧x.1 < n2)
  val:∀ρ2 ρ1,Compat fl ρ2 ρ1→val ρ2 v2=val ρ1 v0
  vwf:∀(I:Imm) D,(∀x ∈ fl,D x.1)→Wf I D v2
theorem getL_app_in {i:Nat} {rest:List (Nat × SObj)}:∀{l:List (Nat × SObj)},inK i l=true→getL (l++ rest) i=getL l i
  | [],h=>by simp [inK] at h
  | (c,o')::l,h=>by
    simp only [inK] at h
    simp only [List.cons_append,getL]
    cases e:Nat.beq c i<;>rw [e] at h
    · exact getL_app_in (l:=l) (by simpa using h)
    · rfl
theorem getL_app_out {i:Nat} {rest:List (Nat × SObj)} {l:List (Nat × SObj)} (h:inK i l=false):getL (l++ rest) i=getL rest i:=getL_none_of (inK_false h)
theorem objAt_same {C:(Nat→Pl)→(Nat→Pl)→Prop} {o2 o1:SObj} (h:SameO C o2 o1) {ρ2 ρ1:Nat→Pl} (hc:C ρ2 ρ1) {b c:Nat} (hb:ρ2 b=ρ1 c) {w:World} (ho:ObjAt ρ1 c w o1):ObjAt ρ2 b w o2:=by
  obtain ⟨g,v2,v1,rfl,rfl,hs,hcell⟩:=h.ex
  obtain ⟨cc,T,fz,q1,q2,q3,q4,q5⟩:=ho
  have hr:reachOf (ρ1 c) g v2=reachOf (ρ1 c) g v1:=by cases g<;>simp [reachOf,hs]
  exact ⟨cc,T,fz,by rw [hb]; exact q1,by rw [hb,hs,hcell _ _ hc]; exact q2,by rw [hb,hr,hs]; exact q3,by rw [hb,hr]; exact q4,by rw [hb,hr]; exact q5⟩
theorem obj_calls {f:FuncId} {rl:List (Option Nat)} {os:List SObj} {args0 args:List SV} {σ σ1:Heap} {v0 v2:SV} {fl:List (Nat × Option Nat)} {n2:Nat} {bl:List (Nat × SObj)}
    (h:SCalls P I f args0 (hp os) v0 σ1) (he:EntryO rl os args0 args σ) (ht:Told2 rl os.length σ σ1 v0 v2 fl n2 bl):SCalls P I f args σ v2 ⟨n2,bl++ σ.blocks⟩:=by
  intro ρ D w hh hfr hwf
  have hget0:∀(i:Nat) (o:SObj),(hp os).get i=some o→os[i]?=some o∧i < os.length:=fun i o hi=>by
    obtain ⟨_,h2⟩:=enumO_get (n:=0) hi
    exact ⟨h2,(List.getElem?_eq_some_iff.1 h2).1⟩
  have hrl:∀i,i < os.length→(∃b,rl[i]?=some (some b)∧plL ρ rl i=ρ b)∨(rl[i]?=some none∧plL ρ rl i=nilPl):=fun i hi=>by
    have hi':i < rl.length:=by rw [he.len]; exact hi
    cases e:rl[i] with
    | none=>exact .inr ⟨by simp [hi',e],by simp [plL,hi',e,plO]⟩
    | some b=>exact .inl ⟨b,by simp [hi',e],by simp [plL,hi',e,plO]⟩
  have hpl:∀(i b:Nat),rl[i]?=some (some b)→plL ρ rl i=ρ b:=fun i b hi=>by simp [plL,hi,plO]
  have hD0:HRel I (plL ρ rl) (· < os.length) (hp os).get w:=by
    refine ⟨⟨fun i o hi=>⟨(hget0 i o hi).2,he.wf I o (List.mem_of_getElem? (hget0 i o hi).1)⟩⟩,fun i o hi hz=>?_,fun i o j o' hi hj hz hz' e=>?_,hh.imm,fun i o hi hz=>?_,fun i o hi hz=>?_⟩
    · obtain ⟨h1,h2⟩:=hget0 i o hi
      rcases hrl i h2 with ⟨b,h3,h4⟩ | ⟨_,h4⟩
      · obtain ⟨o',h5,h6⟩:=he.obj i o b h1 h3
        rw [h4] at hz
        exact objAt_same h6 rfl h4 (hh.obj b o' h5 hz)
      · rw [h4] at hz; cases hz
    · obtain ⟨h1,h2⟩:=hget0 i o hi
      obtain ⟨h1',h2'⟩:=hget0 j o' hj
      rcases hrl i h2 with ⟨b,h3,h4⟩ | ⟨_,h4⟩
      · rcases hrl j h2' with ⟨b',h3',h4'⟩ | ⟨_,h4'⟩
        · rw [h4] at hz e; rw [h4'] at hz' e
          obtain ⟨o1,h5,_⟩:=he.obj i o b h1 h3
          obtain ⟨o1',h5',_⟩:=he.obj j o' b' h1' h3'
          have:=hh.inj b o1 b' o1' h5 h5' hz hz' e
          subst this
          exact he.nodup i j b h3 h3'
        · rw [h4'] at hz'; cases hz'
      · rw [h4] at hz; cases hz
    · obtain ⟨h1,h2⟩:=hget0 i o hi
      rcases hrl i h2 with ⟨b,h3,h4⟩ | ⟨_,h4⟩
      · obtain ⟨o',h5,_⟩:=he.obj i o b h1 h3
        rw [h4] at hz ⊢
        exact hh.off b o' h5 hz
      · rw [h4] at hz; cases hz
    · obtain ⟨h1,h2⟩:=hget0 i o hi
      rcases hrl i h2 with ⟨b,h3,h4⟩ | ⟨h3,h4⟩
      · obtain ⟨o',h5,h6⟩:=he.obj i o b h1 h3
        rw [h4] at hz ⊢
        obtain ⟨q1,g,v,q2,q3⟩:=hh.none_ b o' h5 hz
        obtain ⟨g',u2,u1,rfl,q4,q5,_⟩:=h6.ex
        rw [q2] at q4
        cases q4
        exact ⟨q1,_,_,rfl,by omega⟩
      · obtain ⟨g,v,rfl,q⟩:=he.gho i o h1 h3
        exact ⟨by rw [h4]; rfl,g,v,rfl,q⟩
  rw [he.args ρ]
  refine (h _ _ w hD0 (fun c hc _ hd=>by simp only [hp] at hc; omega) (fun x hx=>he.awf I D hwf x hx)).mono ?_
  rintro e w' ⟨ρ1,rfl,hx,hh',hwv⟩
  let ρ2:Nat→Pl:=fun c=>if σ.next≤c∧c < n2 then (match lookF fl c with | some ro=>plO ρ1 ro | none=>ρ c) else ρ c
  have old:∀c,D c→ρ2 c=ρ c:=fun c hc=>by
    have:¬ (σ.next≤c∧c < n2):=fun h=>hfr c h.1 h.2 hc
    simp only [ρ2,if_neg this]
  have rlD:∀(j b:Nat),rl[j]?=some (some b)→j < os.length∧D b∧ρ1 j=ρ b:=fun j b hj=>by
    have h1:j < os.length:=by rw [← he.len]; exact (List.getElem?_eq_some_iff.1 hj).1
    obtain ⟨o',h2,_⟩:=he.obj j os[j] b (by simp [h1]) hj
    exact ⟨h1,(hh.wf.dom b o' h2).1,by rw [hx.agree j h1,hpl j b hj]⟩
  have compat:Compat fl ρ2 ρ1:=fun x hxm=>by
    rcases ht.name x hxm with ⟨j,h1,h2⟩ | h1
    · obtain ⟨_,h3,h4⟩:=rlD j x.1 h2
      rw [old _ h3,h1]; exact h4.symm
    · simp only [ρ2,if_pos h1,lookF_mem ht.nodup (show (x.1,x.2) ∈ fl from hxm)]
  have dom2:∀x ∈ fl,plus D σ.next n2 x.1:=fun x hxm=>by
    rcases ht.name x hxm with ⟨j,_,h2⟩ | h1
    · exact .inl (rlD j x.1 h2).2.1
    · exact .inr h1
  have parts:∀c o,getL (bl++ σ.blocks) c=some o→(inK c bl=true∧getL bl c=some o)∨(inK c bl=false∧σ.get c=some o):=fun c o hc=>by
    cases e:inK c bl
    · rw [getL_app_out e] at hc; exact .inr ⟨rfl,hc⟩
    · rw [getL_app_in e] at hc; exact .inl ⟨rfl,hc⟩
  have notin:∀c,inK c bl=false→∀j,rl[j]? ≠ some (some c):=fun c hc j hj=>by rw [ht.cover j c hj] at hc; cases hc
  have far:∀c o,inK c bl=false→σ.get c=some o→(ρ c).nil=false→w'.heap[(ρ c).blk]?=w.heap[(ρ c).blk]?:=fun c o hc ho hz=>
    hx.frame _ (hh.obj c o ho hz).lt fun i oi hi hzi e=>by
      obtain ⟨h1,h2⟩:=hget0 i oi hi
      rcases hrl i h2 with ⟨b,h3,h4⟩ | ⟨_,h4⟩
      · rw [h4] at hzi e
        obtain ⟨o',h5,_⟩:=he.obj i oi b h1 h3
        have:=hh.inj b o' c o h5 ho hzi hz e
        subst this
        exact notin b hc i h3
      · rw [h4] at hzi; cases hzi
  have apart:∀i o1 c o,σ1.get i=some o1→inK c bl=false→σ.get c=some o→(ρ1 i).nil=false→(ρ c).nil=false→(ρ1 i).blk=(ρ c).blk→False:=fun i o1 c o h1 h2 h3 hz hz' e=>by
    have hlt:=(hh.obj c o h3 hz').lt
    rcases hx.img i o1 h1 hz with h4 | ⟨b0,o0,h5,h0,h6⟩
    · omega
    · obtain ⟨h7,h8⟩:=hget0 b0 o0 h5
      rcases hrl b0 h8 with ⟨b,h9,h10⟩ | ⟨_,h10⟩
      · rw [h10] at h0 h6
        obtain ⟨o',h11,_⟩:=he.obj b0 o0 b h7 h9
        have:=hh.inj b o' c o h11 h3 h0 hz' (h6.trans e)
        subst this
        exact notin b h2 b0 h9
      · rw [h10] at h0; cases h0
  -- a told block that lies somewhere
  have told:∀c o,getL bl c=some o→(ρ2 c).nil=false→∃i o1,(c,some i) ∈ fl∧σ1.get i=some o1∧SameO (Compat fl) o o1∧ρ2 c=ρ1 i:=fun c o hc hz=>by
    rcases (ht.obj c o hc).2 with ⟨i,o1,h1,h2,h3⟩ | ⟨h1,_⟩
    · exact ⟨i,o1,h1,h2,h3,compat _ h1⟩
    · have:=compat _ h1
      simp only [plO] at this
      rw [this] at hz; cases hz
  refine ⟨ρ2,?_,?_,?_,?_⟩
  · rw [ht.val ρ2 ρ1 compat]
  · refine ⟨fun _ h=>.inl h,old,hx.os,hx.tape,hx.output,hx.size,fun i hi hn=>hx.frame i hi fun j o hj hz e=>?_,fun c o hc hz=>?_⟩
    · obtain ⟨h1,h2⟩:=hget0 j o hj
      rcases hrl j h2 with ⟨b,h3,h4⟩ | ⟨_,h4⟩
      · rw [h4] at hz e
        obtain ⟨o',h5,_⟩:=he.obj j o b h1 h3
        exact hn b o' h5 hz e
      · rw [h4] at hz; cases hz
    · rcases parts c o hc with ⟨h1,h2⟩ | ⟨h1,h2⟩
      · obtain ⟨i,o1,h3,h4,_,h6⟩:=told c o h2 hz
        rw [h6] at hz ⊢
        rcases hx.img i o1 h4 hz with h7 | ⟨b0,o0,h7,h0,h8⟩
        · exact .inl h7
        · obtain ⟨h9,h10⟩:=hget0 b0 o0 h7
          rcases hrl b0 h10 with ⟨b,h11,h12⟩ | ⟨_,h12⟩
          · rw [h12] at h0 h8
            obtain ⟨o',h13,_⟩:=he.obj b0 o0 b h9 h11
            exact .inr ⟨b,o',h13,h0,h8⟩
          · rw [h12] at h0; cases h0
      · rw [old c (hh.wf.dom c o h2).1] at hz ⊢
        exact .inr ⟨c,o,h2,hz,rfl⟩
  · refine ⟨⟨fun c o hc=>?_⟩,fun c o hc hz=>?_,fun c o c' o' hc hc' hz hz' e=>?_,hh'.imm,fun c o hc hz=>?_,fun c o hc hz=>?_⟩
    · rcases parts c o hc with ⟨h1,h2⟩ | ⟨h1,h2⟩
      · obtain ⟨h3,h4⟩:=ht.obj c o h2
        refine ⟨?_,h3 I _ dom2⟩
        rcases h4 with ⟨i,o1,h5,_⟩ | ⟨h5,_⟩
        · exact dom2 _ h5
        · exact dom2 _ h5
      · exact ⟨.inl (hh.wf.dom c o h2).1,(hh.wf.dom c o h2).2.mono' fun c hc=>.inl hc⟩
    · rcases parts c o hc with ⟨h1,h2⟩ | ⟨h1,h2⟩
      · obtain ⟨i,o1,h3,h4,h5,h6⟩:=told c o h2 hz
        rw [h6] at hz
        exact objAt_same h5 compat h6 (hh'.obj i o1 h4 hz)
      · rw [old c (hh.wf.dom c o h2).1] at hz
        exact ObjAt.congr (I:=I) (hh.obj c o h2 hz) (hh.wf.dom c o h2).2 old (hh.wf.dom c o h2).1 (far c o h1 h2 hz)
    · rcases parts c o hc with ⟨h1,h2⟩ | ⟨h1,h2⟩<;>rcases parts c' o' hc' with ⟨h1',h2'⟩ | ⟨h1',h2'⟩
      · obtain ⟨i,o1,h3,h4,h5,h6⟩:=told c o h2 hz
        obtain ⟨i',o1',h3',h4',h5',h6'⟩:=told c' o' h2' hz'
        rw [h6] at hz e; rw [h6'] at hz' e
        have:=hh'.inj i o1 i' o1' h4 h4' hz hz' e
        subst this
        exact ht.inj c c' i h3 h3'
      · obtain ⟨i,o1,h3,h4,h5,h6⟩:=told c o h2 hz
        rw [h6] at hz e; rw [old c' (hh.wf.dom c' o' h2').1] at hz' e
        exact (apart i o1 c' o' h4 h1' h2' hz hz' e).elim
      · obtain ⟨i,o1,h3,h4,h5,h6⟩:=told c' o' h2' hz'
        rw [h6] at hz' e; rw [old c (hh.wf.dom c o h2).1] at hz e
        exact (apart i o1 c o h4 h1 h2 hz' hz e.symm).elim
      · rw [old c (hh.wf.dom c o h2).1] at hz e; rw [old c' (hh.wf.dom c' o' h2').1] at hz' e
        exact hh.inj c o c' o' h2 h2' hz hz' e
    · rcases parts c o hc with ⟨h1,h2⟩ | ⟨h1,h2⟩
      · obtain ⟨i,o1,h3,h4,h5,h6⟩:=told c o h2 hz
        rw [h6] at hz ⊢; exact hh'.off i o1 h4 hz
      · rw [old c (hh.wf.dom c o h2).1] at hz ⊢; exact hh.off c o h2 hz
    · rcases parts c o hc with ⟨h1,h2⟩ | ⟨h1,h2⟩
      · rcases (ht.obj c o h2).2 with ⟨i,o1,h3,h4,h5⟩ | ⟨h3,g,v,rfl,h4⟩
        · have h6:=compat _ h3
          simp only [plO] at h6
          rw [h6] at hz ⊢
          obtain ⟨q1,g,v,q2,q3⟩:=hh'.none_ i o1 h4 hz
          obtain ⟨g',u2,u1,rfl,q4,q5,_⟩:=h5.ex
          rw [q2] at q4
          cases q4
          exact ⟨q1,_,_,rfl,by omega⟩
        · have h6:=compat _ h3
          simp only [plO] at h6
          exact ⟨by rw [h6]; rfl,g,v,rfl,h4⟩
      · rw [old c (hh.wf.dom c o h2).1] at hz ⊢; exact hh.none_ c o h2 hz
  · exact ht.vwf I _ dom2
theorem told_grow {rl:List (Option Nat)} {m:Nat} {σ σ1:Heap} {v0 v2:SV} {fl:List (Nat × Option Nat)} {n2:Nat} {bl:List (Nat × SObj)} (ht:Told2 rl m σ σ1 v0 v2 fl n2 bl):Grow σ ⟨n2,bl++ σ.blocks⟩:=⟨ht.le,bl,rfl,ht.grow⟩
end
end Go.Sh
namespace Go.Sh
open Go
structure Lf (T:Type) where
  sv:T→SV
  dec:{α:Type}→SV→(T→R α)→R α
  spec:∀{α:Type} {v:SV} {k:T→R α} {r:α},dec v k=some r→∃t,v=sv t∧k t=some r
  flat:∀t ρ ρ',cells ρ (sv t)=cells ρ' (sv t)
  mono:∀t (I:Imm) D D',Wf I D (sv t)→Wf I D' (sv t)
  tup:∀t,(sv t).isTuple=false
structure Row where
  n:Nat
  f:Nat→Int
mutual
inductive OSh : Type→Type 1
  | leaf {T:Type} (L:Lf T):OSh T
  | own {T:Type} (s:OSh T):OSh T
  | cap (k:IntKind) (n:Nat):OSh (Nat→Int)
  | orow (k:IntKind):OSh Row
  | st {X T:Type} (l:OShs X) (mk:X→T) (un:T→X) (h:∀x,un (mk x)=x):OSh T
  | arr {T:Type} (n es:Nat) (s:OSh T):OSh (Nat→T)
inductive OShs : Type→Type 1
  | nil:OShs Unit
  | cons {A B:Type} (a:OSh A) (b:OShs B):OShs (A × B)
end
mutual
def OSh.cnt : {T:Type}→OSh T→Nat
  | _,.leaf _=>0
  | _,.own s=>s.cnt+ 1
  | _,.cap _ _=>1
  | _,.orow _=>1
  | _,.st l _ _ _=>l.cnt
  | _,.arr n _ s=>n * s.cnt
def OShs.cnt : {X:Type}→OShs X→Nat
  | _,.nil=>0
  | _,.cons a b=>a.cnt+ b.cnt
end
def rep {β:Type}:Nat→List β→List β
  | 0,_=>[]
  | n+ 1,l=>l++ rep n l
mutual
def OSh.rows : {T:Type}→OSh T→List Bool
  | _,.leaf _=>[]
  | _,.own s=>false::s.rows
  | _,.cap _ _=>[false]
  | _,.orow _=>[true]
  | _,.st l _ _ _=>l.rows
  | _,.arr n _ s=>rep n s.rows
def OShs.rows : {X:Type}→OShs X→List Bool
  | _,.nil=>[]
  | _,.cons a b=>a.rows++ b.rows
end
mutual
def OSh.enc : {T:Type}→OSh T→T→(Nat→Nat)→Nat→SV
  | _,.leaf L,x,_,_=>L.sv x
  | _,.own _,_,nm,o=>.ptr (nm o) []
  | _,.cap _ n,_,nm,o=>.slc (nm o) [] 1 0 n (some n)
  | _,.orow _,x,nm,o=>.oslc (nm o) 1 x.n
  | _,.st l _ un _,x,nm,o=>.agg (l.encs (un x) nm o)
  | _,.arr n es s,x,nm,o=>.arr es n fun i=>s.enc (x i) nm (o+ i * s.cnt)
def OShs.encs : {X:Type}→OShs X→X→(Nat→Nat)→Nat→List SV
  | _,.nil,_,_,_=>[]
  | _,.cons a b,x,nm,o=>a.enc x.1 nm o::b.encs x.2 nm (o+ a.cnt)
end
def flatN {β:Type} (f:Nat→List β):Nat→List β
  | 0=>[]
  | n+ 1=>flatN f n++ f n
mutual
def OSh.objs : {T:Type}→OSh T→T→(Nat→Nat)→Nat→List SObj
  | _,.leaf _,_,_,_=>[]
  | _,.own s,x,nm,o=>.cells none (s.enc x nm (o+ 1))::s.objs x nm (o+ 1)
  | _,.cap k n,x,_,_=>[.cells none (.ints k n x)]
  | _,.orow k,x,_,_=>[.cells (some 1) (.ints k x.n x.f)]
  | _,.st l _ un _,x,nm,o=>l.objss (un x) nm o
  | _,.arr n _ s,x,nm,o=>flatN (fun i=>s.objs (x i) nm (o+ i * s.cnt)) n
def OShs.objss : {X:Type}→OShs X→X→(Nat→Nat)→Nat→List SObj
  | _,.nil,_,_,_=>[]
  | _,.cons a b,x,nm,o=>a.objs x.1 nm o++ b.objss x.2 nm (o+ a.cnt)
end
mutual
def OSh.Is : {T:Type}→OSh T→HF→SV→T→List (Option Nat)→Prop
  | _,.leaf L,_,v,x,ids=>v=L.sv x∧ids=[]
  | _,.own s,h,v,x,ids=>∃b u is,v=.ptr b []∧h b=some (.cells none u)∧s.Is h u x is∧ids=some b::is
  | _,.cap k n,h,v,x,ids=>∃b,v=.slc b [] 1 0 n (some n)∧h b=some (.cells none (.ints k n x))∧ids=[some b]
  | _,.orow k,h,v,x,ids=>(v=.nils∧x.n=0∧ids=[none])∨∃b,(v=.oslc b 1 x.n∨(v=.slc b [] 1 0 x.n none∧0 < x.n))∧h b=some (.cells (some 1) (.ints k x.n x.f))∧ids=[some b]
  | _,.st l _ un _,h,v,x,ids=>∃vs,v=.agg vs∧l.Iss h vs (un x) ids
  | _,.arr n es s,h,v,x,ids=>∃f is,v=.arr es n f∧(∀i,i < n→s.Is h (f i) (x i) (is i))∧ids=flatN is n
def OShs.Iss : {X:Type}→OShs X→HF→List SV→X→List (Option Nat)→Prop
  | _,.nil,_,vs,_,ids=>vs=[]∧ids=[]
  | _,.cons a b,h,vs,x,ids=>∃v ws is js,vs=v::ws∧a.Is h v x.1 is∧b.Iss h ws x.2 js∧ids=is++ js
end
mutual
def OSh.Plain : {T:Type}→OSh T→Prop
  | _,.leaf L=>∀t (I:Imm) D,Wf I D (L.sv t)
  | _,.own s=>s.Plain
  | _,.cap _ _=>True
  | _,.orow _=>True
  | _,.st l _ _ _=>l.Plain
  | _,.arr _ _ s=>s.Plain
def OShs.Plain : {X:Type}→OShs X→Prop
  | _,.nil=>True
  | _,.cons a b=>a.Plain∧b.Plain
end
def OSh.PlainP : {T:Type}→OSh T→Prop
  | _,.leaf _=>True
  | _,s=>s.Plain
def OShs.PlainP : {X:Type}→OShs X→Prop
  | _,.nil=>True
  | _,.cons a b=>a.PlainP∧b.PlainP
section
variable {α:Type} {P:Program} {I:Imm}
def CompS (ρ ρ':Nat→Pl) (nm:Nat→Nat) (o:Nat) (ids:List (Option Nat)):Prop:=∀(k:Nat) (ro:Option Nat),ids[k]?=some ro→ρ' (nm (o+ k))=plO ρ ro
theorem CompS.left {ρ ρ':Nat→Pl} {nm:Nat→Nat} {o:Nat} {is js:List (Option Nat)} (h:CompS ρ ρ' nm o (is++ js)):CompS ρ ρ' nm o is:=fun k ro hk=>h k ro (by
  rw [List.getElem?_append_left (List.getElem?_eq_some_iff.1 hk).1]; exact hk)
theorem CompS.right {ρ ρ':Nat→Pl} {nm:Nat→Nat} {o:Nat} {is js:List (Option Nat)} (h:CompS ρ ρ' nm o (is++ js)):CompS ρ ρ' nm (o+ is.length) js:=fun k ro hk=>by
  have:=h (is.length+ k) ro (by rw [List.getElem?_append_right (by omega)]; rw [show is.length+ k - is.length=k by omega]; exact hk)
  rwa [← Nat.add_assoc] at this
theorem CompS.tail {ρ ρ':Nat→Pl} {nm:Nat→Nat} {o:Nat} {a:Option Nat} {is:List (Option Nat)} (h:CompS ρ ρ' nm o (a::is)):CompS ρ ρ' nm (o+ 1) is:=fun k ro hk=>by
  have:=h (k+ 1) ro (by simpa using hk)
  rwa [show o+ (k+ 1)=o+ 1+ k by omega] at this
theorem flatN_length {β:Type} {f:Nat→List β} {c:Nat}:∀{n:Nat},(∀i,i < n→(f i).length=c)→(flatN f n).length=n * c
  | 0,_=>by simp [flatN]
  | n+ 1,h=>by simp only [flatN,List.length_append,flatN_length (n:=n) (fun i hi=>h i (by omega)),h n (by omega)]; rw [Nat.succ_mul]
theorem flatN_get {β:Type} {f:Nat→List β} {c:Nat}:∀{n:Nat},(∀i,i < n→(f i).length=c)→∀i k,i < n→k < c→(flatN f n)[i * c+ k]?=(f i)[k]?
  | 0,_,i,k,hi,_=>by omega
  | n + 1,h,i,k,hi,hk=>by
    have hl:=flatN_length (n:=n) (f:=f) (fun i hi=>h i (by omega))
    simp only [flatN]
    by_cases e:i < n
    · have hm:=Nat.mul_le_mul_right c (Nat.succ_le_of_lt e)
      rw [Nat.succ_mul] at hm
      rw [List.getElem?_append_left (by omega)]
      exact flatN_get (fun i hi=>h i (by omega)) i k e hk
    · have:i=n:=by omega
      subst this
      rw [List.getElem?_append_right (by omega),hl]
      congr 1; omega
theorem flatN_split {β:Type} {f:Nat→List β} {c n:Nat} (h:∀i,i < n→(f i).length=c) {k:Nat} {x:β} (hk:(flatN f n)[k]?=some x):∃i j,i < n∧j < c∧k=i * c+ j∧(f i)[j]?=some x:=by
  have hlt:=(List.getElem?_eq_some_iff.1 hk).1
  rw [flatN_length h] at hlt
  have hc : 0 < c := by rcases Nat.eq_zero_or_pos c with h0 | h0
                        · rw [h0] at hlt; simp at hlt
                        · exact h0
  have hq:k / c < n:=by rw [Nat.div_lt_iff_lt_mul hc]; exact hlt
  have hr:k % c < c:=Nat.mod_lt _ hc
  have hd:k=k / c * c+ k % c:=by rw [Nat.mul_comm]; exact (Nat.div_add_mod k c).symm
  refine ⟨k / c,k % c,hq,hr,hd,?_⟩
  rw [← flatN_get h _ _ hq hr,← hd]; exact hk
theorem CompS.elem {ρ ρ':Nat→Pl} {nm:Nat→Nat} {o c n:Nat} {is:Nat→List (Option Nat)} (hl:∀i,i < n→(is i).length=c) (h:CompS ρ ρ' nm o (flatN is n)) {i:Nat} (hi:i < n):CompS ρ ρ' nm (o+ i * c) (is i):=fun k ro hk=>by
  have hk':k < c:=by rw [← hl i hi]; exact (List.getElem?_eq_some_iff.1 hk).1
  have:=h (i * c+ k) ro (by rw [flatN_get hl i k hi hk']; exact hk)
  rwa [← Nat.add_assoc] at this
mutual
theorem OSh.is_len : ∀{T:Type} (s:OSh T) {h:HF} {v:SV} {x:T} {ids:List (Option Nat)},s.Is h v x ids→ids.length=s.cnt
  | _,.leaf _,_,_,_,_,hi=>by obtain ⟨_,rfl⟩:=hi; rfl
  | _,.own s,_,_,_,_,hi=>by obtain ⟨b,u,is,_,_,h3,rfl⟩:=hi; simp [OSh.cnt,s.is_len h3]
  | _,.cap _ _,_,_,_,_,hi=>by obtain ⟨b,_,_,rfl⟩:=hi; rfl
  | _,.orow _,_,_,_,_,hi=>by rcases hi with ⟨_,_,rfl⟩ | ⟨b,_,_,rfl⟩<;>rfl
  | _,.st l _ _ _,_,_,_,_,hi=>by obtain ⟨vs,_,h2⟩:=hi; simp only [OSh.cnt]; exact l.iss_len h2
  | _,.arr n es s,_,_,_,_,hi=>by obtain ⟨f,is,_,h2,rfl⟩:=hi; simp only [OSh.cnt]; exact flatN_length fun i hi=>s.is_len (h2 i hi)
theorem OShs.iss_len : ∀{X:Type} (l:OShs X) {h:HF} {vs:List SV} {x:X} {ids:List (Option Nat)},l.Iss h vs x ids→ids.length=l.cnt
  | _,.nil,_,_,_,_,hi=>by obtain ⟨_,rfl⟩:=hi; rfl
  | _,.cons a b,_,_,_,_,hi=>by obtain ⟨v,ws,is,js,_,h2,h3,rfl⟩:=hi; simp [OShs.cnt,a.is_len h2,b.iss_len h3]
end
mutual
theorem OSh.is_cells : ∀{T:Type} (s:OSh T) {h:HF} {v:SV} {x:T} {ids:List (Option Nat)},s.Is h v x ids→∀nm o,
    (s.enc x nm o).size=v.size∧(s.enc x nm o).isAgg=v.isAgg∧v.isTuple=false∧(s.enc x nm o).isTuple=false∧∀ρ ρ',CompS ρ ρ' nm o ids→cells ρ' (s.enc x nm o)=cells ρ v
  | _,.leaf L,_,_,_,_,hi,nm,o=>by obtain ⟨rfl,rfl⟩:=hi; exact ⟨rfl,rfl,L.tup _,L.tup _,fun ρ ρ' _=>L.flat _ _ _⟩
  | _,.own s,_,_,_,_,hi,nm,o=>by
    obtain ⟨b,u,is,rfl,_,_,rfl⟩:=hi
    refine ⟨rfl,rfl,rfl,rfl,fun ρ ρ' hc=>?_⟩
    have:=hc 0 (some b) (by simp)
    simp only [Nat.add_zero,plO] at this
    simp [OSh.enc,cells,this]
  | _,.cap k n,_,_,_,_,hi,nm,o=>by
    obtain ⟨b,rfl,_,rfl⟩:=hi
    refine ⟨rfl,rfl,rfl,rfl,fun ρ ρ' hc=>?_⟩
    have:=hc 0 (some b) (by simp)
    simp only [Nat.add_zero,plO] at this
    simp [OSh.enc,cells,this]
  | _,.orow k,_,_,x,_,hi,nm,o=>by
    rcases hi with ⟨rfl,h2,rfl⟩ | ⟨b,h1,_,rfl⟩
    · refine ⟨rfl,rfl,rfl,rfl,fun ρ ρ' hc=>?_⟩
      have:=hc 0 none (by simp)
      simp only [Nat.add_zero,plO] at this
      simp [OSh.enc,cells,this,h2,nilPl]
    · rcases h1 with rfl | ⟨rfl,h1⟩
      · refine ⟨rfl,rfl,rfl,rfl,fun ρ ρ' hc=>?_⟩
        have:=hc 0 (some b) (by simp)
        simp only [Nat.add_zero,plO] at this
        simp [OSh.enc,cells,this]
      · refine ⟨rfl,rfl,rfl,rfl,fun ρ ρ' hc=>?_⟩
        have:=hc 0 (some b) (by simp)
        simp only [Nat.add_zero,plO] at this
        have e:Nat.beq x.n 0=false:=beq_ne (by omega)
        simp [OSh.enc,cells,this,e,offOf]
  | _,.st l _ un _,_,_,x,_,hi,nm,o=>by
    obtain ⟨vs,rfl,h2⟩:=hi
    obtain ⟨q1,q2⟩:=l.iss_cells h2 nm o
    refine ⟨by simp only [OSh.enc,SV.size]; exact q1,rfl,rfl,rfl,fun ρ ρ' hc=>?_⟩
    simp only [OSh.enc,cells]; exact (q2 ρ ρ' hc).1
  | _,.arr n es s,_,_,x,_,hi,nm,o=>by
    obtain ⟨f,is,rfl,h2,rfl⟩:=hi
    refine ⟨rfl,rfl,rfl,rfl,fun ρ ρ' hc=>?_⟩
    simp only [OSh.enc,cells,List.flatMap_def]
    congr 1
    apply List.map_congr_left
    intro i hi
    have hi':=List.mem_range.1 hi
    rw [(s.is_cells (h2 i hi') nm (o+ i * s.cnt)).2.2.2.2 ρ ρ' (hc.elem (fun i hi=>s.is_len (h2 i hi)) hi')]
theorem OShs.iss_cells : ∀{X:Type} (l:OShs X) {h:HF} {vs:List SV} {x:X} {ids:List (Option Nat)},l.Iss h vs x ids→∀nm o,
    sizes (l.encs x nm o)=sizes vs∧∀ρ ρ',CompS ρ ρ' nm o ids→cellss ρ' (l.encs x nm o)=cellss ρ vs∧vs.map (val ρ)=(l.encs x nm o).map (val ρ')
  | _,.nil,_,_,_,_,hi,nm,o=>by obtain ⟨rfl,rfl⟩:=hi; exact ⟨rfl,fun _ _ _=>⟨rfl,rfl⟩⟩
  | _,.cons a b,_,_,x,_,hi,nm,o=>by
    obtain ⟨v,ws,is,js,rfl,h2,h3,rfl⟩:=hi
    obtain ⟨q1,q2,q3,q4,q5⟩:=a.is_cells h2 nm o
    obtain ⟨q6,q7⟩:=b.iss_cells h3 nm (o+ a.cnt)
    refine ⟨by simp only [OShs.encs,sizes,q1,q6],fun ρ ρ' hc=>?_⟩
    have c1:=q5 ρ ρ' hc.left
    have c2:=q7 ρ ρ' (by rw [← a.is_len h2]; exact hc.right)
    refine ⟨by simp only [OShs.encs,cellss,c1,c2.1],?_⟩
    have ev:val ρ v=val ρ' (a.enc x.1 nm o):=by
      have e1:∀(ρ:Nat→Pl) (u:SV),u.isTuple=false→val ρ u=pack u.isAgg (cells ρ u):=fun ρ u hu=>by cases u<;>simp [SV.isTuple] at hu<;>rfl
      rw [e1 ρ v q3,e1 ρ' _ q4,q2,c1]
    simp only [OShs.encs,List.map_cons,ev,c2.2]
end
def SlotOk (h:HF) (C:(Nat→Pl)→(Nat→Pl)→Prop) (ro:Option Nat) (ob:SObj):Prop:=
  match ro with
  | some b=>∃o',h b=some o'∧SameO C ob o'
  | none=>∃g v,ob=.cells g v∧v.size=0
theorem SlotOk.mono {h:HF} {C C':(Nat→Pl)→(Nat→Pl)→Prop} {ro:Option Nat} {ob:SObj} (g:SlotOk h C ro ob) (hc:∀a b,C' a b→C a b):SlotOk h C' ro ob:=by
  cases ro with
  | none=>exact g
  | some b=>
    obtain ⟨o',h1,⟨g',v2,v1,h2,h3,h4,h5⟩⟩:=g
    exact ⟨o',h1,⟨g',v2,v1,h2,h3,h4,fun _ _ hx=>h5 _ _ (hc _ _ hx)⟩⟩
mutual
theorem OSh.is_objs : ∀{T:Type} (s:OSh T) {h:HF} {v:SV} {x:T} {ids:List (Option Nat)},s.Is h v x ids→∀nm o,
    (s.objs x nm o).length=s.cnt∧∀(k:Nat) ro,ids[k]?=some ro→∃ob,(s.objs x nm o)[k]?=some ob∧SlotOk h (fun ρ' ρ=>CompS ρ ρ' nm o ids) ro ob
  | _,.leaf L,_,_,_,_,hi,nm,o=>by obtain ⟨_,rfl⟩:=hi; exact ⟨rfl,fun k ro hk=>by simp at hk⟩
  | _,.own s,_,_,x,_,hi,nm,o=>by
    obtain ⟨b,u,is,_,h2,h3,rfl⟩:=hi
    obtain ⟨q1,q2⟩:=s.is_objs h3 nm (o+ 1)
    refine ⟨by simp [OSh.objs,OSh.cnt,q1],fun k ro hk=>?_⟩
    cases k with
    | zero=>
      simp only [List.getElem?_cons_zero,Option.some.injEq] at hk
      subst hk
      obtain ⟨c1,_,_,_,c5⟩:=s.is_cells h3 nm (o+ 1)
      exact ⟨_,rfl,_,h2,⟨none,_,_,rfl,rfl,c1,fun ρ' ρ hc=>c5 ρ ρ' hc.tail⟩⟩
    | succ k=>
      simp only [List.getElem?_cons_succ] at hk
      obtain ⟨ob,q3,q4⟩:=q2 k ro hk
      exact ⟨ob,by simpa [OSh.objs] using q3,q4.mono fun _ _ hc=>hc.tail⟩
  | _,.cap kd n,_,_,x,_,hi,nm,o=>by
    obtain ⟨b,_,h2,rfl⟩:=hi
    refine ⟨rfl,fun k ro hk=>?_⟩
    cases k with
    | zero=>
      simp only [List.getElem?_cons_zero,Option.some.injEq] at hk
      subst hk
      exact ⟨_,rfl,_,h2,⟨none,_,_,rfl,rfl,rfl,fun ρ' ρ hc=>by simp [cells]⟩⟩
    | succ k=>simp at hk
  | _,.orow kd,_,_,x,_,hi,nm,o=>by
    refine ⟨rfl,fun k ro hk=>?_⟩
    rcases hi with ⟨_,h2,rfl⟩ | ⟨b,_,h2,rfl⟩<;>cases k with
    | zero=>
      simp only [List.getElem?_cons_zero,Option.some.injEq] at hk
      subst hk
      first
        | exact ⟨_,rfl,_,_,rfl,by simp [SV.size,h2]⟩
        | exact ⟨_,rfl,_,h2,⟨some 1,_,_,rfl,rfl,rfl,fun ρ' ρ hc=>by simp [cells]⟩⟩
    | succ k=>simp at hk
  | _,.st l _ un _,_,_,x,_,hi,nm,o=>by
    obtain ⟨vs,_,h2⟩:=hi
    simp only [OSh.objs,OSh.cnt]
    exact l.iss_objs h2 nm o
  | _,.arr n es s,_,_,x,_,hi,nm,o=>by
    obtain ⟨f,is,_,h2,rfl⟩:=hi
    have hl:=fun i hi=>s.is_len (h2 i hi)
    have hlo:∀i,i < n→((fun i=>s.objs (x i) nm (o+ i * s.cnt)) i).length=s.cnt:=fun i hi=>(s.is_objs (h2 i hi) nm (o+ i * s.cnt)).1
    refine ⟨by simp only [OSh.objs,OSh.cnt]; exact flatN_length hlo,fun k ro hk=>?_⟩
    obtain ⟨i,j,h3,h4,rfl,h5⟩:=flatN_split hl hk
    obtain ⟨ob,q3,q4⟩:=(s.is_objs (h2 i h3) nm (o+ i * s.cnt)).2 j ro h5
    exact ⟨ob,by simp only [OSh.objs]; rw [flatN_get hlo i j h3 h4]; exact q3,q4.mono fun _ _ hc=>hc.elem hl h3⟩
theorem OShs.iss_objs : ∀{X:Type} (l:OShs X) {h:HF} {vs:List SV} {x:X} {ids:List (Option Nat)},l.Iss h vs x ids→∀nm o,
    (l.objss x nm o).length=l.cnt∧∀(k:Nat) ro,ids[k]?=some ro→∃ob,(l.objss x nm o)[k]?=some ob∧SlotOk h (fun ρ' ρ=>CompS ρ ρ' nm o ids) ro ob
  | _,.nil,_,_,_,_,hi,nm,o=>by obtain ⟨_,rfl⟩:=hi; exact ⟨rfl,fun k ro hk=>by simp at hk⟩
  | _,.cons a b,_,_,x,_,hi,nm,o=>by
    obtain ⟨v,ws,is,js,rfl,h2,h3,rfl⟩:=hi
    obtain ⟨q1,q2⟩:=a.is_objs h2 nm o
    obtain ⟨q3,q4⟩:=b.iss_objs h3 nm (o+ a.cnt)
    have hl:=a.is_len h2
    refine ⟨by simp [OShs.objss,OShs.cnt,q1,q3],fun k ro hk=>?_⟩
    by_cases e:k < a.cnt
    · rw [List.getElem?_append_left (by omega)] at hk
      obtain ⟨ob,q5,q6⟩:=q2 k ro hk
      exact ⟨ob,by simp only [OShs.objss]; rw [List.getElem?_append_left (by omega)]; exact q5,q6.mono fun _ _ hc=>hc.left⟩
    · rw [List.getElem?_append_right (by omega)] at hk
      obtain ⟨ob,q5,q6⟩:=q4 _ ro hk
      exact ⟨ob,by simp only [OShs.objss]; rw [List.getElem?_append_right (by omega),q1]; rw [hl] at q5; exact q5,q6.mono fun _ _ hc=>by rw [← hl]; exact hc.right⟩
end
mutual
theorem OSh.enc_wf : ∀{T:Type} (s:OSh T),s.Plain→∀(x:T) nm o (I:Imm) D,(∀k,k < s.cnt→D (nm (o+ k)))→Wf I D (s.enc x nm o)∧∀ob ∈ s.objs x nm o,OWf I D ob
  | _,.leaf L,hp,x,nm,o,I,D,_=>⟨hp x I D,by simp [OSh.objs]⟩
  | _,.own s,hp,x,nm,o,I,D,hD=>by
    have h1:=s.enc_wf hp x nm (o+ 1) I D (fun k hk=>by have:=hD (k+ 1) (by simp only [OSh.cnt]; omega); rwa [show o+ (k+ 1)=o+ 1+ k by omega] at this)
    refine ⟨by simp only [OSh.enc,Wf]; exact hD 0 (by simp [OSh.cnt]),fun ob hob=>?_⟩
    simp only [OSh.objs,List.mem_cons] at hob
    rcases hob with rfl | hob
    · exact h1.1
    · exact h1.2 ob hob
  | _,.cap k n,_,x,nm,o,I,D,hD=>⟨by simp only [OSh.enc,Wf]; exact hD 0 (by simp [OSh.cnt]),by simp [OSh.objs,OWf,Wf]⟩
  | _,.orow k,_,x,nm,o,I,D,hD=>⟨by simp only [OSh.enc,Wf]; exact hD 0 (by simp [OSh.cnt]),by simp [OSh.objs,OWf,Wf]⟩
  | _,.st l _ un _,hp,x,nm,o,I,D,hD=>by
    have:=l.encs_wf hp (un x) nm o I D hD
    exact ⟨by simp only [OSh.enc,Wf]; exact wfs_iff.2 this.1,this.2⟩
  | _,.arr n es s,hp,x,nm,o,I,D,hD=>by
    have h1:∀i,i < n→_:=fun i hi=>s.enc_wf hp (x i) nm (o+ i * s.cnt) I D (fun k hk=>by
      have hm:=Nat.mul_le_mul_right s.cnt (Nat.succ_le_of_lt hi)
      rw [Nat.succ_mul] at hm
      have:=hD (i * s.cnt+ k) (by simp only [OSh.cnt]; omega)
      rwa [← Nat.add_assoc] at this)
    refine ⟨by simp only [OSh.enc,Wf]; exact fun i hi=>(h1 i hi).1,fun ob hob=>?_⟩
    simp only [OSh.objs] at hob
    have:∀m,m≤n→∀ob ∈ flatN (fun i=>s.objs (x i) nm (o+ i * s.cnt)) m,OWf I D ob:=by
      intro m
      induction m with
      | zero=>simp [flatN]
      | succ m ih=>
        intro hm ob hob
        simp only [flatN,List.mem_append] at hob
        rcases hob with hob | hob
        · exact ih (by omega) ob hob
        · exact (h1 m (by omega)).2 ob hob
    exact this n (Nat.le_refl _) ob hob
theorem OShs.encs_wf : ∀{X:Type} (l:OShs X),l.Plain→∀(x:X) nm o (I:Imm) D,(∀k,k < l.cnt→D (nm (o+ k)))→(∀v ∈ l.encs x nm o,Wf I D v)∧∀ob ∈ l.objss x nm o,OWf I D ob
  | _,.nil,_,_,_,_,_,_,_=>by simp [OShs.encs,OShs.objss]
  | _,.cons a b,hp,x,nm,o,I,D,hD=>by
    have h1:=a.enc_wf hp.1 x.1 nm o I D (fun k hk=>hD k (by simp only [OShs.cnt]; omega))
    have h2:=b.encs_wf hp.2 x.2 nm (o+ a.cnt) I D (fun k hk=>by have:=hD (a.cnt+ k) (by simp only [OShs.cnt]; omega); rwa [← Nat.add_assoc] at this)
    refine ⟨fun v hv=>?_,fun ob hob=>?_⟩
    · simp only [OShs.encs,List.mem_cons] at hv
      rcases hv with rfl | hv
      · exact h1.1
      · exact h2.1 v hv
    · simp only [OShs.objss,List.mem_append] at hob
      rcases hob with hob | hob
      · exact h1.2 ob hob
      · exact h2.2 ob hob
end
theorem OShs.args_wf : ∀{X:Type} (l:OShs X),l.PlainP→∀{h:HF} {vs:List SV} {x:X} {ids:List (Option Nat)},l.Iss h vs x ids→∀nm o (I:Imm) D D',(∀v ∈ vs,Wf I D' v)→(∀k,k < l.cnt→D (nm (o+ k)))→(∀v ∈ l.encs x nm o,Wf I D v)
  | _,.nil,_,_,_,_,_,_,_,_,_,_,_,_,_=>by simp [OShs.encs]
  | _,.cons a b,hp,_,_,x,_,hi,nm,o,I,D,D',hv,hD=>by
    obtain ⟨v,ws,is,js,rfl,h2,h3,rfl⟩:=hi
    have h4:=b.args_wf hp.2 h3 nm (o+ a.cnt) I D D' (fun v hv'=>hv v (List.mem_cons_of_mem _ hv')) (fun k hk=>by have:=hD (a.cnt+ k) (by simp only [OShs.cnt]; omega); rwa [← Nat.add_assoc] at this)
    intro u hu
    simp only [OShs.encs,List.mem_cons] at hu
    rcases hu with rfl | hu
    · have hp1:=hp.1
      have hD1:∀k,k < a.cnt→D (nm (o+ k)):=fun k hk=>hD k (by simp only [OShs.cnt]; omega)
      cases a with
      | leaf L=>
        obtain ⟨rfl,_⟩:=h2
        exact L.mono _ I D' D (hv _ (by simp))
      | own s=>exact (OSh.enc_wf (.own s) hp1 x.1 nm o I D hD1).1
      | cap k n=>exact (OSh.enc_wf (.cap k n) hp1 x.1 nm o I D hD1).1
      | orow k=>exact (OSh.enc_wf (.orow k) hp1 x.1 nm o I D hD1).1
      | st l mk un h=>exact (OSh.enc_wf (.st l mk un h) hp1 x.1 nm o I D hD1).1
      | arr n es s=>exact (OSh.enc_wf (.arr n es s) hp1 x.1 nm o I D hD1).1
    · exact h4 u hu
theorem OShs.objs_wf : ∀{X:Type} (l:OShs X),l.PlainP→∀(x:X) nm o (I:Imm) D,(∀k,k < l.cnt→D (nm (o+ k)))→∀ob ∈ l.objss x nm o,OWf I D ob
  | _,.nil,_,_,_,_,_,_,_=>by simp [OShs.objss]
  | _,.cons a b,hp,x,nm,o,I,D,hD=>by
    have h2:=b.objs_wf hp.2 x.2 nm (o+ a.cnt) I D (fun k hk=>by have:=hD (a.cnt+ k) (by simp only [OShs.cnt]; omega); rwa [← Nat.add_assoc] at this)
    intro ob hob
    simp only [OShs.objss,List.mem_append] at hob
    rcases hob with hob | hob
    · have hp1:=hp.1
      have hD1:∀k,k < a.cnt→D (nm (o+ k)):=fun k hk=>hD k (by simp only [OShs.cnt]; omega)
      cases a with
      | leaf L=>simp [OSh.objs] at hob
      | own s=>exact (OSh.enc_wf (.own s) hp1 x.1 nm o I D hD1).2 ob hob
      | cap k n=>exact (OSh.enc_wf (.cap k n) hp1 x.1 nm o I D hD1).2 ob hob
      | orow k=>exact (OSh.enc_wf (.orow k) hp1 x.1 nm o I D hD1).2 ob hob
      | st l mk un h=>exact (OSh.enc_wf (.st l mk un h) hp1 x.1 nm o I D hD1).2 ob hob
      | arr n es s=>exact (OSh.enc_wf (.arr n es s) hp1 x.1 nm o I D hD1).2 ob hob
    · exact h2 ob hob
end
end Go.Sh
namespace Go.Sh
open Go
section
variable {α:Type} {P:Program} {I:Imm}
def decAr {T α:Type} (g:Nat→(T→List (Option Nat)→R α)→R α):Nat→((Nat→T)→List (Option Nat)→R α)→R α
  | 0,_=>none
  | 1,k=>g 0 fun x is=>k (fun _=>x) is
  | n+ 2,k=>decAr g (n+ 1) fun xs is=>g (n+ 1) fun x js=>k (upd xs (n+ 1) x) (is++ js)
mutual
def OSh.dec : {T:Type}→OSh T→{α:Type}→Heap→SV→(T→List (Option Nat)→R α)→R α
  | _,.leaf L,_,_,v,k=>L.dec v fun x=>k x []
  | _,.own s,_,σ,v,k=>match v with
    | .ptr b []=>(match σ.get b with
      | some (.cells none u)=>s.dec σ u fun x is=>k x (some b::is)
      | _=>none)
    | _=>none
  | _,.cap kd n,_,σ,v,k=>match v with
    | .slc b [] s 0 n' (some c)=>bif (Nat.beq s 1 && Nat.beq n' n) && Nat.beq c n then (match σ.get b with
      | some (.cells none (.ints kd' m f))=>bif decide (kd'=kd) && Nat.beq m n then k f [some b] else none
      | _=>none) else none
    | _=>none
  | _,.orow kd,_,σ,v,k=>match v with
    | .nils=>k ⟨0,fun _=>0⟩ [none]
    | .oslc b s n=>bif Nat.beq s 1 then (match σ.get b with
      | some (.cells (some s') (.ints kd' m f))=>bif Nat.beq s' 1 && decide (kd'=kd) then bif Nat.beq m n then k ⟨n,f⟩ [some b] else none else none
      | _=>none) else none
    | .slc b [] s 0 n none=>bif Nat.beq s 1 then (match σ.get b with
      | some (.cells (some s') (.ints kd' m f))=>bif Nat.beq s' 1 && decide (kd'=kd) then bif Nat.beq m n && Nat.blt 0 n then k ⟨n,f⟩ [some b] else none else none
      | _=>none) else none
    | _=>none
  | _,.st l mk _ _,_,σ,v,k=>match v with
    | .agg vs=>l.decs σ vs fun x is=>k (mk x) is
    | _=>none
  | _,.arr n es s,_,σ,v,k=>match v with
    | .arr es' n' f=>bif Nat.beq es' es && Nat.beq n' n then decAr (fun i k=>s.dec σ (f i) k) n k else none
    | _=>none
def OShs.decs : {X:Type}→OShs X→{α:Type}→Heap→List SV→(X→List (Option Nat)→R α)→R α
  | _,.nil,_,_,vs,k=>match vs with
    | []=>k () []
    | _=>none
  | _,.cons a b,_,σ,vs,k=>match vs with
    | v::ws=>a.dec σ v fun x is=>b.decs σ ws fun y js=>k (x,y) (is++ js)
    | _=>none
end
theorem decAr_spec {T : Type} {g : Nat → (T → List (Option Nat)→R α)→R α} {Q:Nat→T→List (Option Nat)→Prop} (hg:∀i k r,g i k=some r→∃x is,Q i x is∧k x is=some r):
    ∀{n:Nat} {k:(Nat→T)→List (Option Nat)→R α} {r:α},decAr g n k=some r→∃xs is,(∀i,i < n→Q i (xs i) (is i))∧k xs (flatN is n)=some r
  | 0,k,r,h=>by simp [decAr] at h
  | 1,k,r,h=>by
    simp only [decAr] at h
    obtain ⟨x,is,h1,h2⟩:=hg _ _ _ h
    exact ⟨fun _ => x, fun _ => is, fun i hi => by have:i=0:=by omega
                                                   subst this; exact h1,by simpa [flatN] using h2⟩
  | n + 2,k,r,h=>by
    simp only [decAr] at h
    obtain ⟨xs,is,h1,h2⟩:=decAr_spec hg (n:=n+ 1) h
    obtain ⟨x,js,h3,h4⟩:=hg _ _ _ h2
    refine ⟨upd xs (n+ 1) x,upd is (n+ 1) js,fun i hi=>?_,?_⟩
    · by_cases e:i=n+ 1
      · subst e; simp only [upd,Nat.beq_refl,cond_true]; exact h3
      · simp only [upd,beq_ne e,cond_false]; exact h1 i (by omega)
    · have e1:∀m,m≤n+ 1→flatN (upd is (n+ 1) js) m=flatN is m:=by
        intro m
        induction m with
        | zero=>intro _; rfl
        | succ m ih=>intro hm; simp only [flatN,ih (by omega)]; rw [show upd is (n+ 1) js m=is m by simp only [upd,beq_ne (show m ≠ n+ 1 by omega),cond_false]]
      have e2:flatN (upd is (n+ 1) js) (n+ 2)=flatN is (n+ 1)++ js:=by
        show flatN (upd is (n+ 1) js) (n+ 1)++ upd is (n+ 1) js (n+ 1)=_
        rw [e1 _ (Nat.le_refl _)]; simp [upd]
      rw [e2]; exact h4
mutual
theorem OSh.dec_spec : ∀{T:Type} (s:OSh T) {α:Type} {σ:Heap} {v:SV} {k:T→List (Option Nat)→R α} {r:α},s.dec σ v k=some r→∃x ids,s.Is σ.get v x ids∧k x ids=some r
  | _,.leaf L,α,σ,v,k,r,h=>by
    simp only [OSh.dec] at h
    obtain ⟨t,h1,h2⟩:=L.spec h
    exact ⟨t,[],⟨h1,rfl⟩,h2⟩
  | _,.own s,α,σ,v,k,r,h=>by
    simp only [OSh.dec] at h
    split at h<;>try (cases h; done)
    rename_i b
    split at h<;>try (cases h; done)
    rename_i u hb
    obtain ⟨x,is,h1,h2⟩:=s.dec_spec h
    exact ⟨x,_,⟨b,u,is,rfl,hb,h1,rfl⟩,h2⟩
  | _,.cap kd n,α,σ,v,k,r,h=>by
    simp only [OSh.dec] at h
    split at h<;>try (cases h; done)
    rename_i b s n' c
    obtain ⟨h1,h2⟩:=bif_some h
    split at h2<;>try (cases h2; done)
    rename_i kd' m f hb
    obtain ⟨h3,h4⟩:=bif_some h2
    simp only [Bool.and_eq_true,decide_eq_true_eq,Nat.beq_eq] at h1 h3
    obtain ⟨⟨rfl,rfl⟩,rfl⟩:=h1
    obtain ⟨rfl,rfl⟩:=h3
    exact ⟨f,_,⟨b,rfl,hb,rfl⟩,h4⟩
  | _,.orow kd,α,σ,v,k,r,h=>by
    simp only [OSh.dec] at h
    split at h<;>try (cases h; done)
    · exact ⟨_,_,.inl ⟨rfl,rfl,rfl⟩,h⟩
    · rename_i b s n
      obtain ⟨h1,h2⟩:=bif_some h
      split at h2<;>try (cases h2; done)
      rename_i s' kd' m f hb
      obtain ⟨h3,h4⟩:=bif_some h2
      obtain ⟨h5,h6⟩:=bif_some h4
      simp only [Bool.and_eq_true,decide_eq_true_eq,Nat.beq_eq] at h1 h3 h5
      obtain ⟨rfl,rfl⟩:=h3
      subst h1; subst h5
      exact ⟨_,_,.inr ⟨b,.inl rfl,hb,rfl⟩,h6⟩
    · rename_i b s n
      obtain ⟨h1,h2⟩:=bif_some h
      split at h2<;>try (cases h2; done)
      rename_i s' kd' m f hb
      obtain ⟨h3,h4⟩:=bif_some h2
      obtain ⟨h5,h6⟩:=bif_some h4
      simp only [Bool.and_eq_true,decide_eq_true_eq,Nat.beq_eq] at h1 h3 h5
      obtain ⟨rfl,rfl⟩:=h3
      obtain ⟨rfl,h7⟩:=h5
      subst h1
      exact ⟨_,_,.inr ⟨b,.inr ⟨rfl,by simpa using h7⟩,hb,rfl⟩,h6⟩
  | _,.st l mk un hmk,α,σ,v,k,r,h=>by
    simp only [OSh.dec] at h
    split at h<;>try (cases h; done)
    rename_i vs
    obtain ⟨x,is,h1,h2⟩:=l.decs_spec h
    exact ⟨mk x,is,⟨vs,rfl,by rw [hmk]; exact h1⟩,h2⟩
  | _,.arr n es s,α,σ,v,k,r,h=>by
    simp only [OSh.dec] at h
    split at h<;>try (cases h; done)
    rename_i es' n' f
    obtain ⟨h1,h2⟩:=bif_some h
    simp only [Bool.and_eq_true,Nat.beq_eq] at h1
    obtain ⟨rfl,rfl⟩:=h1
    obtain ⟨xs,is,h3,h4⟩:=decAr_spec (Q:=fun i x is=>s.Is σ.get (f i) x is) (fun i k r h=>s.dec_spec h) h2
    exact ⟨xs,_,⟨f,is,rfl,h3,rfl⟩,h4⟩
theorem OShs.decs_spec : ∀{X:Type} (l:OShs X) {α:Type} {σ:Heap} {vs:List SV} {k:X→List (Option Nat)→R α} {r:α},l.decs σ vs k=some r→∃x ids,l.Iss σ.get vs x ids∧k x ids=some r
  | _,.nil,α,σ,vs,k,r,h=>by
    simp only [OShs.decs] at h
    split at h<;>try (cases h; done)
    exact ⟨(),[],⟨rfl,rfl⟩,h⟩
  | _,.cons a b,α,σ,vs,k,r,h=>by
    simp only [OShs.decs] at h
    split at h<;>try (cases h; done)
    rename_i v ws
    obtain ⟨x,is,h1,h2⟩:=a.dec_spec h
    obtain ⟨y,js,h3,h4⟩:=b.decs_spec h2
    exact ⟨(x,y),_,⟨v,ws,is,js,rfl,h1,h3,rfl⟩,h4⟩
end
mutual
theorem OSh.rows_len : ∀{T:Type} (s:OSh T),s.rows.length=s.cnt
  | _,.leaf _=>rfl
  | _,.own s=>by simp [OSh.rows,OSh.cnt,s.rows_len]
  | _,.cap _ _=>rfl
  | _,.orow _=>rfl
  | _,.st l _ _ _=>by simp only [OSh.rows,OSh.cnt]; exact l.rows_len
  | _,.arr n _ s=>by
    have:=s.rows_len
    simp only [OSh.rows,OSh.cnt,← this]
    induction n with
    | zero=>simp [rep]
    | succ n ih=>simp only [rep,List.length_append,ih]; rw [Nat.succ_mul]; omega
theorem OShs.rows_len : ∀{X:Type} (l:OShs X),l.rows.length=l.cnt
  | _,.nil=>rfl
  | _,.cons a b=>by simp [OShs.rows,OShs.cnt,a.rows_len,b.rows_len]
end
def inO (b:Nat):List (Option Nat)→Bool
  | []=>false
  | none::l=>inO b l
  | some c::l=>bif Nat.beq c b then true else inO b l
def nodO : List (Option Nat)→Bool
  | []=>true
  | none::l=>nodO l
  | some c::l=>bif inO c l then false else nodO l
theorem inO_mem {b:Nat}:∀{l:List (Option Nat)},inO b l=false→∀(k:Nat),l[k]? ≠ some (some b)
  | [],_,k,h=>by simp at h
  | none::l,h,k,hk=>by
    cases k with
    | zero=>simp at hk
    | succ k=>exact inO_mem (l:=l) (by simpa [inO] using h) k (by simpa using hk)
  | some c::l,h,k,hk=>by
    simp only [inO] at h
    cases e:Nat.beq c b<;>rw [e] at h
    · cases k with
      | zero=>simp at hk; subst hk; rw [Nat.beq_refl] at e; cases e
      | succ k=>exact inO_mem (l:=l) (by simpa using h) k (by simpa using hk)
    · cases h
theorem nodO_spec : ∀{l:List (Option Nat)},nodO l=true→∀(i j b:Nat),l[i]?=some (some b)→l[j]?=some (some b)→i=j
  | [],_,i,j,b,h,_=>by simp at h
  | none::l,h,i,j,b,hi,hj=>by
    cases i with
    | zero=>simp at hi
    | succ i=>
      cases j with
      | zero=>simp at hj
      | succ j=>rw [nodO_spec (l:=l) (by simpa [nodO] using h) i j b (by simpa using hi) (by simpa using hj)]
  | some c::l,h,i,j,b,hi,hj=>by
    simp only [nodO] at h
    cases e:inO c l<;>rw [e] at h
    · cases i with
      | zero=>
        simp at hi; subst hi
        cases j with
        | zero=>rfl
        | succ j=>exact absurd (by simpa using hj) (inO_mem e j)
      | succ i=>
        cases j with
        | zero=>simp at hj; subst hj; exact absurd (by simpa using hi) (inO_mem e i)
        | succ j=>rw [nodO_spec (l:=l) (by simpa using h) i j b (by simpa using hi) (by simpa using hj)]
    · cases h
def ltO (n:Nat):List (Option Nat)→Bool
  | []=>true
  | none::l=>ltO n l
  | some c::l=>bif Nat.blt c n then ltO n l else false
theorem ltO_spec {n:Nat}:∀{l:List (Option Nat)},ltO n l=true→∀(i b:Nat),l[i]?=some (some b)→b < n
  | [],_,i,b,h=>by simp at h
  | none::l,h,i,b,hi=>by
    cases i with
    | zero=>simp at hi
    | succ i=>exact ltO_spec (l:=l) (by simpa [ltO] using h) i b (by simpa using hi)
  | some c::l,h,i,b,hi=>by
    simp only [ltO] at h
    cases e:Nat.blt c n<;>rw [e] at h
    · cases h
    · cases i with
      | zero=>simp at hi; subst hi; simpa using e
      | succ i=>exact ltO_spec (l:=l) (by simpa using h) i b (by simpa using hi)
def keptN : Nat→List Bool→List (Option Nat)→Bool
  | _,[],_=>true
  | i,true::gs,_::l=>keptN (i+ 1) gs l
  | i,false::gs,some j::l=>bif Nat.beq j i then keptN (i+ 1) gs l else false
  | _,_,_=>false
theorem keptN_spec : ∀{gs:List Bool} {l:List (Option Nat)} {i:Nat},keptN i gs l=true→∀k:Nat,gs[k]?=some false→l[k]?=some (some (i+ k))
  | [],_,_,_,k,h=>by simp at h
  | true::gs,[],_,h,k,_=>by simp [keptN] at h
  | true::gs,a::l,i,h,k,hk=>by
    cases k with
    | zero=>simp at hk
    | succ k=>
      have:=keptN_spec (gs:=gs) (l:=l) (i:=i+ 1) (by simpa [keptN] using h) k (by simpa using hk)
      rw [show i+ (k+ 1)=i+ 1+ k by omega]; simpa using this
  | false::gs,[],_,h,k,_=>by simp [keptN] at h
  | false::gs,none::l,i,h,k,hk=>by simp [keptN] at h
  | false::gs,some j::l,i,h,k,hk=>by
    simp only [keptN] at h
    cases e:Nat.beq j i<;>rw [e] at h
    · cases h
    · have:=Nat.eq_of_beq_eq_true e
      subst this
      cases k with
      | zero=>simp
      | succ k=>
        have:=keptN_spec (gs:=gs) (l:=l) (i:=j+ 1) (by simpa using h) k (by simpa using hk)
        rw [show j+ (k+ 1)=j+ 1+ k by omega]; simpa using this
def finN : List Bool→List (Option Nat)→Nat→List Nat
  | [],_,_=>[]
  | true::gs,l,n=>n::finN gs l.tail (n+ 1)
  | false::gs,some b::l,n=>b::finN gs l n
  | false::gs,l,n=>n::finN gs l.tail (n+ 1)
def newN : List Bool→List (Option Nat)→Nat→Nat
  | [],_,n=>n
  | true::gs,l,n=>newN gs l.tail (n+ 1)
  | false::gs,some _::l,n=>newN gs l n
  | false::gs,l,n=>newN gs l.tail (n+ 1)
theorem finN_len : ∀{gs:List Bool} {l:List (Option Nat)} {n:Nat},(finN gs l n).length=gs.length
  | [],_,_=>rfl
  | true::gs,l,n=>by simp [finN,finN_len (gs:=gs)]
  | false::gs,some b::l,n=>by simp [finN,finN_len (gs:=gs)]
  | false::gs,none::l,n=>by simp [finN,finN_len (gs:=gs)]
  | false::gs,[],n=>by simp [finN,finN_len (gs:=gs)]
theorem newN_le : ∀{gs:List Bool} {l:List (Option Nat)} {n:Nat},n≤newN gs l n
  | [],_,_=>Nat.le_refl _
  | true::gs,l,n=>by simp only [newN]; have:=newN_le (gs:=gs) (l:=l.tail) (n:=n+ 1); omega
  | false::gs,some b::l,n=>by simp only [newN]; exact newN_le
  | false::gs,none::l,n=>by simp only [newN,List.tail_cons]; have:=newN_le (gs:=gs) (l:=l) (n:=n+ 1); omega
  | false::gs,[],n=>by simp only [newN,List.tail_nil]; have:=newN_le (gs:=gs) (l:=[]) (n:=n+ 1); omega
theorem finN_get : ∀{gs:List Bool} {l:List (Option Nat)} {n:Nat} {k c:Nat},(finN gs l n)[k]?=some c→(gs[k]?=some false∧l[k]?=some (some c))∨(n≤c∧c < newN gs l n)
  | [],_,_,k,c,h=>by simp [finN] at h
  | true::gs,l,n,k,c,h=>by
    simp only [finN] at h
    cases k with
    | zero=>simp at h; subst h; right; simp only [newN]; have:=newN_le (gs:=gs) (l:=l.tail) (n:=n+ 1); omega
    | succ k=>
      rcases finN_get (gs:=gs) (l:=l.tail) (n:=n+ 1) (k:=k) (by simpa using h) with ⟨h1,h2⟩ | h1
      · left; cases l<;>simp_all
      · right; simp only [newN]; omega
  | false::gs,some b::l,n,k,c,h=>by
    simp only [finN] at h
    cases k with
    | zero=>simp at h; subst h; left; simp
    | succ k=>
      rcases finN_get (gs:=gs) (l:=l) (n:=n) (k:=k) (by simpa using h) with ⟨h1,h2⟩ | h1
      · left; simp_all
      · right; simp only [newN]; omega
  | false::gs,none::l,n,k,c,h=>by
    simp only [finN,List.tail_cons] at h
    cases k with
    | zero=>simp at h; subst h; right; simp only [newN,List.tail_cons]; have:=newN_le (gs:=gs) (l:=l) (n:=n+ 1); omega
    | succ k=>
      rcases finN_get (gs:=gs) (l:=l) (n:=n+ 1) (k:=k) (by simpa using h) with ⟨h1,h2⟩ | h1
      · left; simp_all
      · right; simp only [newN,List.tail_cons]; omega
  | false::gs,[],n,k,c,h=>by
    simp only [finN,List.tail_nil] at h
    cases k with
    | zero=>simp at h; subst h; right; simp only [newN,List.tail_nil]; have:=newN_le (gs:=gs) (l:=[]) (n:=n+ 1); omega
    | succ k=>
      rcases finN_get (gs:=gs) (l:=[]) (n:=n+ 1) (k:=k) (by simpa using h) with ⟨h1,h2⟩ | h1
      · left; simp_all
      · right; simp only [newN,List.tail_nil]; omega
theorem finN_kept : ∀{gs:List Bool} {l:List (Option Nat)} {n:Nat} {k b:Nat},gs[k]?=some false→l[k]?=some (some b)→(finN gs l n)[k]?=some b
  | [],_,_,k,b,h,_=>by simp at h
  | true::gs,l,n,k,b,h,h2=>by
    cases k with
    | zero=>simp at h
    | succ k=>simp only [finN,List.getElem?_cons_succ]; exact finN_kept (by simpa using h) (by cases l<;>simp_all)
  | false::gs,some c::l,n,k,b,h,h2=>by
    cases k with
    | zero=>simp at h2; subst h2; simp [finN]
    | succ k=>simp only [finN,List.getElem?_cons_succ]; exact finN_kept (by simpa using h) (by simpa using h2)
  | false::gs,none::l,n,k,b,h,h2=>by
    cases k with
    | zero=>simp at h2
    | succ k=>simp only [finN,List.getElem?_cons_succ]; exact finN_kept (by simpa using h) (by simpa using h2)
  | false::gs,[],n,k,b,h,h2=>by simp at h2
theorem finN_nodup : ∀{gs:List Bool} {l:List (Option Nat)} {n:Nat},(∀(i j b:Nat),l[i]?=some (some b)→l[j]?=some (some b)→i=j)→(∀(i b:Nat),l[i]?=some (some b)→b < n)→(finN gs l n).Nodup:=by
  have tl:∀{l:List (Option Nat)},(∀(i j b:Nat),l[i]?=some (some b)→l[j]?=some (some b)→i=j)→∀(i j b:Nat),l.tail[i]?=some (some b)→l.tail[j]?=some (some b)→i=j:=by
    intro l h i j b hi hj
    have:=h (i+ 1) (j+ 1) b (by cases l<;>simp_all) (by cases l<;>simp_all)
    omega
  have tl2:∀{l:List (Option Nat)} {n:Nat},(∀(i b:Nat),l[i]?=some (some b)→b < n)→∀(i b:Nat),l.tail[i]?=some (some b)→b < n:=by
    intro l n h i b hi
    exact h (i+ 1) b (by cases l<;>simp_all)
  intro gs
  induction gs with
  | nil=>intro l n _ _; simp [finN]
  | cons g gs ih=>
    intro l n h1 h2
    have new:(n::finN gs l.tail (n+ 1)).Nodup:=by
      refine List.nodup_cons.2 ⟨fun hm=>?_,ih (tl h1) fun i b hi=>by have:=tl2 h2 i b hi; omega⟩
      obtain ⟨k,hk⟩:=List.getElem?_of_mem hm
      rcases finN_get hk with ⟨_,h3⟩ | h3
      · have:=tl2 h2 k n h3; omega
      · omega
    cases g with
    | true=>exact new
    | false=>
      match l,h1,h2,new with
      | some b::l,h1,h2,_=>
        refine List.nodup_cons.2 ⟨fun hm=>?_,ih (tl h1) (tl2 h2)⟩
        obtain ⟨k,hk⟩:=List.getElem?_of_mem hm
        rcases finN_get hk with ⟨_,h3⟩ | h3
        · have:=h1 0 (k+ 1) b (by simp) (by simpa using h3); omega
        · have:=h2 0 b (by simp); omega
      | none::l,_,_,new=>exact new
      | [],_,_,new=>exact new
def deadN : List Bool→List (Option Nat)→List (Nat × SObj)
  | true::gs,some b::l=>(b,.dead)::deadN gs l
  | _::gs,_::l=>deadN gs l
  | _,_=>[]
theorem deadN_mem : ∀{gs:List Bool} {l:List (Option Nat)} {x:Nat × SObj},x ∈ deadN gs l→x.2=.dead∧∃k:Nat,l[k]?=some (some x.1)
  | true::gs,some b::l,x,h=>by
    simp only [deadN,List.mem_cons] at h
    rcases h with rfl | h
    · exact ⟨rfl,0,rfl⟩
    · obtain ⟨h1,k,h2⟩:=deadN_mem h; exact ⟨h1,k+ 1,by simpa using h2⟩
  | true::gs,none::l,x,h=>by obtain ⟨h1,k,h2⟩:=deadN_mem (gs:=gs) (l:=l) (by simpa [deadN] using h); exact ⟨h1,k+ 1,by simpa using h2⟩
  | false::gs,a::l,x,h=>by obtain ⟨h1,k,h2⟩:=deadN_mem (gs:=gs) (l:=l) (by simpa [deadN] using h); exact ⟨h1,k+ 1,by simpa using h2⟩
  | [],_,x,h=>by simp [deadN] at h
  | true::gs,[],x,h=>by simp [deadN] at h
  | false::gs,[],x,h=>by simp [deadN] at h
theorem deadN_in : ∀{gs:List Bool} {l:List (Option Nat)} {k b:Nat},gs[k]?=some true→l[k]?=some (some b)→(b,SObj.dead) ∈ deadN gs l
  | [],_,k,b,h,_=>by simp at h
  | g::gs,[],k,b,_,h=>by simp at h
  | true::gs,some c::l,k,b,h,h2=>by
    cases k with
    | zero=>simp at h2; subst h2; simp [deadN]
    | succ k=>simp only [deadN,List.mem_cons]; exact .inr (deadN_in (by simpa using h) (by simpa using h2))
  | true::gs,none::l,k,b,h,h2=>by
    cases k with
    | zero=>simp at h2
    | succ k=>simp only [deadN]; exact deadN_in (by simpa using h) (by simpa using h2)
  | false::gs,a::l,k,b,h,h2=>by
    cases k with
    | zero=>simp at h
    | succ k=>simp only [deadN]; exact deadN_in (by simpa using h) (by simpa using h2)
def nmF (l:List Nat) (i:Nat):Nat:=match getN l i with | some b=>b | none=>0
theorem nmF_eq {l:List Nat} {i c:Nat} (h:l[i]?=some c):nmF l i=c:=by simp [nmF,getN_eq,h]
def zipL {β γ:Type}:List β→List γ→List (β × γ)
  | a::l,b::m=>(a,b)::zipL l m
  | _,_=>[]
theorem zipL_get {β γ:Type}:∀{l:List β} {m:List γ} {k:Nat} {x:β × γ},(zipL l m)[k]?=some x ↔ l[k]?=some x.1∧m[k]?=some x.2
  | [],_,k,x=>by simp [zipL]
  | a::l,[],k,x=>by simp [zipL]
  | a::l,b::m,k,x=>by
    cases k with
    | zero=>simp [zipL,Prod.ext_iff]
    | succ k=>simp only [zipL,List.getElem?_cons_succ]; exact zipL_get
theorem zipL_fst {β γ:Type}:∀{l:List β} {m:List γ},l.length=m.length→(zipL l m).map (·.1)=l
  | [],[],_=>rfl
  | a::l,b::m,h=>by simp [zipL,zipL_fst (l:=l) (m:=m) (by simpa using h)]
  | [],_::_,h=>by simp at h
  | _::_,[],h=>by simp at h
def selN (l:List SV):List Nat→List SV
  | []=>[]
  | i::is=>(match l[i]? with | some v=>v | none=>.nilp)::selN l is
def resL {β:Type} (one:Bool) (v:SV) (k:List SV→R β):R β:=match one,v with
  | true,v=>bif v.isTuple then none else k [v]
  | false,.tuple l=>k l
  | _,_=>none
def resU (one:Bool) (l:List SV):SV:=match one,l with
  | true,[v]=>v
  | _,l=>.tuple l
theorem resL_spec {β:Type} {one:Bool} {v:SV} {k:List SV→R β} {r:β} (h:resL one v k=some r):∃l,k l=some r∧∀(l2:List SV) ρ ρ',l2.map (val ρ')=l.map (val ρ)→val ρ' (resU one l2)=val ρ v:=by
  unfold resL at h
  split at h
  · obtain ⟨_,h2⟩:v.isTuple=false∧k [v]=some r:=by
      cases e:v.isTuple<;>rw [e] at h
      · exact ⟨rfl,h⟩
      · cases h
    refine ⟨[v],h2,fun l2 ρ ρ' hl=>?_⟩
    match l2,hl with
    | [u],hl=>simpa [resU] using hl
    | [],hl=>simp at hl
    | _::_::_,hl=>simp at hl
  · rename_i l
    refine ⟨l,h,fun l2 ρ ρ' hl=>?_⟩
    simp only [resU,val,vals_eq]
    rw [hl]
  · cases h
theorem resU_wf {one:Bool} {l:List SV} {D:Nat→Prop} (h:∀v ∈ l,Wf I D v):Wf I D (resU one l):=by
  unfold resU
  split
  · exact h _ (by simp)
  · simp only [Wf]; exact wfs_iff.2 h
variable {A B C:Type}
def trues : Nat→List Bool
  | 0=>[]
  | n+ 1=>true::trues n
theorem trues_len : ∀n,(trues n).length=n
  | 0=>rfl
  | n+ 1=>by simp [trues,trues_len n]
theorem trues_get : ∀{n k:Nat} {g:Bool},(trues n)[k]?=some g→g=true
  | 0,k,g,h=>by simp [trues] at h
  | n+ 1,k,g,h=>by
    cases k with
    | zero=>simpa [trues] using h.symm
    | succ k=>exact trues_get (n:=n) (by simpa [trues] using h)
def dRo (M:OShs B) (Rs:OShs C) (one:Bool) (objs0:List SV) (k:B→C→R α) (v:SV) (σ1:Heap):R α:=
  resL one v fun vs=>M.decs σ1 objs0 fun y is=>Rs.decs σ1 vs fun z js=>bif keptN 0 M.rows is && nodO (is++ js) then k y z else none
def adO (E:OShs A) (M:OShs B) (Rs:OShs C) (one:Bool) (F:A→(B→C→R α)→R α):FF α:=fun args σ k=>
  E.decs σ args fun a rl=>bif nodO rl && ltO σ.next rl then
    F a fun y z=>
      k (resU one (Rs.encs z (nmF (finN (M.rows++ trues Rs.cnt) rl σ.next)) M.cnt))
        ⟨newN (M.rows++ trues Rs.cnt) rl σ.next,(zipL (finN (M.rows++ trues Rs.cnt) rl σ.next) (M.objss y (nmF (finN (M.rows++ trues Rs.cnt) rl σ.next)) 0++ Rs.objss z (nmF (finN (M.rows++ trues Rs.cnt) rl σ.next)) M.cnt)++ deadN M.rows rl)++ σ.blocks⟩
  else none
theorem iss_entryO {E:OShs A} (hp:E.PlainP) {σ:Heap} {args:List SV} {a:A} {rl:List (Option Nat)} (hi:E.Iss σ.get args a rl) (hn:nodO rl=true):EntryO rl (E.objss a (fun i=>i) 0) (E.encs a (fun i=>i) 0) args σ:=by
  have hl:=E.iss_len hi
  obtain ⟨q1,q2⟩:=E.iss_objs hi (fun i=>i) 0
  have hcomp:∀ρ,CompS ρ (plL ρ rl) (fun i=>i) 0 rl:=fun ρ k ro hk=>by simp [plL,hk]
  refine ⟨by rw [q1,hl],nodO_spec hn,fun I o ho=>E.objs_wf hp a (fun i=>i) 0 I _ (fun k hk=>by rw [q1]; simpa using hk) o ho,fun I D hw=>E.args_wf hp hi (fun i=>i) 0 I _ D hw (fun k hk=>by rw [q1]; simpa using hk),fun i o b ho hb=>?_,fun i o ho hb=>?_,fun ρ=>((E.iss_cells hi (fun i=>i) 0).2 ρ _ (hcomp ρ)).2⟩
  · obtain ⟨ob,h1,h2⟩:=q2 i _ hb
    rw [ho] at h1
    cases h1
    obtain ⟨o',h3,h4⟩:=h2
    exact ⟨o',h3,⟨by
      obtain ⟨g,v2,v1,e1,e2,e3,e4⟩:=h4.ex
      exact ⟨g,v2,v1,e1,e2,e3,fun ρ2 ρ1 hc=>e4 ρ2 ρ1 (by rw [hc]; exact hcomp ρ1)⟩⟩⟩
  · obtain ⟨ob,h1,h2⟩:=q2 i _ hb
    rw [ho] at h1
    cases h1
    exact h2
theorem orc_obj {te : TE} (hpr : Prg P te) {O : ORC α} (hO : OOk P I O) {L : LO α} (n : Fuel) {f : FuncId} {fn : Func} (hf : P.funcs[f]? = some fn) (h1 : (fn.name == "runtime.NumGoroutine") = false) (h2 : fn.body.isNone = false) (hok : fnOk fn = true) (hL : FLOk P I L fn)
    {E:OShs A} {M:OShs B} {Rs:OShs C} {one:Bool} {oi:List Nat} (hE:E.PlainP) (hM:M.Plain) (hR:Rs.Plain) (hEM:E.rows=M.rows) {F:A→(B→C→R α)→R α}
    (hF:∀a k r,F a k=some r→bodyL te O L n fn (E.encs a (fun i=>i) 0) (hp (E.objss a (fun i=>i) 0)) (dRo M Rs one (selN (E.encs a (fun i=>i) 0) oi) k)=some r):OrcOk P I f (.full (adO E M Rs one F)):=by
  refine ⟨enters_of hf h1 h2,fun args σ k r hk=>?_⟩
  unfold adO at hk
  obtain ⟨a,rl,hi,hk1⟩:=E.decs_spec hk
  obtain ⟨hc,hk2⟩:=bif_some hk1
  simp only [Bool.and_eq_true] at hc
  obtain ⟨v0,σ1,h6,hg,h8⟩:=body_calls hpr hO hf hok hL (hF a _ r hk2)
  have hent:=iss_entryO hE hi hc.1
  unfold dRo at h6
  obtain ⟨vs,h9,hres⟩:=resL_spec h6
  obtain ⟨y,is,hy,h10⟩:=M.decs_spec h9
  obtain ⟨z,js,hz,h11⟩:=Rs.decs_spec h10
  obtain ⟨h12,h13⟩:=bif_some h11
  simp only [Bool.and_eq_true] at h12
  -- lengths
  have hlE:=E.iss_len hi
  have hlM:=M.iss_len hy
  have hlR:=Rs.iss_len hz
  have hrE:=E.rows_len
  have hrM:=M.rows_len
  have hcnt:E.cnt=M.cnt:=by rw [← hrE,← hrM,hEM]
  generalize hgs:M.rows++ trues Rs.cnt=gs at *
  generalize hfin:finN gs rl σ.next=fin at *
  have hgl:gs.length=M.cnt+ Rs.cnt:=by rw [← hgs]; simp [hrM,trues_len]
  have hfl:fin.length=M.cnt+ Rs.cnt:=by rw [← hfin,finN_len,hgl]
  have hnd:fin.Nodup:=by rw [← hfin]; exact finN_nodup (nodO_spec hc.1) (ltO_spec hc.2)
  have hgsl:∀k,k < M.cnt→gs[k]?=M.rows[k]?:=fun k hk'=>by rw [← hgs,List.getElem?_append_left (by omega)]
  have hgsr:∀k:Nat,M.cnt≤k→gs[k]? ≠ some false:=fun k hk' hf=>by
    rw [← hgs,List.getElem?_append_right (by omega)] at hf
    exact absurd (trues_get hf) (by simp)
  have hids:(is++ js).length=M.cnt+ Rs.cnt:=by simp [hlM,hlR]
  have hfm:∀(k c:Nat) ro,fin[k]?=some c→(is++ js)[k]?=some ro→(c,ro) ∈ zipL fin (is++ js):=fun k c ro h h'=>List.mem_of_getElem? (zipL_get.2 ⟨h,h'⟩:(zipL fin (is++ js))[k]?=some (c,ro))
  have hcM:∀ρ2 ρ1,Compat (zipL fin (is++ js)) ρ2 ρ1→CompS ρ1 ρ2 (nmF fin) 0 is:=fun ρ2 ρ1 hcm k ro hk'=>by
    have hlt:=(List.getElem?_eq_some_iff.1 hk').1
    have hkf:k < fin.length:=by omega
    have e:fin[k]?=some fin[k]:=by simp [hkf]
    rw [Nat.zero_add,nmF_eq e]
    exact hcm _ (hfm k _ ro e (by rw [List.getElem?_append_left hlt]; exact hk'))
  have hcR:∀ρ2 ρ1,Compat (zipL fin (is++ js)) ρ2 ρ1→CompS ρ1 ρ2 (nmF fin) M.cnt js:=fun ρ2 ρ1 hcm k ro hk'=>by
    have hlt:=(List.getElem?_eq_some_iff.1 hk').1
    have hkf:M.cnt+ k < fin.length:=by omega
    have e:fin[M.cnt+ k]?=some fin[M.cnt+ k]:=by simp [hkf]
    rw [nmF_eq e]
    exact hcm _ (hfm _ _ ro e (by rw [List.getElem?_append_right (by omega)]; rw [show M.cnt+ k - is.length=k by omega]; exact hk'))
  obtain ⟨qM1,qM2⟩:=M.iss_objs hy (nmF fin) 0
  obtain ⟨qR1,qR2⟩:=Rs.iss_objs hz (nmF fin) M.cnt
  generalize hobs:M.objss y (nmF fin) 0++ Rs.objss z (nmF fin) M.cnt=obs at *
  have hobl:obs.length=M.cnt+ Rs.cnt:=by rw [← hobs]; simp [qM1,qR1]
  have hslot:∀(k:Nat) ro ob,(is++ js)[k]?=some ro→obs[k]?=some ob→SlotOk σ1.get (Compat (zipL fin (is++ js))) ro ob:=fun k ro ob h h'=>by
    rw [← hobs] at h'
    by_cases e:k < M.cnt
    · rw [List.getElem?_append_left (by omega)] at h h'
      obtain ⟨ob',q3,q4⟩:=qM2 k ro h
      rw [q3] at h'
      cases h'
      exact q4.mono fun a b hab=>hcM a b hab
    · rw [List.getElem?_append_right (by omega)] at h h'
      rw [qM1] at h'
      rw [hlM] at h
      obtain ⟨ob',q3,q4⟩:=qR2 _ ro h
      rw [q3] at h'
      cases h'
      exact q4.mono fun a b hab=>hcR a b hab
  have hnames:∀(D:Nat→Prop),(∀x ∈ zipL fin (is++ js),D x.1)→∀k,k < M.cnt+ Rs.cnt→D (nmF fin k):=fun D hD k hk'=>by
    have e:fin[k]?=some fin[k]:=by simp [hfl,hk']
    rw [nmF_eq e]
    have e2:(is++ js)[k]?=some (is++ js)[k]:=by simp [hids,hk']
    exact hD _ (hfm k _ _ e e2)
  have hget:∀c o,getL (zipL fin obs++ deadN M.rows rl) c=some o→∃k:Nat,fin[k]?=some c∧obs[k]?=some o:=fun c o h=>by
    have hlive:=getL_mem h
    rcases List.mem_append.1 hlive with h' | h'
    · obtain ⟨k,hk'⟩:=List.getElem?_of_mem h'
      have:=zipL_get.1 hk'
      exact ⟨k,this.1,this.2⟩
    · obtain ⟨h3,_⟩:=deadN_mem h'
      simp only at h3
      subst h3
      exact absurd (getL_live h) (by simp [SObj.live])
  have ht :Told2 rl (E.objss a (fun i=>i) 0).length σ σ1 v0 (resU one (Rs.encs z (nmF fin) M.cnt)) (zipL fin (is++ js)) (newN gs rl σ.next) (zipL fin obs++ deadN M.rows rl):=by
    refine ⟨newN_le,by rw [zipL_fst (by omega)]; exact hnd,fun c c' i hm hm'=>?_,fun x hx=>?_,fun c o hco=>?_,fun j b hj=>?_,fun x hx=>?_,fun ρ2 ρ1 hcm=>?_,fun I D hD=>?_⟩
    · obtain ⟨k,hk'⟩:=List.getElem?_of_mem hm
      obtain ⟨k2,hk2'⟩:=List.getElem?_of_mem hm'
      have e1:=zipL_get.1 hk'
      have e2:=zipL_get.1 hk2'
      have:=nodO_spec h12.2 k k2 i e1.2 e2.2
      subst this
      have:=e1.1.symm.trans e2.1
      simpa using this
    · obtain ⟨k,hk'⟩:=List.getElem?_of_mem hx
      have e1:=zipL_get.1 hk'
      have e2:=e1.1
      rw [← hfin] at e2
      rcases finN_get e2 with ⟨h3,h4⟩ | h3
      · left
        have hkM:k < M.cnt:=by
          by_cases e:k < M.cnt
          · exact e
          · exact absurd h3 (hgsr k (by omega))
        rw [hgsl k hkM] at h3
        have h5:=keptN_spec h12.1 k h3
        rw [Nat.zero_add] at h5
        have h6:=e1.2
        rw [List.getElem?_append_left (by omega),h5] at h6
        exact ⟨k,(Option.some.inj h6).symm,h4⟩
      · exact .inr h3
    · obtain ⟨k,e1,e2⟩:=hget c o hco
      have hkl:k < M.cnt+ Rs.cnt:=by rw [← hobl]; exact (List.getElem?_eq_some_iff.1 e2).1
      refine ⟨fun I D hD=>?_,?_⟩
      · have hmem:=List.mem_of_getElem? e2
        rw [← hobs] at hmem
        rcases List.mem_append.1 hmem with hm | hm
        · exact (M.encs_wf hM y (nmF fin) 0 I D fun k hk'=>by rw [Nat.zero_add]; exact hnames D hD k (by omega)).2 o hm
        · exact (Rs.encs_wf hR z (nmF fin) M.cnt I D fun k hk'=>hnames D hD _ (by omega)).2 o hm
      · have e3:(is++ js)[k]?=some (is++ js)[k]:=by simp [hids,hkl]
        have hs:=hslot k _ o e3 e2
        have hm:=hfm k c _ e1 e3
        cases ero:(is++ js)[k] with
        | none=>rw [ero] at hs hm; exact .inr ⟨hm,hs⟩
        | some i=>
          rw [ero] at hs hm
          obtain ⟨o1,h3,h4⟩:=hs
          exact .inl ⟨i,o1,hm,h3,h4⟩
    · have hjl:j < M.cnt:=by rw [← hcnt,← hlE]; exact (List.getElem?_eq_some_iff.1 hj).1
      have hjr:j < M.rows.length:=by omega
      have inOf:∀{l:List (Nat × SObj)} {x:Nat × SObj},x ∈ l→x.1=b→inK b l=true:=by
        intro l
        induction l with
        | nil=>intro x hx; simp at hx
        | cons y l ih=>
          intro x hx hb
          simp only [inK]
          rcases List.mem_cons.1 hx with rfl | hx
          · rw [hb]; simp
          · rw [ih hx hb]; cases Nat.beq y.1 b<;>rfl
      cases eg:M.rows[j] with
      | true=>
        have:=deadN_in (gs:=M.rows) (l:=rl) (k:=j) (b:=b) (by simp [hjr,eg]) hj
        exact inOf (List.mem_append_right _ this) rfl
      | false=>
        have e1:fin[j]?=some b:=by rw [← hfin]; exact finN_kept (by rw [hgsl j hjl]; simp [hjr,eg]) hj
        have e2:obs[j]?=some (obs[j]'(by omega)):=by simp [show j < obs.length by omega]
        exact inOf (List.mem_append_left _ (List.mem_of_getElem? (zipL_get.2 ⟨e1,e2⟩:(zipL fin obs)[j]?=some (b,obs[j]'(by omega))))) rfl
    · have hsome:∀(k b:Nat),rl[k]?=some (some b)→∃o,σ.get b=some o:=fun k b hkb=>by
        have hlt:k < (E.objss a (fun i=>i) 0).length:=by rw [(E.iss_objs hi (fun i=>i) 0).1,← hlE]; exact (List.getElem?_eq_some_iff.1 hkb).1
        obtain ⟨o',ho',_⟩:=hent.obj k _ b (List.getElem?_eq_getElem hlt) hkb
        exact ⟨o',ho'⟩
      rcases List.mem_append.1 hx with h' | h'
      · obtain ⟨k,hk'⟩:=List.getElem?_of_mem h'
        have e1:=(zipL_get.1 hk').1
        rw [← hfin] at e1
        rcases finN_get e1 with ⟨_,h4⟩ | h3
        · exact .inl (hsome k _ h4)
        · exact .inr h3
      · obtain ⟨_,k,h4⟩:=deadN_mem h'
        exact .inl (hsome k _ h4)
    · exact hres _ ρ1 ρ2 ((Rs.iss_cells hz (nmF fin) M.cnt).2 ρ1 ρ2 (hcR ρ2 ρ1 hcm)).2.symm
    · exact resU_wf (Rs.encs_wf hR z (nmF fin) M.cnt I D fun k hk'=>hnames D hD _ (by omega)).1
  subst hobs
  exact ⟨_,_,h13,told_grow ht,obj_calls h8 hent ht⟩
end
end Go.Sh
namespace Go.Sh
open Go
mutual
theorem cells_ids {ρ ρ':Nat→Pl}:∀{v:SV},Ids (fun _=>False) v→cells ρ v=cells ρ' v
  | .bool _,_ | .int ..,_ | .str _,_ | .nilp,_ | .nils,_ | .nilfn,_ | .nilmap,_ | .nilifc,_ | .ints ..,_ | .bools ..,_ | .vptr ..,_ | .vslc ..,_ | .tuple _,_=>by simp [cells]
  | .ptr ..,g=>by simp only [Ids] at g
  | .slc ..,g=>by simp only [Ids] at g
  | .oslc ..,g=>by simp only [Ids] at g
  | .map _,g=>by simp only [Ids] at g
  | .fn _ a c,g=>by simp only [Ids] at g; simp only [cells,vals_ids (ρ:=ρ) (ρ':=ρ') g.1,vals_ids (ρ:=ρ) (ρ':=ρ') g.2]
  | .arr s n f,g=>by
    simp only [Ids] at g
    simp only [cells]
    congr 1
    funext i
    rw [cells_ids (ρ:=ρ) (ρ':=ρ') (g i)]
  | .agg l,g=>by simp only [Ids] at g; simp only [cells]; exact cellss_ids g
theorem cellss_ids {ρ ρ':Nat→Pl}:∀{l:List SV},Idss (fun _=>False) l→cellss ρ l=cellss ρ' l
  | [],_=>by simp [cellss]
  | v::l,g=>by simp only [Idss] at g; simp only [cellss]; rw [cells_ids (ρ:=ρ) (ρ':=ρ') g.1,cellss_ids (ρ:=ρ) (ρ':=ρ') g.2]
theorem vals_ids {ρ ρ':Nat→Pl}:∀{l:List SV},Idss (fun _=>False) l→vals ρ l=vals ρ' l
  | [],_=>by simp [vals]
  | .tuple l::r,g=>by simp only [Idss,Ids] at g; simp only [vals]; rw [vals_ids (ρ:=ρ) (ρ':=ρ') g.1,vals_ids (ρ:=ρ) (ρ':=ρ') g.2]
  | .ptr ..::r,g | .slc ..::r,g | .oslc ..::r,g | .map _::r,g=>by simp only [Idss,Ids] at g; exact g.1.elim
  | .bool _::r,g | .int ..::r,g | .str _::r,g | .nilp::r,g | .nils::r,g | .vptr ..::r,g | .vslc ..::r,g | .nilfn::r,g | .nilmap::r,g | .nilifc::r,g | .ints ..::r,g | .bools ..::r,g | .arr ..::r,g | .agg _::r,g | .fn ..::r,g=>by
    simp only [Idss] at g
    simp only [vals]
    rw [vals_ids (ρ:=ρ) (ρ':=ρ') g.2,cells_ids (ρ:=ρ) (ρ':=ρ') g.1]
end
theorem wf_ids {I:Imm} {D D':Nat→Prop} {v:SV} (h:Wf I D v) (g:Ids (fun _=>False) v):Wf I D' v:=(Wf.andIds h g).mono fun _ h=>h.2.elim
def Lf.of {T:Type} (sv:T→SV) (dec:{α:Type}→SV→(T→R α)→R α) (spec:∀{α:Type} {v:SV} {k:T→R α} {r:α},dec v k=some r→∃t,v=sv t∧k t=some r) (ids:∀t,Ids (fun _=>False) (sv t)) (tup:∀t,(sv t).isTuple=false):Lf T:=
  ⟨sv,dec,spec,fun t _ _=>cells_ids (ids t),fun t _ _ _ h=>wf_ids h (ids t),tup⟩
@[reducible] def Lf_int (k:IntKind):Lf Int:=.of (fun n=>.int k n) (decI k) decI_spec (fun _=>by simp [Ids]) fun _=>rfl
@[reducible] def Lf_bool : Lf Bool:=.of (fun b=>.bool b) decB decB_spec (fun _=>by simp [Ids]) fun _=>rfl
theorem pl_int (k:IntKind):(OSh.leaf (Lf_int k)).Plain:=fun t I D=>show Wf I D (.int k t) by simp [Wf,Wfs]
theorem pl_bool : (OSh.leaf Lf_bool).Plain:=fun t I D=>show Wf I D (.bool t) by simp [Wf,Wfs]
abbrev auSV (k:IntKind) (n:Int):SV:=.agg [.agg [],.agg [],.int k n]
def decAu {α:Type} (k:IntKind) (v:SV) (g:Int→R α):R α:=match v with
  | .agg [.agg [],.agg [],x]=>decI k x g
  | _=>none
theorem decAu_spec {α:Type} {k:IntKind} {v:SV} {g:Int→R α} {r:α} (h:decAu k v g=some r):∃n,v=auSV k n∧g n=some r:=by
  unfold decAu at h
  split at h<;>try (cases h; done)
  obtain ⟨n,rfl,h1⟩:=decI_spec h
  exact ⟨n,rfl,h1⟩
@[reducible] def Lf_au (k:IntKind):Lf Int:=.of (auSV k) (decAu k) decAu_spec (fun _=>by simp [Ids,Idss]) fun _=>rfl
theorem pl_au (k:IntKind):(OSh.leaf (Lf_au k)).Plain:=fun t I D=>show Wf I D (auSV k t) by simp [Wf,Wfs]
def gN {α:Type} (m n:Nat) (k:R α):R α:=bif Nat.beq m n then k else none
def gP {α:Type} (m n:Nat) (k:R α):R α:=bif Nat.beq m n && Nat.blt 0 n then k else none
@[simp] theorem gN_self {α:Type} (n:Nat) (k:R α):gN n n k=k:=by simp [gN]
end Go.Sh
namespace Go.Sh
open Go
section
variable {α:Type} {P:Program} {I:Imm}
def xLoad (k:IntKind):FF α:=fun args σ g=>match args with
  | [.ptr b p]=>(match σ.get b with
    | some (.cells _ v)=>sub v p fun u=>match u with
      | .int k' n=>bif decide (k'=k) then g (.int k' n) σ else none
      | _=>none
    | _=>none)
  | _=>none
def xStore (k:IntKind):FF α:=fun args σ g=>match args with
  | [.ptr b p,.int k' n]=>bif decide (k'=k) then (match σ.get b with
    | some (.cells c v)=>setSub v p (.int k' n) fun u=>g (.tuple []) ⟨σ.next,(b,.cells c u)::σ.blocks⟩
    | _=>none) else none
  | _=>none
def xAdd (k:IntKind):FF α:=fun args σ g=>match args with
  | [.ptr b p,.int k' y]=>bif decide (k'=k) then (match σ.get b with
    | some (.cells c v)=>sub v p fun u=>match u with
      | .int k2 x=>bif decide (k2=k) then setSub v p (.int k (k.wrap (x+ y))) fun u=>g (.int k (k.wrap (x+ y))) ⟨σ.next,(b,.cells c u)::σ.blocks⟩ else none
      | _=>none
    | _=>none) else none
  | _=>none
theorem write_cell (P:Program) {σ:Heap} {ρ:Nat→Pl} {D:Nat→Prop} {w:World} (hh:HRel I ρ D σ.get w) {b:Nat} {p:Path} {c:Option Nat} {v u:SV} {k:IntKind} {n:Int} (hb:σ.get b=some (.cells c v)) (hw:Written v (offOf p) (.int k n) u) (hwf:Wf I D u):
    w.frozen? ⟨(ρ b).blk,(ρ b).base+ offOf p,none⟩=false∧(∃u0,w.cell? ⟨(ρ b).blk,(ρ b).base+ offOf p,none⟩=some u0)∧
      HRel I ρ D (Heap.mk σ.next ((b,.cells c u)::σ.blocks)).get (w.setCell ⟨(ρ b).blk,(ρ b).base+ offOf p,none⟩ (.int k n))∧Ext ρ D σ.get w ρ D (Heap.mk σ.next ((b,.cells c u)::σ.blocks)).get (w.setCell ⟨(ρ b).blk,(ρ b).base+ offOf p,none⟩ (.int k n)):=by
  have hroom:=hw.room
  simp only [SV.size] at hroom
  have hbn:=hh.real hb (by omega)
  obtain ⟨cc,T,fz,q1,q2,q3,q4,q5⟩:=hh.obj b _ hb hbn
  obtain ⟨w',e1,e2,e3⟩:=write_cells (P:=P) hh hb (u:=u) (o:=offOf p) (cs:=[.int k n]) (by simp; omega) hw.size (fun j hj=>by
    have:=hw.new ρ j (by simpa [SV.size] using hj)
    simpa [cells] using this) (fun j hj=>hw.old ρ j (by simpa [SV.size] using hj)) (fun x hx=>by simp at hx; subst hx; rfl) hwf
  have hlt:(ρ b).base+ offOf p < cc.size:=by omega
  have hcell:w.cell? ⟨(ρ b).blk,(ρ b).base+ offOf p,none⟩=some cc[(ρ b).base+ offOf p]:=by simp [World.cell?,q1,hlt]
  have hfro:w.frozen? ⟨(ρ b).blk,(ρ b).base+ offOf p,none⟩=false:=by
    have:=q5 (offOf p) (by omega)
    simp only [World.frozen?,q1,Bool.and_eq_false_iff,decide_eq_false_iff_not]
    omega
  have hst:(storeCells ⟨(ρ b).blk,(ρ b).base+ offOf p,none⟩ [.int k n] 0).run P w=.ok () (w.setCell ⟨(ρ b).blk,(ρ b).base+ offOf p,none⟩ (.int k n)):=by
    simp only [storeCells,Sem.run_bind,addr_add,Nat.add_zero]
    rw [run_store P w _ (.int k n) _ rfl,hcell]
    simp [hfro]
  rw [hst] at e1
  cases e1
  rw [getL_cons]
  exact ⟨hfro,⟨_,hcell⟩,e2,e3⟩
theorem load_ext {f : FuncId} {fn : Func} (hf : P.funcs[f]? = some fn) (hname : (fn.name == "runtime.NumGoroutine") = false) (hb : fn.body.isNone = true) (hn : Extern.findNext fn = none) (k : IntKind) (he : Extern.find fn = some (Extern.Atomic.loadT (.int k))) :
    OrcOk (α:=α) P I f (.ext (xLoad k)):=by
  intro args σ g r h
  unfold xLoad at h
  split at h<;>try (cases h; done)
  rename_i b p
  split at h<;>try (cases h; done)
  rename_i c v hg
  obtain ⟨u,h1,hl,_⟩:=sub_spec h
  split at h1<;>try (cases h1; done)
  rename_i k' n _
  obtain ⟨h2,h3⟩:=bif_some h1
  have:=of_decide_eq_true h2
  subst this
  refine ⟨_,_,h3,.refl _,fun ρ D w hh _ _=>⟨ρ,w,?_,.same,by rwa [plus_same],by simp [Wf]⟩⟩
  have hc:=hh.cell (j:=0) hg hl (by simp [SV.size])
  have e:(List.map (val ρ) [SV.ptr b p]).toArray=#[.pointer (some ⟨(ρ b).blk,(ρ b).base+ offOf p,none⟩)]:=by simp [val_ptr]
  rw [e,val_int]
  exact run_call_load hf hname hb hn k' he (by simpa [cells] using hc)
theorem store_ext {f : FuncId} {fn : Func} (hf : P.funcs[f]? = some fn) (hname : (fn.name == "runtime.NumGoroutine") = false) (hb : fn.body.isNone = true) (hn : Extern.findNext fn = none) (k : IntKind) (he : Extern.find fn = some Extern.Atomic.storeT) :
    OrcOk (α:=α) P I f (.ext (xStore k)):=by
  intro args σ g r h
  unfold xStore at h
  split at h<;>try (cases h; done)
  rename_i b p k' n
  obtain ⟨h0,h'⟩:=bif_some h
  clear h
  have:=of_decide_eq_true h0
  subst this
  split at h'<;>try (cases h'; done)
  rename_i c v hg
  obtain ⟨u,h1,_,hw,hwf⟩:=setSub_spec h'
  refine ⟨_,_,h1,⟨Nat.le_refl _,[(b,.cells c u)],rfl,fun x hx=>by simp at hx; subst hx; exact .inl ⟨_,hg⟩⟩,fun ρ D w hh _ _=>?_⟩
  obtain ⟨e1,⟨u0,e2⟩,e3,e4⟩:=write_cell P hh hg hw (hwf I D (hh.wf.dom b _ hg).2 (by simp [Wf]))
  refine ⟨ρ,_,?_,by unfold ExtS; rw [plus_same]; exact e4,by rw [plus_same]; exact e3,by simp [Wf,Wfs]⟩
  have e:(List.map (val ρ) [SV.ptr b p,.int k' n]).toArray=#[.pointer (some ⟨(ρ b).blk,(ρ b).base+ offOf p,none⟩),.int k' n]:=by simp [val_ptr,val_int]
  rw [e]
  have:=run_call_store (P:=P) hf hname hb hn he (y:=n) (k:=k') e2 e1
  rw [this]; simp [val,vals]
theorem add_ext {f : FuncId} {fn : Func} (hf : P.funcs[f]? = some fn) (hname : (fn.name == "runtime.NumGoroutine") = false) (hb : fn.body.isNone = true) (hn : Extern.findNext fn = none) (k : IntKind) (he : Extern.find fn = some (Extern.Atomic.update (Op.intArith .add) k true)) :
    OrcOk (α:=α) P I f (.ext (xAdd k)):=by
  intro args σ g r h
  unfold xAdd at h
  split at h<;>try (cases h; done)
  rename_i b p k' y
  obtain ⟨h0,h'⟩:=bif_some h
  clear h
  have:=of_decide_eq_true h0
  subst this
  split at h'<;>try (cases h'; done)
  rename_i c v hg
  obtain ⟨u1,h1,hl,_⟩:=sub_spec h'
  split at h1<;>try (cases h1; done)
  rename_i k2 x _
  obtain ⟨h2,h3⟩:=bif_some h1
  have:=of_decide_eq_true h2
  subst this
  obtain ⟨u,h4,_,hw,hwf⟩:=setSub_spec h3
  refine ⟨_,_,h4,⟨Nat.le_refl _,[(b,.cells c u)],rfl,fun x hx=>by simp at hx; subst hx; exact .inl ⟨_,hg⟩⟩,fun ρ D w hh _ _=>?_⟩
  obtain ⟨e1,⟨u0,e2⟩,e3,e4⟩:=write_cell P hh hg hw (hwf I D (hh.wf.dom b _ hg).2 (by simp [Wf]))
  have hc:=hh.cell (j:=0) hg hl (by simp [SV.size])
  refine ⟨ρ,_,?_,by unfold ExtS; rw [plus_same]; exact e4,by rw [plus_same]; exact e3,by simp [Wf]⟩
  have e:(List.map (val ρ) [SV.ptr b p,.int k2 y]).toArray=#[.pointer (some ⟨(ρ b).blk,(ρ b).base+ offOf p,none⟩),.int k2 y]:=by simp [val_ptr,val_int]
  rw [e,val_int]
  exact run_call_add (P:=P) hf hname hb hn k2 he (x:=x) (y:=y) (s:=k2.wrap (x+ y)) (by simpa [cells] using hc) e1 (by simp [Op.intArith])
end
end Go.Sh
namespace Go.Sh
open Go
section
variable {α:Type} {P:Program} {I:Imm}
abbrev SgCon (α:Type):=Int→Int→R α→R α→R α→R α→R α→R α
def ad_console {α:Type} (F:SgCon α):FF α:=fun args σ k=>match args with
  | [.ptr b [],.int .u64 x1,.int .i64 x2]=>F x1 x2 (k .nilp σ) (k (.ptr b [.fld 3 3,.idx 0 3]) σ) (k (.ptr b [.fld 3 3,.idx 1 3]) σ) (k (.ptr b [.fld 3 3,.idx 2 3]) σ) (k (.ptr b [.fld 3 3,.idx 3 3]) σ)
  | _=>none
def sel4 {α:Type} (k0 k1 k2 k3:R α):Nat→R α
  | 0=>k0
  | 1=>k1
  | 2=>k2
  | 3=>k3
  | _=>none
theorem sel4_some {α:Type} {k:Nat→R α} {r:α} (i:Nat) (h:sel4 (k 0) (k 1) (k 2) (k 3) i=some r):k i=some r:=by
  match i,h with
  | 0,h=>exact h
  | 1,h=>exact h
  | 2,h=>exact h
  | 3,h=>exact h
theorem cond_mono {α:Type} {c:Bool} {a b a' b':R α} {r:α} (h:cond c a b=some r) (h1:a=some r→a'=some r) (h2:b=some r→b'=some r):cond c a' b'=some r:=by
  cases c
  · exact h2 h
  · exact h1 h
theorem orc_bodyL {te : TE} (hp : Prg P te) {O : ORC α} (hO : OOk P I O) (n : Fuel) {f : FuncId} {fn : Func} (hf : P.funcs[f]? = some fn) (h1 : (fn.name == "runtime.NumGoroutine") = false) (h2 : fn.body.isNone = false) (h3 : fnOk fn = true) :
    OrcOk P I f (.full (fun args σ k=>bodyL te O [] n fn args σ k)):=
  ⟨enters_of hf h1 h2,fun _ _ _ _ h=>body_calls hp hO hf h3 .nil h⟩
theorem con_of {f:FuncId} {G:FF α} (h:OrcOk P I f (.full G)) {F:SgCon α}
    (hF:∀b x1 x2 σ k r,F x1 x2 (k .nilp σ) (k (.ptr b [.fld 3 3,.idx 0 3]) σ) (k (.ptr b [.fld 3 3,.idx 1 3]) σ) (k (.ptr b [.fld 3 3,.idx 2 3]) σ) (k (.ptr b [.fld 3 3,.idx 3 3]) σ)=some r→G [.ptr b [],.int .u64 x1,.int .i64 x2] σ k=some r):
    OrcOk P I f (.full (ad_console F)):=by
  refine ⟨h.1,fun args σ k r hk=>h.2 args σ k r ?_⟩
  unfold ad_console at hk
  split at hk
  · exact hF _ _ _ _ _ _ hk
  · cases hk
end
end Go.Sh
namespace Go.Sh
open Go
section
variable {α:Type} {P:Program} {I:Imm}
end
end Go.Sh
namespace Go.Sh
open Go
section
variable {α:Type} {P:Program} {I:Imm}
abbrev doneP : Path:=[.fld 1 0,.fld 1 0]
abbrev stateP : Path:=[.fld 2 1,.fld 1 0,.fld 0 0]
def isN {β:Type} (v:SV) (kd:IntKind) (n:Int) (k:R β):R β:=match v with
  | .int kd' m=>bif decide (kd'=kd) && decide (m=n) then k else none
  | _=>none
theorem isN_spec {β:Type} {v:SV} {kd:IntKind} {n:Int} {k:R β} {r:β} (h:isN v kd n k=some r):v=.int kd n∧k=some r:=by
  unfold isN at h
  split at h
  · obtain ⟨h1,h2⟩:=bif_some h
    simp only [Bool.and_eq_true,decide_eq_true_eq] at h1
    obtain ⟨rfl,rfl⟩:=h1
    exact ⟨rfl,h2⟩
  · cases h
def isU {β:Type} (v:SV) (k:R β):R β:=match v with
  | .tuple []=>k
  | _=>none
theorem isU_spec {β:Type} {v:SV} {k:R β} {r:β} (h:isU v k=some r):v=.tuple []∧k=some r:=by
  unfold isU at h
  split at h
  · exact ⟨rfl,h⟩
  · cases h
def xDo (c:Nat) (G:FF α):FF α:=fun args σ k=>match args with
  | [.ptr b p,.fn (.func c') [] [x]]=>bif Nat.beq c' c then (match σ.get b with
    | some (.cells g v)=>sub v (p++ doneP) fun d=>isN d .u32 0 (sub v (p++ stateP) fun s=>isN s .i32 0 (setSub v (p++ stateP) (.int .i32 1) fun u1=>
        G [x] ⟨σ.next,(b,.cells g u1)::σ.blocks⟩ fun v2 σ2=>isU v2 (match σ2.get b with
          | some (.cells g2 w2)=>sub w2 (p++ stateP) fun s2=>isN s2 .i32 1 (setSub w2 (p++ doneP) (.int .u32 1) fun u3=>setSub u3 (p++ stateP) (.int .i32 0) fun u4=>
              k (.tuple []) ⟨σ2.next,(b,.cells g2 u4)::(b,.cells g2 u3)::σ2.blocks⟩)
          | _=>none)))
    | _=>none) else none
  | _=>none
def OnceDo (P:Program) (f c:Nat):Prop:=∀(b off:Nat) (pl:Value) (w:World) (Q:World→Prop),
    w.cell? ⟨b,off,none⟩=some (.int .u32 0)→w.cell? ⟨b,off+ 1,none⟩=some (.int .i32 0)→w.frozen? ⟨b,off+ 1,none⟩=false→
    (Calls P c #[pl] (w.setCell ⟨b,off+ 1,none⟩ (.int .i32 1)) fun e w2=>e=.returned (.tuple #[])∧(∃x,w2.cell? ⟨b,off,none⟩=some x)∧w2.frozen? ⟨b,off,none⟩=false∧w2.cell? ⟨b,off+ 1,none⟩=some (.int .i32 1)∧w2.frozen? ⟨b,off+ 1,none⟩=false∧Q w2)→
    Calls P f #[.pointer (some ⟨b,off,none⟩),.func (.func c) #[] #[pl]] w fun e w'=>e=.returned (.tuple #[])∧
      ∃w2,Q w2∧w'=(w2.drew.setCell ⟨b,off,none⟩ (.int .u32 1)).setCell ⟨b,off+ 1,none⟩ (.int .i32 0)
theorem once_orc {f c:Nat} (hraw:OnceDo P f c) (hent:Enters P f) {G:FF α} (hG:OrcOk P I c (.full G)):OrcOk P I f (.full (xDo c G)):=by
  refine ⟨hent,fun args σ k r h=>?_⟩
  unfold xDo at h
  split at h<;>try (cases h; done)
  rename_i b p c' x
  obtain ⟨hc,h1⟩:=bif_some h
  have:=Nat.eq_of_beq_eq_true hc
  subst this
  split at h1<;>try (cases h1; done)
  rename_i g v hb
  obtain ⟨d,h2,hld,_⟩:=sub_spec h1
  obtain ⟨rfl,h3⟩:=isN_spec h2
  obtain ⟨s,h4,hls,_⟩:=sub_spec h3
  obtain ⟨rfl,h5⟩:=isN_spec h4
  obtain ⟨u1,h6,_,hw1,hwf1⟩:=setSub_spec h5
  obtain ⟨v2,σ2,h7,hg,hC⟩:=hG.2 _ _ _ _ h6
  obtain ⟨rfl,h8⟩:=isU_spec h7
  split at h8<;>try (cases h8; done)
  rename_i g2 w2v hb2
  obtain ⟨s2,h9,hls2,_⟩:=sub_spec h8
  obtain ⟨rfl,h10⟩:=isN_spec h9
  obtain ⟨u3,h11,_,hw3,hwf3⟩:=setSub_spec h10
  obtain ⟨u4,h12,_,hw4,hwf4⟩:=setSub_spec h11
  have o1:offOf (p++ doneP)=offOf p:=by simp [offOf_append,offOf,Step.off]
  have o2:offOf (p++ stateP)=offOf p+ 1:=by simp [offOf_append,offOf,Step.off]
  refine ⟨_,_,h12,?_,?_⟩
  · refine Grow.trans (b:=⟨σ.next,(b,.cells g u1)::σ.blocks⟩) ⟨Nat.le_refl _,[(b,.cells g u1)],rfl,fun y hy=>by simp at hy; subst hy; exact .inl ⟨_,hb⟩⟩ (hg.trans ⟨Nat.le_refl _,[(b,.cells g2 u4),(b,.cells g2 u3)],rfl,fun y hy=>by
      simp at hy; rcases hy with rfl | rfl<;>exact .inl ⟨_,hb2⟩⟩)
  · intro ρ D w hh hfr hwf
    have hDb:D b:=(hh.wf.dom b _ hb).1
    obtain ⟨f1,_,hh1,hx1⟩:=write_cell P hh hb hw1 (hwf1 I D (hh.wf.dom b _ hb).2 (by simp [Wf]))
    rw [o2] at f1 hh1 hx1
    have c0:=hh.cell (j:=0) hb hld (by simp [SV.size])
    have c1:=hh.cell (j:=0) hb hls (by simp [SV.size])
    rw [o1] at c0
    rw [o2] at c1
    simp only [Nat.add_zero,cells,List.getElem?_cons_zero] at c0 c1
    have hxw:Wf I D x:=by
      have:=hwf (.fn (.func c') [] [x]) (by simp)
      simp only [Wf,Wfs] at this
      exact this.2.1
    have hcall:=hC ρ D _ hh1 hfr (fun y hy=>by simp at hy; subst hy; exact hxw)
    have hne1:(ρ b).base+ (offOf p+ 1)=(ρ b).base+ offOf p+ 1:=by omega
    rw [hne1] at f1 c1 hcall hx1
    have main:=hraw (ρ b).blk ((ρ b).base+ offOf p) (val ρ x) w (fun w2=>∃ρ2,ExtS ρ D ⟨σ.next,(b,.cells g u1)::σ.blocks⟩ (w.setCell ⟨(ρ b).blk,(ρ b).base+ offOf p+ 1,none⟩ (.int .i32 1)) ρ2 σ2 w2∧HRel I ρ2 (plus D σ.next σ2.next) σ2.get w2) c0 c1 f1 ?_
    · have e:(List.map (val ρ) [SV.ptr b p,SV.fn (.func c') [] [x]]).toArray=#[.pointer (some ⟨(ρ b).blk,(ρ b).base+ offOf p,none⟩),.func (.func c') #[] #[val ρ x]]:=by
        simp [val_ptr,val,pack,SV.isAgg,cells,vals_eq]
      rw [e]
      refine main.mono ?_
      rintro en w' ⟨rfl,w2,⟨ρ2,hx2,hh2⟩,rfl⟩
      have hρb:ρ2 b=ρ b:=hx2.agree b hDb
      have hh2d:HRel I ρ2 (plus D σ.next σ2.next) σ2.get w2.drew:=hh2.drew (w2.drawn+ 1)
      have hx2d:ExtS ρ D ⟨σ.next,(b,.cells g u1)::σ.blocks⟩ (w.setCell ⟨(ρ b).blk,(ρ b).base+ offOf p+ 1,none⟩ (.int .i32 1)) ρ2 σ2 w2.drew:=Ext.trans hx2 (Ext.drew _ _ _ _ (w2.drawn+ 1))
      obtain ⟨_,_,hh3,hx3⟩:=write_cell P hh2d hb2 hw3 (hwf3 I _ (hh2.wf.dom b _ hb2).2 (by simp [Wf]))
      have hb3:(Heap.mk σ2.next ((b,.cells g2 u3)::σ2.blocks)).get b=some (.cells g2 u3):=by simp [Heap.get,getL,SObj.live]
      obtain ⟨_,_,hh4,hx4⟩:=write_cell P hh3 hb3 hw4 (hwf4 I _ (hh3.wf.dom b _ hb3).2 (by simp [Wf]))
      rw [hρb,o1,o2,hne1] at hh4 hx4
      rw [hρb,o1] at hx3
      refine ⟨ρ2,by simp [val,vals],?_,hh4,by simp [Wf,Wfs]⟩
      have t1:ExtS ρ D σ w ρ ⟨σ.next,(b,.cells g u1)::σ.blocks⟩ (w.setCell ⟨(ρ b).blk,(ρ b).base+ offOf p+ 1,none⟩ (.int .i32 1)):=by unfold ExtS; rw [plus_same]; exact hx1
      have t2:=ExtS.trans t1 (by rw [plus_same]; exact hx2d) (Nat.le_refl _) hg.le
      exact Ext.trans t2 (Ext.trans hx3 hx4)
    · have e:(List.map (val ρ) [x]).toArray=#[val ρ x]:=rfl
      rw [e] at hcall
      refine hcall.mono ?_
      rintro en w2 ⟨ρ2,rfl,hx2,hh2,_⟩
      have hρb:ρ2 b=ρ b:=hx2.agree b hDb
      obtain ⟨z0,e0,_,_⟩:=write_cell P hh2 hb2 hw3 (hwf3 I _ (hh2.wf.dom b _ hb2).2 (by simp [Wf]))
      have cs:=hh2.cell (j:=0) hb2 hls2 (by simp [SV.size])
      have hws:Written w2v (offOf (p++ stateP)) (.int .i32 1) w2v:=⟨rfl,hls2.1,fun ρ j hj=>hls2.2 ρ j hj,fun _ _ _=>rfl⟩
      obtain ⟨z1,_,_,_⟩:=write_cell P hh2 hb2 hws (hh2.wf.dom b _ hb2).2
      rw [hρb,o1] at z0 e0
      rw [hρb,o2,hne1] at z1
      rw [hρb,o2] at cs
      simp only [Nat.add_zero,cells,List.getElem?_cons_zero] at cs
      rw [hne1] at cs
      exact ⟨by simp [val,vals],e0,z0,cs,z1,ρ2,hx2,hh2⟩
end
end Go.Sh
namespace Go.Sh
open Go
section
variable {α:Type} {P:Program} {I:Imm}
def getTs {β:Type} (env:Env):List Nat→(List SV→R β)→R β
  | [],k=>k []
  | t::ts,k=>match getE env t with
    | some v=>getTs env ts fun vs=>k (v::vs)
    | none=>none
def TsIs (env:Env) (ts:List Nat) (vs:List SV):Prop:=vs.length=ts.length∧∀(i t:Nat),ts[i]?=some t→∃v,vs[i]?=some v∧getE env t=some v
theorem getTs_spec {β:Type} {env:Env}:∀{ts:List Nat} {k:List SV→R β} {r:β},getTs env ts k=some r→∃vs,TsIs env ts vs∧k vs=some r
  | [],k,r,h=>⟨[],⟨rfl,fun i t h=>by simp at h⟩,h⟩
  | t ::ts,k,r,h=>by
    simp only [getTs] at h
    split at h
    · rename_i v hv
      obtain ⟨vs,⟨h1,h2⟩,h3⟩:=getTs_spec h
      refine ⟨v::vs,⟨by simp [h1],fun i t' hi=>?_⟩,h3⟩
      cases i with
      | zero=>simp only [List.getElem?_cons_zero,Option.some.injEq] at hi; subst hi; exact ⟨v,rfl,hv⟩
      | succ i=>simpa using h2 i t' (by simpa using hi)
    · cases h
structure Tl where
  x:SX
  T:Type
  E:OShs T
  y:T
  ts:List Nat
  g:List Bool
  pl:E.PlainP
  gl:g.length=E.cnt
  nd:ts.Nodup
def NodI (l:List (Option Nat)):Prop:=∀(i j b:Nat),l[i]?=some (some b)→l[j]?=some (some b)→i=j
def LtI (n:Nat) (l:List (Option Nat)):Prop:=∀(i b:Nat),l[i]?=some (some b)→b < n
def KeptI (g:List Bool) (l:List (Option Nat)):Prop:=∀k:Nat,g[k]?=some false→l[k]?=some (some k)
def AtEnd (T:Tl) (env:Env) (σ:Heap):Prop:=∃vs ids,TsIs env T.ts vs∧T.E.Iss σ.get vs T.y ids∧KeptI T.g ids∧NodI ids∧LtI σ.next ids
variable {A S X:Type}
def decX {A:Type} (ts:List Nat) (E:OShs A) (g:List Bool) (K:A→R α) (env:Env) (σ:Heap):R α:=
  getTs env ts fun vs=>E.decs σ vs fun y ids=>bif keptN 0 g ids && (nodO ids && ltO σ.next ids) then K y else none
theorem decX_spec {A:Type} {ts:List Nat} {E:OShs A} {g:List Bool} {K:A→R α} {env:Env} {σ:Heap} {r:α} (h:decX ts E g K env σ=some r):∃y vs ids,TsIs env ts vs∧E.Iss σ.get vs y ids∧KeptI g ids∧NodI ids∧LtI σ.next ids∧K y=some r:=by
  unfold decX at h
  obtain ⟨vs,h1,h2⟩:=getTs_spec h
  obtain ⟨y,ids,h3,h4⟩:=E.decs_spec h2
  obtain ⟨h5,h6⟩:=bif_some h4
  simp only [Bool.and_eq_true] at h5
  refine ⟨y,vs,ids,h1,h3,fun k hk=>?_,nodO_spec h5.2.1,ltO_spec h5.2.2,h6⟩
  have:=keptN_spec h5.1 k hk
  rwa [Nat.zero_add] at this
def isX : SX→SX→Bool
  | .ret,.ret=>true
  | .exit i,.exit j=>Nat.beq i j
  | _,_=>false
theorem isX_eq : ∀{a b:SX},isX a b=true→a=b
  | .ret,.ret,_=>rfl
  | .exit i,.exit j,h=>by rw [Nat.eq_of_beq_eq_true h]
  | .norm,_,h=>by simp [isX] at h
  | .ret,.norm,h=>by simp [isX] at h
  | .ret,.exit _,h=>by simp [isX] at h
  | .exit _,.norm,h=>by simp [isX] at h
  | .exit _,.ret,h=>by simp [isX] at h
structure XS (X:Type) where
  tl:X→Tl
  dec:{α:Type}→(X→R α)→SX→Env→Heap→R α
  spec:∀{α:Type} {K:X→R α} {x:SX} {env:Env} {σ:Heap} {r:α},dec K x env σ=some r→∃t,(tl t).x=x∧AtEnd (tl t) env σ∧K t=some r
def XS.one {B Y:Type} (x0:SX) (ts:List Nat) (E:OShs B) (g:List Bool) (pl:E.PlainP) (gl:g.length=E.cnt) (nd:ts.Nodup) (mk:B→Y) (un:Y→B) (h:∀b,un (mk b)=b):XS Y:=
  ⟨fun t=>⟨x0,B,E,un t,ts,g,pl,gl,nd⟩,fun K x env σ=>bif isX x0 x then decX ts E g (fun b=>K (mk b)) env σ else none,fun hd=>by
    obtain ⟨h1,h2⟩:=bif_some hd
    obtain ⟨y,vs,ids,h3,h4,h5,h6,h7,h8⟩:=decX_spec h2
    exact ⟨mk y,isX_eq h1,⟨vs,ids,h3,by rw [h]; exact h4,h5,h6,h7⟩,h8⟩⟩
def XS.or {Y Z:Type} (a:XS Y) (b:XS Z) (x0:SX) (ha:∀t,(a.tl t).x=x0):XS (Y ⊕ Z):=
  ⟨fun t=>match t with | .inl y=>a.tl y | .inr z=>b.tl z,fun K x env σ=>bif isX x0 x then a.dec (fun y=>K (.inl y)) x env σ else b.dec (fun z=>K (.inr z)) x env σ,fun {α K x env σ r} hd=>by
    cases e:isX x0 x<;>rw [e] at hd
    · obtain ⟨t,h1,h2,h3⟩:=b.spec hd
      exact ⟨.inr t,h1,h2,h3⟩
    · obtain ⟨t,h1,h2,h3⟩:=a.spec hd
      exact ⟨.inl t,h1,h2,h3⟩⟩
end
end Go.Sh
