/-
  Contracts over memory: a run on blocks numbered from 0 on gives the contract on any blocks; what the run left behind is forgotten.
-/
import Derived.Test.YtigomjcmpafeeaaSk20
set_option linter.unusedSimpArgs false
set_option linter.unusedVariables false
namespace Go.Sh
open Go

section
variable {α : Type} {P : Program} {I : Imm}

/-! ### Which ids a value names -/
mutual
def Ids : (Nat → Prop) → SV → Prop
  | p, .ptr b _ => p b
  | p, .slc b _ _ _ _ _ => p b
  | p, .map b => p b
  | p, .fn _ a c => Idss p a ∧ Idss p c
  | p, .arr _ _ f => ∀ i, Ids p (f i)
  | p, .agg l => Idss p l
  | p, .tuple l => Idss p l
  | _, _ => True
def Idss : (Nat → Prop) → List SV → Prop
  | _, [] => True
  | p, v :: l => Ids p v ∧ Idss p l
end
def OIds (p : Nat → Prop) : SObj → Prop
  | .cells _ v => Ids p v
  | .map es => ∀ e ∈ es, Ids p e.1 ∧ Ids p e.2
  | .dead => True

mutual
theorem Wf.andIds {n p : Nat → Prop} : ∀ {v : SV}, Wf I n v → Ids p v → Wf I (fun c => n c ∧ p c) v
  | .bool _, _, _ | .int .., _, _ | .str _, _, _ | .nilp, _, _ | .nils, _, _ | .nilfn, _, _ | .nilmap, _, _ | .nilifc, _, _ | .ints .., _, _ | .bools .., _, _ => by simp [Wf]
  | .ptr .., g, h => by simp only [Wf, Ids] at *; exact ⟨g, h⟩
  | .slc .., g, h => by simp only [Wf, Ids] at *; exact ⟨g, h⟩
  | .map _, g, h => by simp only [Wf, Ids] at *; exact ⟨g, h⟩
  | .vptr a v, g, _ => by simp only [Wf] at *; exact g
  | .vslc d nl a len cap f, g, _ => by simp only [Wf] at *; exact g
  | .fn _ a c, g, h => by simp only [Wf, Ids] at *; exact ⟨Wfs.andIds g.1 h.1, Wfs.andIds g.2 h.2⟩
  | .arr _ _ f, g, h => by simp only [Wf, Ids] at *; exact fun i hi => Wf.andIds (g i hi) (h i)
  | .agg l, g, h => by simp only [Wf, Ids] at *; exact Wfs.andIds g h
  | .tuple l, g, h => by simp only [Wf, Ids] at *; exact Wfs.andIds g h
theorem Wfs.andIds {n p : Nat → Prop} : ∀ {l : List SV}, Wfs I n l → Idss p l → Wfs I (fun c => n c ∧ p c) l
  | [], _, _ => by simp [Wfs]
  | v :: l, g, h => by simp only [Wfs, Idss] at *; exact ⟨Wf.andIds g.1 h.1, Wfs.andIds g.2 h.2⟩
end
theorem OWf.andIds {n p : Nat → Prop} {o : SObj} (g : OWf I n o) (h : OIds p o) : OWf I (fun c => n c ∧ p c) o := by
  cases o with
  | cells _ v => exact Wf.andIds g h
  | map es => exact fun e he => ⟨Wf.andIds (g e he).1 (h e he).1, Wf.andIds (g e he).2 (h e he).2⟩
  | dead => trivial
theorem OWf.mono' {n m : Nat → Prop} {o : SObj} (g : OWf I n o) (h : ∀ c, n c → m c) : OWf I m o := OWf.mono h g
mutual
theorem Ids.mono {p q : Nat → Prop} (h : ∀ b, p b → q b) : ∀ {v : SV}, Ids p v → Ids q v
  | .bool _, _ | .int .., _ | .str _, _ | .nilp, _ | .nils, _ | .nilfn, _ | .nilmap, _ | .nilifc, _ | .ints .., _ | .bools .., _ | .vptr .., _ | .vslc .., _ => by simp [Ids]
  | .ptr .., g => by simp only [Ids] at *; exact h _ g
  | .slc .., g => by simp only [Ids] at *; exact h _ g
  | .map _, g => by simp only [Ids] at *; exact h _ g
  | .fn _ a c, g => by simp only [Ids] at *; exact ⟨Idss.mono h g.1, Idss.mono h g.2⟩
  | .arr _ _ f, g => by simp only [Ids] at *; exact fun i => Ids.mono h (g i)
  | .agg l, g => by simp only [Ids] at *; exact Idss.mono h g
  | .tuple l, g => by simp only [Ids] at *; exact Idss.mono h g
theorem Idss.mono {p q : Nat → Prop} (h : ∀ b, p b → q b) : ∀ {l : List SV}, Idss p l → Idss q l
  | [], _ => by simp [Idss]
  | v :: l, g => by simp only [Idss] at *; exact ⟨Ids.mono h g.1, Idss.mono h g.2⟩
end
theorem OIds.mono {p q : Nat → Prop} (h : ∀ b, p b → q b) {o : SObj} (g : OIds p o) : OIds q o := by
  cases o with
  | cells _ v => exact Ids.mono h g
  | map es => exact fun e he => ⟨Ids.mono h (g e he).1, Ids.mono h (g e he).2⟩
  | dead => trivial

/-! ### Other names -/
mutual
def ren (r : Nat → Nat) : SV → SV
  | .bool b => .bool b
  | .int k n => .int k n
  | .str s => .str s
  | .ptr b p => .ptr (r b) p
  | .nilp => .nilp
  | .slc b p s o n c => .slc (r b) p s o n c
  | .nils => .nils
  | .vptr a v => .vptr a v
  | .vslc d nl a n c f => .vslc d nl a n c f
  | .fn f a c => .fn f (rens r a) (rens r c)
  | .nilfn => .nilfn
  | .map b => .map (r b)
  | .nilmap => .nilmap
  | .nilifc => .nilifc
  | .ints k n f => .ints k n f
  | .bools n f => .bools n f
  | .arr s n f => .arr s n fun i => ren r (f i)
  | .agg l => .agg (rens r l)
  | .tuple l => .tuple (rens r l)
def rens (r : Nat → Nat) : List SV → List SV
  | [] => []
  | v :: l => ren r v :: rens r l
end
theorem rens_eq (r : Nat → Nat) : ∀ l, rens r l = l.map (ren r)
  | [] => rfl
  | v :: l => by simp [rens, rens_eq r l]
def renO (r : Nat → Nat) : SObj → SObj
  | .cells g v => .cells g (ren r v)
  | .map es => .map (es.map fun e => (ren r e.1, ren r e.2))
  | .dead => .dead
theorem renO_live (r : Nat → Nat) (o : SObj) : (renO r o).live = o.live.map (renO r) := by cases o <;> rfl

mutual
theorem ren_size (r : Nat → Nat) : ∀ v : SV, (ren r v).size = v.size
  | .bool _ | .int .. | .str _ | .ptr .. | .nilp | .slc .. | .nils | .vptr .. | .vslc .. | .nilfn | .map _ | .nilmap | .nilifc | .ints .. | .bools .. | .tuple _ | .fn .. | .arr .. => by simp [ren, SV.size]
  | .agg l => by simp only [ren, SV.size]; exact rens_size r l
theorem rens_size (r : Nat → Nat) : ∀ l : List SV, sizes (rens r l) = sizes l
  | [] => by simp [rens, sizes]
  | v :: l => by simp [rens, sizes, ren_size r v, rens_size r l]
end
theorem ren_agg (r : Nat → Nat) (v : SV) : (ren r v).isAgg = v.isAgg := by cases v <;> rfl

mutual
theorem cells_ren (ρ : Nat → Pl) (r : Nat → Nat) : ∀ v : SV, cells ρ (ren r v) = cells (fun i => ρ (r i)) v
  | .bool _ | .int .. | .str _ | .ptr .. | .nilp | .slc .. | .nils | .vptr .. | .vslc .. | .nilfn | .map _ | .nilmap | .nilifc | .ints .. | .bools .. | .tuple _ => by simp [ren, cells]
  | .fn f a c => by simp only [ren, cells, vals_ren ρ r a, vals_ren ρ r c]
  | .arr s n f => by
    simp only [ren, cells]
    congr 1
    funext i
    rw [cells_ren ρ r (f i)]
  | .agg l => by simp only [ren, cells]; exact cellss_ren ρ r l
theorem cellss_ren (ρ : Nat → Pl) (r : Nat → Nat) : ∀ l : List SV, cellss ρ (rens r l) = cellss (fun i => ρ (r i)) l
  | [] => by simp [rens, cellss]
  | v :: l => by simp only [rens, cellss, cells_ren ρ r v, cellss_ren ρ r l]
theorem vals_ren (ρ : Nat → Pl) (r : Nat → Nat) : ∀ l : List SV, vals ρ (rens r l) = vals (fun i => ρ (r i)) l
  | [] => by simp [rens, vals]
  | .tuple l :: m => by simp only [rens, ren, vals, vals_ren ρ r l, vals_ren ρ r m]
  | .bool b :: m => by have h := cells_ren ρ r (.bool b); simp only [ren] at h; simp only [rens, ren, vals, vals_ren ρ r m, h]
  | .int k n :: m => by have h := cells_ren ρ r (.int k n); simp only [ren] at h; simp only [rens, ren, vals, vals_ren ρ r m, h]
  | .str s :: m => by have h := cells_ren ρ r (.str s); simp only [ren] at h; simp only [rens, ren, vals, vals_ren ρ r m, h]
  | .ptr b p :: m => by have h := cells_ren ρ r (.ptr b p); simp only [ren] at h; simp only [rens, ren, vals, vals_ren ρ r m, h]; rfl
  | .nilp :: m => by have h := cells_ren ρ r .nilp; simp only [ren] at h; simp only [rens, ren, vals, vals_ren ρ r m, h]
  | .slc b p s o n c :: m => by have h := cells_ren ρ r (.slc b p s o n c); simp only [ren] at h; simp only [rens, ren, vals, vals_ren ρ r m, h]; rfl
  | .nils :: m => by have h := cells_ren ρ r .nils; simp only [ren] at h; simp only [rens, ren, vals, vals_ren ρ r m, h]
  | .vptr a v :: m => by have h := cells_ren ρ r (.vptr a v); simp only [ren] at h; simp only [rens, ren, vals, vals_ren ρ r m, h]
  | .vslc d nl a n c f :: m => by have h := cells_ren ρ r (.vslc d nl a n c f); simp only [ren] at h; simp only [rens, ren, vals, vals_ren ρ r m, h]
  | .fn f a c :: m => by have h := cells_ren ρ r (.fn f a c); simp only [ren] at h; simp only [rens, ren, vals, vals_ren ρ r m, h]; rfl
  | .nilfn :: m => by have h := cells_ren ρ r .nilfn; simp only [ren] at h; simp only [rens, ren, vals, vals_ren ρ r m, h]
  | .map b :: m => by have h := cells_ren ρ r (.map b); simp only [ren] at h; simp only [rens, ren, vals, vals_ren ρ r m, h]; rfl
  | .nilmap :: m => by have h := cells_ren ρ r .nilmap; simp only [ren] at h; simp only [rens, ren, vals, vals_ren ρ r m, h]
  | .nilifc :: m => by have h := cells_ren ρ r .nilifc; simp only [ren] at h; simp only [rens, ren, vals, vals_ren ρ r m, h]
  | .ints k n f :: m => by have h := cells_ren ρ r (.ints k n f); simp only [ren] at h; simp only [rens, ren, vals, vals_ren ρ r m, h]
  | .bools n f :: m => by have h := cells_ren ρ r (.bools n f); simp only [ren] at h; simp only [rens, ren, vals, vals_ren ρ r m, h]
  | .arr s n f :: m => by have h := cells_ren ρ r (.arr s n f); simp only [ren] at h; simp only [rens, ren, vals, vals_ren ρ r m, h]; rfl
  | .agg l :: m => by have h := cells_ren ρ r (.agg l); simp only [ren] at h; simp only [rens, ren, vals, vals_ren ρ r m, h]; rfl
end
theorem val_ren (ρ : Nat → Pl) (r : Nat → Nat) (v : SV) : val ρ (ren r v) = val (fun i => ρ (r i)) v := by
  have := vals_ren ρ r [v]
  simpa [rens, vals_eq] using this

mutual
theorem wf_ren (r : Nat → Nat) {n : Nat → Prop} : ∀ {v : SV}, Wf I n (ren r v) ↔ Wf I (fun i => n (r i)) v
  | .bool _ | .int .. | .str _ | .ptr .. | .nilp | .slc .. | .nils | .vptr .. | .vslc .. | .nilfn | .map _ | .nilmap | .nilifc | .ints .. | .bools .. => by simp [ren, Wf]
  | .fn f a c => by simp only [ren, Wf, wfs_ren r (l := a), wfs_ren r (l := c)]
  | .arr s m f => by
    simp only [ren, Wf]
    exact forall_congr' fun i => imp_congr Iff.rfl (wf_ren r (v := f i))
  | .agg l => by simp only [ren, Wf]; exact wfs_ren r
  | .tuple l => by simp only [ren, Wf]; exact wfs_ren r
theorem wfs_ren (r : Nat → Nat) {n : Nat → Prop} : ∀ {l : List SV}, Wfs I n (rens r l) ↔ Wfs I (fun i => n (r i)) l
  | [] => by simp [rens, Wfs]
  | v :: l => by simp only [rens, Wfs, wf_ren r (v := v), wfs_ren r (l := l)]
end
theorem owf_ren (r : Nat → Nat) {n : Nat → Prop} {o : SObj} : OWf I n (renO r o) ↔ OWf I (fun i => n (r i)) o := by
  cases o with
  | cells g v => exact wf_ren r
  | map es =>
    simp only [renO, OWf, List.mem_map, forall_exists_index, and_imp, forall_apply_eq_imp_iff₂, wf_ren r]
  | dead => exact Iff.rfl

mutual
theorem ren_congr {r r' : Nat → Nat} {p : Nat → Prop} (h : ∀ i, p i → r i = r' i) : ∀ {v : SV}, Ids p v → ren r v = ren r' v
  | .bool _, _ | .int .., _ | .str _, _ | .nilp, _ | .nils, _ | .vptr .., _ | .vslc .., _ | .nilfn, _ | .nilmap, _ | .nilifc, _ | .ints .., _ | .bools .., _ => by simp [ren]
  | .ptr .., g => by simp only [Ids] at g; simp only [ren, h _ g]
  | .slc .., g => by simp only [Ids] at g; simp only [ren, h _ g]
  | .map _, g => by simp only [Ids] at g; simp only [ren, h _ g]
  | .fn f a c, g => by simp only [Ids] at g; simp only [ren, rens_congr h g.1, rens_congr h g.2]
  | .arr s m f, g => by
    simp only [Ids] at g
    simp only [ren]
    congr 1
    funext i
    exact ren_congr h (g i)
  | .agg l, g => by simp only [Ids] at g; simp only [ren, rens_congr h g]
  | .tuple l, g => by simp only [Ids] at g; simp only [ren, rens_congr h g]
theorem rens_congr {r r' : Nat → Nat} {p : Nat → Prop} (h : ∀ i, p i → r i = r' i) : ∀ {l : List SV}, Idss p l → rens r l = rens r' l
  | [], _ => rfl
  | v :: l, g => by simp only [Idss] at g; simp only [rens, ren_congr h g.1, rens_congr h g.2]
end
theorem renO_congr {r r' : Nat → Nat} {p : Nat → Prop} (h : ∀ i, p i → r i = r' i) {o : SObj} (g : OIds p o) : renO r o = renO r' o := by
  cases o with
  | cells g' v => simp only [renO, ren_congr h g]
  | map es =>
    simp only [renO]
    congr 1
    apply List.map_congr_left
    intro e he
    rw [ren_congr h (g e he).1, ren_congr h (g e he).2]
  | dead => rfl

/-- An object under other names lies as the object does. -/
theorem objAt_ren {ρ ρ0 : Nat → Pl} {r : Nat → Nat} {p : Nat → Prop} (hρ : ∀ i, p i → ρ (r i) = ρ0 i) {i : Nat} (hi : p i) {w : World} {o : SObj} (ho : OWf I p o) : ObjAt ρ (r i) w (renO r o) ↔ ObjAt ρ0 i w o := by
  have hb := hρ i hi
  cases o with
  | cells g v =>
    have e : cells ρ (ren r v) = cells ρ0 v := by rw [cells_ren]; exact cells_congr (I := I) (n := p) (fun b hb => hρ b hb) ho
    have es := ren_size r v
    simp only [renO, ObjAt, hb, e, es]
    have er : reachOf (ρ0 i) g (ren r v) = reachOf (ρ0 i) g v := by cases g <;> simp [reachOf, es]
    rw [er]
  | map es =>
    simp only [renO, ObjAt, hb, List.map_map]
    have e : List.map ((fun e => (val ρ e.1, val ρ e.2)) ∘ fun e => (ren r e.1, ren r e.2)) es = List.map (fun e => (val ρ0 e.1, val ρ0 e.2)) es := by
      apply List.map_congr_left
      intro x hx
      have := ho x hx
      simp only [Function.comp, val_ren]
      rw [val_congr (I := I) (n := p) (fun b hb => hρ b hb) this.1, val_congr (I := I) (n := p) (fun b hb => hρ b hb) this.2]
    rw [e]
  | dead => exact Iff.rfl

theorem getL_bl {r' : Nat → Nat} {rest : List (Nat × SObj)} {b : Nat} {o : SObj} : ∀ {bl : List (Nat × SObj)}, getL ((bl.map fun x => (r' x.1, renO r' x.2)) ++ rest) b = some o →
    (∃ i o0, (i, o0) ∈ bl ∧ getL bl i = some o0 ∧ r' i = b ∧ renO r' o0 = o) ∨ (getL rest b = some o ∧ ∀ x ∈ bl, r' x.1 ≠ b)
  | [], h => .inr ⟨h, by simp⟩
  | (i, o0) :: bl, h => by
    simp only [List.map_cons, List.cons_append, getL] at h
    cases e : Nat.beq (r' i) b <;> rw [e] at h
    · have hne : r' i ≠ b := fun e' => by rw [e', Nat.beq_refl] at e; cases e
      rcases getL_bl (bl := bl) (by simpa using h) with ⟨j, o1, h1, h2, h3, h4⟩ | ⟨h1, h2⟩
      · refine .inl ⟨j, o1, List.mem_cons_of_mem _ h1, ?_, h3, h4⟩
        have : i ≠ j := fun e' => hne (e' ▸ h3)
        have e2 : Nat.beq i j = false := beq_ne this
        unfold getL; rw [e2]; exact h2
      · refine .inr ⟨h1, fun x hx => ?_⟩
        rcases List.mem_cons.1 hx with rfl | hx
        · exact hne
        · exact h2 x hx
    · have := Nat.eq_of_beq_eq_true e
      subst this
      simp only [cond_true, renO_live] at h
      cases hl : o0.live with
      | none => rw [hl] at h; cases h
      | some o2 =>
        have e3 := live_some hl
        subst e3
        rw [hl] at h
        exact .inl ⟨i, o2, by simp, by simp [getL, hl], rfl, Option.some.inj h⟩
theorem getL_none_of {bl rest : List (Nat × SObj)} {i : Nat} (h : ∀ x ∈ bl, x.1 ≠ i) : getL (bl ++ rest) i = getL rest i := by
  induction bl with
  | nil => rfl
  | cons x bl ih =>
    obtain ⟨c, o⟩ := x
    have e2 : Nat.beq c i = false := beq_ne (h (c, o) (by simp))
    have e3 : getL ((c, o) :: bl ++ rest) i = bif Nat.beq c i then o.live else getL (bl ++ rest) i := rfl
    rw [e3, e2]
    exact ih fun x hx => h x (List.mem_cons_of_mem _ hx)
theorem getL_app_of {bl rest : List (Nat × SObj)} {i : Nat} {o : SObj} (h : getL bl i = some o) : getL (bl ++ rest) i = some o := by
  induction bl with
  | nil => simp [getL] at h
  | cons x bl ih =>
    obtain ⟨c, o'⟩ := x
    simp only [List.cons_append, getL] at h ⊢
    cases e : Nat.beq c i <;> rw [e] at h
    · exact ih h
    · exact h

/-- **OTHER NAMES**: a contract on blocks numbered below m gives one on any blocks; new blocks that are not named any more are forgotten. -/
theorem scalls_ren {f : FuncId} {args0 : List SV} {σ0 σ1 σ : Heap} {v0 : SV} (h : SCalls P I f args0 σ0 v0 σ1) {m : Nat} (hm : σ0.next = m) {r r' : Nat → Nat}
    (hinj : ∀ i j, i < m → j < m → r i = r j → i = j) (hargs : ∀ x ∈ args0, Ids (· < m) x) (hob : ∀ i o, σ0.get i = some o → i < m ∧ OIds (· < m) o)
    (hσ : ∀ i o, σ0.get i = some o → σ.get (r i) = some (renO r o)) {nw : List Nat} (hr' : ∀ i, i < m → r' i = r i) (hnw : ∀ (j i : Nat), nw[j]? = some i → m ≤ i ∧ i < σ1.next ∧ r' i = σ.next + j)
    {K : Nat → Prop} (hK : ∀ i, K i ↔ i < m ∨ i ∈ nw) (hv : Ids K v0) {bl : List (Nat × SObj)} (hbl : ∀ x ∈ bl, K x.1 ∧ OIds K x.2) (hget : ∀ i o, K i → getL (bl ++ σ0.blocks) i = some o → σ1.get i = some o) :
    SCalls P I f (args0.map (ren r)) σ (ren r' v0) ⟨σ.next + nw.length, (bl.map fun x => (r' x.1, renO r' x.2)) ++ σ.blocks⟩ := by
  subst hm
  intro ρ D w hh hfr hwf
  have hD0 : HRel I (fun i => ρ (r i)) (fun i => D (r i) ∧ i < σ0.next) σ0.get w := by
    have wfo : ∀ i o, σ0.get i = some o → (D (r i) ∧ i < σ0.next) ∧ OWf I (fun i => D (r i) ∧ i < σ0.next) o := fun i o hi => by
      obtain ⟨h1, h2⟩ := hh.wf.dom _ _ (hσ i o hi)
      obtain ⟨h3, h4⟩ := hob i o hi
      exact ⟨⟨h1, h3⟩, OWf.andIds ((owf_ren r).1 h2) h4⟩
    refine ⟨⟨fun i o hi => wfo i o hi⟩, fun i o hi => ?_, fun i o j o' hi hj e => hinj i j (hob i o hi).1 (hob j o' hj).1 (hh.inj _ _ _ _ (hσ i o hi) (hσ j o' hj) e), hh.imm, fun i o hi => hh.off _ _ (hσ i o hi)⟩
    obtain ⟨h1, h2⟩ := wfo i o hi
    exact (objAt_ren (I := I) (p := fun i => D (r i) ∧ i < σ0.next) (fun _ _ => rfl) h1 h2).1 (hh.obj _ _ (hσ i o hi))
  have hav : (args0.map (ren r)).map (val ρ) = args0.map (val fun i => ρ (r i)) := by
    rw [List.map_map]; apply List.map_congr_left; intro x _; exact val_ren ρ r x
  rw [hav]
  refine (h _ _ w hD0 (fun c hc _ hd => by omega) (fun x hx => Wf.andIds ((wf_ren r).1 (hwf _ (List.mem_map_of_mem hx))) (hargs x hx))).mono ?_
  rintro e w' ⟨ρ1, rfl, hx, hh', hwv⟩
  -- where the blocks lie now
  let ρ' : Nat → Pl := fun c => if σ.next ≤ c then (match nw[c - σ.next]? with | some i => ρ1 i | none => ρ c) else ρ c
  have new : ∀ (j i : Nat), nw[j]? = some i → ρ' (σ.next + j) = ρ1 i := fun j i hj => by
    simp only [ρ', Nat.le_add_right, if_true, Nat.add_sub_cancel_left, hj]
  have old : ∀ c, D c → ρ' c = ρ c := fun c hc => by
    by_cases h1 : σ.next ≤ c
    · have h2 : σ.next + nw.length ≤ c := by
        by_cases h2 : c < σ.next + nw.length
        · exact absurd hc (hfr c h1 h2)
        · omega
      simp only [ρ', h1, if_true]
      rw [List.getElem?_eq_none (by omega)]
    · simp only [ρ', h1, if_false]
  have oldi : ∀ i, D (r i) ∧ i < σ0.next → ρ' (r' i) = ρ1 i := fun i hi => by
    rw [hr' i hi.2, old _ hi.1]; exact (hx.agree i hi).symm
  have newi : ∀ i, i ∈ nw → ρ' (r' i) = ρ1 i := fun i hi => by
    obtain ⟨j, hj⟩ := List.getElem?_of_mem hi
    rw [(hnw j i hj).2.2, new j i hj]
  have all : ∀ i, plus (fun i => D (r i) ∧ i < σ0.next) σ0.next σ1.next i ∧ K i → ρ' (r' i) = ρ1 i := fun i hi => by
    rcases (hK i).1 hi.2 with h1 | h1
    · rcases hi.1 with h2 | h2
      · exact oldi i h2
      · omega
    · exact newi i h1
  have dom' : ∀ i, plus (fun i => D (r i) ∧ i < σ0.next) σ0.next σ1.next i ∧ K i → plus D σ.next (σ.next + nw.length) (r' i) := fun i hi => by
    rcases (hK i).1 hi.2 with h1 | h1
    · rcases hi.1 with h2 | h2
      · rw [hr' i h1]; exact .inl h2.1
      · omega
    · obtain ⟨j, hj⟩ := List.getElem?_of_mem h1
      have hlt := (List.getElem?_eq_some_iff.1 hj).1
      rw [(hnw j i hj).2.2]; exact .inr (by omega)
  have parts : ∀ b o, getL ((bl.map fun x => (r' x.1, renO r' x.2)) ++ σ.blocks) b = some o →
      (∃ i o0, K i ∧ σ1.get i = some o0 ∧ OIds K o0 ∧ r' i = b ∧ renO r' o0 = o) ∨ (σ.get b = some o ∧ ∀ i o0, σ0.get i = some o0 → r i ≠ b) := by
    intro b o hb
    rcases getL_bl hb with ⟨i, o0, h1, h2, h3, h4⟩ | ⟨h1, h2⟩
    · obtain ⟨h5, h6⟩ := hbl _ h1
      exact .inl ⟨i, o0, h5, hget i o0 h5 (getL_app_of h2), h6, h3, h4⟩
    · by_cases hc : ∃ i o0, σ0.get i = some o0 ∧ r i = b
      · obtain ⟨i, o0, h3, h4⟩ := hc
        obtain ⟨h5, h6⟩ := hob i o0 h3
        have h7 : K i := (hK i).2 (.inl h5)
        refine .inl ⟨i, o0, h7, hget i o0 h7 ?_, h6.mono fun c hc => (hK c).2 (.inl hc), by rw [hr' i h5, h4], ?_⟩
        · rw [getL_none_of]
          · exact h3
          · rintro x hx rfl
            exact h2 x hx (by rw [hr' _ h5, h4])
        · have h8 := hσ i o0 h3
          rw [h4] at h8
          have h9 : σ.get b = some o := h1
          rw [h9] at h8
          rw [Option.some.inj h8]
          exact renO_congr (fun c hc => hr' c hc) h6
      · exact .inr ⟨h1, fun i o0 h3 h4 => hc ⟨i, o0, h3, h4⟩⟩
  have far : ∀ b o, σ.get b = some o → (∀ i o0, σ0.get i = some o0 → r i ≠ b) → w'.heap[(ρ b).blk]? = w.heap[(ρ b).blk]? := fun b o hb hn =>
    hx.frame _ (hh.obj b o hb).lt fun c oc hc e => hn c oc hc (hh.inj _ _ _ _ (hσ c oc hc) hb e)
  have apart : ∀ i o0 b o, σ1.get i = some o0 → σ.get b = some o → (∀ i o0, σ0.get i = some o0 → r i ≠ b) → (ρ1 i).blk = (ρ b).blk → False := fun i o0 b o h1 h2 h3 e => by
    have hlt := (hh.obj b o h2).lt
    rcases hx.img i o0 h1 with h4 | ⟨b0, o1, h5, h6⟩
    · omega
    · exact h3 b0 o1 h5 (hh.inj _ _ _ _ (hσ b0 o1 h5) h2 (h6.trans e))
  have wf1 : ∀ i o0, σ1.get i = some o0 → OIds K o0 → K i → OWf I (fun i => plus (fun i => D (r i) ∧ i < σ0.next) σ0.next σ1.next i ∧ K i) o0 ∧ (plus (fun i => D (r i) ∧ i < σ0.next) σ0.next σ1.next i ∧ K i) := fun i o0 h1 h2 h3 => by
    obtain ⟨h4, h5⟩ := hh'.wf.dom i o0 h1
    exact ⟨OWf.andIds h5 h2, h4, h3⟩
  have hwv2 := Wf.andIds hwv hv
  refine ⟨ρ', ?_, ?_, ?_, ?_⟩
  · rw [val_ren, val_congr (I := I) (n := fun i => plus (fun i => D (r i) ∧ i < σ0.next) σ0.next σ1.next i ∧ K i) (fun i hi => all i hi) hwv2]
  · refine ⟨fun _ h => .inl h, old, hx.os, hx.tape, hx.output, hx.size, fun i hi hn => hx.frame i hi fun b o hb e => hn (r b) _ (hσ b o hb) e, fun b o hb => ?_⟩
    rcases parts b o hb with ⟨i, o0, h1, h2, h3, rfl, rfl⟩ | ⟨h1, h2⟩
    · rw [all i (wf1 i o0 h2 h3 h1).2]
      rcases hx.img i o0 h2 with h4 | ⟨b0, o1, h5, h6⟩
      · exact .inl h4
      · exact .inr ⟨r b0, _, hσ b0 o1 h5, h6⟩
    · rw [old b (hh.wf.dom b o h1).1]
      exact .inr ⟨b, o, h1, rfl⟩
  · refine ⟨⟨fun b o hb => ?_⟩, fun b o hb => ?_, fun b o b' o' hb hb' e => ?_, hh'.imm, fun b o hb => ?_⟩
    · rcases parts b o hb with ⟨i, o0, h1, h2, h3, rfl, rfl⟩ | ⟨h1, h2⟩
      · obtain ⟨h4, h5⟩ := wf1 i o0 h2 h3 h1
        exact ⟨dom' i h5, (owf_ren r').2 (h4.mono' dom')⟩
      · exact ⟨.inl (hh.wf.dom b o h1).1, (hh.wf.dom b o h1).2.mono' fun c hc => .inl hc⟩
    · rcases parts b o hb with ⟨i, o0, h1, h2, h3, rfl, rfl⟩ | ⟨h1, h2⟩
      · obtain ⟨h4, h5⟩ := wf1 i o0 h2 h3 h1
        exact (objAt_ren (I := I) (p := fun i => plus (fun i => D (r i) ∧ i < σ0.next) σ0.next σ1.next i ∧ K i) all h5 h4).2 (hh'.obj i o0 h2)
      · exact ObjAt.congr (I := I) (hh.obj b o h1) (hh.wf.dom b o h1).2 old (hh.wf.dom b o h1).1 (far b o h1 h2)
    · rcases parts b o hb with ⟨i, o0, h1, h2, h3, rfl, rfl⟩ | ⟨h1, h2⟩ <;> rcases parts b' o' hb' with ⟨i', o0', h1', h2', h3', rfl, rfl⟩ | ⟨h1', h2'⟩
      · rw [all i (wf1 i o0 h2 h3 h1).2, all i' (wf1 i' o0' h2' h3' h1').2] at e
        rw [hh'.inj i o0 i' o0' h2 h2' e]
      · rw [all i (wf1 i o0 h2 h3 h1).2, old b' (hh.wf.dom b' o' h1').1] at e
        exact (apart i o0 b' o' h2 h1' h2' e).elim
      · rw [all i' (wf1 i' o0' h2' h3' h1').2, old b (hh.wf.dom b o h1).1] at e
        exact (apart i' o0' b o h2' h1 h2 e.symm).elim
      · rw [old b (hh.wf.dom b o h1).1, old b' (hh.wf.dom b' o' h1').1] at e
        exact hh.inj b o b' o' h1 h1' e
    · rcases parts b o hb with ⟨i, o0, h1, h2, h3, rfl, rfl⟩ | ⟨h1, h2⟩
      · rw [all i (wf1 i o0 h2 h3 h1).2]; exact hh'.off i o0 h2
      · rw [old b (hh.wf.dom b o h1).1]; exact hh.off b o h1
  · exact (wf_ren r').2 (hwv2.mono dom')
end
end Go.Sh
