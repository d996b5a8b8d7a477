/-
  The shadow interpreter of Go code, with its proofs (three texts).
-/
import Derived.Test.YtigomjcmpafeeaaSkB
import Derived.ReadAgain
import Derived.Deep.Slices
set_option linter.unusedSimpArgs false
set_option linter.unusedVariables false
/-! Sk21 -/
namespace Go.Sh
open Go

section
variable {α : Type} {P : Program} {I : Imm}

/-! ### Which ids a value names -/
mutual
def Ids : (Nat → Prop) → SV → Prop
  | p, .ptr b _ => p b
  | p, .slc b _ _ _ _ _ => p b
  | p, .map b => p b
  | p, .fn _ a c => Idss p a ∧ Idss p c
  | p, .arr _ _ f => ∀ i, Ids p (f i)
  | p, .agg l => Idss p l
  | p, .tuple l => Idss p l
  | _, _ => True
def Idss : (Nat → Prop) → List SV → Prop
  | _, [] => True
  | p, v :: l => Ids p v ∧ Idss p l
end
def OIds (p : Nat → Prop) : SObj → Prop
  | .cells _ v => Ids p v
  | .map es => ∀ e ∈ es, Ids p e.1 ∧ Ids p e.2
  | .dead => True

mutual
theorem Wf.andIds {n p : Nat → Prop} : ∀ {v : SV}, Wf I n v → Ids p v → Wf I (fun c => n c ∧ p c) v
  | .bool _, _, _ | .int .., _, _ | .str _, _, _ | .nilp, _, _ | .nils, _, _ | .nilfn, _, _ | .nilmap, _, _ | .nilifc, _, _ | .ints .., _, _ | .bools .., _, _ => by simp [Wf]
  | .ptr .., g, h => by simp only [Wf, Ids] at *; exact ⟨g, h⟩
  | .slc .., g, h => by simp only [Wf, Ids] at *; exact ⟨g, h⟩
  | .map _, g, h => by simp only [Wf, Ids] at *; exact ⟨g, h⟩
  | .vptr a v, g, _ => by simp only [Wf] at *; exact g
  | .vslc d nl a len cap f, g, _ => by simp only [Wf] at *; exact g
  | .fn _ a c, g, h => by simp only [Wf, Ids] at *; exact ⟨Wfs.andIds g.1 h.1, Wfs.andIds g.2 h.2⟩
  | .arr _ _ f, g, h => by simp only [Wf, Ids] at *; exact fun i hi => Wf.andIds (g i hi) (h i)
  | .agg l, g, h => by simp only [Wf, Ids] at *; exact Wfs.andIds g h
  | .tuple l, g, h => by simp only [Wf, Ids] at *; exact Wfs.andIds g h
theorem Wfs.andIds {n p : Nat → Prop} : ∀ {l : List SV}, Wfs I n l → Idss p l → Wfs I (fun c => n c ∧ p c) l
  | [], _, _ => by simp [Wfs]
  | v :: l, g, h => by simp only [Wfs, Idss] at *; exact ⟨Wf.andIds g.1 h.1, Wfs.andIds g.2 h.2⟩
end
theorem OWf.andIds {n p : Nat → Prop} {o : SObj} (g : OWf I n o) (h : OIds p o) : OWf I (fun c => n c ∧ p c) o := by
  cases o with
  | cells _ v => exact Wf.andIds g h
  | map es => exact fun e he => ⟨Wf.andIds (g e he).1 (h e he).1, Wf.andIds (g e he).2 (h e he).2⟩
  | dead => trivial
theorem OWf.mono' {n m : Nat → Prop} {o : SObj} (g : OWf I n o) (h : ∀ c, n c → m c) : OWf I m o := OWf.mono h g
mutual
theorem Ids.mono {p q : Nat → Prop} (h : ∀ b, p b → q b) : ∀ {v : SV}, Ids p v → Ids q v
  | .bool _, _ | .int .., _ | .str _, _ | .nilp, _ | .nils, _ | .nilfn, _ | .nilmap, _ | .nilifc, _ | .ints .., _ | .bools .., _ | .vptr .., _ | .vslc .., _ => by simp [Ids]
  | .ptr .., g => by simp only [Ids] at *; exact h _ g
  | .slc .., g => by simp only [Ids] at *; exact h _ g
  | .map _, g => by simp only [Ids] at *; exact h _ g
  | .fn _ a c, g => by simp only [Ids] at *; exact ⟨Idss.mono h g.1, Idss.mono h g.2⟩
  | .arr _ _ f, g => by simp only [Ids] at *; exact fun i => Ids.mono h (g i)
  | .agg l, g => by simp only [Ids] at *; exact Idss.mono h g
  | .tuple l, g => by simp only [Ids] at *; exact Idss.mono h g
theorem Idss.mono {p q : Nat → Prop} (h : ∀ b, p b → q b) : ∀ {l : List SV}, Idss p l → Idss q l
  | [], _ => by simp [Idss]
  | v :: l, g => by simp only [Idss] at *; exact ⟨Ids.mono h g.1, Idss.mono h g.2⟩
end
theorem OIds.mono {p q : Nat → Prop} (h : ∀ b, p b → q b) {o : SObj} (g : OIds p o) : OIds q o := by
  cases o with
  | cells _ v => exact Ids.mono h g
  | map es => exact fun e he => ⟨Ids.mono h (g e he).1, Ids.mono h (g e he).2⟩
  | dead => trivial

/-! ### Other names -/
mutual
def ren (r : Nat → Nat) : SV → SV
  | .bool b => .bool b
  | .int k n => .int k n
  | .str s => .str s
  | .ptr b p => .ptr (r b) p
  | .nilp => .nilp
  | .slc b p s o n c => .slc (r b) p s o n c
  | .nils => .nils
  | .vptr a v => .vptr a v
  | .vslc d nl a n c f => .vslc d nl a n c f
  | .fn f a c => .fn f (rens r a) (rens r c)
  | .nilfn => .nilfn
  | .map b => .map (r b)
  | .nilmap => .nilmap
  | .nilifc => .nilifc
  | .ints k n f => .ints k n f
  | .bools n f => .bools n f
  | .arr s n f => .arr s n fun i => ren r (f i)
  | .agg l => .agg (rens r l)
  | .tuple l => .tuple (rens r l)
def rens (r : Nat → Nat) : List SV → List SV
  | [] => []
  | v :: l => ren r v :: rens r l
end
theorem rens_eq (r : Nat → Nat) : ∀ l, rens r l = l.map (ren r)
  | [] => rfl
  | v :: l => by simp [rens, rens_eq r l]
def renO (r : Nat → Nat) : SObj → SObj
  | .cells g v => .cells g (ren r v)
  | .map es => .map (es.map fun e => (ren r e.1, ren r e.2))
  | .dead => .dead
theorem renO_live (r : Nat → Nat) (o : SObj) : (renO r o).live = o.live.map (renO r) := by cases o <;> rfl

mutual
theorem ren_size (r : Nat → Nat) : ∀ v : SV, (ren r v).size = v.size
  | .bool _ | .int .. | .str _ | .ptr .. | .nilp | .slc .. | .nils | .vptr .. | .vslc .. | .nilfn | .map _ | .nilmap | .nilifc | .ints .. | .bools .. | .tuple _ | .fn .. | .arr .. => by simp [ren, SV.size]
  | .agg l => by simp only [ren, SV.size]; exact rens_size r l
theorem rens_size (r : Nat → Nat) : ∀ l : List SV, sizes (rens r l) = sizes l
  | [] => by simp [rens, sizes]
  | v :: l => by simp [rens, sizes, ren_size r v, rens_size r l]
end
theorem ren_agg (r : Nat → Nat) (v : SV) : (ren r v).isAgg = v.isAgg := by cases v <;> rfl

mutual
theorem cells_ren (ρ : Nat → Pl) (r : Nat → Nat) : ∀ v : SV, cells ρ (ren r v) = cells (fun i => ρ (r i)) v
  | .bool _ | .int .. | .str _ | .ptr .. | .nilp | .slc .. | .nils | .vptr .. | .vslc .. | .nilfn | .map _ | .nilmap | .nilifc | .ints .. | .bools .. | .tuple _ => by simp [ren, cells]
  | .fn f a c => by simp only [ren, cells, vals_ren ρ r a, vals_ren ρ r c]
  | .arr s n f => by
    simp only [ren, cells]
    congr 1
    funext i
    rw [cells_ren ρ r (f i)]
  | .agg l => by simp only [ren, cells]; exact cellss_ren ρ r l
theorem cellss_ren (ρ : Nat → Pl) (r : Nat → Nat) : ∀ l : List SV, cellss ρ (rens r l) = cellss (fun i => ρ (r i)) l
  | [] => by simp [rens, cellss]
  | v :: l => by simp only [rens, cellss, cells_ren ρ r v, cellss_ren ρ r l]
theorem vals_ren (ρ : Nat → Pl) (r : Nat → Nat) : ∀ l : List SV, vals ρ (rens r l) = vals (fun i => ρ (r i)) l
  | [] => by simp [rens, vals]
  | .tuple l :: m => by simp only [rens, ren, vals, vals_ren ρ r l, vals_ren ρ r m]
  | .bool b :: m => by have h := cells_ren ρ r (.bool b); simp only [ren] at h; simp only [rens, ren, vals, vals_ren ρ r m, h]
  | .int k n :: m => by have h := cells_ren ρ r (.int k n); simp only [ren] at h; simp only [rens, ren, vals, vals_ren ρ r m, h]
  | .str s :: m => by have h := cells_ren ρ r (.str s); simp only [ren] at h; simp only [rens, ren, vals, vals_ren ρ r m, h]
  | .ptr b p :: m => by have h := cells_ren ρ r (.ptr b p); simp only [ren] at h; simp only [rens, ren, vals, vals_ren ρ r m, h]; rfl
  | .nilp :: m => by have h := cells_ren ρ r .nilp; simp only [ren] at h; simp only [rens, ren, vals, vals_ren ρ r m, h]
  | .slc b p s o n c :: m => by have h := cells_ren ρ r (.slc b p s o n c); simp only [ren] at h; simp only [rens, ren, vals, vals_ren ρ r m, h]; rfl
  | .nils :: m => by have h := cells_ren ρ r .nils; simp only [ren] at h; simp only [rens, ren, vals, vals_ren ρ r m, h]
  | .vptr a v :: m => by have h := cells_ren ρ r (.vptr a v); simp only [ren] at h; simp only [rens, ren, vals, vals_ren ρ r m, h]
  | .vslc d nl a n c f :: m => by have h := cells_ren ρ r (.vslc d nl a n c f); simp only [ren] at h; simp only [rens, ren, vals, vals_ren ρ r m, h]
  | .fn f a c :: m => by have h := cells_ren ρ r (.fn f a c); simp only [ren] at h; simp only [rens, ren, vals, vals_ren ρ r m, h]; rfl
  | .nilfn :: m => by have h := cells_ren ρ r .nilfn; simp only [ren] at h; simp only [rens, ren, vals, vals_ren ρ r m, h]
  | .map b :: m => by have h := cells_ren ρ r (.map b); simp only [ren] at h; simp only [rens, ren, vals, vals_ren ρ r m, h]; rfl
  | .nilmap :: m => by have h := cells_ren ρ r .nilmap; simp only [ren] at h; simp only [rens, ren, vals, vals_ren ρ r m, h]
  | .nilifc :: m => by have h := cells_ren ρ r .nilifc; simp only [ren] at h; simp only [rens, ren, vals, vals_ren ρ r m, h]
  | .ints k n f :: m => by have h := cells_ren ρ r (.ints k n f); simp only [ren] at h; simp only [rens, ren, vals, vals_ren ρ r m, h]
  | .bools n f :: m => by have h := cells_ren ρ r (.bools n f); simp only [ren] at h; simp only [rens, ren, vals, vals_ren ρ r m, h]
  | .arr s n f :: m => by have h := cells_ren ρ r (.arr s n f); simp only [ren] at h; simp only [rens, ren, vals, vals_ren ρ r m, h]; rfl
  | .agg l :: m => by have h := cells_ren ρ r (.agg l); simp only [ren] at h; simp only [rens, ren, vals, vals_ren ρ r m, h]; rfl
end
theorem val_ren (ρ : Nat → Pl) (r : Nat → Nat) (v : SV) : val ρ (ren r v) = val (fun i => ρ (r i)) v := by
  have := vals_ren ρ r [v]
  simpa [rens, vals_eq] using this

mutual
theorem wf_ren (r : Nat → Nat) {n : Nat → Prop} : ∀ {v : SV}, Wf I n (ren r v) ↔ Wf I (fun i => n (r i)) v
  | .bool _ | .int .. | .str _ | .ptr .. | .nilp | .slc .. | .nils | .vptr .. | .vslc .. | .nilfn | .map _ | .nilmap | .nilifc | .ints .. | .bools .. => by simp [ren, Wf]
  | .fn f a c => by simp only [ren, Wf, wfs_ren r (l := a), wfs_ren r (l := c)]
  | .arr s m f => by
    simp only [ren, Wf]
    exact forall_congr' fun i => imp_congr Iff.rfl (wf_ren r (v := f i))
  | .agg l => by simp only [ren, Wf]; exact wfs_ren r
  | .tuple l => by simp only [ren, Wf]; exact wfs_ren r
theorem wfs_ren (r : Nat → Nat) {n : Nat → Prop} : ∀ {l : List SV}, Wfs I n (rens r l) ↔ Wfs I (fun i => n (r i)) l
  | [] => by simp [rens, Wfs]
  | v :: l => by simp only [rens, Wfs, wf_ren r (v := v), wfs_ren r (l := l)]
end
theorem owf_ren (r : Nat → Nat) {n : Nat → Prop} {o : SObj} : OWf I n (renO r o) ↔ OWf I (fun i => n (r i)) o := by
  cases o with
  | cells g v => exact wf_ren r
  | map es =>
    simp only [renO, OWf, List.mem_map, forall_exists_index, and_imp, forall_apply_eq_imp_iff₂, wf_ren r]
  | dead => exact Iff.rfl

mutual
theorem ren_congr {r r' : Nat → Nat} {p : Nat → Prop} (h : ∀ i, p i → r i = r' i) : ∀ {v : SV}, Ids p v → ren r v = ren r' v
  | .bool _, _ | .int .., _ | .str _, _ | .nilp, _ | .nils, _ | .vptr .., _ | .vslc .., _ | .nilfn, _ | .nilmap, _ | .nilifc, _ | .ints .., _ | .bools .., _ => by simp [ren]
  | .ptr .., g => by simp only [Ids] at g; simp only [ren, h _ g]
  | .slc .., g => by simp only [Ids] at g; simp only [ren, h _ g]
  | .map _, g => by simp only [Ids] at g; simp only [ren, h _ g]
  | .fn f a c, g => by simp only [Ids] at g; simp only [ren, rens_congr h g.1, rens_congr h g.2]
  | .arr s m f, g => by
    simp only [Ids] at g
    simp only [ren]
    congr 1
    funext i
    exact ren_congr h (g i)
  | .agg l, g => by simp only [Ids] at g; simp only [ren, rens_congr h g]
  | .tuple l, g => by simp only [Ids] at g; simp only [ren, rens_congr h g]
theorem rens_congr {r r' : Nat → Nat} {p : Nat → Prop} (h : ∀ i, p i → r i = r' i) : ∀ {l : List SV}, Idss p l → rens r l = rens r' l
  | [], _ => rfl
  | v :: l, g => by simp only [Idss] at g; simp only [rens, ren_congr h g.1, rens_congr h g.2]
end
theorem renO_congr {r r' : Nat → Nat} {p : Nat → Prop} (h : ∀ i, p i → r i = r' i) {o : SObj} (g : OIds p o) : renO r o = renO r' o := by
  cases o with
  | cells g' v => simp only [renO, ren_congr h g]
  | map es =>
    simp only [renO]
    congr 1
    apply List.map_congr_left
    intro e he
    rw [ren_congr h (g e he).1, ren_congr h (g e he).2]
  | dead => rfl

/-- An object under other names lies as the object does. -/
theorem objAt_ren {ρ ρ0 : Nat → Pl} {r : Nat → Nat} {p : Nat → Prop} (hρ : ∀ i, p i → ρ (r i) = ρ0 i) {i : Nat} (hi : p i) {w : World} {o : SObj} (ho : OWf I p o) : ObjAt ρ (r i) w (renO r o) ↔ ObjAt ρ0 i w o := by
  have hb := hρ i hi
  cases o with
  | cells g v =>
    have e : cells ρ (ren r v) = cells ρ0 v := by rw [cells_ren]; exact cells_congr (I := I) (n := p) (fun b hb => hρ b hb) ho
    have es := ren_size r v
    simp only [renO, ObjAt, hb, e, es]
    have er : reachOf (ρ0 i) g (ren r v) = reachOf (ρ0 i) g v := by cases g <;> simp [reachOf, es]
    rw [er]
  | map es =>
    simp only [renO, ObjAt, hb, List.map_map]
    have e : List.map ((fun e => (val ρ e.1, val ρ e.2)) ∘ fun e => (ren r e.1, ren r e.2)) es = List.map (fun e => (val ρ0 e.1, val ρ0 e.2)) es := by
      apply List.map_congr_left
      intro x hx
      have := ho x hx
      simp only [Function.comp, val_ren]
      rw [val_congr (I := I) (n := p) (fun b hb => hρ b hb) this.1, val_congr (I := I) (n := p) (fun b hb => hρ b hb) this.2]
    rw [e]
  | dead => exact Iff.rfl

theorem getL_bl {r' : Nat → Nat} {rest : List (Nat × SObj)} {b : Nat} {o : SObj} : ∀ {bl : List (Nat × SObj)}, getL ((bl.map fun x => (r' x.1, renO r' x.2)) ++ rest) b = some o →
    (∃ i o0, (i, o0) ∈ bl ∧ getL bl i = some o0 ∧ r' i = b ∧ renO r' o0 = o) ∨ (getL rest b = some o ∧ ∀ x ∈ bl, r' x.1 ≠ b)
  | [], h => .inr ⟨h, by simp⟩
  | (i, o0) :: bl, h => by
    simp only [List.map_cons, List.cons_append, getL] at h
    cases e : Nat.beq (r' i) b <;> rw [e] at h
    · have hne : r' i ≠ b := fun e' => by rw [e', Nat.beq_refl] at e; cases e
      rcases getL_bl (bl := bl) (by simpa using h) with ⟨j, o1, h1, h2, h3, h4⟩ | ⟨h1, h2⟩
      · refine .inl ⟨j, o1, List.mem_cons_of_mem _ h1, ?_, h3, h4⟩
        have : i ≠ j := fun e' => hne (e' ▸ h3)
        have e2 : Nat.beq i j = false := beq_ne this
        unfold getL; rw [e2]; exact h2
      · refine .inr ⟨h1, fun x hx => ?_⟩
        rcases List.mem_cons.1 hx with rfl | hx
        · exact hne
        · exact h2 x hx
    · have := Nat.eq_of_beq_eq_true e
      subst this
      simp only [cond_true, renO_live] at h
      cases hl : o0.live with
      | none => rw [hl] at h; cases h
      | some o2 =>
        have e3 := live_some hl
        subst e3
        rw [hl] at h
        exact .inl ⟨i, o2, by simp, by simp [getL, hl], rfl, Option.some.inj h⟩
theorem getL_none_of {bl rest : List (Nat × SObj)} {i : Nat} (h : ∀ x ∈ bl, x.1 ≠ i) : getL (bl ++ rest) i = getL rest i := by
  induction bl with
  | nil => rfl
  | cons x bl ih =>
    obtain ⟨c, o⟩ := x
    have e2 : Nat.beq c i = false := beq_ne (h (c, o) (by simp))
    have e3 : getL ((c, o) :: bl ++ rest) i = bif Nat.beq c i then o.live else getL (bl ++ rest) i := rfl
    rw [e3, e2]
    exact ih fun x hx => h x (List.mem_cons_of_mem _ hx)
theorem getL_app_of {bl rest : List (Nat × SObj)} {i : Nat} {o : SObj} (h : getL bl i = some o) : getL (bl ++ rest) i = some o := by
  induction bl with
  | nil => simp [getL] at h
  | cons x bl ih =>
    obtain ⟨c, o'⟩ := x
    simp only [List.cons_append, getL] at h ⊢
    cases e : Nat.beq c i <;> rw [e] at h
    · exact ih h
    · exact h

/-- **OTHER NAMES**: a contract on blocks numbered below m gives one on any blocks; new blocks that are not named any more are forgotten. -/
theorem scalls_ren {f : FuncId} {args0 : List SV} {σ0 σ1 σ : Heap} {v0 : SV} (h : SCalls P I f args0 σ0 v0 σ1) {m : Nat} (hm : σ0.next = m) {r r' : Nat → Nat}
    (hinj : ∀ i j, i < m → j < m → r i = r j → i = j) (hargs : ∀ x ∈ args0, Ids (· < m) x) (hob : ∀ i o, σ0.get i = some o → i < m ∧ OIds (· < m) o)
    (hσ : ∀ i o, σ0.get i = some o → σ.get (r i) = some (renO r o)) {nw : List Nat} (hr' : ∀ i, i < m → r' i = r i) (hnw : ∀ (j i : Nat), nw[j]? = some i → m ≤ i ∧ i < σ1.next ∧ r' i = σ.next + j)
    {K : Nat → Prop} (hK : ∀ i, K i ↔ i < m ∨ i ∈ nw) (hv : Ids K v0) {bl : List (Nat × SObj)} (hbl : ∀ x ∈ bl, K x.1 ∧ OIds K x.2) (hget : ∀ i o, K i → getL (bl ++ σ0.blocks) i = some o → σ1.get i = some o) :
    SCalls P I f (args0.map (ren r)) σ (ren r' v0) ⟨σ.next + nw.length, (bl.map fun x => (r' x.1, renO r' x.2)) ++ σ.blocks⟩ := by
  subst hm
  intro ρ D w hh hfr hwf
  have hD0 : HRel I (fun i => ρ (r i)) (fun i => D (r i) ∧ i < σ0.next) σ0.get w := by
    have wfo : ∀ i o, σ0.get i = some o → (D (r i) ∧ i < σ0.next) ∧ OWf I (fun i => D (r i) ∧ i < σ0.next) o := fun i o hi => by
      obtain ⟨h1, h2⟩ := hh.wf.dom _ _ (hσ i o hi)
      obtain ⟨h3, h4⟩ := hob i o hi
      exact ⟨⟨h1, h3⟩, OWf.andIds ((owf_ren r).1 h2) h4⟩
    refine ⟨⟨fun i o hi => wfo i o hi⟩, fun i o hi => ?_, fun i o j o' hi hj e => hinj i j (hob i o hi).1 (hob j o' hj).1 (hh.inj _ _ _ _ (hσ i o hi) (hσ j o' hj) e), hh.imm, fun i o hi => hh.off _ _ (hσ i o hi)⟩
    obtain ⟨h1, h2⟩ := wfo i o hi
    exact (objAt_ren (I := I) (p := fun i => D (r i) ∧ i < σ0.next) (fun _ _ => rfl) h1 h2).1 (hh.obj _ _ (hσ i o hi))
  have hav : (args0.map (ren r)).map (val ρ) = args0.map (val fun i => ρ (r i)) := by
    rw [List.map_map]; apply List.map_congr_left; intro x _; exact val_ren ρ r x
  rw [hav]
  refine (h _ _ w hD0 (fun c hc _ hd => by omega) (fun x hx => Wf.andIds ((wf_ren r).1 (hwf _ (List.mem_map_of_mem hx))) (hargs x hx))).mono ?_
  rintro e w' ⟨ρ1, rfl, hx, hh', hwv⟩
  -- where the blocks lie now
  let ρ' : Nat → Pl := fun c => if σ.next ≤ c then (match nw[c - σ.next]? with | some i => ρ1 i | none => ρ c) else ρ c
  have new : ∀ (j i : Nat), nw[j]? = some i → ρ' (σ.next + j) = ρ1 i := fun j i hj => by
    simp only [ρ', Nat.le_add_right, if_true, Nat.add_sub_cancel_left, hj]
  have old : ∀ c, D c → ρ' c = ρ c := fun c hc => by
    by_cases h1 : σ.next ≤ c
    · have h2 : σ.next + nw.length ≤ c := by
        by_cases h2 : c < σ.next + nw.length
        · exact absurd hc (hfr c h1 h2)
        · omega
      simp only [ρ', h1, if_true]
      rw [List.getElem?_eq_none (by omega)]
    · simp only [ρ', h1, if_false]
  have oldi : ∀ i, D (r i) ∧ i < σ0.next → ρ' (r' i) = ρ1 i := fun i hi => by
    rw [hr' i hi.2, old _ hi.1]; exact (hx.agree i hi).symm
  have newi : ∀ i, i ∈ nw → ρ' (r' i) = ρ1 i := fun i hi => by
    obtain ⟨j, hj⟩ := List.getElem?_of_mem hi
    rw [(hnw j i hj).2.2, new j i hj]
  have all : ∀ i, plus (fun i => D (r i) ∧ i < σ0.next) σ0.next σ1.next i ∧ K i → ρ' (r' i) = ρ1 i := fun i hi => by
    rcases (hK i).1 hi.2 with h1 | h1
    · rcases hi.1 with h2 | h2
      · exact oldi i h2
      · omega
    · exact newi i h1
  have dom' : ∀ i, plus (fun i => D (r i) ∧ i < σ0.next) σ0.next σ1.next i ∧ K i → plus D σ.next (σ.next + nw.length) (r' i) := fun i hi => by
    rcases (hK i).1 hi.2 with h1 | h1
    · rcases hi.1 with h2 | h2
      · rw [hr' i h1]; exact .inl h2.1
      · omega
    · obtain ⟨j, hj⟩ := List.getElem?_of_mem h1
      have hlt := (List.getElem?_eq_some_iff.1 hj).1
      rw [(hnw j i hj).2.2]; exact .inr (by omega)
  have parts : ∀ b o, getL ((bl.map fun x => (r' x.1, renO r' x.2)) ++ σ.blocks) b = some o →
      (∃ i o0, K i ∧ σ1.get i = some o0 ∧ OIds K o0 ∧ r' i = b ∧ renO r' o0 = o) ∨ (σ.get b = some o ∧ ∀ i o0, σ0.get i = some o0 → r i ≠ b) := by
    intro b o hb
    rcases getL_bl hb with ⟨i, o0, h1, h2, h3, h4⟩ | ⟨h1, h2⟩
    · obtain ⟨h5, h6⟩ := hbl _ h1
      exact .inl ⟨i, o0, h5, hget i o0 h5 (getL_app_of h2), h6, h3, h4⟩
    · by_cases hc : ∃ i o0, σ0.get i = some o0 ∧ r i = b
      · obtain ⟨i, o0, h3, h4⟩ := hc
        obtain ⟨h5, h6⟩ := hob i o0 h3
        have h7 : K i := (hK i).2 (.inl h5)
        refine .inl ⟨i, o0, h7, hget i o0 h7 ?_, h6.mono fun c hc => (hK c).2 (.inl hc), by rw [hr' i h5, h4], ?_⟩
        · rw [getL_none_of]
          · exact h3
          · rintro x hx rfl
            exact h2 x hx (by rw [hr' _ h5, h4])
        · have h8 := hσ i o0 h3
          rw [h4] at h8
          have h9 : σ.get b = some o := h1
          rw [h9] at h8
          rw [Option.some.inj h8]
          exact renO_congr (fun c hc => hr' c hc) h6
      · exact .inr ⟨h1, fun i o0 h3 h4 => hc ⟨i, o0, h3, h4⟩⟩
  have far : ∀ b o, σ.get b = some o → (∀ i o0, σ0.get i = some o0 → r i ≠ b) → w'.heap[(ρ b).blk]? = w.heap[(ρ b).blk]? := fun b o hb hn =>
    hx.frame _ (hh.obj b o hb).lt fun c oc hc e => hn c oc hc (hh.inj _ _ _ _ (hσ c oc hc) hb e)
  have apart : ∀ i o0 b o, σ1.get i = some o0 → σ.get b = some o → (∀ i o0, σ0.get i = some o0 → r i ≠ b) → (ρ1 i).blk = (ρ b).blk → False := fun i o0 b o h1 h2 h3 e => by
    have hlt := (hh.obj b o h2).lt
    rcases hx.img i o0 h1 with h4 | ⟨b0, o1, h5, h6⟩
    · omega
    · exact h3 b0 o1 h5 (hh.inj _ _ _ _ (hσ b0 o1 h5) h2 (h6.trans e))
  have wf1 : ∀ i o0, σ1.get i = some o0 → OIds K o0 → K i → OWf I (fun i => plus (fun i => D (r i) ∧ i < σ0.next) σ0.next σ1.next i ∧ K i) o0 ∧ (plus (fun i => D (r i) ∧ i < σ0.next) σ0.next σ1.next i ∧ K i) := fun i o0 h1 h2 h3 => by
    obtain ⟨h4, h5⟩ := hh'.wf.dom i o0 h1
    exact ⟨OWf.andIds h5 h2, h4, h3⟩
  have hwv2 := Wf.andIds hwv hv
  refine ⟨ρ', ?_, ?_, ?_, ?_⟩
  · rw [val_ren, val_congr (I := I) (n := fun i => plus (fun i => D (r i) ∧ i < σ0.next) σ0.next σ1.next i ∧ K i) (fun i hi => all i hi) hwv2]
  · refine ⟨fun _ h => .inl h, old, hx.os, hx.tape, hx.output, hx.size, fun i hi hn => hx.frame i hi fun b o hb e => hn (r b) _ (hσ b o hb) e, fun b o hb => ?_⟩
    rcases parts b o hb with ⟨i, o0, h1, h2, h3, rfl, rfl⟩ | ⟨h1, h2⟩
    · rw [all i (wf1 i o0 h2 h3 h1).2]
      rcases hx.img i o0 h2 with h4 | ⟨b0, o1, h5, h6⟩
      · exact .inl h4
      · exact .inr ⟨r b0, _, hσ b0 o1 h5, h6⟩
    · rw [old b (hh.wf.dom b o h1).1]
      exact .inr ⟨b, o, h1, rfl⟩
  · refine ⟨⟨fun b o hb => ?_⟩, fun b o hb => ?_, fun b o b' o' hb hb' e => ?_, hh'.imm, fun b o hb => ?_⟩
    · rcases parts b o hb with ⟨i, o0, h1, h2, h3, rfl, rfl⟩ | ⟨h1, h2⟩
      · obtain ⟨h4, h5⟩ := wf1 i o0 h2 h3 h1
        exact ⟨dom' i h5, (owf_ren r').2 (h4.mono' dom')⟩
      · exact ⟨.inl (hh.wf.dom b o h1).1, (hh.wf.dom b o h1).2.mono' fun c hc => .inl hc⟩
    · rcases parts b o hb with ⟨i, o0, h1, h2, h3, rfl, rfl⟩ | ⟨h1, h2⟩
      · obtain ⟨h4, h5⟩ := wf1 i o0 h2 h3 h1
        exact (objAt_ren (I := I) (p := fun i => plus (fun i => D (r i) ∧ i < σ0.next) σ0.next σ1.next i ∧ K i) all h5 h4).2 (hh'.obj i o0 h2)
      · exact ObjAt.congr (I := I) (hh.obj b o h1) (hh.wf.dom b o h1).2 old (hh.wf.dom b o h1).1 (far b o h1 h2)
    · rcases parts b o hb with ⟨i, o0, h1, h2, h3, rfl, rfl⟩ | ⟨h1, h2⟩ <;> rcases parts b' o' hb' with ⟨i', o0', h1', h2', h3', rfl, rfl⟩ | ⟨h1', h2'⟩
      · rw [all i (wf1 i o0 h2 h3 h1).2, all i' (wf1 i' o0' h2' h3' h1').2] at e
        rw [hh'.inj i o0 i' o0' h2 h2' e]
      · rw [all i (wf1 i o0 h2 h3 h1).2, old b' (hh.wf.dom b' o' h1').1] at e
        exact (apart i o0 b' o' h2 h1' h2' e).elim
      · rw [all i' (wf1 i' o0' h2' h3' h1').2, old b (hh.wf.dom b o h1).1] at e
        exact (apart i' o0' b o h2' h1 h2 e.symm).elim
      · rw [old b (hh.wf.dom b o h1).1, old b' (hh.wf.dom b' o' h1').1] at e
        exact hh.inj b o b' o' h1 h1' e
    · rcases parts b o hb with ⟨i, o0, h1, h2, h3, rfl, rfl⟩ | ⟨h1, h2⟩
      · rw [all i (wf1 i o0 h2 h3 h1).2]; exact hh'.off i o0 h2
      · rw [old b (hh.wf.dom b o h1).1]; exact hh.off b o h1
  · exact (wf_ren r').2 (hwv2.mono dom')
end
end Go.Sh

/-! Sk22 -/
namespace Go.Sh
open Go

section
variable {α : Type} {P : Program} {I : Imm}

def getN : List Nat → Nat → Option Nat
  | [], _ => none
  | b :: _, 0 => some b
  | _ :: l, i + 1 => getN l i
theorem getN_eq : ∀ (l : List Nat) (i : Nat), getN l i = l[i]?
  | [], _ => by simp [getN]
  | b :: _, 0 => by simp [getN]
  | _ :: l, i + 1 => by simp [getN, getN_eq l i]
def posN : List Nat → Nat → Nat
  | [], _ => 0
  | b :: l, i => bif Nat.beq b i then 0 else posN l i + 1
theorem posN_spec : ∀ {l : List Nat} {j i : Nat}, l.Nodup → l[j]? = some i → posN l i = j
  | [], _, _, _, h => by simp at h
  | b :: l, 0, i, _, h => by simp at h; subst h; simp [posN]
  | b :: l, j + 1, i, hn, h => by
    simp only [List.getElem?_cons_succ] at h
    have hm : i ∈ l := List.mem_of_getElem? h
    have hne : b ≠ i := fun e => (List.nodup_cons.1 hn).1 (e ▸ hm)
    simp only [posN, beq_ne hne, cond_false, posN_spec (List.nodup_cons.1 hn).2 h]
/-- Other names: of the blocks that were there (rl), of new ones (nw: from n on). -/
def rnm (rl : List Nat) (n : Nat) (nw : List Nat) (i : Nat) : Nat :=
  match getN rl i with
  | some b => b
  | none => n + posN nw i
def enumO : Nat → List SObj → List (Nat × SObj)
  | _, [] => []
  | i, o :: l => (i, o) :: enumO (i + 1) l
theorem enumO_get : ∀ {l : List SObj} {n i : Nat} {o : SObj}, getL (enumO n l) i = some o → n ≤ i ∧ l[i - n]? = some o
  | [], n, i, o, h => by simp [enumO, getL] at h
  | x :: l, n, i, o, h => by
    simp only [enumO, getL] at h
    cases e : Nat.beq n i <;> rw [e] at h
    · obtain ⟨h1, h2⟩ := enumO_get (l := l) (by simpa using h)
      exact ⟨by omega, by rw [show i - n = (i - (n + 1)) + 1 by omega]; simpa using h2⟩
    · have := Nat.eq_of_beq_eq_true e
      subst this
      have h2 := live_some (show x.live = some o by simpa using h)
      subst h2
      exact ⟨Nat.le_refl _, by simp⟩
theorem enumO_mem : ∀ {l : List SObj} {n i : Nat} {o : SObj}, n ≤ i → l[i - n]? = some o → (i, o) ∈ enumO n l
  | [], n, i, o, _, h => by simp at h
  | x :: l, n, i, o, h0, h => by
    by_cases e : i = n
    · subst e; simp at h; subst h; simp [enumO]
    · rw [show i - n = (i - (n + 1)) + 1 by omega] at h
      exact List.mem_cons_of_mem _ (enumO_mem (l := l) (by omega) (by simpa using h))
/-- The heap on which a contract's run begins. -/
def hp (os : List SObj) : Heap := ⟨os.length, enumO 0 os⟩

def inK (i : Nat) : List (Nat × SObj) → Bool
  | [] => false
  | x :: l => bif Nat.beq x.1 i then true else inK i l
theorem inK_app {i : Nat} {o : SObj} {rest : List (Nat × SObj)} : ∀ {l : List (Nat × SObj)}, inK i l = true → getL (l ++ rest) i = some o → getL l i = some o
  | [], h, _ => by simp [inK] at h
  | (c, o') :: l, h, h2 => by
    simp only [inK] at h
    simp only [List.cons_append, getL] at h2 ⊢
    cases e : Nat.beq c i <;> rw [e] at h h2
    · exact inK_app (l := l) (by simpa using h) h2
    · exact h2

/-- An evaluation ends so. -/
def Ends (x : R Ans) (Q : SV → Heap → Prop) : Prop := ∃ v σ, x = some (v, σ) ∧ Q v σ

/-- What of a run on numbered blocks is told: the value, the blocks bl (of the given ones, and new ones: nw). -/
structure Pub (rl : List Nat) (os : List SObj) (σ : Heap) (v0 : SV) (σ1 : Heap) (nw : List Nat) (bl : List (Nat × SObj)) : Prop where
  nodup : nw.Nodup
  new : ∀ i ∈ nw, os.length ≤ i ∧ i < σ1.next
  ids : Ids (fun i => i < os.length ∨ i ∈ nw) v0
  key : ∀ x ∈ bl, (x.1 < os.length ∨ x.1 ∈ nw) ∧ OIds (fun i => i < os.length ∨ i ∈ nw) x.2
  told : ∀ x ∈ bl, (∀ o, x.2.live = some o → σ1.get x.1 = some o)
  kept : ∀ y ∈ enumO 0 os, inK y.1 bl = true ∨ σ1.get y.1 = some y.2

/-- The given blocks: their names, and that the heap has them. -/
structure Lay (rl : List Nat) (os : List SObj) (args0 : List SV) (args : List SV) (σ : Heap) : Prop where
  len : rl.length = os.length
  nodup : rl.Nodup
  args : args0.map (ren (rnm rl 0 [])) = args
  have_ : ∀ y ∈ enumO 0 os, σ.get (rnm rl 0 [] y.1) = some (renO (rnm rl 0 []) y.2)
  aids : ∀ x ∈ args0, Ids (fun i => i < os.length) x
  oids : ∀ o ∈ os, OIds (fun i => i < os.length) o

theorem getL_mem {i : Nat} {o : SObj} : ∀ {l : List (Nat × SObj)}, getL l i = some o → (i, o) ∈ l
  | [], h => by simp [getL] at h
  | (c, o') :: l, h => by
    simp only [getL] at h
    cases e : Nat.beq c i <;> rw [e] at h
    · exact List.mem_cons_of_mem _ (getL_mem (l := l) (by simpa using h))
    · have := Nat.eq_of_beq_eq_true e
      subst this
      have h2 := live_some (show o'.live = some o by simpa using h)
      subst h2; simp

theorem inK_false {i : Nat} : ∀ {l : List (Nat × SObj)}, inK i l = false → ∀ x ∈ l, x.1 ≠ i
  | [], _, x, hx => by simp at hx
  | y :: l, h, x, hx => by
    simp only [inK] at h
    cases e : Nat.beq y.1 i <;> rw [e] at h
    · rcases List.mem_cons.1 hx with rfl | hx
      · rintro rfl; rw [Nat.beq_refl] at e; cases e
      · exact inK_false (l := l) (by simpa using h) x hx
    · simp at h
theorem canon_calls {f : FuncId} {rl : List Nat} {os : List SObj} {args0 args : List SV} {σ σ1 : Heap} {v0 : SV} {nw : List Nat} {bl : List (Nat × SObj)} (h : SCalls P I f args0 (hp os) v0 σ1) (hg : Grow (hp os) σ1) (hl : Lay rl os args0 args σ) (hp' : Pub rl os σ v0 σ1 nw bl) :
    SCalls P I f args σ (ren (rnm rl σ.next nw) v0) ⟨σ.next + nw.length, (bl.map fun x => (rnm rl σ.next nw x.1, renO (rnm rl σ.next nw) x.2)) ++ σ.blocks⟩ ∧
      Grow σ ⟨σ.next + nw.length, (bl.map fun x => (rnm rl σ.next nw x.1, renO (rnm rl σ.next nw) x.2)) ++ σ.blocks⟩ := by
  have hr : ∀ n nw' i, i < os.length → rnm rl n nw' i = rl[i]?.getD 0 := fun n nw' i hi => by
    have : i < rl.length := by rw [hl.len]; exact hi
    simp [rnm, getN_eq, this]
  have hob : ∀ i o, (hp os).get i = some o → i < os.length ∧ OIds (fun i => i < os.length) o := fun i o hi => by
    obtain ⟨_, h2⟩ := enumO_get hi
    exact ⟨(List.getElem?_eq_some_iff.1 h2).1, hl.oids o (List.mem_of_getElem? h2)⟩
  have hσ : ∀ i o, (hp os).get i = some o → σ.get (rnm rl 0 [] i) = some (renO (rnm rl 0 []) o) := fun i o hi => hl.have_ (i, o) (getL_mem hi)
  have hnew : ∀ (j i : Nat), nw[j]? = some i → rnm rl σ.next nw i = σ.next + j := fun j i hj => by
    have hge := (hp'.new i (List.mem_of_getElem? hj)).1
    simp only [rnm, getN_eq, List.getElem?_eq_none (show rl.length ≤ i by rw [hl.len]; exact hge), posN_spec hp'.nodup hj]
  subst_vars
  refine ⟨?_, Nat.le_add_right _ _, _, rfl, ?_⟩
  · have hargs := hl.args
    subst hargs
    refine scalls_ren (m := os.length) (r := rnm rl 0 []) (K := fun i => i < os.length ∨ i ∈ nw) h rfl (fun i j hi hj e => ?_) hl.aids hob hσ (fun i hi => by rw [hr _ _ i hi, hr _ _ i hi]) (fun j i hj => ?_) (fun i => Iff.rfl) hp'.ids hp'.key (fun i o hi ho => ?_)
    · rw [hr _ _ i hi, hr _ _ j hj] at e
      have h1 : i < rl.length := by rw [hl.len]; exact hi
      have h2 : j < rl.length := by rw [hl.len]; exact hj
      simp only [h1, h2, List.getElem?_eq_getElem, Option.getD_some] at e
      exact (List.getElem_inj hl.nodup).1 e
    · have hmem := List.mem_of_getElem? hj
      obtain ⟨h1, h2⟩ := hp'.new i hmem
      exact ⟨h1, h2, hnew j i hj⟩
    · cases e : inK i bl
      · rw [getL_none_of (inK_false e)] at ho
        rcases hp'.kept (i, o) (getL_mem ho) with h1 | h1
        · rw [e] at h1; cases h1
        · exact h1
      · have h1 := inK_app e ho
        exact hp'.told _ (getL_mem h1) o (getL_live h1)
  · intro x hx
    obtain ⟨y, hy, rfl⟩ := List.mem_map.1 hx
    rcases (hp'.key y hy).1 with h1 | h1
    · left
      have := hl.have_ (y.1, os[y.1]) (enumO_mem (n := 0) (by omega) (by simp))
      rw [hr _ _ _ h1] at this
      exact ⟨_, by simp only [hr _ _ _ h1]; exact this⟩
    · right
      obtain ⟨j, hj⟩ := List.getElem?_of_mem h1
      have hlt := (List.getElem?_eq_some_iff.1 hj).1
      simp only [hnew j y.1 hj]
      omega

/-- **THE CONTRACT OF A FUNCTION OVER MEMORY.** -/
theorem orc_canon {te : TE} (hpr : Prg P te) {O : ORC Ans} (hO : OOk P I O) {L : LO Ans} (n : Fuel) {f : FuncId} {fn : Func} (hf : P.funcs[f]? = some fn) (h1 : (fn.name == "runtime.NumGoroutine") = false) (h2 : fn.body.isNone = false) (hok : fnOk fn = true) (hL : FLOk P I L fn)
    {F : FF α} (hF : ∀ args σ k r, F args σ k = some r → ∃ rl os args0, Lay rl os args0 args σ ∧ Ends (bodyL te O L n fn args0 (hp os) ans) fun v0 σ1 => ∃ nw bl, Pub rl os σ v0 σ1 nw bl ∧
      k (ren (rnm rl σ.next nw) v0) ⟨σ.next + nw.length, (bl.map fun x => (rnm rl σ.next nw x.1, renO (rnm rl σ.next nw) x.2)) ++ σ.blocks⟩ = some r) : OrcOk P I f (.full F) := by
  refine ⟨enters_of hf h1 h2, fun args σ k r hk => ?_⟩
  obtain ⟨rl, os, args0, h3, v0, σ1, h4, nw, bl, h5, h6⟩ := hF args σ k r hk
  obtain ⟨v', σ', h7, hg, h8⟩ := body_calls hpr hO hf hok hL h4
  simp only [ans, Option.some.injEq, Prod.mk.injEq] at h7
  obtain ⟨rfl, rfl⟩ := h7
  obtain ⟨h9, h10⟩ := canon_calls h8 hg h3 h5
  exact ⟨_, _, h6, h10, h9⟩

/-- A contract on the empty heap is one on every heap. -/
theorem pure_of_calls {f : FuncId} {args : List SV} {v : SV} {σe : Heap} (h : SCalls P I f args emp v σe) (hv : Ids (fun _ => False) v) (ha : ∀ x ∈ args, Ids (fun _ => False) x) : SPure P I f args v := by
  refine fun D hargs ρ e w hh => ?_
  have hargs' : ∀ x ∈ args, Wf I (fun _ => False) x := fun x hx => (Wf.andIds (hargs x hx) (ha x hx)).mono fun _ h => h.2
  have hemp : HRel I ρ (fun _ => False) emp.get w := ⟨⟨fun b o hb => by simp [emp, Heap.get, getL] at hb⟩, fun b o hb => by simp [emp, Heap.get, getL] at hb, fun b o b' o' hb => by simp [emp, Heap.get, getL] at hb, hh.imm, fun b o hb => by simp [emp, Heap.get, getL] at hb⟩
  refine (h ρ _ w hemp (fun _ _ _ h => h) hargs').mono ?_
  rintro en w' ⟨ρ', rfl, hx, hr, hwv⟩
  have hwv' : Wf I (fun _ => False) v := (Wf.andIds hwv hv).mono fun _ h => h.2
  have hfr : ∀ i, i < w.heap.size → w'.heap[i]? = w.heap[i]? := fun i hi => hx.frame i hi fun b o hb => by simp [emp, Heap.get, getL] at hb
  refine ⟨?_, hwv'.mono fun _ h => h.elim, ⟨fun _ h => h, fun _ _ => rfl, hx.os, hx.tape, hx.output, hx.size, fun i hi _ => hfr i hi, fun b o hb => .inr ⟨b, o, hb, rfl⟩⟩, ⟨hh.wf, fun b o hb => ?_, hh.inj, hr.imm, hh.off⟩⟩
  · rw [val_congr (I := I) (n := fun _ => False) (fun b hb => hb.elim) hwv']
  · exact ObjAt.congr (I := I) (hh.obj b o hb) (hh.wf.dom b o hb).2 (fun _ _ => rfl) (hh.wf.dom b o hb).1 (hfr _ (hh.obj b o hb).lt)

/-- **THE CONTRACT OF A FUNCTION OF PLAIN VALUES.** (Rows of the caller's memory may be among its arguments; what it leaves behind is forgotten.) -/
theorem orc_pure {te : TE} (hpr : Prg P te) {O : ORC Ans} (hO : OOk P I O) {L : LO Ans} (n : Fuel) {f : FuncId} {fn : Func} (hf : P.funcs[f]? = some fn) (h1 : (fn.name == "runtime.NumGoroutine") = false) (h2 : fn.body.isNone = false) (hok : fnOk fn = true) (hL : FLOk P I L fn)
    {F : FP α} (hF : ∀ args k r, F args k = some r → ∃ v, k v = some r ∧ Ids (fun _ => False) v ∧ (∀ x ∈ args, Ids (fun _ => False) x) ∧ EndsV (bodyL te O L n fn args emp ans) v) : OrcOk P I f (.pure F) := by
  refine ⟨enters_of hf h1 h2, fun args k r hk => ?_⟩
  obtain ⟨v, h3, h4, h5, σe, h6⟩ := hF args k r hk
  refine ⟨v, h3, ?_⟩
  obtain ⟨v', σ', h7, hg, h8⟩ := body_calls hpr hO hf hok hL h6
  simp only [ans, Option.some.injEq, Prod.mk.injEq] at h7
  obtain ⟨rfl, rfl⟩ := h7
  exact pure_of_calls h8 h4 h5
end
end Go.Sh

/-! Sk23 -/
namespace Go.Sh
open Go

section
variable {α : Type} {P : Program} {I : Imm}

def AllL {β : Type} (p : β → Prop) : List β → Prop
  | [] => True
  | x :: l => p x ∧ AllL p l
theorem allL_iff {β : Type} {p : β → Prop} : ∀ {l : List β}, AllL p l ↔ ∀ x ∈ l, p x
  | [] => by simp [AllL]
  | x :: l => by simp [AllL, allL_iff (l := l)]

theorem lay_mk {rl : List Nat} {os : List SObj} {args0 args : List SV} {σ : Heap} (h1 : rl.length = os.length) (h2 : rl.Nodup) (h3 : args0.map (ren (rnm rl 0 [])) = args)
    (h4 : AllL (fun y => σ.get (rnm rl 0 [] y.1) = some (renO (rnm rl 0 []) y.2)) (enumO 0 os)) (h5 : AllL (Ids (fun i => i < os.length)) args0) (h6 : AllL (OIds (fun i => i < os.length)) os) : Lay rl os args0 args σ :=
  ⟨h1, h2, h3, allL_iff.1 h4, allL_iff.1 h5, allL_iff.1 h6⟩

def Told (σ1 : Heap) (y : Nat × SObj) : Prop := match y.2 with
  | .dead => True
  | o => σ1.get y.1 = some o
def KeptO (bl : List (Nat × SObj)) (σ1 : Heap) (y : Nat × SObj) : Prop := inK y.1 bl = true ∨ σ1.get y.1 = some y.2

/-- A run ends so: the value, what is told of the blocks; no new block is told. -/
def EndsK (x : R Ans) (v : SV) (bl : List (Nat × SObj)) (os : List SObj) : Prop :=
  ∃ v0 σ1, x = some (v0, σ1) ∧ v0 = v ∧ AllL (Told σ1) bl ∧ AllL (KeptO bl σ1) (enumO 0 os)

theorem told_of {σ1 : Heap} {y : Nat × SObj} (h : Told σ1 y) (o : SObj) (ho : y.2.live = some o) : σ1.get y.1 = some o := by
  obtain ⟨i, ob⟩ := y
  cases ob with
  | cells g v => simp only [SObj.live, Option.some.injEq] at ho; subst ho; exact h
  | map es => simp only [SObj.live, Option.some.injEq] at ho; subst ho; exact h
  | dead => cases ho

theorem ends_keep {x : R Ans} {v : SV} {rl : List Nat} {os : List SObj} {σ : Heap} {k : SV → Heap → R α} {r : α} {bl : List (Nat × SObj)} (h : EndsK x v bl os) (hv : Ids (fun i => i < os.length) v) (hb : AllL (fun y => y.1 < os.length ∧ OIds (fun i => i < os.length) y.2) bl)
    (hk : k (ren (rnm rl σ.next []) v) ⟨σ.next, (bl.map fun x => (rnm rl σ.next [] x.1, renO (rnm rl σ.next []) x.2)) ++ σ.blocks⟩ = some r) :
    Ends x fun v0 σ1 => ∃ nw bl, Pub rl os σ v0 σ1 nw bl ∧ k (ren (rnm rl σ.next nw) v0) ⟨σ.next + nw.length, (bl.map fun x => (rnm rl σ.next nw x.1, renO (rnm rl σ.next nw) x.2)) ++ σ.blocks⟩ = some r := by
  obtain ⟨v0, σ1, rfl, rfl, h1, h2⟩ := h
  refine ⟨_, _, rfl, [], bl, ⟨by simp, by simp, hv.mono fun _ h => .inl h, fun y hy => ?_, fun y hy => told_of (allL_iff.1 h1 y hy), allL_iff.1 h2⟩, hk⟩
  obtain ⟨h3, h4⟩ := allL_iff.1 hb y hy
  exact ⟨.inl h3, h4.mono fun _ h => .inl h⟩

/-- .. with new blocks nw. -/
def EndsN (x : R Ans) (v : SV) (nw : List Nat) (bl : List (Nat × SObj)) (os : List SObj) : Prop :=
  ∃ v0 σ1, x = some (v0, σ1) ∧ v0 = v ∧ AllL (fun i => os.length ≤ i ∧ i < σ1.next) nw ∧ AllL (Told σ1) bl ∧ AllL (KeptO bl σ1) (enumO 0 os)
theorem ends_new {x : R Ans} {v : SV} {rl nw : List Nat} {os : List SObj} {σ : Heap} {k : SV → Heap → R α} {r : α} {bl : List (Nat × SObj)} (h : EndsN x v nw bl os) (hn : nw.Nodup) (hv : Ids (fun i => i < os.length ∨ i ∈ nw) v) (hb : AllL (fun y => (y.1 < os.length ∨ y.1 ∈ nw) ∧ OIds (fun i => i < os.length ∨ i ∈ nw) y.2) bl)
    (hk : k (ren (rnm rl σ.next nw) v) ⟨σ.next + nw.length, (bl.map fun x => (rnm rl σ.next nw x.1, renO (rnm rl σ.next nw) x.2)) ++ σ.blocks⟩ = some r) :
    Ends x fun v0 σ1 => ∃ nw bl, Pub rl os σ v0 σ1 nw bl ∧ k (ren (rnm rl σ.next nw) v0) ⟨σ.next + nw.length, (bl.map fun x => (rnm rl σ.next nw x.1, renO (rnm rl σ.next nw) x.2)) ++ σ.blocks⟩ = some r := by
  obtain ⟨v0, σ1, rfl, rfl, h0, h1, h2⟩ := h
  exact ⟨_, _, rfl, nw, bl, ⟨hn, allL_iff.1 h0, hv, allL_iff.1 hb, fun y hy => told_of (allL_iff.1 h1 y hy), allL_iff.1 h2⟩, hk⟩

/-! ### A memory behind a pointer: a struct that holds a row of 32768 bytes alone -/
abbrev memO (b1 : Nat) (g0 : Option Nat) : SObj := .cells g0 (.agg [.slc b1 [] 1 0 32768 (some 32768)])
abbrev byO (g1 : Option Nat) (f : Nat → Int) : SObj := .cells g1 (.ints .u8 32768 f)
def withMem (σ : Heap) (p : SV) (k : Nat → Nat → Option Nat → Option Nat → (Nat → Int) → R α) : R α :=
  match p with
  | .ptr b [] => match σ.get b with
    | some (.cells g0 (.agg [.slc b1 [] sz off len (some cap)])) => bif (Nat.beq sz 1 && Nat.beq off 0) && (Nat.beq len 32768 && Nat.beq cap 32768) then match σ.get b1 with
      | some (.cells g1 (.ints .u8 m f)) => bif Nat.beq m 32768 && !Nat.beq b b1 then k b b1 g0 g1 f else none
      | _ => none else none
    | _ => none
  | _ => none
theorem withMem_spec {σ : Heap} {p : SV} {k : Nat → Nat → Option Nat → Option Nat → (Nat → Int) → R α} {r : α} (h : withMem σ p k = some r) :
    ∃ b b1 g0 g1 f, p = .ptr b [] ∧ σ.get b = some (memO b1 g0) ∧ σ.get b1 = some (byO g1 f) ∧ b ≠ b1 ∧ k b b1 g0 g1 f = some r := by
  unfold withMem at h
  split at h <;> try (simp at h; done)
  rename_i b
  split at h <;> try (simp at h; done)
  rename_i g0 b1 sz off len cap h0
  obtain ⟨h1, h2⟩ := bif_some h
  split at h2 <;> try (simp at h2; done)
  rename_i g1 m f h3
  obtain ⟨h4, h5⟩ := bif_some h2
  simp only [Bool.and_eq_true, Nat.beq_eq, Bool.not_eq_true'] at h1 h4
  obtain ⟨⟨rfl, rfl⟩, rfl, rfl⟩ := h1
  obtain ⟨rfl, h4⟩ := h4
  exact ⟨b, b1, g0, g1, f, rfl, h0, h3, fun e => by subst e; simp at h4, h5⟩
theorem nodup2 {a b : Nat} (h : a ≠ b) : [a, b].Nodup := by simp [h]
end
end Go.Sh

/-! Sk24 -/
namespace Go.Sh
open Go Go.RowKit Go.WideShapes Go.ChangeShapes

mutual
/-- What holds of numbers and lengths. -/
def TD.Fit : (d : TD) → d.Val → Prop
  | .int k, n => (Lit.int k n).wf = true
  | .bool, _ => True
  | .str, s => s.size ≤ maxLen
  | .st l, vs => tdFits l vs
  | .ints n k, f => ∀ i, i < n → (Lit.int k (f i)).wf = true
  | .sl e, (nl, _, len, cap, f) => (nl = true → len = 0 ∧ cap = 0) ∧ len ≤ cap ∧ cap ≤ maxLen ∧ ∀ i, i < len → e.Fit (f i)
def tdFits : (l : List TD) → tdVals l → Prop
  | [], _ => True
  | d :: l, (v, vs) => d.Fit v ∧ tdFits l vs
end

def isIntT (P : Program) (t : TypeId) (k : IntKind) : Bool := match P.underlying t with | some (.int k') => decide (k' = k) | _ => false
mutual
/-- Has a type this shape? -/
def tdB (P : Program) : TypeId → TD → Bool
  | t, .int k => isIntT P t k
  | t, .bool => match P.underlying t with | some .bool => true | _ => false
  | t, .str => match P.underlying t with | some .string => true | _ => false
  | t, .st l => match P.underlying t with | some (.struct fs) => Nat.beq (P.cellsOf t) (tdSizes l) && tdsB P fs.toList 0 l | _ => false
  | t, .ints n k => match P.underlying t with | some (.array n' e) => Nat.beq n' n && (Nat.beq (P.cellsOf t) n && (Nat.beq (P.cellsOf e) 1 && isIntT P e k)) | _ => false
  | t, .sl d => match P.underlying t with | some (.slice e) => Nat.beq (P.cellsOf e) d.size && (!Nat.beq d.size 0 && tdB P e d) | _ => false
def tdsB (P : Program) : List Field → Nat → List TD → Bool
  | [], _, [] => true
  | f :: fs, o, d :: l => Nat.beq f.offset o && (Nat.beq (P.cellsOf f.type) d.size && (tdB P f.type d && tdsB P fs (o + d.size) l))
  | _, _, _ => false
end

theorem isIntT_spec {P : Program} {t : TypeId} {k : IntKind} (h : isIntT P t k = true) : P.underlying t = some (.int k) := by
  unfold isIntT at h
  split at h
  · rename_i k' h'
    rw [h', of_decide_eq_true h]
  · cases h

/-- An opened value: of its shape; its cells are those. -/
structure Opened (w : World) (td : TD) (cs : List Value) (x : td.Val) : Prop where
  fit : td.Fit x
  cells : ∀ ρ, cells ρ (td.sv x) = cs
  wf : Wf (fun i => w.heap[i]?) (fun _ => False) (td.sv x)
  size : (td.sv x).size = td.size
  ntup : (td.sv x).isTuple = false

section
variable {H : Type} {enc : TypeId × Value → H} {P : Program} {w : World}

mutual
theorem open_td : ∀ {td : TD} {t : TypeId} {fuel : Nat} {cs : List Value} {x : DataW H × List MemPlace}, tdB P t td = true → DataW.trod enc P w 0 (fun _ => true) true fuel t cs = some x → ∃ v, Opened w td cs v
  | .int k, t, fuel, cs, x, hb, h => by
    simp only [tdB] at hb
    obtain ⟨n, rfl, _, hwf⟩ := DataW.trod_int (isIntT_spec hb) h
    exact ⟨n, by simpa only [TD.Fit] using hwf, fun ρ => rfl, by simp [TD.sv, Wf], rfl, rfl⟩
  | .bool, t, fuel, cs, x, hb, h => by
    simp only [tdB] at hb
    split at hb <;> try (simp at hb; done)
    rename_i hu
    obtain ⟨b, rfl, _⟩ := DataW.trod_bool hu h
    exact ⟨b, by simp [TD.Fit], fun ρ => rfl, by simp [TD.sv, Wf], rfl, rfl⟩
  | .str, t, fuel, cs, x, hb, h => by
    simp only [tdB] at hb
    split at hb <;> try (simp at hb; done)
    rename_i hu
    obtain ⟨s, rfl, _, hs⟩ := DataW.trod_string hu h
    exact ⟨s, by simpa only [TD.Fit] using hs, fun ρ => rfl, by simp [TD.sv, Wf], rfl, rfl⟩
  | .st l, t, fuel, cs, x, hb, h => by
    simp only [tdB] at hb
    split at hb <;> try (simp at hb; done)
    rename_i fs hu
    simp only [Bool.and_eq_true] at hb
    obtain ⟨hb1, hb2⟩ := hb
    obtain ⟨xs, n, _, _, hlen, hxl, hall⟩ := DataW.trod_struct hu h
    have hsz := Nat.eq_of_beq_eq_true hb1
    obtain ⟨vs, h1, h2, h3, h4⟩ := opens_td (n := n) (cs := cs) hb2 (by omega) (fun f hf => by
      obtain ⟨i, hi⟩ := List.getElem?_of_mem hf
      have h5 := hall i f (by simpa using hi)
      have hlt : i < fs.size := by have := (List.getElem?_eq_some_iff.1 hi).1; simpa using this
      rw [List.getElem?_eq_getElem (by omega)] at h5
      exact ⟨_, h5⟩)
    refine ⟨vs, by simp only [TD.Fit]; exact h1, fun ρ => by simp only [TD.sv, Sh.cells]; rw [h2 ρ]; simp, by simp only [TD.sv, Wf]; exact h3, by simp only [TD.sv, SV.size, TD.size]; exact h4, rfl⟩
  | .ints n k, t, fuel, cs, x, hb, h => by
    simp only [tdB] at hb
    split at hb <;> try (simp at hb; done)
    rename_i n' e hu
    simp only [Bool.and_eq_true] at hb
    obtain ⟨hb1, hb2, hb3, hb4⟩ := hb
    have e1 := Nat.eq_of_beq_eq_true hb1
    subst e1
    obtain ⟨xs, m, _, _, hlen, hxl, hall⟩ := DataW.trod_array hu h
    rw [Nat.eq_of_beq_eq_true hb2] at hlen
    rw [Nat.eq_of_beq_eq_true hb3] at hall
    have hel : ∀ i, i < n' → ∃ z, cs[i]? = some (.int k z) ∧ (Lit.int k z).wf = true := fun i hi => by
      have h1 := hall i hi
      have hlt : i < xs.length := by omega
      rw [List.getElem?_eq_getElem hlt] at h1
      obtain ⟨z, h2, _, h3⟩ := DataW.trod_int (isIntT_spec hb4) h1
      refine ⟨z, ?_, h3⟩
      rw [Nat.mul_one] at h2
      have h4 : (List.take 1 (List.drop i cs))[0]? = some (.int k z) := by rw [h2]; rfl
      simpa using h4
    let f : Nat → Int := fun i => match cs[i]? with | some (.int _ z) => z | _ => 0
    have hf : ∀ i, i < n' → cs[i]? = some (.int k (f i)) ∧ (Lit.int k (f i)).wf = true := fun i hi => by
      obtain ⟨z, h1, h2⟩ := hel i hi
      have : f i = z := by simp only [f, h1]
      rw [this]; exact ⟨h1, h2⟩
    refine ⟨f, by simp only [TD.Fit]; exact fun i hi => (hf i hi).2, fun ρ => ?_, by simp [TD.sv, Wf], rfl, rfl⟩
    simp only [TD.sv, Sh.cells]
    apply List.ext_getElem?
    intro i
    by_cases hi : i < n'
    · rw [(hf i hi).1]; simp [hi]
    · rw [List.getElem?_eq_none (by simp; omega), List.getElem?_eq_none (by omega)]
  | .sl d, t, fuel, cs, x, hb, h => by
    simp only [tdB] at hb
    split at hb <;> try (simp at hb; done)
    rename_i e hu
    simp only [Bool.and_eq_true] at hb
    obtain ⟨hb1, hb2, hb3⟩ := hb
    have hsz := Nat.eq_of_beq_eq_true hb1
    have hd0 : d.size ≠ 0 := fun e0 => by rw [e0] at hb2; simp at hb2
    rcases Go.Deep.open_slice hu h with ⟨rfl, _⟩ | ⟨a, len, cap, m, n, D, Pl, rfl, _, hl, hm, hmm, _, hall⟩
    · exact ⟨(true, ⟨0, 0, none⟩, 0, 0, fun _ => d.dflt), by simp [TD.Fit], fun ρ => rfl, by simp [TD.sv, Wf, VW], rfl, rfl⟩
    · simp only [if_true] at hmm
      subst hmm
      rw [hsz] at hall
      have hel : ∀ i, i < m → ∃ cs' v, w.cells? 0 (a.add (i * d.size)) d.size = some cs' ∧ Opened w d cs' v := fun i hi => by
        obtain ⟨cs', h1, h2⟩ := hall i hi
        obtain ⟨sv, h3⟩ := open_td hb3 h2
        exact ⟨cs', sv, h1, h3⟩
      have cellAt : ∀ i j, i < m → j < d.size → ∃ v, w.cell? ((a.add (i * d.size)).add j) = some v := fun i j hi hj => by
        obtain ⟨cs', sv, h1, h2⟩ := hel i hi
        obtain ⟨_, h3, h4⟩ := World.cells?_some h1
        exact ⟨cs'[j], by rw [h4 j hj]; simp⟩
      have hspot : 0 < m → a.spot = none := fun h0 => by
        obtain ⟨v, hv⟩ := cellAt 0 0 h0 (by omega)
        simp only [Nat.zero_mul] at hv
        unfold World.cell? at hv
        split at hv
        · rename_i c T fz hc
          cases hs : a.spot with
          | none => rfl
          | some s =>
            have : ((a.add 0).add 0).spot = some s := by
              have : ∀ b : Addr, b.spot = some s → (b.add 0).spot = some s := fun b hb => by unfold Addr.add; split <;> simp_all
              exact this _ (this _ hs)
            rw [this] at hv
            simp at hv
        · cases hv
      have hblk : 0 < m → ∃ c T fz, w.heap[a.block]? = some (.cells c T fz) := fun h0 => by
        obtain ⟨v, hv⟩ := cellAt 0 0 h0 (by omega)
        rw [addr_add (hspot h0), addr_add rfl] at hv
        unfold World.cell? at hv
        split at hv
        · rename_i c T fz hc
          exact ⟨c, T, fz, hc⟩
        · cases hv
      let F : Nat → d.Val := fun i => if hi : i < m then Classical.choose (Classical.choose_spec (hel i hi)) else d.dflt
      have hF : ∀ i (hi : i < m), ∃ cs', w.cells? 0 (a.add (i * d.size)) d.size = some cs' ∧ Opened w d cs' (F i) := fun i hi => by
        have := Classical.choose_spec (Classical.choose_spec (hel i hi))
        refine ⟨_, this.1, ?_⟩
        simp only [F, hi, dif_pos]
        exact this.2
      refine ⟨(false, a, len, m, F), ?_, fun ρ => rfl, ?_, rfl, rfl⟩
      · simp only [TD.Fit]
        exact ⟨by simp, hl, hm, fun i hi => by obtain ⟨cs', _, h2⟩ := hF i (by omega); exact h2.fit⟩
      · simp only [TD.sv, Wf]
        simp only [VW]
        refine ⟨by simp, hl, hspot, fun i hi => ?_⟩
        have him : i < m := by omega
        obtain ⟨cs', h1, h2⟩ := hF i him
        obtain ⟨c, T, fz, hc⟩ := hblk (by omega)
        refine ⟨⟨rfl, c, T, fz, hc, fun ρ j hj => ?_⟩, (wf_sv d _).1 h2.wf⟩
        obtain ⟨_, h3, h4⟩ := World.cells?_some h1
        rw [h2.size] at hj
        have h5 := h4 j hj
        rw [addr_add (hspot (by omega)), addr_add rfl] at h5
        simp only [World.cell?, hc, Option.isSome_none, Bool.false_eq_true, if_false] at h5
        rw [h2.cells ρ]
        exact h5
theorem opens_td : ∀ {l : List TD} {fs : List Field} {o n : Nat} {cs : List Value}, tdsB P fs o l = true → cs.length = o + tdSizes l →
    (∀ f ∈ fs, ∃ x, DataW.trod enc P w 0 (fun _ => true) true n f.type ((cs.drop f.offset).take (P.cellsOf f.type)) = some x) →
    ∃ vs, tdFits l vs ∧ (∀ ρ, cellss ρ (tdSvs l vs) = cs.drop o) ∧ Wfs (fun i => w.heap[i]?) (fun _ => False) (tdSvs l vs) ∧ sizes (tdSvs l vs) = tdSizes l
  | [], fs, o, n, cs, hb, hl, _ => by
    cases fs with
    | nil =>
      simp only [tdSizes, Nat.add_zero] at hl
      exact ⟨(), by simp [tdFits], fun ρ => by simp [tdSvs, cellss, List.drop_eq_nil_of_le (Nat.le_of_eq hl)], by simp [tdSvs, Wfs], rfl⟩
    | cons f fs => simp [tdsB] at hb
  | d :: l, fs, o, n, cs, hb, hl, hall => by
    cases fs with
    | nil => simp [tdsB] at hb
    | cons f fs =>
      simp only [tdsB, Bool.and_eq_true] at hb
      obtain ⟨hb1, hb2, hb3, hb4⟩ := hb
      have e1 := Nat.eq_of_beq_eq_true hb1
      have e2 := Nat.eq_of_beq_eq_true hb2
      simp only [tdSizes] at hl
      obtain ⟨x, hx⟩ := hall f (by simp)
      rw [e1, e2] at hx
      obtain ⟨sv, h1⟩ := open_td hb3 hx
      obtain ⟨vs, h2, h3, h4, h5⟩ := opens_td (n := n) (cs := cs) hb4 (by omega) (fun g hg => hall g (List.mem_cons_of_mem _ hg))
      refine ⟨(sv, vs), by simp only [tdFits]; exact ⟨h1.fit, h2⟩, fun ρ => ?_, by simp only [tdSvs, Wfs]; exact ⟨h1.wf, h4⟩, by simp only [tdSvs, sizes, tdSizes, h1.size, h5]⟩
      simp only [tdSvs, cellss, h1.cells ρ, h3 ρ]
      have : cs.drop (o + d.size) = (cs.drop o).drop d.size := by rw [List.drop_drop]
      rw [this, List.take_append_drop]
end

def tdAll (P : Program) : List TypeId → List TD → Bool
  | [], [] => true
  | t :: ts, d :: ds => tdB P t d && tdAll P ts ds
  | _, _ => false

theorem val_of_open {td : TD} {t : TypeId} {v : Value} {x : td.Val} {base : Nat} (hb : tdB P t td = true) (hv : Value.okWide P w .any base t v) (h : Opened w td v.cells.toList x) : v = val noPl (td.sv x) := by
  have hc := h.cells noPl
  have sc : ∀ u : Value, v = u → u.cells = #[u] → (td.sv x).isAgg = false → v = val noPl (td.sv x) := fun u hu hcu ha => by
    have h1 := val_scalar noPl h.ntup ha
    rw [hu, hcu] at hc
    rw [h1] at hc
    simp only [List.cons.injEq, and_true] at hc
    rw [hu]; exact hc.symm
  cases td with
  | int k =>
    simp only [tdB] at hb
    obtain ⟨n, rfl⟩ := okWide_int (isIntT_spec hb) hv
    exact sc _ rfl rfl rfl
  | bool =>
    simp only [tdB] at hb
    split at hb <;> try (simp at hb; done)
    rename_i hu
    obtain ⟨b, rfl⟩ := okWide_bool hu hv
    exact sc _ rfl rfl rfl
  | str =>
    simp only [tdB] at hb
    split at hb <;> try (simp at hb; done)
    rename_i hu
    obtain ⟨b, rfl⟩ := okWide_string hu hv
    exact sc _ rfl rfl rfl
  | sl d =>
    simp only [tdB] at hb
    split at hb <;> try (simp at hb; done)
    rename_i e hu
    obtain ⟨a, l, c, rfl⟩ := okWide_slice hu hv
    exact sc _ rfl rfl rfl
  | st l =>
    simp only [tdB] at hb
    split at hb <;> try (simp at hb; done)
    rename_i fs hu
    have ha : (TD.sv _ x).isAgg = true := rfl
    have : ∃ cs, v = .agg cs := by
      unfold Value.okWide at hv
      rw [hu] at hv
      obtain ⟨cs, h1, _⟩ := hv
      exact ⟨cs, h1⟩
    obtain ⟨cs, rfl⟩ := this
    rw [val_agg noPl ha, hc]
    rfl
  | ints n k =>
    simp only [tdB] at hb
    split at hb <;> try (simp at hb; done)
    rename_i n' e hu
    have ha : (TD.sv _ x).isAgg = true := rfl
    have : ∃ cs, v = .agg cs := by
      unfold Value.okWide at hv
      rw [hu] at hv
      obtain ⟨cs, h1, _⟩ := hv
      exact ⟨cs, h1⟩
    obtain ⟨cs, rfl⟩ := this
    rw [val_agg noPl ha, hc]
    rfl

/-- All arguments, opened. -/
theorem open_args {base : Nat} : ∀ {tds : List TD} {ts : List TypeId} {vs : List Value} {ds : List (DataW H)} {ps : List MemPlace}, tdAll P ts tds = true → DataW.TrodAll enc P w 0 (fun _ => true) true ts vs ds ps →
    (∀ (j : Nat) t v, ts[j]? = some t → vs[j]? = some v → Value.okWide P w .any base t v) → ∃ xs, tdFits tds xs ∧ vs = (tdSvs tds xs).map (val noPl) ∧ ∀ x ∈ tdSvs tds xs, Wf (fun i => w.heap[i]?) (fun _ => False) x
  | [], ts, vs, ds, ps, hb, h, _ => by
    cases ts with
    | nil =>
      obtain ⟨rfl, _, _⟩ := trodAll_nil h
      exact ⟨(), by simp [tdFits], rfl, by simp [tdSvs]⟩
    | cons t ts => simp [tdAll] at hb
  | td :: tds, ts, vs, ds, ps, hb, h, hv => by
    cases ts with
    | nil => simp [tdAll] at hb
    | cons t ts =>
      simp only [tdAll, Bool.and_eq_true] at hb
      cases vs with
      | nil => cases ds <;> simp [DataW.TrodAll] at h
      | cons v vs =>
        cases ds with
        | nil => simp [DataW.TrodAll] at h
        | cons d ds =>
          obtain ⟨p, q, ⟨fuel, h1⟩, h2, _⟩ := h
          obtain ⟨sv, h3⟩ := open_td hb.1 h1
          obtain ⟨svs, h4, h5, h6⟩ := open_args hb.2 h2 (fun j t' v' hj hj' => hv (j + 1) t' v' (by simpa using hj) (by simpa using hj'))
          have h7 := val_of_open hb.1 (hv 0 t v rfl rfl) h3
          refine ⟨(sv, svs), by simp only [tdFits]; exact ⟨h3.fit, h4⟩, by rw [h5, h7]; rfl, fun x hx => ?_⟩
          simp only [tdSvs] at hx
          rcases List.mem_cons.1 hx with rfl | hx
          · exact h3.wf
          · exact h6 x hx

theorem trodAll_carry {w' : World} {sp : Nat → Bool} : ∀ {ts : List TypeId} {vs : List Value} {ds : List (DataW H)} {ps : List MemPlace}, DataW.TrodAll enc P w 0 sp true ts vs ds ps → (∀ p ∈ ps, w.sameAt w' p) → DataW.TrodAll enc P w' 0 sp true ts vs ds ps
  | [], [], [], _, h, _ => h
  | _ :: _, _ :: _, _ :: _, _, ⟨p, q, ⟨n, h1⟩, h2, e⟩, hs => ⟨p, q, ⟨n, DataW.trod_carry n _ _ _ h1 fun x hx => hs x (by rw [e]; exact List.mem_append_left _ hx)⟩, trodAll_carry h2 (fun x hx => hs x (by rw [e]; exact List.mem_append_right _ hx)), e⟩
  | [], [], _ :: _, _, h, _ => by simp [DataW.TrodAll] at h
  | [], _ :: _, _, _, h, _ => by cases ‹List (DataW H)› <;> simp [DataW.TrodAll] at h
  | _ :: _, [], _, _, h, _ => by cases ‹List (DataW H)› <;> simp [DataW.TrodAll] at h
  | _ :: _, _ :: _, [], _, h, _ => by simp [DataW.TrodAll] at h

/-- **THE END OF A LAW**: it answered true; what was read reads so again. -/
theorem law_end {f : Func} {s : ChangeSpec} {apart : Bool} {W W' : World} {args : Array Value} {ds : List (DataW H)} {before : List MemPlace} {tb : TypeId}
    (hvars : s.vars = []) (hW : DataW.Whole enc P f.params.toList s.vars apart W args.toList ds [] before) (hA : DataW.TrodAll enc P W 0 (fun _ => true) true f.params.toList args.toList ds before)
    (hres : (s.fn H ds).results = [.lit (.bool true)]) (hargs : (s.fn H ds).args = ds) (hsv : (s.fn H ds).vars = []) (hr : f.resultTypes = #[tb]) (htb : P.underlying tb = some .bool)
    (hl : laidOutB P = true) (hm : mapsRowed P = true) (hz : ((List.range P.types.size).all fun t => match P.underlying t with | some (.slice e) => decide (0 < P.cellsOf e) | _ => true) = true) (ht : (f.params.toList.all fun t => decide (t < P.types.size)) = true)
    (hb : Below W.heap.size W W') : s.post enc P f apart true false false W args (.bool true) W' := by
  refine post_below (pa := before) (pv := []) (ds := ds) (gs := []) hW ?_ ?_ ?_ (by simp) hb ?_
  · intro b sp hd
    rw [List.append_nil, hr, hres]
    exact trodAll_cons_mk (shut_bool htb _) trodAll_mk0
  · intro sp hsp
    rw [List.append_nil, hargs]
    have h1 := DataW.TrodAll.respare (spare' := sp) (kids_rows hl hm) (slices_full_of P hz) (fun t h => of_decide_eq_true (List.all_eq_true.1 ht t h)) hA hsp
    exact trodAll_carry h1 fun p hp => hb.same (hW.lt p hp)
  · intro sp hsp
    rw [List.append_nil, hsv, hvars]
    rfl
  · intro j t r h1 h2
    rw [hr] at h1 h2
    exact ok_one (f := { f with resultTypes := #[tb] }) (by rfl) rfl (okWide_bool_mk htb _) j t r h1 h2
end

/-- A closed run, for the kernel: it ends with true. -/
def endsT (x : R Ans) : Bool := match x with | some (.bool true, _) => true | _ => false
theorem endsT_spec {x : R Ans} (h : endsT x = true) : EndsV x (.bool true) := by
  unfold endsT at h; split at h
  · exact ⟨_, rfl⟩
  · cases h
def trueF {α : Type} : FP α := fun args k => match args with
  | [] => k (.bool true)
  | _ => none
end Go.Sh

/-! Sk25 -/
namespace Go.Sh
open Go

abbrev Out := SX × Env × Heap
def outK : KC Out := fun x env σ => some (x, env, σ)

section
variable {α : Type} {P : Program} {I : Imm}

/-- The end of an evaluated piece of code. -/
def Gives (x : R Out) (Q : SX → Env → Heap → Prop) : Prop := ∃ sx env σ, x = some (sx, env, σ) ∧ Q sx env σ
theorem Gives.mono {x : R Out} {Q Q' : SX → Env → Heap → Prop} (h : Gives x Q) (hq : ∀ sx env σ, Q sx env σ → Q' sx env σ) : Gives x Q' := by
  obtain ⟨sx, env, σ, h1, h2⟩ := h
  exact ⟨sx, env, σ, h1, hq _ _ _ h2⟩

/-- Rounds. -/
inductive Loops (B : Env → Heap → KC Out → R Out) : Env → Heap → SX → Env → Heap → Prop where
  | last {env env' : Env} {σ σ' : Heap} {x : SX} : B env σ outK = some (x, env', σ') → x ≠ .norm → Loops B env σ x env' σ'
  | round {env env1 env' : Env} {σ σ1 σ' : Heap} {x : SX} : B env σ outK = some (.norm, env1, σ1) → Loops B env1 σ1 x env' σ' → Loops B env σ x env' σ'

theorem code_of_out {N : Nat} {c : Code} {B : Env → Heap → KC Out → R Out} (hB : SoundC P I N c B) {env env' : Env} {σ σ' : Heap} {x : SX} (h : B env σ outK = some (x, env', σ')) : Grow σ σ' ∧ CodeTo P I N c env σ x env' σ' := by
  obtain ⟨x1, env1, σ1, h1, h2, h3⟩ := hB _ _ _ _ h
  simp only [outK, Option.some.injEq, Prod.mk.injEq] at h1
  obtain ⟨rfl, rfl, rfl⟩ := h1
  exact ⟨h2, h3⟩
theorem Loops.rounds {N : Nat} {c : Code} {B : Env → Heap → KC Out → R Out} (hB : SoundC P I N c B) {env env' : Env} {σ σ' : Heap} {x : SX} (h : Loops B env σ x env' σ') : Grow σ σ' ∧ RoundsTo P I N c env σ x env' σ' := by
  induction h with
  | last h hx =>
    obtain ⟨h1, h2⟩ := code_of_out hB h
    exact ⟨h1, .last h2 hx⟩
  | round h _ ih =>
    obtain ⟨h1, h2⟩ := code_of_out hB h
    exact ⟨h1.trans ih.1, ih.2.round h2 h1.le ih.1.le⟩

/-- Less is told of a frame and a heap. -/
structure Less (env' : Env) (σ σ' : Heap) (env1 : Env) (σ1 : Heap) : Prop where
  env : ∀ t v, getE env' t = some v → getE env1 t = some v
  next : σ'.next = σ1.next
  heap : ∀ b o, σ'.get b = some o → σ1.get b = some o
  grow : Grow σ σ'
theorem CodeTo.less {N : Nat} {c : Code} {env env1 env' : Env} {σ σ1 σ' : Heap} {x : SX} (h : CodeTo P I N c env σ x env1 σ1) (hl : Less env' σ σ' env1 σ1) : CodeTo P I N c env σ x env' σ' := by
  intro ρ D a w hs hfr Q hq
  refine h ρ D a w hs (by rw [← hl.next]; exact hfr) Q fun ρ' a' w' hs' hx => hq ρ' a' w' ⟨by rw [hl.next]; exact hs'.env.less hl.env, by rw [hl.next]; exact hs'.heap.less hl.heap⟩ ?_
  unfold ExtS at hx ⊢
  rw [hl.next]
  exact ⟨hx.le, hx.agree, hx.os, hx.tape, hx.output, hx.size, hx.frame, fun b o hb => hx.img b o (hl.heap b o hb)⟩

/-- **THE LAW OF A LOOP.** -/
theorem loop_of {N : Nat} {c : Code} {A : Env → Heap → KC Out → R Out} (ha : SoundC P I N c A) (ts bs : List Nat) {F : LF α}
    (hF : ∀ env σ k r, F env σ k = some r → ∃ x env1 σ1 env' σ', Loops (lround ts bs A) env σ x env1 σ1 ∧ Less env' σ σ' env1 σ1 ∧ k x env' σ' = some r) : SoundC P I N (.loop c) F := by
  intro env σ k r h
  obtain ⟨x, env1, σ1, env', σ', h1, h2, h3⟩ := hF env σ k r h
  obtain ⟨_, h5⟩ := h1.rounds (sound_lround ha)
  exact ⟨x, env', σ', h3, h2.grow, h5.loop.less h2⟩

/-- A loop that counts: an invariant, the last round. -/
theorem loops_count {B : Env → Heap → KC Out → R Out} {Inv : Nat → Env → Heap → Prop} {Q : SX → Env → Heap → Prop} {n : Nat}
    (hr : ∀ j env σ, j < n → Inv j env σ → Gives (B env σ outK) fun x env' σ' => x = .norm ∧ Inv (j + 1) env' σ') (he : ∀ env σ, Inv n env σ → Gives (B env σ outK) fun x env' σ' => x ≠ .norm ∧ Q x env' σ') :
    ∀ m j env σ, j + m = n → Inv j env σ → ∃ x env1 σ1, Loops B env σ x env1 σ1 ∧ Q x env1 σ1
  | 0, j, env, σ, hj, hi => by
    have : j = n := by omega
    subst this
    obtain ⟨x, env', σ', h1, h2, h3⟩ := he env σ hi
    exact ⟨x, env', σ', .last h1 h2, h3⟩
  | m + 1, j, env, σ, hj, hi => by
    obtain ⟨x, env', σ', h1, rfl, h3⟩ := hr j env σ (by omega) hi
    obtain ⟨x, env1, σ1, h4, h5⟩ := loops_count hr he m (j + 1) env' σ' (by omega) h3
    exact ⟨x, env1, σ1, .round h1 h4, h5⟩

theorem env_less {env1 : Env} : ∀ {l : Env}, AllL (fun x => getE env1 x.1 = some x.2) l → ∀ t v, getE l t = some v → getE env1 t = some v
  | [], _, t, v, h => by simp [getE] at h
  | (c, u) :: l, ha, t, v, h => by
    simp only [getE] at h
    cases e : Nat.beq c t <;> rw [e] at h
    · exact env_less (l := l) ha.2 t v h
    · have := Nat.eq_of_beq_eq_true e
      subst this
      simp only [cond_true, Option.some.injEq] at h
      subst h
      exact ha.1
/-- What is told behind a loop: some temporaries, some blocks; no new block. -/
theorem less_mk {l : Env} {bl : List (Nat × SObj)} {σ : Heap} {env1 : Env} {σ1 : Heap} (he : AllL (fun x => getE env1 x.1 = some x.2) l) (hn : σ1.next = σ.next) (hb : AllL (Told σ1) bl)
    (hk : ∀ b o, inK b bl = false → σ.get b = some o → σ1.get b = some o) (hg : AllL (fun y => ∃ o, σ.get y.1 = some o) bl) : Less l σ ⟨σ.next, bl ++ σ.blocks⟩ env1 σ1 := by
  refine ⟨env_less he, hn.symm, fun b o h => ?_, Nat.le_refl _, bl, rfl, fun y hy => .inl (allL_iff.1 hg y hy)⟩
  cases e : inK b bl
  · have h2 : getL (bl ++ σ.blocks) b = some o := h
    rw [getL_none_of (inK_false e)] at h2
    exact hk b o e h2
  · have h1 := inK_app e h
    exact told_of (allL_iff.1 hb _ (getL_mem h1)) o (getL_live h1)
theorem inK_one {b c : Nat} {o : SObj} (h : inK b [(c, o)] = false) : Nat.beq c b = false := by
  simp only [inK] at h
  cases e : Nat.beq c b
  · rfl
  · rw [e] at h; simp at h

def bodyOf (fn : Func) : Code := match fn.body with | some c => c | none => .skip
/-- A function's loops, by number. -/
def loopNo (fn : Func) (j : Nat) : Code := (loopsOf (bodyOf fn)).getD j .skip

theorem flok_of {L : LO α} {fn : Func} {l : List Code} (hl : loopsOf (bodyOf fn) = l) (h : AllL (fun c' => ∀ F, llook L (headId c') = some F → SoundC P I fn.ntmps (.loop c') F) l) : FLOk P I L fn := by
  intro c hc c' hc' F hF
  have : bodyOf fn = c := by unfold bodyOf; rw [hc]
  rw [← this, hl] at hc'
  exact allL_iff.1 h c' hc' F hF
theorem lk_one {i : Nat} {F G : LF α} {L : LO α} (h : llook ((i, F) :: L) (some i) = some G) : G = F := by
  simp only [llook, Nat.beq_refl, cond_true, Option.some.injEq] at h
  exact h.symm
/-- One loop, one law. -/
theorem flok_one {fn : Func} {i : Nat} {F : LF α} (hl : loopsOf (bodyOf fn) = [loopNo fn 0]) (hi : headId (loopNo fn 0) = some i) (h : SoundC P I fn.ntmps (.loop (loopNo fn 0)) F) : FLOk P I [(i, F)] fn := by
  refine flok_of hl ⟨fun G hG => ?_, trivial⟩
  rw [hi] at hG
  rw [lk_one hG]; exact h
end
end Go.Sh

/-! Sk26 -/
namespace Go.Sh
open Go

section
variable {α : Type} {P : Program} {I : Imm}

def decI (kd : IntKind) (v : SV) (k : Int → R α) : R α := match v with
  | .int kd' x => bif decide (kd' = kd) then k x else none
  | _ => none
theorem decI_spec {kd : IntKind} {v : SV} {k : Int → R α} {r : α} (h : decI kd v k = some r) : ∃ x, v = .int kd x ∧ k x = some r := by
  unfold decI at h
  split at h <;> try (cases h; done)
  rename_i kd' x
  obtain ⟨h1, h2⟩ := bif_some h
  exact ⟨x, by rw [of_decide_eq_true h1], h2⟩
def decB (v : SV) (k : Bool → R α) : R α := match v with
  | .bool x => k x
  | _ => none
theorem decB_spec {v : SV} {k : Bool → R α} {r : α} (h : decB v k = some r) : ∃ x, v = .bool x ∧ k x = some r := by
  unfold decB at h
  split at h <;> try (cases h; done)
  exact ⟨_, rfl, h⟩
def decS (v : SV) (k : ByteArray → R α) : R α := match v with
  | .str x => k x
  | _ => none
theorem decS_spec {v : SV} {k : ByteArray → R α} {r : α} (h : decS v k = some r) : ∃ x, v = .str x ∧ k x = some r := by
  unfold decS at h
  split at h <;> try (cases h; done)
  exact ⟨_, rfl, h⟩
def decA (kd : IntKind) (n : Nat) (v : SV) (k : (Nat → Int) → R α) : R α := match v with
  | .ints kd' m f => bif decide (kd' = kd) && Nat.beq m n then k f else none
  | _ => none
theorem decA_spec {kd : IntKind} {n : Nat} {v : SV} {k : (Nat → Int) → R α} {r : α} (h : decA kd n v k = some r) : ∃ f, v = .ints kd n f ∧ k f = some r := by
  unfold decA at h
  split at h <;> try (cases h; done)
  rename_i kd' m f
  obtain ⟨h1, h2⟩ := bif_some h
  simp only [Bool.and_eq_true, decide_eq_true_eq, Nat.beq_eq] at h1
  obtain ⟨rfl, rfl⟩ := h1
  exact ⟨f, rfl, h2⟩
def decAB (n : Nat) (v : SV) (k : (Nat → Bool) → R α) : R α := match v with
  | .bools m f => bif Nat.beq m n then k f else none
  | _ => none
theorem decAB_spec {n : Nat} {v : SV} {k : (Nat → Bool) → R α} {r : α} (h : decAB n v k = some r) : ∃ f, v = .bools n f ∧ k f = some r := by
  unfold decAB at h
  split at h <;> try (cases h; done)
  rename_i m f
  obtain ⟨h1, h2⟩ := bif_some h
  simp only [Nat.beq_eq] at h1
  subst h1
  exact ⟨f, rfl, h2⟩

/-- **THE CONTRACT OF A FUNCTION OF PLAIN VALUES**, by any end of the run that tells the value. -/
theorem orc_pureK {te : TE} (hpr : Prg P te) {O : ORC α} (hO : OOk P I O) {L : LO α} (n : Fuel) {f : FuncId} {fn : Func} (hf : P.funcs[f]? = some fn) (h1 : (fn.name == "runtime.NumGoroutine") = false) (h2 : fn.body.isNone = false) (hok : fnOk fn = true) (hL : FLOk P I L fn)
    {F : FP α} (hF : ∀ args k r, F args k = some r → (∀ x ∈ args, Ids (fun _ => False) x) ∧ ∃ D : SV → R α, bodyL te O L n fn args emp (fun v _ => D v) = some r ∧ ∀ v, D v = some r → k v = some r ∧ Ids (fun _ => False) v) : OrcOk P I f (.pure F) := by
  refine ⟨enters_of hf h1 h2, fun args k r hk => ?_⟩
  obtain ⟨h5, D, h6, h7⟩ := hF args k r hk
  obtain ⟨v, σ', h8, hg, h9⟩ := body_calls hpr hO hf hok hL h6
  obtain ⟨h10, h11⟩ := h7 v h8
  exact ⟨v, h10, pure_of_calls h9 h11 h5⟩

/-- A branch behind a continuation. -/
theorem cnd {β : Type} {c : Bool} {A B : R α} {a b : β} {K : β → R α} (h1 : A = K a) (h2 : B = K b) : cond c A B = K (cond c a b) := by cases c <;> assumption
theorem cndG {β : Type} {c : Bool} {A : R α} {a : β} {K : β → R α} (h : c = true) (h1 : A = K a) : cond c A none = K a := by rw [h]; exact h1
theorem cndN {β : Type} {c : Bool} {A : R α} {a : β} {K : β → R α} (h : c = false) (h1 : A = K a) : cond c none A = K a := by rw [h]; exact h1
/-- .. knowing which way. -/
theorem cndH {β : Type} {c : Bool} {A B : R α} {a b : β} {K : β → R α} (h1 : c = true → A = K a) (h2 : c = false → B = K b) : cond c A B = K (cond c a b) := by cases c <;> simp_all
/-- A contract that says less. -/
theorem orc_le {f : FuncId} {F F' : FP α} (h : OrcOk P I f (.pure F)) (hle : ∀ args k r, F' args k = some r → F args k = some r) : OrcOk P I f (.pure F') :=
  ⟨h.1, fun args k r hk => h.2 args k r (hle args k r hk)⟩
theorem orc_leF {f : FuncId} {F F' : FF α} (h : OrcOk P I f (.full F)) (hle : ∀ args σ k r, F' args σ k = some r → F args σ k = some r) : OrcOk P I f (.full F') :=
  ⟨h.1, fun args σ k r hk => h.2 args σ k r (hle args σ k r hk)⟩

/-! ### Contracts over memory, by any end of the run -/
/-- **THE CONTRACT OF A FUNCTION OVER MEMORY**, by any end of the run that tells the value and the blocks. -/
theorem orc_canonK {te : TE} (hpr : Prg P te) {O : ORC α} (hO : OOk P I O) {L : LO α} (n : Fuel) {f : FuncId} {fn : Func} (hf : P.funcs[f]? = some fn) (h1 : (fn.name == "runtime.NumGoroutine") = false) (h2 : fn.body.isNone = false) (hok : fnOk fn = true) (hL : FLOk P I L fn)
    {F : FF α} (hF : ∀ args σ k r, F args σ k = some r → ∃ rl os args0, Lay rl os args0 args σ ∧ ∃ D : SV → Heap → R α, bodyL te O L n fn args0 (hp os) D = some r ∧
      ∀ v0 σ1, Grow (hp os) σ1 → D v0 σ1 = some r → ∃ nw bl, Pub rl os σ v0 σ1 nw bl ∧ k (ren (rnm rl σ.next nw) v0) ⟨σ.next + nw.length, (bl.map fun x => (rnm rl σ.next nw x.1, renO (rnm rl σ.next nw) x.2)) ++ σ.blocks⟩ = some r) : OrcOk P I f (.full F) := by
  refine ⟨enters_of hf h1 h2, fun args σ k r hk => ?_⟩
  obtain ⟨rl, os, args0, h3, D, h4, h5⟩ := hF args σ k r hk
  obtain ⟨v0, σ1, h6, hg, h8⟩ := body_calls hpr hO hf hok hL h4
  obtain ⟨nw, bl, h9, h10⟩ := h5 v0 σ1 hg h6
  obtain ⟨h11, h12⟩ := canon_calls h8 hg h3 h9
  exact ⟨_, _, h10, h12, h11⟩

theorem withMem_eq {σ : Heap} {b b1 : Nat} {g0 g1 : Option Nat} {f : Nat → Int} (h0 : σ.get b = some (memO b1 g0)) (h1 : σ.get b1 = some (byO g1 f)) (hne : b ≠ b1) (k : Nat → Nat → Option Nat → Option Nat → (Nat → Int) → R α) : withMem σ (.ptr b []) k = k b b1 g0 g1 f := by
  have e : Nat.beq b b1 = false := beq_ne hne
  simp only [withMem, h0, h1, Nat.beq_refl, Bool.and_self, cond_true, e, Bool.not_false]
/-- Of m given blocks none was written. -/
def kept (m : Nat) (σ1 : Heap) : Bool := allB (fun x => Nat.ble m x.1) (σ1.blocks.take (σ1.blocks.length - m))
/-- .. but for the block i. -/
def keptX (m i : Nat) (σ1 : Heap) : Bool := allB (fun x => cond (Nat.ble m x.1) true (Nat.beq x.1 i)) (σ1.blocks.take (σ1.blocks.length - m))
theorem allB_iff {β : Type} {p : β → Bool} : ∀ {l : List β}, allB p l = true ↔ ∀ x ∈ l, p x = true
  | [] => by simp [allB]
  | x :: l => by cases h : p x <;> simp [allB, h, allB_iff (l := l)]
theorem enumO_length : ∀ (l : List SObj) (n : Nat), (enumO n l).length = l.length
  | [], _ => rfl
  | x :: l, n => by simp [enumO, enumO_length l]
theorem grow_take {os : List SObj} {σ1 : Heap} (hg : Grow (hp os) σ1) : σ1.blocks = σ1.blocks.take (σ1.blocks.length - os.length) ++ enumO 0 os := by
  obtain ⟨l, h, _⟩ := hg.pre
  rw [h]
  simp [hp, enumO_length]
theorem enumO_lt : ∀ {l : List SObj} {n : Nat} {y : Nat × SObj}, y ∈ enumO n l → n ≤ y.1 ∧ y.1 < n + l.length
  | [], n, y, h => by simp [enumO] at h
  | x :: l, n, y, h => by
    simp only [enumO, List.mem_cons] at h
    rcases h with rfl | h
    · simp
    · have := enumO_lt h
      simp only [List.length_cons]; omega
theorem enumO_self : ∀ {l : List SObj} {n : Nat} {y : Nat × SObj}, y ∈ enumO n l → (∀ o ∈ l, o.live = some o) → getL (enumO n l) y.1 = some y.2
  | [], n, y, h, _ => by simp [enumO] at h
  | x :: l, n, y, h, hl => by
    simp only [enumO, List.mem_cons] at h
    rcases h with rfl | h
    · simp [enumO, getL, hl x (by simp)]
    · have h1 := enumO_lt h
      have e : Nat.beq n y.1 = false := beq_ne (by omega)
      simp only [enumO, getL, e, cond_false]
      exact enumO_self h fun o ho => hl o (List.mem_cons_of_mem _ ho)
theorem keptX_get {os : List SObj} {i : Nat} {σ1 : Heap} (hg : Grow (hp os) σ1) (hl : ∀ o ∈ os, o.live = some o) (h : keptX os.length i σ1 = true) : ∀ y ∈ enumO 0 os, y.1 ≠ i → σ1.get y.1 = some y.2 := by
  intro y hy hne
  have h1 := enumO_lt hy
  unfold Heap.get
  rw [grow_take hg, getL_none_of]
  · exact enumO_self hy hl
  · intro x hx e
    have h2 := allB_iff.1 h x hx
    cases hb : Nat.ble os.length x.1 <;> rw [hb] at h2
    · simp only [cond_false] at h2
      exact hne (by rw [← e]; exact Nat.eq_of_beq_eq_true h2)
    · have := Nat.le_of_ble_eq_true hb
      omega
theorem kept_get {os : List SObj} {σ1 : Heap} (hg : Grow (hp os) σ1) (hl : ∀ o ∈ os, o.live = some o) (h : kept os.length σ1 = true) : ∀ y ∈ enumO 0 os, σ1.get y.1 = some y.2 := by
  intro y hy
  refine keptX_get (i := os.length) hg hl (allB_iff.2 fun x hx => ?_) y hy (by have := enumO_lt hy; omega)
  rw [allB_iff.1 h x hx]; rfl
theorem pub_keep {rl : List Nat} {os : List SObj} {σ σ1 : Heap} {v0 : SV} (hg : Grow (hp os) σ1) (hl : ∀ o ∈ os, o.live = some o) (h : kept os.length σ1 = true) (hv : Ids (fun _ => False) v0) : Pub rl os σ v0 σ1 [] [] :=
  ⟨by simp, by simp, hv.mono fun _ h => h.elim, by simp, by simp, fun y hy => .inr (kept_get hg hl h y hy)⟩
/-- The one block that was written, as it is now. -/
def nowAt (σ1 : Heap) (i : Nat) (k : Option Nat → (Nat → Int) → R α) : R α := match σ1.get i with
  | some (.cells g (.ints .u8 m f)) => bif Nat.beq m 32768 then k g f else none
  | _ => none
theorem nowAt_spec {σ1 : Heap} {i : Nat} {k : Option Nat → (Nat → Int) → R α} {r : α} (h : nowAt σ1 i k = some r) : ∃ g f, σ1.get i = some (byO g f) ∧ k g f = some r := by
  unfold nowAt at h
  split at h <;> try (cases h; done)
  rename_i g m f h0
  obtain ⟨h1, h2⟩ := bif_some h
  simp only [Nat.beq_eq] at h1
  subst h1
  exact ⟨g, f, h0, h2⟩
theorem pub_write {rl : List Nat} {os : List SObj} {σ σ1 : Heap} {v0 : SV} {i : Nat} {g : Option Nat} {f : Nat → Int} (hg : Grow (hp os) σ1) (hl : ∀ o ∈ os, o.live = some o) (h : keptX os.length i σ1 = true) (hi : i < os.length) (hn : σ1.get i = some (byO g f)) (hv : Ids (fun _ => False) v0) : Pub rl os σ v0 σ1 [] [(i, byO g f)] := by
  refine ⟨by simp, by simp, hv.mono fun _ h => h.elim, ?_, ?_, fun y hy => ?_⟩
  · simp [hi, OIds, Ids]
  · intro x hx o ho
    simp only [List.mem_singleton] at hx
    subst hx
    simp only [SObj.live, Option.some.injEq] at ho
    subst ho
    exact hn
  · by_cases e : y.1 = i
    · left; simp [inK, e]
    · right; exact keptX_get hg hl h y hy e
/-- A row that is handed back: nil or not, how many, what. -/
def decR (m : Nat) (kd : IntKind) (s : SV) (σ1 : Heap) (k : Bool → Nat → (Nat → Int) → R α) : R α := match s with
  | .nils => k true 0 fun _ => 0
  | .slc b [] sz off n none => bif (Nat.beq sz 1 && Nat.beq off 0) && (Nat.ble m b && Nat.blt b σ1.next) then match σ1.get b with
    | some (.cells (some sz') (.ints kd' m f)) => bif Nat.beq sz' 1 && (decide (kd' = kd) && Nat.beq m n) then k false n f else none
    | _ => none else none
  | _ => none
theorem decR_spec {m : Nat} {kd : IntKind} {s : SV} {σ1 : Heap} {k : Bool → Nat → (Nat → Int) → R α} {r : α} (h : decR m kd s σ1 k = some r) :
    (s = .nils ∧ k true 0 (fun _ => 0) = some r) ∨ ∃ b n f, s = .slc b [] 1 0 n none ∧ (m ≤ b ∧ b < σ1.next) ∧ σ1.get b = some (.cells (some 1) (.ints kd n f)) ∧ k false n f = some r := by
  unfold decR at h
  split at h <;> try (cases h; done)
  · exact .inl ⟨rfl, h⟩
  · obtain ⟨h1, h2⟩ := bif_some h
    split at h2 <;> try (cases h2; done)
    rename_i h0
    obtain ⟨h3, h4⟩ := bif_some h2
    simp only [Bool.and_eq_true, Nat.beq_eq, decide_eq_true_eq] at h1 h3
    obtain ⟨⟨rfl, rfl⟩, h5, h6⟩ := h1
    obtain ⟨rfl, rfl, rfl⟩ := h3
    exact .inr ⟨_, _, _, rfl, ⟨Nat.le_of_ble_eq_true h5, Nat.le_of_ble_eq_true h6⟩, h0, h4⟩
theorem pub_row {rl : List Nat} {os : List SObj} {σ σ1 : Heap} {v0 : SV} {b n : Nat} {kd : IntKind} {f : Nat → Int} (hg : Grow (hp os) σ1) (hl : ∀ o ∈ os, o.live = some o) (h : kept os.length σ1 = true) (hb : os.length ≤ b) (hn : σ1.get b = some (.cells (some 1) (.ints kd n f))) (hlt : b < σ1.next) (hv : Ids (fun i => i = b) v0) :
    Pub rl os σ v0 σ1 [b] [(b, .cells (some 1) (.ints kd n f))] := by
  refine ⟨by simp, fun i hi => ?_, hv.mono fun _ h => .inr (by simp [h]), ?_, ?_, fun y hy => .inr (kept_get hg hl h y hy)⟩
  · simp only [List.mem_singleton] at hi
    subst hi; exact ⟨hb, hlt⟩
  · simp [OIds, Ids]
  · intro x hx o ho
    simp only [List.mem_singleton] at hx
    subst hx
    simp only [SObj.live, Option.some.injEq] at ho
    subst ho
    exact hn
/-- A cell behind a pointer. -/
def withCell (σ : Heap) (p : SV) (k : Nat → Option Nat → SV → R α) : R α := match p with
  | .ptr c [] => match σ.get c with
    | some (.cells g v) => k c g v
    | _ => none
  | _ => none
theorem withCell_spec {σ : Heap} {p : SV} {k : Nat → Option Nat → SV → R α} {r : α} (h : withCell σ p k = some r) : ∃ c g v, p = .ptr c [] ∧ σ.get c = some (.cells g v) ∧ k c g v = some r := by
  unfold withCell at h
  split at h <;> try (cases h; done)
  split at h <;> try (cases h; done)
  rename_i h0
  exact ⟨_, _, _, rfl, h0, h⟩
theorem withCell_eq {σ : Heap} {c : Nat} {g : Option Nat} {v : SV} (h : σ.get c = some (.cells g v)) (k : Nat → Option Nat → SV → R α) : withCell σ (.ptr c []) k = k c g v := by
  simp only [withCell, h]
def nowCell (σ1 : Heap) (i : Nat) (k : Option Nat → SV → R α) : R α := match σ1.get i with
  | some (.cells g v) => k g v
  | _ => none
theorem nowCell_spec {σ1 : Heap} {i : Nat} {k : Option Nat → SV → R α} {r : α} (h : nowCell σ1 i k = some r) : ∃ g v, σ1.get i = some (.cells g v) ∧ k g v = some r := by
  unfold nowCell at h
  split at h <;> try (cases h; done)
  rename_i h0
  exact ⟨_, _, h0, h⟩
def decNil (s : SV) (k : R α) : R α := match s with | .nils => k | _ => none
theorem decNil_spec {s : SV} {k : R α} {r : α} (h : decNil s k = some r) : s = .nils ∧ k = some r := by
  unfold decNil at h
  split at h <;> try (cases h; done)
  exact ⟨rfl, h⟩
theorem pub_cell {rl : List Nat} {os : List SObj} {σ σ1 : Heap} {v0 v : SV} {i : Nat} {g : Option Nat} (hg : Grow (hp os) σ1) (hl : ∀ o ∈ os, o.live = some o) (h : keptX os.length i σ1 = true) (hi : i < os.length) (hn : σ1.get i = some (.cells g v)) (hv : Ids (fun _ => False) v0) (hv2 : Ids (fun _ => False) v) : Pub rl os σ v0 σ1 [] [(i, .cells g v)] := by
  refine ⟨by simp, by simp, hv.mono fun _ h => h.elim, ?_, ?_, fun y hy => ?_⟩
  · intro x hx
    simp only [List.mem_singleton] at hx
    subst hx
    exact ⟨.inl hi, hv2.mono fun _ h => h.elim⟩
  · intro x hx o ho
    simp only [List.mem_singleton] at hx
    subst hx
    simp only [SObj.live, Option.some.injEq] at ho
    subst ho
    exact hn
  · by_cases e : y.1 = i
    · left; simp [inK, e]
    · right; exact keptX_get hg hl h y hy e
theorem pub_cell_row {rl : List Nat} {os : List SObj} {σ σ1 : Heap} {v0 v : SV} {i b n : Nat} {g : Option Nat} {kd : IntKind} {f : Nat → Int} (hg : Grow (hp os) σ1) (hl : ∀ o ∈ os, o.live = some o) (h : keptX os.length i σ1 = true) (hi : i < os.length) (hn : σ1.get i = some (.cells g v))
    (hb : os.length ≤ b) (hr : σ1.get b = some (.cells (some 1) (.ints kd n f))) (hlt : b < σ1.next) (hv : Ids (fun j => j = b) v0) (hv2 : Ids (fun j => j = b) v) : Pub rl os σ v0 σ1 [b] [(i, .cells g v), (b, .cells (some 1) (.ints kd n f))] := by
  refine ⟨by simp, fun j hj => ?_, hv.mono fun _ h => .inr (by simp [h]), ?_, ?_, fun y hy => ?_⟩
  · simp only [List.mem_singleton] at hj
    subst hj; exact ⟨hb, hlt⟩
  · intro x hx
    simp only [List.mem_cons, List.not_mem_nil, or_false] at hx
    rcases hx with rfl | rfl
    · exact ⟨.inl hi, hv2.mono fun _ h => .inr (by simp [h])⟩
    · exact ⟨.inr (by simp), by simp [OIds, Ids]⟩
  · intro x hx o ho
    simp only [List.mem_cons, List.not_mem_nil, or_false] at hx
    rcases hx with rfl | rfl <;> simp only [SObj.live, Option.some.injEq] at ho <;> subst ho
    · exact hn
    · exact hr
  · by_cases e : y.1 = i
    · left; simp [inK, e]
    · right; exact keptX_get hg hl h y hy e
end
end Go.Sh

/-! Sk27 -/
namespace Go.Sh
open Go

section
variable {α : Type} {P : Program} {I : Imm}

/-- From a run on numbered blocks back to the real ones. -/
theorem ren_back {σ0 σ1 σ : Heap} {ρ : Nat → Pl} {D : Nat → Prop} {w w' : World} {r r' : Nat → Nat} {ρ1 : Nat → Pl}
    (hh : HRel I ρ D σ.get w)
    (hob : ∀ i o, σ0.get i = some o → i < σ0.next ∧ OIds (· < σ0.next) o)
    (hσ : ∀ i o, σ0.get i = some o → σ.get (r i) = some (renO r o)) {nw : List Nat} (hr' : ∀ i, i < σ0.next → r' i = r i) (hnw : ∀ (j i : Nat), nw[j]? = some i → σ0.next ≤ i ∧ i < σ1.next ∧ r' i = σ.next + j)
    {K : Nat → Prop} (hK : ∀ i, K i ↔ i < σ0.next ∨ i ∈ nw) {bl : List (Nat × SObj)} (hbl : ∀ x ∈ bl, K x.1 ∧ OIds K x.2) (hget : ∀ i o, K i → getL (bl ++ σ0.blocks) i = some o → σ1.get i = some o)
    (hfr : free D σ.next (σ.next + nw.length))
    (hx : ExtS (fun i => ρ (r i)) (fun i => D (r i) ∧ i < σ0.next) σ0 w ρ1 σ1 w') (hh' : HRel I ρ1 (plus (fun i => D (r i) ∧ i < σ0.next) σ0.next σ1.next) σ1.get w') :
    ∃ ρ', (∀ i, plus (fun i => D (r i) ∧ i < σ0.next) σ0.next σ1.next i ∧ K i → ρ' (r' i) = ρ1 i) ∧ (∀ i, plus (fun i => D (r i) ∧ i < σ0.next) σ0.next σ1.next i ∧ K i → plus D σ.next (σ.next + nw.length) (r' i)) ∧
      ExtS ρ D σ w ρ' ⟨σ.next + nw.length, (bl.map fun x => (r' x.1, renO r' x.2)) ++ σ.blocks⟩ w' ∧ HRel I ρ' (plus D σ.next (σ.next + nw.length)) (Heap.get ⟨σ.next + nw.length, (bl.map fun x => (r' x.1, renO r' x.2)) ++ σ.blocks⟩) w' := by
  -- where the blocks lie now
  let ρ' : Nat → Pl := fun c => if σ.next ≤ c then (match nw[c - σ.next]? with | some i => ρ1 i | none => ρ c) else ρ c
  have new : ∀ (j i : Nat), nw[j]? = some i → ρ' (σ.next + j) = ρ1 i := fun j i hj => by
    simp only [ρ', Nat.le_add_right, if_true, Nat.add_sub_cancel_left, hj]
  have old : ∀ c, D c → ρ' c = ρ c := fun c hc => by
    by_cases h1 : σ.next ≤ c
    · have h2 : σ.next + nw.length ≤ c := by
        by_cases h2 : c < σ.next + nw.length
        · exact absurd hc (hfr c h1 h2)
        · omega
      simp only [ρ', h1, if_true]
      rw [List.getElem?_eq_none (by omega)]
    · simp only [ρ', h1, if_false]
  have oldi : ∀ i, D (r i) ∧ i < σ0.next → ρ' (r' i) = ρ1 i := fun i hi => by
    rw [hr' i hi.2, old _ hi.1]; exact (hx.agree i hi).symm
  have newi : ∀ i, i ∈ nw → ρ' (r' i) = ρ1 i := fun i hi => by
    obtain ⟨j, hj⟩ := List.getElem?_of_mem hi
    rw [(hnw j i hj).2.2, new j i hj]
  have all : ∀ i, plus (fun i => D (r i) ∧ i < σ0.next) σ0.next σ1.next i ∧ K i → ρ' (r' i) = ρ1 i := fun i hi => by
    rcases (hK i).1 hi.2 with h1 | h1
    · rcases hi.1 with h2 | h2
      · exact oldi i h2
      · omega
    · exact newi i h1
  have dom' : ∀ i, plus (fun i => D (r i) ∧ i < σ0.next) σ0.next σ1.next i ∧ K i → plus D σ.next (σ.next + nw.length) (r' i) := fun i hi => by
    rcases (hK i).1 hi.2 with h1 | h1
    · rcases hi.1 with h2 | h2
      · rw [hr' i h1]; exact .inl h2.1
      · omega
    · obtain ⟨j, hj⟩ := List.getElem?_of_mem h1
      have hlt := (List.getElem?_eq_some_iff.1 hj).1
      rw [(hnw j i hj).2.2]; exact .inr (by omega)
  have parts : ∀ b o, getL ((bl.map fun x => (r' x.1, renO r' x.2)) ++ σ.blocks) b = some o →
      (∃ i o0, K i ∧ σ1.get i = some o0 ∧ OIds K o0 ∧ r' i = b ∧ renO r' o0 = o) ∨ (σ.get b = some o ∧ ∀ i o0, σ0.get i = some o0 → r i ≠ b) := by
    intro b o hb
    rcases getL_bl hb with ⟨i, o0, h1, h2, h3, h4⟩ | ⟨h1, h2⟩
    · obtain ⟨h5, h6⟩ := hbl _ h1
      exact .inl ⟨i, o0, h5, hget i o0 h5 (getL_app_of h2), h6, h3, h4⟩
    · by_cases hc : ∃ i o0, σ0.get i = some o0 ∧ r i = b
      · obtain ⟨i, o0, h3, h4⟩ := hc
        obtain ⟨h5, h6⟩ := hob i o0 h3
        have h7 : K i := (hK i).2 (.inl h5)
        refine .inl ⟨i, o0, h7, hget i o0 h7 ?_, h6.mono fun c hc => (hK c).2 (.inl hc), by rw [hr' i h5, h4], ?_⟩
        · rw [getL_none_of]
          · exact h3
          · rintro x hx rfl
            exact h2 x hx (by rw [hr' _ h5, h4])
        · have h8 := hσ i o0 h3
          rw [h4] at h8
          have h9 : σ.get b = some o := h1
          rw [h9] at h8
          rw [Option.some.inj h8]
          exact renO_congr (fun c hc => hr' c hc) h6
      · exact .inr ⟨h1, fun i o0 h3 h4 => hc ⟨i, o0, h3, h4⟩⟩
  have far : ∀ b o, σ.get b = some o → (∀ i o0, σ0.get i = some o0 → r i ≠ b) → w'.heap[(ρ b).blk]? = w.heap[(ρ b).blk]? := fun b o hb hn =>
    hx.frame _ (hh.obj b o hb).lt fun c oc hc e => hn c oc hc (hh.inj _ _ _ _ (hσ c oc hc) hb e)
  have apart : ∀ i o0 b o, σ1.get i = some o0 → σ.get b = some o → (∀ i o0, σ0.get i = some o0 → r i ≠ b) → (ρ1 i).blk = (ρ b).blk → False := fun i o0 b o h1 h2 h3 e => by
    have hlt := (hh.obj b o h2).lt
    rcases hx.img i o0 h1 with h4 | ⟨b0, o1, h5, h6⟩
    · omega
    · exact h3 b0 o1 h5 (hh.inj _ _ _ _ (hσ b0 o1 h5) h2 (h6.trans e))
  have wf1 : ∀ i o0, σ1.get i = some o0 → OIds K o0 → K i → OWf I (fun i => plus (fun i => D (r i) ∧ i < σ0.next) σ0.next σ1.next i ∧ K i) o0 ∧ (plus (fun i => D (r i) ∧ i < σ0.next) σ0.next σ1.next i ∧ K i) := fun i o0 h1 h2 h3 => by
    obtain ⟨h4, h5⟩ := hh'.wf.dom i o0 h1
    exact ⟨OWf.andIds h5 h2, h4, h3⟩
  refine ⟨ρ', all, dom', ?_, ?_⟩
  · refine ⟨fun _ h => .inl h, old, hx.os, hx.tape, hx.output, hx.size, fun i hi hn => hx.frame i hi fun b o hb e => hn (r b) _ (hσ b o hb) e, fun b o hb => ?_⟩
    rcases parts b o hb with ⟨i, o0, h1, h2, h3, rfl, rfl⟩ | ⟨h1, h2⟩
    · rw [all i (wf1 i o0 h2 h3 h1).2]
      rcases hx.img i o0 h2 with h4 | ⟨b0, o1, h5, h6⟩
      · exact .inl h4
      · exact .inr ⟨r b0, _, hσ b0 o1 h5, h6⟩
    · rw [old b (hh.wf.dom b o h1).1]
      exact .inr ⟨b, o, h1, rfl⟩
  · refine ⟨⟨fun b o hb => ?_⟩, fun b o hb => ?_, fun b o b' o' hb hb' e => ?_, hh'.imm, fun b o hb => ?_⟩
    · rcases parts b o hb with ⟨i, o0, h1, h2, h3, rfl, rfl⟩ | ⟨h1, h2⟩
      · obtain ⟨h4, h5⟩ := wf1 i o0 h2 h3 h1
        exact ⟨dom' i h5, (owf_ren r').2 (h4.mono' dom')⟩
      · exact ⟨.inl (hh.wf.dom b o h1).1, (hh.wf.dom b o h1).2.mono' fun c hc => .inl hc⟩
    · rcases parts b o hb with ⟨i, o0, h1, h2, h3, rfl, rfl⟩ | ⟨h1, h2⟩
      · obtain ⟨h4, h5⟩ := wf1 i o0 h2 h3 h1
        exact (objAt_ren (I := I) (p := fun i => plus (fun i => D (r i) ∧ i < σ0.next) σ0.next σ1.next i ∧ K i) all h5 h4).2 (hh'.obj i o0 h2)
      · exact ObjAt.congr (I := I) (hh.obj b o h1) (hh.wf.dom b o h1).2 old (hh.wf.dom b o h1).1 (far b o h1 h2)
    · rcases parts b o hb with ⟨i, o0, h1, h2, h3, rfl, rfl⟩ | ⟨h1, h2⟩ <;> rcases parts b' o' hb' with ⟨i', o0', h1', h2', h3', rfl, rfl⟩ | ⟨h1', h2'⟩
      · rw [all i (wf1 i o0 h2 h3 h1).2, all i' (wf1 i' o0' h2' h3' h1').2] at e
        rw [hh'.inj i o0 i' o0' h2 h2' e]
      · rw [all i (wf1 i o0 h2 h3 h1).2, old b' (hh.wf.dom b' o' h1').1] at e
        exact (apart i o0 b' o' h2 h1' h2' e).elim
      · rw [all i' (wf1 i' o0' h2' h3' h1').2, old b (hh.wf.dom b o h1).1] at e
        exact (apart i' o0' b o h2' h1 h2 e.symm).elim
      · rw [old b (hh.wf.dom b o h1).1, old b' (hh.wf.dom b' o' h1').1] at e
        exact hh.inj b o b' o' h1 h1' e
    · rcases parts b o hb with ⟨i, o0, h1, h2, h3, rfl, rfl⟩ | ⟨h1, h2⟩
      · rw [all i (wf1 i o0 h2 h3 h1).2]; exact hh'.off i o0 h2
      · rw [old b (hh.wf.dom b o h1).1]; exact hh.off b o h1

/-- **A PIECE OF CODE ON OTHER BLOCKS.** -/
theorem code_ren {N : Nat} {c : Code} {env0 env1 env env' : Env} {σ0 σ1 σ : Heap} {x : SX} (h : CodeTo P I N c env0 σ0 x env1 σ1) {r r' : Nat → Nat}
    (hinj : ∀ i j, i < σ0.next → j < σ0.next → r i = r j → i = j) (henv0 : ∀ t v, getE env0 t = some v → Ids (· < σ0.next) v ∧ getE env t = some (ren r v)) (hob : ∀ i o, σ0.get i = some o → i < σ0.next ∧ OIds (· < σ0.next) o)
    (hσ : ∀ i o, σ0.get i = some o → σ.get (r i) = some (renO r o)) {nw : List Nat} (hr' : ∀ i, i < σ0.next → r' i = r i) (hnw : ∀ (j i : Nat), nw[j]? = some i → σ0.next ≤ i ∧ i < σ1.next ∧ r' i = σ.next + j)
    {K : Nat → Prop} (hK : ∀ i, K i ↔ i < σ0.next ∨ i ∈ nw) (henv1 : ∀ t v, getE env' t = some v → ∃ v1, getE env1 t = some v1 ∧ v = ren r' v1 ∧ Ids K v1) {bl : List (Nat × SObj)} (hbl : ∀ x ∈ bl, K x.1 ∧ OIds K x.2) (hget : ∀ i o, K i → getL (bl ++ σ0.blocks) i = some o → σ1.get i = some o) :
    CodeTo P I N c env σ x env' ⟨σ.next + nw.length, (bl.map fun x => (r' x.1, renO r' x.2)) ++ σ.blocks⟩ := by
  intro ρ D a w hs hfr Q hq
  have hh := hs.heap
  have hD0 : HRel I (fun i => ρ (r i)) (fun i => D (r i) ∧ i < σ0.next) σ0.get w := by
    have wfo : ∀ i o, σ0.get i = some o → (D (r i) ∧ i < σ0.next) ∧ OWf I (fun i => D (r i) ∧ i < σ0.next) o := fun i o hi => by
      obtain ⟨h1, h2⟩ := hh.wf.dom _ _ (hσ i o hi)
      obtain ⟨h3, h4⟩ := hob i o hi
      exact ⟨⟨h1, h3⟩, OWf.andIds ((owf_ren r).1 h2) h4⟩
    refine ⟨⟨fun i o hi => wfo i o hi⟩, fun i o hi => ?_, fun i o j o' hi hj e => hinj i j (hob i o hi).1 (hob j o' hj).1 (hh.inj _ _ _ _ (hσ i o hi) (hσ j o' hj) e), hh.imm, fun i o hi => hh.off _ _ (hσ i o hi)⟩
    obtain ⟨h1, h2⟩ := wfo i o hi
    exact (objAt_ren (I := I) (p := fun i => D (r i) ∧ i < σ0.next) (fun _ _ => rfl) h1 h2).1 (hh.obj _ _ (hσ i o hi))
  have hE0 : EnvOk I N (fun i => ρ (r i)) (fun i => D (r i) ∧ i < σ0.next) (getE env0) a := by
    refine ⟨hs.env.size, hs.env.defers, fun t v ht => ?_⟩
    obtain ⟨h1, h2⟩ := henv0 t v ht
    obtain ⟨h3, h4⟩ := hs.env.env t _ h2
    exact ⟨by rw [h3, val_ren], Wf.andIds ((wf_ren r).1 h4) h1⟩
  refine h _ _ a w ⟨hE0, hD0⟩ (fun c hc _ hd => by omega) Q fun ρ1 a' w' hs' hx => ?_
  obtain ⟨ρ', all, dom', hx', hr⟩ := ren_back hh hob hσ hr' hnw hK hbl hget hfr hx hs'.heap
  refine hq ρ' a' w' ⟨⟨hs'.env.size, hs'.env.defers, fun t v ht => ?_⟩, hr⟩ hx'
  obtain ⟨v1, h1, rfl, h3⟩ := henv1 t v ht
  obtain ⟨h4, h5⟩ := hs'.env.env t v1 h1
  have h6 := Wf.andIds h5 h3
  refine ⟨?_, (wf_ren r').2 (h6.mono dom')⟩
  rw [h4, val_ren, val_congr (I := I) (n := fun i => plus (fun i => D (r i) ∧ i < σ0.next) σ0.next σ1.next i ∧ K i) (fun i hi => all i hi) h6]

/-! ### A frame and blocks that lie as said, under some names -/
def nmL (rl : List Nat) (i : Nat) : Nat := match getN rl i with
  | some b => b
  | none => 0
theorem nmL_lt {rl : List Nat} {i : Nat} (h : i < rl.length) : nmL rl i = rl[i] := by simp [nmL, getN_eq, h]
structure Lays (rl : List Nat) (E : Env) (os : List SObj) (env : Env) (σ : Heap) : Prop where
  len : rl.length = os.length
  nodup : rl.Nodup
  env : ∀ t v, getE E t = some v → Ids (· < os.length) v ∧ getE env t = some (ren (nmL rl) v)
  obj : ∀ y ∈ enumO 0 os, σ.get (nmL rl y.1) = some (renO (nmL rl) y.2)
  oids : ∀ o ∈ os, OIds (· < os.length) o
  lt : ∀ i ∈ rl, i < σ.next

mutual
theorem Ids.ren {p : Nat → Prop} (r : Nat → Nat) : ∀ {v : SV}, Ids (fun i => p (r i)) v → Ids p (ren r v)
  | .bool _, _ | .int .., _ | .str _, _ | .nilp, _ | .nils, _ | .nilfn, _ | .nilmap, _ | .nilifc, _ | .ints .., _ | .bools .., _ | .vptr .., _ | .vslc .., _ => by simp [Sh.ren, Ids]
  | .ptr .., g => by simp only [Sh.ren, Ids] at *; exact g
  | .slc .., g => by simp only [Sh.ren, Ids] at *; exact g
  | .map _, g => by simp only [Sh.ren, Ids] at *; exact g
  | .fn _ a c, g => by simp only [Sh.ren, Ids] at *; exact ⟨Idss.ren r g.1, Idss.ren r g.2⟩
  | .arr _ _ f, g => by simp only [Sh.ren, Ids] at *; exact fun i => Ids.ren r (g i)
  | .agg l, g => by simp only [Sh.ren, Ids] at *; exact Idss.ren r g
  | .tuple l, g => by simp only [Sh.ren, Ids] at *; exact Idss.ren r g
theorem Idss.ren {p : Nat → Prop} (r : Nat → Nat) : ∀ {l : List SV}, Idss (fun i => p (r i)) l → Idss p (rens r l)
  | [], _ => by simp [rens, Idss]
  | v :: l, g => by simp only [rens, Idss] at *; exact ⟨Ids.ren r g.1, Idss.ren r g.2⟩
end
theorem OIds.ren {p : Nat → Prop} (r : Nat → Nat) {o : SObj} (g : OIds (fun i => p (r i)) o) : OIds p (renO r o) := by
  cases o with
  | cells g' v => exact Ids.ren r g
  | map es =>
    intro e he
    simp only [List.mem_map] at he
    obtain ⟨x, hx, rfl⟩ := he
    exact ⟨Ids.ren r (g x hx).1, Ids.ren r (g x hx).2⟩
  | dead => trivial
mutual
theorem ren_ren (r s : Nat → Nat) : ∀ v : SV, Sh.ren r (Sh.ren s v) = Sh.ren (fun i => r (s i)) v
  | .bool _ | .int .. | .str _ | .ptr .. | .nilp | .slc .. | .nils | .vptr .. | .vslc .. | .nilfn | .map _ | .nilmap | .nilifc | .ints .. | .bools .. => by simp [Sh.ren]
  | .fn f a c => by simp only [Sh.ren, rens_rens r s a, rens_rens r s c]
  | .arr s' n f => by
    simp only [Sh.ren]
    congr 1
    funext i
    exact ren_ren r s (f i)
  | .agg l => by simp only [Sh.ren, rens_rens r s l]
  | .tuple l => by simp only [Sh.ren, rens_rens r s l]
theorem rens_rens (r s : Nat → Nat) : ∀ l : List SV, rens r (rens s l) = rens (fun i => r (s i)) l
  | [] => rfl
  | v :: l => by simp only [rens, ren_ren r s v, rens_rens r s l]
end
mutual
theorem ren_id : ∀ v : SV, Sh.ren (fun i => i) v = v
  | .bool _ | .int .. | .str _ | .ptr .. | .nilp | .slc .. | .nils | .vptr .. | .vslc .. | .nilfn | .map _ | .nilmap | .nilifc | .ints .. | .bools .. => by simp [Sh.ren]
  | .fn f a c => by simp only [Sh.ren, rens_id a, rens_id c]
  | .arr s' n f => by
    simp only [Sh.ren]
    congr 1
    funext i
    exact ren_id (f i)
  | .agg l => by simp only [Sh.ren, rens_id l]
  | .tuple l => by simp only [Sh.ren, rens_id l]
theorem rens_id : ∀ l : List SV, rens (fun i => i) l = l
  | [] => rfl
  | v :: l => by simp only [rens, ren_id v, rens_id l]
end
theorem renO_id (o : SObj) : renO (fun i => i) o = o := by
  cases o with
  | cells g v => simp only [renO, ren_id]
  | map es => simp [renO, ren_id]
  | dead => rfl
theorem renO_renO (r s : Nat → Nat) (o : SObj) : renO r (renO s o) = renO (fun i => r (s i)) o := by
  cases o with
  | cells g v => simp only [renO, ren_ren]
  | map es => simp only [renO, List.map_map]; congr 1; apply List.map_congr_left; intro x _; simp [ren_ren]
  | dead => rfl

theorem getE_map {f : SV → SV} : ∀ {l : Env} {t : Nat} {v : SV}, getE (l.map fun x => (x.1, f x.2)) t = some v → ∃ u, getE l t = some u ∧ v = f u
  | [], t, v, h => by simp [getE] at h
  | (c, u) :: l, t, v, h => by
    simp only [List.map_cons, getE] at h ⊢
    cases e : Nat.beq c t <;> rw [e] at h
    · obtain ⟨x, h1, h2⟩ := getE_map (l := l) (by simpa using h)
      exact ⟨x, by simpa using h1, h2⟩
    · simp only [cond_true, Option.some.injEq] at h
      exact ⟨u, by simp, h.symm⟩
theorem getE_map' {f : SV → SV} : ∀ {l : Env} {t : Nat} {u : SV}, getE l t = some u → getE (l.map fun x => (x.1, f x.2)) t = some (f u)
  | [], t, u, h => by simp [getE] at h
  | (c, v) :: l, t, u, h => by
    simp only [List.map_cons, getE] at h ⊢
    cases e : Nat.beq c t <;> rw [e] at h
    · simpa using getE_map' (l := l) (by simpa using h)
    · simp only [cond_true, Option.some.injEq] at h
      subst h; simp

/-- The same, with the names that are new told. -/
def newOf (m : Nat) (rl : List Nat) : List Nat := rl.filter fun i => decide (m ≤ i)
theorem getL_enum_map {f : Nat → Nat} {g : SObj → SObj} {rest : List (Nat × SObj)} : ∀ {os : List SObj} {n : Nat}, (∀ i j, n ≤ i → i < n + os.length → n ≤ j → j < n + os.length → f i = f j → i = j) → (∀ o ∈ os, (g o).live = some (g o)) →
    ∀ y ∈ enumO n os, getL ((enumO n os).map (fun y => (f y.1, g y.2)) ++ rest) (f y.1) = some (g y.2)
  | [], n, _, _, y, h => by simp [enumO] at h
  | o :: os, n, hi, hl, y, h => by
    simp only [enumO, List.mem_cons] at h
    simp only [enumO, List.map_cons, List.cons_append, getL]
    rcases h with rfl | h
    · simp [hl o (by simp)]
    · have h1 := enumO_lt h
      have e : Nat.beq (f n) (f y.1) = false := beq_ne fun e => by
        have := hi n y.1 (by omega) (by simp) (by omega) (by simp only [List.length_cons]; omega) e
        omega
      rw [e]
      exact getL_enum_map (os := os) (fun i j a b c d => hi i j (by omega) (by simp only [List.length_cons]; omega) (by omega) (by simp only [List.length_cons]; omega)) (fun o ho => hl o (List.mem_cons_of_mem _ ho)) y h

theorem renO_live' {r : Nat → Nat} {o : SObj} (h : o.live = some o) : (renO r o).live = some (renO r o) := by rw [renO_live, h]; rfl

theorem posN_lt : ∀ {l : List Nat} {i : Nat}, i ∈ l → posN l i < l.length
  | [], i, h => by simp at h
  | b :: l, i, h => by
    simp only [posN]
    cases e : Nat.beq b i
    · have : i ∈ l := by
        rcases List.mem_cons.1 h with rfl | h
        · rw [Nat.beq_refl] at e; cases e
        · exact h
      simp only [cond_false, List.length_cons]
      have := posN_lt this
      omega
    · simp
theorem posN_inj : ∀ {l : List Nat} {i j : Nat}, i ∈ l → j ∈ l → posN l i = posN l j → i = j
  | [], i, j, h, _, _ => by simp at h
  | b :: l, i, j, h, h2, h3 => by
    simp only [posN] at h3
    cases e : Nat.beq b i <;> cases e2 : Nat.beq b j <;> rw [e, e2] at h3
    · simp only [cond_false, Nat.add_right_cancel_iff] at h3
      refine posN_inj (l := l) ?_ ?_ h3
      · rcases List.mem_cons.1 h with rfl | h
        · rw [Nat.beq_refl] at e; cases e
        · exact h
      · rcases List.mem_cons.1 h2 with rfl | h
        · rw [Nat.beq_refl] at e2; cases e2
        · exact h
    · simp at h3
    · simp at h3
    · exact (Nat.eq_of_beq_eq_true e).symm.trans (Nat.eq_of_beq_eq_true e2)

/-- **A ROUND**: told on numbered blocks, done on any. -/
theorem lays_code {N : Nat} {c : Code} {E E1 env env1 : Env} {os os1 : List SObj} {σ σ1 : Heap} {x : SX} {rl rl1 : List Nat} (h : CodeTo P I N c E (hp os) x env1 σ1)
    (hl1 : Lays rl1 E1 os1 env1 σ1) (hlive1 : ∀ o ∈ os1, o.live = some o)
    (hkeep : ∀ y ∈ enumO 0 os, y.1 ∈ rl1 ∨ σ1.get y.1 = some y.2) (hl : Lays rl E os env σ) :
    ∃ env' σ' rl', CodeTo P I N c env σ x env' σ' ∧ Grow σ σ' ∧ Lays rl' E1 os1 env' σ' := by
  obtain ⟨m, hm⟩ : ∃ m, m = os.length := ⟨_, rfl⟩
  obtain ⟨nw, hnwd⟩ : ∃ nw, nw = newOf m rl1 := ⟨_, rfl⟩
  have hnd : nw.Nodup := by rw [hnwd]; exact hl1.nodup.filter _
  have hmem : ∀ i, i ∈ nw ↔ i ∈ rl1 ∧ m ≤ i := fun i => by rw [hnwd]; simp [newOf]
  let r' : Nat → Nat := fun i => if i < m then nmL rl i else σ.next + posN nw i
  have r1 : ∀ i, i < m → r' i = nmL rl i := fun i hi => by simp only [r', hi, if_true]
  have r2 : ∀ i, ¬ i < m → r' i = σ.next + posN nw i := fun i hi => by simp only [r', hi, if_false]
  have hnx : (hp os).next = m := by rw [hm]; rfl
  have K1 : ∀ i, i < os1.length → (nmL rl1 i < m ∨ nmL rl1 i ∈ nw) ∧ nmL rl1 i ∈ rl1 := fun i hi => by
    have h1 : nmL rl1 i = rl1[i]'(by rw [hl1.len]; exact hi) := nmL_lt _
    have h2 : nmL rl1 i ∈ rl1 := by rw [h1]; exact List.getElem_mem _
    refine ⟨?_, h2⟩
    by_cases h3 : nmL rl1 i < m
    · exact .inl h3
    · exact .inr ((hmem _).2 ⟨h2, by omega⟩)
  have rinj : ∀ i j, i ∈ rl1 → j ∈ rl1 → r' i = r' j → i = j := fun i j hi hj e => by
    have hrl : ∀ i, i < m → nmL rl i ∈ rl := fun i hi => by
      rw [nmL_lt (by rw [hl.len]; omega)]; exact List.getElem_mem _
    by_cases h1 : i < m <;> by_cases h2 : j < m
    · rw [r1 i h1, r1 j h2, nmL_lt (by rw [hl.len]; omega), nmL_lt (by rw [hl.len]; omega)] at e
      exact (List.getElem_inj hl.nodup).1 e
    · rw [r1 i h1, r2 j h2] at e
      have := hl.lt _ (hrl i h1)
      omega
    · rw [r2 i h1, r1 j h2] at e
      have := hl.lt _ (hrl j h2)
      omega
    · rw [r2 i h1, r2 j h2] at e
      exact posN_inj ((hmem i).2 ⟨hi, by omega⟩) ((hmem j).2 ⟨hj, by omega⟩) (by omega)
  have nm' : ∀ i, i < os1.length → nmL (rl1.map r') i = r' (nmL rl1 i) := fun i hi => by
    have h1 : i < rl1.length := by rw [hl1.len]; exact hi
    rw [nmL_lt (by simpa using h1), nmL_lt h1]
    simp
  have hc := code_ren (env := env) (σ := σ) (env' := E1.map fun y => (y.1, ren (fun i => r' (nmL rl1 i)) y.2)) (r := nmL rl) (r' := r') (nw := nw) (K := fun i => i < m ∨ i ∈ nw)
    (bl := (enumO 0 os1).map fun y => (nmL rl1 y.1, renO (nmL rl1) y.2)) h
    (fun i j hi hj e => by
      rw [hnx] at hi hj
      rw [nmL_lt (by rw [hl.len]; omega), nmL_lt (by rw [hl.len]; omega)] at e
      exact (List.getElem_inj hl.nodup).1 e)
    (fun t v ht => by rw [hnx, hm]; exact hl.env t v ht)
    (fun i o hi => by
      obtain ⟨_, h2⟩ := enumO_get hi
      rw [hnx, hm]
      exact ⟨(List.getElem?_eq_some_iff.1 h2).1, hl.oids o (List.mem_of_getElem? h2)⟩)
    (fun i o hi => hl.obj (i, o) (getL_mem hi))
    (fun i hi => r1 i (by rw [hnx] at hi; exact hi))
    (fun j i hj => by
      have h1 := List.mem_of_getElem? hj
      obtain ⟨h2, h3⟩ := (hmem i).1 h1
      rw [hnx]
      exact ⟨h3, hl1.lt i h2, by rw [r2 i (by omega), posN_spec hnd hj]⟩)
    (fun i => by rw [hnx])
    (fun t v ht => by
      obtain ⟨u, h1, rfl⟩ := getE_map ht
      obtain ⟨h2, h3⟩ := hl1.env t u h1
      refine ⟨_, h3, (ren_ren r' (nmL rl1) u).symm, Ids.ren (nmL rl1) (h2.mono fun i hi => (K1 i hi).1)⟩)
    (fun x hx => by
      obtain ⟨y, hy, rfl⟩ := List.mem_map.1 hx
      have h1 := enumO_lt hy
      refine ⟨(K1 y.1 (by omega)).1, ?_⟩
      have h2 : y.2 ∈ os1 := by
        have := enumO_get (enumO_self hy hlive1)
        exact List.mem_of_getElem? this.2
      exact OIds.ren (nmL rl1) ((hl1.oids y.2 h2).mono fun i hi => (K1 i hi).1))
    (fun i o hi ho => by
      rcases getL_bl ho with ⟨j, o0, h1, h2, h3, h4⟩ | ⟨h1, h2⟩
      · rw [← h3, ← h4]; exact hl1.obj (j, o0) h1
      · rcases hkeep (i, o) (getL_mem h1) with h3 | h3
        · obtain ⟨j, hj⟩ := List.getElem?_of_mem h3
          have hj2 := (List.getElem?_eq_some_iff.1 hj).1
          have h4 : nmL rl1 j = i := by simp [nmL, getN_eq, hj]
          have h5 : j < os1.length := by rw [← hl1.len]; exact hj2
          exact absurd h4 (h2 (j, os1[j]) (enumO_mem (n := 0) (by omega) (by simp)))
        · exact h3)
  refine ⟨_, _, rl1.map r', hc, ⟨Nat.le_add_right _ _, _, rfl, ?_⟩, ?_⟩
  · intro x hx
    obtain ⟨y, hy, rfl⟩ := List.mem_map.1 hx
    obtain ⟨z, hz, rfl⟩ := List.mem_map.1 hy
    have h1 := enumO_lt hz
    rcases (K1 z.1 (by omega)).1 with h2 | h2
    · left
      have h3 := hl.obj (nmL rl1 z.1, os[nmL rl1 z.1]'(by omega)) (enumO_mem (n := 0) (by omega) (by simp))
      exact ⟨_, by rw [r1 _ h2]; exact h3⟩
    · right
      have h3 := (hmem _).1 h2
      have h4 := posN_lt h2
      simp only [r2 _ (show ¬ nmL rl1 z.1 < m by omega)]
      omega
  · refine ⟨by simp [hl1.len], List.pairwise_map.2 (hl1.nodup.imp_of_mem fun hi hj hne e => hne (rinj _ _ hi hj e)), fun t v ht => ?_, fun y hy => ?_, hl1.oids, fun i hi => ?_⟩
    · obtain ⟨h1, h2⟩ := hl1.env t v ht
      refine ⟨h1, ?_⟩
      rw [getE_map' ht]
      exact congrArg some (ren_congr (fun i hi => (nm' i hi).symm) h1)
    · have h1 := enumO_lt hy
      have h2 : y.2 ∈ os1 := List.mem_of_getElem? (enumO_get (enumO_self hy hlive1)).2
      have h3 := getL_enum_map (f := fun i => r' (nmL rl1 i)) (g := fun o => renO r' (renO (nmL rl1) o)) (rest := σ.blocks) (os := os1) (n := 0) (fun i j _ hi _ hj e => by
          have h4 := rinj _ _ (K1 i (by omega)).2 (K1 j (by omega)).2 e
          rw [nmL_lt (by rw [hl1.len]; omega), nmL_lt (by rw [hl1.len]; omega)] at h4
          exact (List.getElem_inj hl1.nodup).1 h4)
        (fun o ho => renO_live' (renO_live' (hlive1 o ho))) y hy
      rw [nm' y.1 (by omega)]
      have h5 : renO (nmL (rl1.map r')) y.2 = renO r' (renO (nmL rl1) y.2) := by
        rw [renO_renO]
        exact renO_congr (fun i hi => nm' i hi) (hl1.oids y.2 h2)
      rw [h5]
      simp only [List.map_map]
      exact h3
    · obtain ⟨j, hj, rfl⟩ := List.mem_map.1 hi
      show r' j < σ.next + nw.length
      by_cases h1 : j < m
      · rw [r1 j h1]
        have : nmL rl j ∈ rl := by rw [nmL_lt (by rw [hl.len]; omega)]; exact List.getElem_mem _
        have := hl.lt _ this
        omega
      · rw [r2 j h1]
        have := posN_lt ((hmem j).2 ⟨hj, by omega⟩)
        omega

/-! ### Loops, state by state -/
/-- What a loop comes to: round by round, as many as n. -/
def lps {S X : Type} (stp : S → Option (S ⊕ X)) : Nat → S → Option X
  | 0, _ => none
  | n + 1, s => match stp s with
    | some (.inl s') => lps stp n s'
    | some (.inr x) => some x
    | none => none
/-- A round on numbered blocks, from the state s. -/
structure Rnd (P : Program) (I : Imm) (N : Nat) (c : Code) (E : Env) (os : List SObj) (x : SX) (E1 : Env) (os1 : List SObj) : Prop where
  ex : ∃ env1 σ1 rl1, CodeTo P I N c E (hp os) x env1 σ1 ∧ Lays rl1 E1 os1 env1 σ1 ∧ ∀ y ∈ enumO 0 os, y.1 ∈ rl1 ∨ σ1.get y.1 = some y.2
theorem loop_states {S X : Type} {N : Nat} {c : Code} {stp : S → Option (S ⊕ X)} {E : S → Env} {os : S → List SObj} {EX : X → Env} {osX : X → List SObj} {xx : X → SX}
    (hl : ∀ s, ∀ o ∈ os s, o.live = some o) (hlX : ∀ x, ∀ o ∈ osX x, o.live = some o) (hx : ∀ x, xx x ≠ .norm)
    (hr : ∀ s s', stp s = some (.inl s') → Rnd P I N c (E s) (os s) .norm (E s') (os s')) (he : ∀ s x, stp s = some (.inr x) → Rnd P I N c (E s) (os s) (xx x) (EX x) (osX x)) :
    ∀ {n : Nat} {s : S} {x : X} {env : Env} {σ : Heap} {rl : List Nat}, lps stp n s = some x → Lays rl (E s) (os s) env σ →
      ∃ env' σ' rl', RoundsTo P I N c env σ (xx x) env' σ' ∧ Grow σ σ' ∧ Lays rl' (EX x) (osX x) env' σ'
  | 0, s, x, env, σ, rl, h, _ => by simp [lps] at h
  | n + 1, s, x, env, σ, rl, h, h0 => by
    simp only [lps] at h
    split at h <;> try (cases h; done)
    · rename_i s' hs
      obtain ⟨env1, σ1, rl1, h1, h2, h3⟩ := (hr s s' hs).ex
      obtain ⟨env2, σ2, rl2, h4, h5, h6⟩ := lays_code h1 h2 (hl s') h3 h0
      obtain ⟨env3, σ3, rl3, h7, h8, h9⟩ := loop_states hl hlX hx hr he h h6
      exact ⟨env3, σ3, rl3, h7.round h4 h5.le h8.le, h5.trans h8, h9⟩
    · rename_i x' hs
      simp only [Option.some.injEq] at h
      subst h
      obtain ⟨env1, σ1, rl1, h1, h2, h3⟩ := (he s x' hs).ex
      obtain ⟨env2, σ2, rl2, h4, h5, h6⟩ := lays_code h1 h2 (hlX x') h3 h0
      exact ⟨env2, σ2, rl2, .last h4 (hx x'), h5, h6⟩
/-- The frame and the blocks with which a run on numbered blocks begins lie as said. -/
theorem lays_self {E : Env} {os : List SObj} (hE : ∀ t v, getE E t = some v → Ids (· < os.length) v) (hO : ∀ o ∈ os, OIds (· < os.length) o) (hl : ∀ o ∈ os, o.live = some o) : Lays (List.range os.length) E os E (hp os) := by
  have hn : ∀ i, i < os.length → nmL (List.range os.length) i = i := fun i hi => by rw [nmL_lt (by simpa using hi)]; simp
  have hid : ∀ {v : SV}, Ids (· < os.length) v → ren (nmL (List.range os.length)) v = v := fun {v} hv => (ren_congr (r' := fun i => i) (fun i hi => hn i hi) hv).trans (ren_id v)
  refine ⟨by simp, List.nodup_range, fun t v ht => ⟨hE t v ht, by rw [hid (hE t v ht)]; exact ht⟩, fun y hy => ?_, hO, fun i hi => by simpa [hp] using hi⟩
  have h1 := enumO_lt hy
  have h2 : y.2 ∈ os := List.mem_of_getElem? (enumO_get (enumO_self hy hl)).2
  rw [hn y.1 (by omega)]
  have h3 : renO (nmL (List.range os.length)) y.2 = y.2 := by
    rw [renO_congr (r' := fun i => i) (fun i hi => hn i hi) (hO y.2 h2)]
    exact renO_id y.2
  rw [h3]
  exact enumO_self hy hl

/-! ### Loops that lay no new blocks: all keep their names -/
def envOf (rl : List Nat) (E : Env) : Env := E.map fun y => (y.1, ren (nmL rl) y.2)
def heapOf (rl : List Nat) (os : List SObj) (σ : Heap) : Heap := ⟨σ.next, ((enumO 0 os).map fun y => (nmL rl y.1, renO (nmL rl) y.2)) ++ σ.blocks⟩
theorem lays_of {rl : List Nat} {E : Env} {os : List SObj} {σ : Heap} (h1 : rl.length = os.length) (h2 : rl.Nodup) (hE : ∀ t v, getE E t = some v → Ids (· < os.length) v) (hO : ∀ o ∈ os, OIds (· < os.length) o) (hl : ∀ o ∈ os, o.live = some o) (hlt : ∀ i ∈ rl, i < σ.next) : Lays rl E os (envOf rl E) (heapOf rl os σ) := by
  refine ⟨h1, h2, fun t v ht => ⟨hE t v ht, getE_map' ht⟩, fun y hy => ?_, hO, hlt⟩
  exact getL_enum_map (f := nmL rl) (g := renO (nmL rl)) (rest := σ.blocks) (os := os) (n := 0) (fun i j _ hi _ hj e => by
      rw [nmL_lt (by omega), nmL_lt (by omega)] at e
      exact (List.getElem_inj h2).1 e) (fun o ho => renO_live' (hl o ho)) y hy
structure SameN (P : Program) (I : Imm) (N : Nat) (c : Code) (E : Env) (os : List SObj) (x : SX) (E1 : Env) (os1 : List SObj) : Prop where
  len : os1.length = os.length
  ex : ∃ env1 σ1, CodeTo P I N c E (hp os) x env1 σ1 ∧ (∀ t v, getE E1 t = some v → Ids (· < os.length) v ∧ getE env1 t = some v) ∧ (∀ y ∈ enumO 0 os1, σ1.get y.1 = some y.2) ∧ (∀ o ∈ os1, OIds (· < os.length) o)
theorem same_code {N : Nat} {c : Code} {E E1 env : Env} {os os1 : List SObj} {σ : Heap} {x : SX} {rl : List Nat} (h : SameN P I N c E os x E1 os1) (hlive1 : ∀ o ∈ os1, o.live = some o) (hl : Lays rl E os env σ) :
    CodeTo P I N c env σ x (envOf rl E1) (heapOf rl os1 σ) ∧ Lays rl E1 os1 (envOf rl E1) (heapOf rl os1 σ) ∧ Grow σ (heapOf rl os1 σ) := by
  obtain ⟨hlen, env1, σ1, h1, h2, h3, h4⟩ := h
  have hnx : (hp os).next = os.length := rfl
  refine ⟨?_, lays_of (hl.len.trans hlen.symm) hl.nodup (fun t v ht => by rw [hlen]; exact (h2 t v ht).1) (fun o ho => by rw [hlen]; exact h4 o ho) hlive1 hl.lt, Nat.le_refl _, _, rfl, fun z hz => ?_⟩
  · have := code_ren (env := env) (σ := σ) (env' := envOf rl E1) (r := nmL rl) (r' := nmL rl) (nw := []) (K := fun i => i < os.length) (bl := enumO 0 os1) h1
      (fun i j hi hj e => by
        rw [hnx] at hi hj
        rw [nmL_lt (by rw [hl.len]; omega), nmL_lt (by rw [hl.len]; omega)] at e
        exact (List.getElem_inj hl.nodup).1 e)
      (fun t v ht => by rw [hnx]; exact hl.env t v ht)
      (fun i o hi => by
        obtain ⟨_, h2⟩ := enumO_get hi
        rw [hnx]
        exact ⟨(List.getElem?_eq_some_iff.1 h2).1, hl.oids o (List.mem_of_getElem? h2)⟩)
      (fun i o hi => hl.obj (i, o) (getL_mem hi))
      (fun i hi => rfl) (fun j i hj => by simp at hj) (fun i => by rw [hnx]; simp)
      (fun t v ht => by
        obtain ⟨u, h5, rfl⟩ := getE_map ht
        exact ⟨u, (h2 t u h5).2, rfl, (h2 t u h5).1⟩)
      (fun y hy => by
        have h5 := enumO_lt hy
        exact ⟨by show y.1 < os.length; omega, h4 y.2 (List.mem_of_getElem? (enumO_get (enumO_self hy hlive1)).2)⟩)
      (fun i o hi ho => by
        have h5 : i < os1.length := by have : i < os.length := hi; omega
        have h6 := getL_app_of (rest := (hp os).blocks) (enumO_self (l := os1) (n := 0) (y := (i, os1[i])) (enumO_mem (n := 0) (by omega) (by simp)) hlive1)
        have h7 : (some os1[i] : Option SObj) = some o := h6.symm.trans ho
        rw [← Option.some.inj h7]
        exact h3 (i, os1[i]) (enumO_mem (n := 0) (by omega) (by simp)))
    exact this
  · obtain ⟨y, hy, rfl⟩ := List.mem_map.1 hz
    have h5 := enumO_lt hy
    left
    exact ⟨_, hl.obj (y.1, os[y.1]'(by omega)) (enumO_mem (n := 0) (by omega) (by simp))⟩
theorem heapOf_other {rl : List Nat} {os : List SObj} {σ : Heap} {b : Nat} (h1 : rl.length = os.length) (hb : b ∉ rl) : (heapOf rl os σ).get b = σ.get b := by
  refine getL_none_of fun x hx e => hb ?_
  obtain ⟨y, hy, rfl⟩ := List.mem_map.1 hx
  have := enumO_lt hy
  subst e
  show nmL rl y.1 ∈ rl
  rw [nmL_lt (by omega)]
  exact List.getElem_mem _
theorem loop_same {S X : Type} {N : Nat} {c : Code} {stp : S → Option (S ⊕ X)} {E : S → Env} {os : S → List SObj} {EX : X → Env} {osX : X → List SObj} {xx : X → SX}
    (hl : ∀ s, ∀ o ∈ os s, o.live = some o) (hlX : ∀ x, ∀ o ∈ osX x, o.live = some o) (hx : ∀ x, xx x ≠ .norm)
    (hr : ∀ s s', stp s = some (.inl s') → SameN P I N c (E s) (os s) .norm (E s') (os s')) (he : ∀ s x, stp s = some (.inr x) → SameN P I N c (E s) (os s) (xx x) (EX x) (osX x)) :
    ∀ {n : Nat} {s : S} {x : X} {env : Env} {σ : Heap} {rl : List Nat}, lps stp n s = some x → Lays rl (E s) (os s) env σ →
      ∃ σ', RoundsTo P I N c env σ (xx x) (envOf rl (EX x)) σ' ∧ Grow σ σ' ∧ σ'.next = σ.next ∧ Lays rl (EX x) (osX x) (envOf rl (EX x)) σ' ∧ ∀ b, b ∉ rl → σ'.get b = σ.get b
  | 0, s, x, env, σ, rl, h, _ => by simp [lps] at h
  | n + 1, s, x, env, σ, rl, h, h0 => by
    simp only [lps] at h
    split at h <;> try (cases h; done)
    · rename_i s' hs
      obtain ⟨h4, h6, h5⟩ := same_code (hr s s' hs) (hl s') h0
      obtain ⟨σ3, h7, h8, h9, h10, h11⟩ := loop_same hl hlX hx hr he h h6
      exact ⟨σ3, h7.round h4 h5.le h8.le, h5.trans h8, h9, h10, fun b hb => (h11 b hb).trans (heapOf_other (h6.len) hb)⟩
    · rename_i x' hs
      simp only [Option.some.injEq] at h
      subst h
      obtain ⟨h4, h6, h5⟩ := same_code (he s x' hs) (hlX x') h0
      exact ⟨_, .last h4 (hx x'), h5, rfl, h6, fun b hb => heapOf_other h6.len hb⟩
/-- **THE LAW OF A LOOP**, told by its states. -/
theorem loop_law_same {S X : Type} {N : Nat} {c : Code} {stp : S → Option (S ⊕ X)} {E : S → Env} {os : S → List SObj} {EX : X → Env} {osX : X → List SObj} {xx : X → SX}
    (hl : ∀ s, ∀ o ∈ os s, o.live = some o) (hlX : ∀ x, ∀ o ∈ osX x, o.live = some o) (hx : ∀ x, xx x ≠ .norm)
    (hr : ∀ s s', stp s = some (.inl s') → SameN P I N c (E s) (os s) .norm (E s') (os s')) (he : ∀ s x, stp s = some (.inr x) → SameN P I N c (E s) (os s) (xx x) (EX x) (osX x))
    {F : LF α} (hF : ∀ env σ k r, F env σ k = some r → ∃ n s x rl, lps stp n s = some x ∧ Lays rl (E s) (os s) env σ ∧ k (xx x) (envOf rl (EX x)) (heapOf rl (osX x) σ) = some r) : SoundC P I N (.loop c) F := by
  intro env σ k r h
  obtain ⟨n, s, x, rl, h1, h2, h3⟩ := hF env σ k r h
  obtain ⟨σ', h4, h5, h6, h7, h8⟩ := loop_same hl hlX hx hr he h1 h2
  have hsame : ∀ b, (heapOf rl (osX x) σ).get b = σ'.get b := fun b => by
    by_cases hb : b ∈ rl
    · obtain ⟨j, hj⟩ := List.getElem?_of_mem hb
      have hj2 := (List.getElem?_eq_some_iff.1 hj).1
      have hj3 : j < (osX x).length := by rw [← h7.len]; exact hj2
      have e : nmL rl j = b := by simp [nmL, getN_eq, hj]
      have g1 := h7.obj (j, (osX x)[j]) (enumO_mem (n := 0) (by omega) (by simp))
      have g2 := (lays_of (σ := σ) h7.len h7.nodup (fun t v ht => (h7.env t v ht).1) h7.oids (hlX x) (fun i hi => by have := h7.lt i hi; omega)).obj (j, (osX x)[j]) (enumO_mem (n := 0) (by omega) (by simp))
      simp only [e] at g1 g2
      rw [g1, g2]
    · rw [heapOf_other h7.len hb, h8 b hb]
  refine ⟨_, _, _, h3, ⟨Nat.le_refl _, _, rfl, fun z hz => ?_⟩, ?_⟩
  · obtain ⟨y, hy, rfl⟩ := List.mem_map.1 hz
    have h9 := enumO_lt hy
    left
    have h10 : y.1 < (os s).length := by rw [← h2.len, h7.len]; omega
    exact ⟨_, h2.obj (y.1, (os s)[y.1]) (enumO_mem (n := 0) (by omega) (by simp))⟩
  · exact h4.loop.less ⟨fun _ _ h => h, h6.symm, fun b o hb => by rw [← hsame b]; exact hb, Nat.le_refl _, _, rfl, fun z hz => by
      obtain ⟨y, hy, rfl⟩ := List.mem_map.1 hz
      have h9 := enumO_lt hy
      left
      have h10 : y.1 < (os s).length := by rw [← h2.len, h7.len]; omega
      exact ⟨_, h2.obj (y.1, (os s)[y.1]) (enumO_mem (n := 0) (by omega) (by simp))⟩⟩

/-! ### Taking a frame and blocks apart -/
def decT (env : Env) (t : Nat) (k : SV → R α) : R α := match getE env t with | some v => k v | none => none
theorem decT_spec {env : Env} {t : Nat} {k : SV → R α} {r : α} (h : decT env t k = some r) : ∃ v, getE env t = some v ∧ k v = some r := by
  unfold decT at h
  split at h
  · rename_i v hv; exact ⟨v, hv, h⟩
  · cases h
/-- A pointer to a block whose name is known. -/
def decP (b : Nat) (v : SV) (k : R α) : R α := match v with | .ptr c [] => bif Nat.beq c b then k else none | _ => none
theorem decP_spec {b : Nat} {v : SV} {k : R α} {r : α} (h : decP b v k = some r) : v = .ptr b [] ∧ k = some r := by
  unfold decP at h
  split at h <;> try (cases h; done)
  obtain ⟨h1, h2⟩ := bif_some h
  simp only [Nat.beq_eq] at h1
  subst h1
  exact ⟨rfl, h2⟩
/-- A row of a block whose name is known. -/
def decSl (b sz off len cap : Nat) (v : SV) (k : R α) : R α := match v with
  | .slc c [] s o l (some cp) => bif Nat.beq c b && (Nat.beq s sz && (Nat.beq o off && (Nat.beq l len && Nat.beq cp cap))) then k else none
  | _ => none
theorem decSl_spec {b sz off len cap : Nat} {v : SV} {k : R α} {r : α} (h : decSl b sz off len cap v k = some r) : v = .slc b [] sz off len (some cap) ∧ k = some r := by
  unfold decSl at h
  split at h <;> try (cases h; done)
  obtain ⟨h1, h2⟩ := bif_some h
  simp only [Bool.and_eq_true, Nat.beq_eq] at h1
  obtain ⟨rfl, rfl, rfl, rfl, rfl⟩ := h1
  exact ⟨rfl, h2⟩
def decN (v : SV) (k : R α) : R α := match v with | .nilp => k | _ => none
theorem decN_spec {v : SV} {k : R α} {r : α} (h : decN v k = some r) : v = .nilp ∧ k = some r := by
  unfold decN at h
  split at h <;> try (cases h; done)
  exact ⟨rfl, h⟩
/-- A block's object: what it holds (its room is not ours: none). -/
def decO (σ : Heap) (b : Nat) (k : SV → R α) : R α := match σ.get b with | some (.cells none v) => k v | _ => none
theorem decO_spec {σ : Heap} {b : Nat} {k : SV → R α} {r : α} (h : decO σ b k = some r) : ∃ v, σ.get b = some (.cells none v) ∧ k v = some r := by
  unfold decO at h
  split at h <;> try (cases h; done)
  rename_i v hv
  exact ⟨v, hv, h⟩
def decOg (σ : Heap) (b : Nat) (k : Option Nat → SV → R α) : R α := match σ.get b with | some (.cells g v) => k g v | _ => none
theorem decOg_spec {σ : Heap} {b : Nat} {k : Option Nat → SV → R α} {r : α} (h : decOg σ b k = some r) : ∃ g v, σ.get b = some (.cells g v) ∧ k g v = some r := by
  unfold decOg at h
  split at h <;> try (cases h; done)
  rename_i g v hv
  exact ⟨g, v, hv, h⟩
theorem env_all {n : Nat} {env1 : Env} : ∀ {l : Env}, AllL (fun x => Ids (· < n) x.2 ∧ getE env1 x.1 = some x.2) l → ∀ t v, getE l t = some v → Ids (· < n) v ∧ getE env1 t = some v
  | [], _, t, v, h => by simp [getE] at h
  | (c, u) :: l, ha, t, v, h => by
    simp only [getE] at h
    cases e : Nat.beq c t <;> rw [e] at h
    · exact env_all (l := l) ha.2 t v h
    · have := Nat.eq_of_beq_eq_true e
      subst this
      simp only [cond_true, Option.some.injEq] at h
      subst h
      exact ha.1
theorem env_ren {n : Nat} {r : Nat → Nat} {env1 : Env} : ∀ {l : Env}, AllL (fun x => Ids (· < n) x.2 ∧ getE env1 x.1 = some (ren r x.2)) l → ∀ t v, getE l t = some v → Ids (· < n) v ∧ getE env1 t = some (ren r v)
  | [], _, t, v, h => by simp [getE] at h
  | (c, u) :: l, ha, t, v, h => by
    simp only [getE] at h
    cases e : Nat.beq c t <;> rw [e] at h
    · exact env_ren (l := l) ha.2 t v h
    · have := Nat.eq_of_beq_eq_true e
      subst this
      simp only [cond_true, Option.some.injEq] at h
      subst h
      exact ha.1
theorem enum_all {p : Nat × SObj → Prop} {l : List (Nat × SObj)} (h : AllL p l) : ∀ y ∈ l, p y := allL_iff.1 h
/-- A loop's own word: it tells what rounds come to. -/
def LoopOk {S X : Type} (stp : S → Option (S ⊕ X)) (F : S → (X → R α) → R α) : Prop := ∀ s k r, F s k = some r → ∃ n x, lps stp n s = some x ∧ k x = some r

theorem lok_of {N : Nat} {L : LO α} {c : Code} {l : List Code} (hl : loopsOf c = l) (h : AllL (fun c' => ∀ F, llook L (headId c') = some F → SoundC P I N (.loop c') F) l) : LOk P I N L c := by
  intro c' hc' F hF
  rw [hl] at hc'
  exact allL_iff.1 h c' hc' F hF
theorem lk_no {L : LO α} {c : Code} {N : Nat} (h : llook L (headId c) = none) : ∀ F, llook L (headId c) = some F → SoundC P I N (.loop c) F := fun F hF => by rw [h] at hF; cases hF
theorem lk_yes {L : LO α} {c : Code} {N : Nat} {G : LF α} (h : llook L (headId c) = some G) (hg : SoundC P I N (.loop c) G) : ∀ F, llook L (headId c) = some F → SoundC P I N (.loop c) F := fun F hF => by
  rw [h] at hF
  rw [← Option.some.inj hF]; exact hg
end
end Go.Sh

/-! Sk28 -/
namespace Go.Sh
open Go

section
variable {α : Type} {P : Program} {I : Imm}

/-- A pointer to a new memory. -/
def decNM (m : Nat) (σ1 : Heap) (v : SV) (k : Nat → Nat → (Nat → Int) → R α) : R α := match v with
  | .ptr b [] => bif Nat.ble m b && Nat.blt b σ1.next then match σ1.get b with
    | some (.cells none (.agg [.slc b1 [] sz off len (some cap)])) => bif (Nat.beq sz 1 && (Nat.beq off 0 && (Nat.beq len 32768 && Nat.beq cap 32768))) && (Nat.ble m b1 && (Nat.blt b1 σ1.next && !Nat.beq b b1)) then match σ1.get b1 with
      | some (.cells none (.ints .u8 n f)) => bif Nat.beq n 32768 then k b b1 f else none
      | _ => none else none
    | _ => none else none
  | _ => none
theorem decNM_spec {m : Nat} {σ1 : Heap} {v : SV} {k : Nat → Nat → (Nat → Int) → R α} {r : α} (h : decNM m σ1 v k = some r) :
    ∃ b b1 f, v = .ptr b [] ∧ (m ≤ b ∧ b < σ1.next) ∧ (m ≤ b1 ∧ b1 < σ1.next) ∧ b ≠ b1 ∧ σ1.get b = some (memO b1 none) ∧ σ1.get b1 = some (byO none f) ∧ k b b1 f = some r := by
  unfold decNM at h
  split at h <;> try (cases h; done)
  rename_i b
  obtain ⟨h1, h2⟩ := bif_some h
  split at h2 <;> try (cases h2; done)
  rename_i b1 sz off len cap h3
  obtain ⟨h4, h5⟩ := bif_some h2
  split at h5 <;> try (cases h5; done)
  rename_i n f h6
  obtain ⟨h7, h8⟩ := bif_some h5
  simp only [Bool.and_eq_true, Nat.beq_eq, Bool.not_eq_true'] at h1 h4 h7
  obtain ⟨⟨rfl, rfl, rfl, rfl⟩, h9, h10, h11⟩ := h4
  subst h7
  exact ⟨b, b1, f, rfl, ⟨Nat.le_of_ble_eq_true h1.1, Nat.le_of_ble_eq_true h1.2⟩, ⟨Nat.le_of_ble_eq_true h9, Nat.le_of_ble_eq_true h10⟩, (fun e => by subst e; rw [Nat.beq_refl] at h11; cases h11), h3, h6, h8⟩

/-- Two new memories. -/
theorem pub_two {σ σ1 : Heap} {b b1 c c1 : Nat} {f g : Nat → Int} (h1 : b < σ1.next) (h2 : b1 < σ1.next) (h3 : c < σ1.next) (h4 : c1 < σ1.next) (hd : [b, b1, c, c1].Nodup)
    (hb : σ1.get b = some (memO b1 none)) (hb1 : σ1.get b1 = some (byO none f)) (hc : σ1.get c = some (memO c1 none)) (hc1 : σ1.get c1 = some (byO none g)) :
    Pub [] [] σ (.tuple [.ptr b [], .ptr c []]) σ1 [b, b1, c, c1] [(b, memO b1 none), (b1, byO none f), (c, memO c1 none), (c1, byO none g)] := by
  refine ⟨hd, fun i hi => ?_, by simp [Ids, Idss], ?_, ?_, by simp [enumO]⟩
  · simp only [List.mem_cons, List.not_mem_nil, or_false] at hi
    refine ⟨Nat.zero_le _, ?_⟩
    rcases hi with rfl | rfl | rfl | rfl <;> assumption
  · intro x hx
    simp only [List.mem_cons, List.not_mem_nil, or_false] at hx
    rcases hx with rfl | rfl | rfl | rfl <;> exact ⟨.inr (by simp), by simp [OIds, Ids, Idss]⟩
  · intro x hx o ho
    simp only [List.mem_cons, List.not_mem_nil, or_false] at hx
    rcases hx with rfl | rfl | rfl | rfl <;> simp only [SObj.live, Option.some.injEq] at ho <;> subst ho <;> assumption
theorem rnm_four {n b b1 c c1 : Nat} (hd : [b, b1, c, c1].Nodup) : rnm [] n [b, b1, c, c1] b = n ∧ rnm [] n [b, b1, c, c1] b1 = n + 1 ∧ rnm [] n [b, b1, c, c1] c = n + 2 ∧ rnm [] n [b, b1, c, c1] c1 = n + 3 := by
  have p := fun j i (h : [b, b1, c, c1][j]? = some i) => posN_spec hd h
  refine ⟨?_, ?_, ?_, ?_⟩
  · show n + posN _ _ = _
    rw [p 0 b rfl]; rfl
  · show n + posN _ _ = _
    rw [p 1 b1 rfl]
  · show n + posN _ _ = _
    rw [p 2 c rfl]
  · show n + posN _ _ = _
    rw [p 3 c1 rfl]
theorem nodup4 {b b1 c c1 : Nat} (h1 : b ≠ b1) (h2 : c ≠ c1) (h : (!Nat.beq b c && (!Nat.beq b c1 && (!Nat.beq b1 c && !Nat.beq b1 c1))) = true) : [b, b1, c, c1].Nodup := by
  simp only [Bool.and_eq_true, Bool.not_eq_true', nbeq, decide_eq_false_iff_not] at h
  simp [h1, h2, h.1, h.2.1, h.2.2.1, h.2.2.2]
end
end Go.Sh
