/-
  The operations that make or write memory (wval), and that the model does so.
-/
import Derived.Test.YtigomjcmpafeeaaSk7
set_option linter.unusedSimpArgs false
set_option linter.unusedVariables false
namespace Go.Sh
open Go

section
variable {α : Type} {P : Program} {I : Imm}

def World.setBlk (w : World) (g : Nat) (o : Obj) : World := { w with heap := w.heap.setIfInBounds g o }

theorem setCell_blk {w : World} {g o : Nat} {cur : Array Value} {T : TypeId} {fz : Nat × Nat} (hg : w.heap[g]? = some (.cells cur T fz)) (v : Value) :
    w.setCell ⟨g, o, none⟩ v = World.setBlk w g (.cells (cur.setIfInBounds o v) T fz) := by
  unfold World.setCell World.setBlk
  congr 1
  apply Array.ext_getElem?
  intro i
  rw [Array.getElem?_modify, Array.getElem?_setIfInBounds]
  have hlt := (Array.getElem?_eq_some_iff.1 hg).1
  by_cases hi : g = i
  · subst hi; simp only [if_true, hg, hlt, Option.map_some, Option.isSome_none, Bool.false_eq_true, if_false]
  · simp [hi]

theorem setBlk_setBlk (w : World) (g : Nat) (o o' : Obj) : World.setBlk (World.setBlk w g o) g o' = World.setBlk w g o' := by simp [World.setBlk]
theorem setBlk_self {w : World} {g : Nat} {o : Obj} (hg : w.heap[g]? = some o) : World.setBlk w g o = w := by
  unfold World.setBlk
  have : w.heap.setIfInBounds g o = w.heap := by
    apply Array.ext_getElem?
    intro i
    rw [Array.getElem?_setIfInBounds]
    by_cases hi : g = i
    · subst hi; rw [hg]; have hlt := (Array.getElem?_eq_some_iff.1 hg).1; simp [hlt]
    · simp [hi]
  rw [this]
theorem setBlk_get {w : World} {g : Nat} {o o' : Obj} (hg : w.heap[g]? = some o') : (World.setBlk w g o).heap[g]? = some o := by
  have hlt := (Array.getElem?_eq_some_iff.1 hg).1
  simp [World.setBlk, hlt]
theorem setBlk_other {w : World} {g i : Nat} {o : Obj} (h : i ≠ g) : (World.setBlk w g o).heap[i]? = w.heap[i]? := by
  simp only [World.setBlk]; rw [Array.getElem?_setIfInBounds_ne (Ne.symm h)]

theorem run_storeCells_gen (g o : Nat) (T : TypeId) (fz : Nat × Nat) : ∀ (vs : List Value) (i : Nat) (cur : Array Value) (w : World), w.heap[g]? = some (.cells cur T fz) → o + i + vs.length ≤ cur.size →
    (∀ j, i ≤ j → j < i + vs.length → ¬ (fz.1 ≤ o + j ∧ o + j < fz.2)) → (∀ v ∈ vs, flatV v = true) →
    (storeCells ⟨g, o, none⟩ vs i).run P w = .ok () (World.setBlk w g (.cells (overlay cur.toList vs (o + i)).toArray T fz))
  | [], i, cur, w, hg, _, _, _ => by
    simp only [storeCells, overlay, List.append_nil, List.length_nil, Nat.add_zero, List.take_append_drop, Array.toArray_toList]
    rw [setBlk_self hg]
    rfl
  | v :: rest, i, cur, w, hg, hl, hz, h1 => by
    have hi : o + i < cur.size := by simp at hl; omega
    have hadd : (⟨g, o, none⟩ : Addr).add i = ⟨g, o + i, none⟩ := addr_add rfl i
    have hcell : w.cell? ⟨g, o + i, none⟩ = some cur[o + i] := by simp [World.cell?, hg, hi]
    have hz0 := hz i (Nat.le_refl _) (by simp)
    have hfro : w.frozen? ⟨g, o + i, none⟩ = false := by
      simp only [World.frozen?, hg, Bool.and_eq_false_iff, decide_eq_false_iff_not]
      omega
    have hv : v.oneCell' = true := by
      have := h1 v (by simp)
      cases v <;> simp [flatV, Value.oneCell'] at this ⊢
    have hst : (store ((⟨g, o, none⟩ : Addr).add i) v).run P w = .ok () (World.setBlk w g (.cells (cur.setIfInBounds (o + i) v) T fz)) := by
      rw [hadd, run_store P w _ v _ hv, hcell]
      simp [hfro, setCell_blk hg v]
    have ih := run_storeCells_gen g o T fz rest (i + 1) (cur.setIfInBounds (o + i) v) (World.setBlk w g (.cells (cur.setIfInBounds (o + i) v) T fz)) (setBlk_get hg) (by simp at hl ⊢; omega)
      (fun j h2 h3 => hz j (by omega) (by simp; omega)) (fun x hx => h1 x (by simp [hx]))
    simp only [storeCells, Sem.run_bind, hst, Result.andThen_ok, ih, setBlk_setBlk]
    congr 3
    have e := list_seg_step cur.toList (o + i) v rest (by simp at hl ⊢; omega)
    simpa [overlay, Array.toList_setIfInBounds, Nat.add_assoc] using e

def putH (h : HF) (b : Nat) (o : SObj) : HF := fun c => bif Nat.beq b c then o.live else h c
theorem putH_same (h : HF) (b : Nat) (o : SObj) : putH h b o b = o.live := by simp [putH]
theorem putH_other {h : HF} {b c : Nat} {o : SObj} (hne : c ≠ b) : putH h b o c = h c := by simp [putH, beq_ne (Ne.symm hne)]
def putP (ρ : Nat → Pl) (b : Nat) (p : Pl) : Nat → Pl := fun c => bif Nat.beq b c then p else ρ c
theorem putP_same (ρ : Nat → Pl) (b : Nat) (p : Pl) : putP ρ b p b = p := by simp [putP]
theorem putP_other {ρ : Nat → Pl} {b c : Nat} {p : Pl} (hne : c ≠ b) : putP ρ b p c = ρ c := by simp [putP, beq_ne (Ne.symm hne)]

theorem ObjAt.congr {ρ ρ' : Nat → Pl} {D : Nat → Prop} {b : Nat} {w w' : World} {o : SObj} (h : ObjAt ρ b w o) (hw : OWf I D o) (hρ : ∀ c, D c → ρ' c = ρ c) (hb : D b) (hh : w'.heap[(ρ b).blk]? = w.heap[(ρ b).blk]?) : ObjAt ρ' b w' o := by
  have e := hρ b hb
  cases o with
  | cells g v =>
    obtain ⟨c, T, fz, h1, h2, h3, h4, h5⟩ := h
    refine ⟨c, T, fz, by rw [e, hh, h1], fun j hj => ?_, by rw [e]; exact h3, by rw [e]; exact h4, by rw [e]; exact h5⟩
    rw [e, h2 j hj, cells_congr hρ hw]
  | dead => exact h.elim
  | map es =>
    obtain ⟨ms, cl, h1, h2⟩ := h
    refine ⟨ms, cl, by rw [e, hh, h1], ?_⟩
    rw [h2]
    apply List.map_congr_left
    intro x hx
    have := hw x hx
    rw [val_congr hρ this.1, val_congr hρ this.2]

theorem OWf.mono {D D' : Nat → Prop} (h : ∀ b, D b → D' b) {o : SObj} (g : OWf I D o) : OWf I D' o := by
  cases o with
  | cells _ v => exact Wf.mono h g
  | map es => exact fun e he => ⟨Wf.mono h (g e he).1, Wf.mono h (g e he).2⟩
  | dead => trivial

theorem HRel.mono {ρ : Nat → Pl} {D D' : Nat → Prop} {h : HF} {w : World} (g : HRel I ρ D h w) (hD : ∀ b, D b → D' b) : HRel I ρ D' h w :=
  ⟨⟨fun b o hb => ⟨hD b (g.wf.dom b o hb).1, OWf.mono hD (g.wf.dom b o hb).2⟩⟩, g.obj, g.inj, g.imm, g.off⟩

/-- A new block. -/
theorem HRel.add {ρ : Nat → Pl} {D D' : Nat → Prop} {h : HF} {w : World} (g : HRel I ρ D h w) {b : Nat} (hb : ¬ D b) (hD : ∀ c, D c → D' c) (hb' : D' b) {o : SObj} (ho : OWf I D' o) {ob : Obj} {p : Pl} (hp : p.blk = w.heap.size)
    (hat : ObjAt (putP ρ b p) b { w with heap := w.heap.push ob } o) :
    HRel I (putP ρ b p) D' (putH h b o) { w with heap := w.heap.push ob } ∧ Ext ρ D h w (putP ρ b p) D' (putH h b o) { w with heap := w.heap.push ob } := by
  have hρ : ∀ c, D c → putP ρ b p c = ρ c := fun c hc => putP_other (fun e => hb (e ▸ hc))
  have hget : ∀ i, i < w.heap.size → (w.heap.push ob)[i]? = w.heap[i]? := fun i hi => by rw [Array.getElem?_push, if_neg (by omega)]
  have old : ∀ c o', putH h b o c = some o' → (c = b ∧ o' = o) ∨ (c ≠ b ∧ h c = some o') := fun c o' hc => by
    by_cases e : c = b
    · subst e; rw [putH_same] at hc; exact .inl ⟨rfl, live_some hc⟩
    · rw [putH_other e] at hc; exact .inr ⟨e, hc⟩
  have hlt : ∀ c o', h c = some o' → (ρ c).blk < w.heap.size := fun c o' hc => (g.obj c o' hc).lt
  refine ⟨⟨⟨fun c o' hc => ?_⟩, fun c o' hc => ?_, fun c o1 c' o2 hc hc' hbl => ?_, fun i x hi => ?_, fun c o' hc => ?_⟩, ⟨hD, hρ, rfl, rfl, rfl, by simp, fun i hi _ => hget i hi, fun c o' hc => ?_⟩⟩
  · rcases old c o' hc with ⟨rfl, rfl⟩ | ⟨e, hc⟩
    · exact ⟨hb', ho⟩
    · exact ⟨hD _ (g.wf.dom c o' hc).1, OWf.mono hD (g.wf.dom c o' hc).2⟩
  · rcases old c o' hc with ⟨rfl, rfl⟩ | ⟨e, hc⟩
    · exact hat
    · exact ObjAt.congr (I := I) (g.obj c o' hc) (g.wf.dom c o' hc).2 hρ (g.wf.dom c o' hc).1 (hget _ (hlt c o' hc))
  · rcases old c o1 hc with ⟨q1, q2⟩ | ⟨e, hc1⟩ <;> rcases old c' o2 hc' with ⟨q3, q4⟩ | ⟨e', hc2⟩
    · rw [q1, q3]
    · rw [q1, putP_same, putP_other e', hp] at hbl; have := hlt c' o2 hc2; omega
    · rw [q3, putP_same, putP_other e, hp] at hbl; have := hlt c o1 hc1; omega
    · rw [putP_other e, putP_other e'] at hbl; exact g.inj c o1 c' o2 hc1 hc2 hbl
  · have := g.imm i x hi
    rw [hget i (Array.getElem?_eq_some_iff.1 this).1, this]
  · rcases old c o' hc with ⟨rfl, rfl⟩ | ⟨e, hc⟩
    · rw [putP_same, hp]
      cases hI : I w.heap.size with
      | none => rfl
      | some x => have := g.imm _ x hI; simp at this
    · rw [putP_other e]; exact g.off c o' hc
  · rcases old c o' hc with ⟨rfl, rfl⟩ | ⟨e, hc⟩
    · rw [putP_same, hp]; exact .inl (Nat.le_refl _)
    · rw [putP_other e]; exact .inr ⟨c, o', hc, rfl⟩

/-- A block written. -/
theorem HRel.set {ρ : Nat → Pl} {D : Nat → Prop} {h : HF} {w : World} (g : HRel I ρ D h w) {b : Nat} {o0 o : SObj} (hb : h b = some o0) (ho : OWf I D o) {ob : Obj} (hat : ObjAt ρ b (World.setBlk w (ρ b).blk ob) o) :
    HRel I ρ D (putH h b o) (World.setBlk w (ρ b).blk ob) ∧ Ext ρ D h w ρ D (putH h b o) (World.setBlk w (ρ b).blk ob) := by
  have old : ∀ c o', putH h b o c = some o' → (c = b ∧ o' = o) ∨ (c ≠ b ∧ h c = some o') := fun c o' hc => by
    by_cases e : c = b
    · subst e; rw [putH_same] at hc; exact .inl ⟨rfl, live_some hc⟩
    · rw [putH_other e] at hc; exact .inr ⟨e, hc⟩
  have any : ∀ c o', putH h b o c = some o' → ∃ o1, h c = some o1 := fun c o' hc => by
    rcases old c o' hc with ⟨rfl, _⟩ | ⟨_, hc⟩
    · exact ⟨o0, hb⟩
    · exact ⟨o', hc⟩
  refine ⟨⟨⟨fun c o' hc => ?_⟩, fun c o' hc => ?_, fun c o1 c' o2 hc hc' hbl => ?_, fun i x hi => ?_, fun c o' hc => ?_⟩, ⟨fun _ h => h, fun _ _ => rfl, rfl, rfl, rfl, by simp [World.setBlk], fun i hi hn => setBlk_other (Ne.symm (hn b o0 hb)), fun c o' hc => ?_⟩⟩
  · rcases old c o' hc with ⟨rfl, rfl⟩ | ⟨e, hc⟩
    · exact ⟨(g.wf.dom _ _ hb).1, ho⟩
    · exact g.wf.dom c o' hc
  · rcases old c o' hc with ⟨rfl, rfl⟩ | ⟨e, hc⟩
    · exact hat
    · exact ObjAt.congr (I := I) (g.obj c o' hc) (g.wf.dom c o' hc).2 (fun _ _ => rfl) (g.wf.dom c o' hc).1 (setBlk_other fun e' => e (g.inj c o' b o0 hc hb e'))
  · obtain ⟨q1, hq1⟩ := any c o1 hc
    obtain ⟨q2, hq2⟩ := any c' o2 hc'
    exact g.inj c q1 c' q2 hq1 hq2 hbl
  · rw [setBlk_other, g.imm i x hi]
    intro e
    have := g.off b o0 hb
    rw [← e, hi] at this
    cases this
  · obtain ⟨q1, hq1⟩ := any c o' hc
    exact g.off c q1 hq1
  · obtain ⟨q1, hq1⟩ := any c o' hc
    exact .inr ⟨c, q1, hq1, rfl⟩

/-! ### wval: the value, and the block that is laid or written -/
def rowOf (z : SV) (n : Nat) : SV :=
  match z with
  | .int kd 0 => .ints kd n fun _ => 0
  | .bool false => .bools n fun _ => false
  | z => .arr z.size n fun _ => z

def cpy (f src : Nat → Int) (off n : Nat) : Nat → Int := fun j => bif Nat.ble off j && Nat.blt j (off + n) then src (j - off) else f j

/-- What is copied: the kind of the elements, how many there are, which. -/
def copySrc (h : HF) (x : SV) (k : IntKind → Nat → (Nat → Int) → R α) : R α :=
  match x with
  | .str s => k .u8 s.size (bytesAt s)
  | .slc b p sz off len _ => match h b with
    | some (.cells _ v) => sub v p fun
      | .ints kd m f => bif Nat.beq sz 1 && decide (off + len ≤ m) then k kd len (fun i => f (off + i)) else none
      | _ => none
    | _ => none
  | _ => none

def wcopy (te : TE) (g : EF) (h : HF) (args : List Operand) (tys : List TypeId) (k : SV → Nat → SObj → R α) : R α :=
  match args, tys with
  | [d, x], [dT, _] => tlook te dT fun s => match s.sd with
    | .sc (.slice e) => tlook te e fun es => bif Nat.beq es.size 1 then ev g d fun
      | .slc b p sz off dlen _ => bif Nat.beq sz 1 then ev g x fun x => copySrc h x fun kd slen src => match h b with
        | some (.cells gg v) => sub v p fun
          | .ints kd' m f => bif decide (kd' = kd) && decide (off + dlen ≤ m) then
              setSub v p (.ints kd m (cpy f src off (Nat.min slen dlen))) fun u => k (.int .i64 (Nat.min slen dlen)) b (.cells gg u) else none
          | _ => none
        | _ => none else none
      | _ => none else none
    | _ => none
  | _, _ => none

def wval (te : TE) (op : Op) (g : EF) (h : HF) (nid : Nat) (k : SV → Nat → SObj → R α) : R α :=
  match op with
  | .alloc t => tlook te t fun s => k (.ptr nid []) nid (.cells none s.zero)
  | .box _ x => ev g x fun v => bif v.isTuple then none else k (.ptr nid []) nid (.cells none v)
  | .store t a x => tlook te t fun s => ev g a fun
    | .ptr b p => ev g x fun v => bif Nat.beq v.size s.size then match h b with
      | some (.cells g u) => setSub u p v fun u => k (.tuple []) b (.cells g u)
      | _ => none else none
    | _ => none
  | .buildSlice t len ps => tlook te t fun s => match s.sd with
    | .sc (.slice e) => tlook te e fun es => bif Nat.beq es.size 0 then none else bif decide (len * es.size ≤ 2 ^ 24) then
        buildGo g (arPlace es.size) ps.toList (rowOf es.zero len) fun u => k (.slc nid [] es.size 0 len (some len)) nid (.cells none u) else none
    | _ => none
  | .makeSlice t l c => tlook te t fun s => match s.sd with
    | .sc (.slice e) => tlook te e fun es => bif Nat.beq es.size 0 then none else ev g l fun
      | .int kl l => ev g c fun
        | .int kc c => bif decide (kl = .i64) && decide (kc = .i64) && (decide (0 ≤ l) && decide (l ≤ c)) then bif decide (es.bytes * c ≤ 2 ^ 48) && decide (c ≤ 2 ^ 48) then
            k (.slc nid [] es.size 0 l.toNat (some c.toNat)) nid (.cells none (rowOf es.zero c.toNat)) else none else none
        | _ => none
      | _ => none
    | _ => none
  | .call c => match c.callee with
    | .builtin .copy => wcopy te g h c.args.toList c.argTypes.toList k
    | _ => none
  | _ => none

/-- An operation that lays or writes one block. -/
def WOk (P : Program) (I : Imm) (g : EF) (h : HF) (o : Oper) (nid : Nat) (v : SV) (b : Nat) (ob : SObj) : Prop :=
  ∀ N ρ D D' a w, EnvOk I N ρ D g a → HRel I ρ D h w → (b = nid → ¬ D nid) → (∀ c, D c → D' c) → (b = nid → D' nid) → ∃ ρ' w' nx, (execOp a.eval o).run P w = .ok nx w' ∧ (nx = .value (val ρ' v) ∨ (nx = .skip ∧ v = .tuple [])) ∧
    HRel I ρ' D' (putH h b ob) w' ∧ Ext ρ D h w ρ' D' (putH h b ob) w' ∧ Wf I D' v

theorem objAt_new {ρ : Nat → Pl} {b : Nat} {v : SV} {w : World} {T : TypeId} {D : Nat → Prop} (hw : Wf I D v) (hb : ¬ D b) :
    ObjAt (putP ρ b ⟨w.heap.size, 0, 0⟩) b { w with heap := w.heap.push (.cells (cells ρ v).toArray T) } (.cells none v) := by
  have e : cells (putP ρ b ⟨w.heap.size, 0, 0⟩) v = cells ρ v := cells_congr (I := I) (fun c hc => putP_other (fun (e : c = b) => hb (e ▸ hc))) hw
  refine ⟨(cells ρ v).toArray, T, (0, 0), by simp [putP_same], fun j _ => by simp [putP_same, e], by simp [reachOf], by simp [reachOf, putP_same, cells_length], fun j _ => by simp⟩

theorem rowOf_spec {z : SV} (hz : z.isTuple = false) (hs : z.size ≠ 0) (n : Nat) (ρ : Nat → Pl) : (rowOf z n).size = n * z.size ∧ (rowOf z n).isTuple = false ∧ (∀ I D, Wf I D z → Wf I D (rowOf z n)) ∧
    (Array.range (n * z.size)).map (fun i => (cells ρ z).toArray[i % (cells ρ z).toArray.size]!) = (cells ρ (rowOf z n)).toArray := by
  have hl := cells_length ρ z
  have gen : (Array.range (n * z.size)).map (fun i => (cells ρ z).toArray[i % (cells ρ z).toArray.size]!) = (cells ρ (.arr z.size n fun _ => z)).toArray := by
    apply Array.toList_inj.1
    apply List.ext_getElem?
    intro j
    have hsz : (cells ρ z).toArray.size = z.size := by simp [hl]
    by_cases hj : j < n * z.size
    · have hq : j / z.size < n := by rw [Nat.div_lt_iff_lt_mul (by omega)]; exact hj
      have hr : j % z.size < z.size := Nat.mod_lt _ (by omega)
      have hd : j = j / z.size * z.size + j % z.size := by rw [Nat.mul_comm]; exact (Nat.div_add_mod j _).symm
      have a1 := flat_get z.size n (fun _ => fit z.size (cells ρ z)) (fun i => fit_length _ _) (j / z.size) (j % z.size) hq hr
      rw [← hd, fit_same _ _ hl] at a1
      simp only [cells, fit_same _ _ hl, a1]
      simp [hj, hl, hr]
    · rw [List.getElem?_eq_none (by simp; omega), List.getElem?_eq_none (by simp only [cells_length, SV.size]; omega)]
  unfold rowOf
  split
  · rename_i kd
    refine ⟨by simp [SV.size], rfl, fun _ _ _ => by simp [Wf], ?_⟩
    rw [gen]
    simp only [SV.size, cells]
    congr 1
    clear gen
    induction n with
    | zero => simp
    | succ n ih => simp only [List.range_succ, List.flatMap_append, ih, List.map_append]; simp [fit]
  · refine ⟨by simp [SV.size], rfl, fun _ _ _ => by simp [Wf], ?_⟩
    rw [gen]
    simp only [SV.size, cells]
    congr 1
    clear gen
    induction n with
    | zero => simp
    | succ n ih => simp only [List.range_succ, List.flatMap_append, ih, List.map_append]; simp [fit]
  · refine ⟨by simp [SV.size], rfl, fun _ _ h => by simp [Wf, h], gen⟩

theorem wrap_small {n : Int} (h0 : 0 ≤ n) (h1 : n ≤ 2 ^ 48) : IntKind.i64.wrap n = n := by
  have e : IntKind.i64.wrap n = (if IntKind.i64.signed && decide (n % 18446744073709551616 ≥ 9223372036854775808) then n % 18446744073709551616 - 18446744073709551616 else n % 18446744073709551616) := rfl
  rw [e]
  have h2 : n % 18446744073709551616 = n := by omega
  rw [h2, if_neg]
  simp only [Bool.and_eq_true, decide_eq_true_eq, not_and]
  omega

theorem arPlace_spec {es i : Nat} {k : Nat → Nat → Path → R α} {r : α} (h : arPlace es i k = some r) : ∃ o s p, k o s p = some r ∧ offOf p = o ∧ (fun i => some (i * es, es)) i = some (o, s) := by
  unfold arPlace at h
  exact ⟨_, _, _, h, by simp [offOf, Step.off], rfl⟩

theorem write_cells {ρ : Nat → Pl} {D : Nat → Prop} {h : HF} {w : World} (hh : HRel I ρ D h w) {b : Nat} {gg : Option Nat} {u0 u : SV} (hb : h b = some (.cells gg u0)) {o : Nat} {cs : List Value} (hroom : o + cs.length ≤ u0.size) (hsz : u.size = u0.size)
    (hnew : ∀ j, j < cs.length → (cells ρ u)[o + j]? = cs[j]?) (hold : ∀ j, j < o ∨ o + cs.length ≤ j → (cells ρ u)[j]? = (cells ρ u0)[j]?) (hflat : ∀ x ∈ cs, flatV x = true) (hwf : Wf I D u) :
    ∃ w', (storeCells ⟨(ρ b).blk, (ρ b).base + o, none⟩ cs 0).run P w = .ok () w' ∧ HRel I ρ D (putH h b (.cells gg u)) w' ∧ Ext ρ D h w ρ D (putH h b (.cells gg u)) w' := by
  obtain ⟨c, T, fz, hheap, hcell, hr1, hr2, hfz⟩ := hh.obj b _ hb
  have hul := cells_length ρ u
  have hst := run_storeCells_gen (P := P) (ρ b).blk ((ρ b).base + o) T fz cs 0 c w hheap (by omega) (fun j _ hj => by
    have := hfz (o + j) (by omega)
    rwa [← Nat.add_assoc] at this) hflat
  have hobj : ObjAt ρ b (World.setBlk w (ρ b).blk (.cells (overlay c.toList cs ((ρ b).base + o + 0)).toArray T fz)) (.cells gg u) := by
    have hreach : reachOf (ρ b) gg u = reachOf (ρ b) gg u0 := by cases gg <;> simp [reachOf, hsz]
    have hol : (overlay c.toList cs ((ρ b).base + o + 0)).length = c.size := by simp [overlay]; omega
    refine ⟨_, T, fz, setBlk_get hheap, fun j hj => ?_, by rw [hreach]; omega, by rw [hreach]; simp only [List.size_toArray, hol]; exact hr2, by rw [hreach]; exact hfz⟩
    simp only [List.getElem?_toArray, Nat.add_zero]
    by_cases hc : o ≤ j ∧ j < o + cs.length
    · have hnew := hnew (j - o) (by omega)
      rw [show o + (j - o) = j by omega] at hnew
      rw [hnew]
      unfold overlay
      have e : (List.take ((ρ b).base + o) c.toList).length = (ρ b).base + o := by simp; omega
      rw [List.append_assoc, List.getElem?_append_right (by rw [e]; omega), e, List.getElem?_append_left (by omega)]
      congr 1; omega
    · have hold := hold j (by omega)
      rw [hold, ← hcell j (by omega)]
      unfold overlay
      have e : (List.take ((ρ b).base + o) c.toList).length = (ρ b).base + o := by simp; omega
      by_cases hlt : j < o
      · rw [List.append_assoc, List.getElem?_append_left (by rw [e]; omega), List.getElem?_take, if_pos (by omega)]
        simp
      · rw [List.getElem?_append_right (by simp; omega)]
        have e2 : (List.take ((ρ b).base + o) c.toList ++ cs).length = (ρ b).base + o + cs.length := by simp; omega
        rw [e2, List.getElem?_drop]
        rw [show (ρ b).base + o + cs.length + ((ρ b).base + j - ((ρ b).base + o + cs.length)) = (ρ b).base + j by omega]
        simp
  obtain ⟨e1, e2⟩ := HRel.set hh hb (o := .cells gg u) hwf hobj
  exact ⟨_, hst, e1, e2⟩

theorem val_slc1 (ρ : Nat → Pl) (b : Nat) (p : Path) (off len : Nat) (cap : Option Nat) : ∃ c, val ρ (.slc b p 1 off len cap) = .slice (some ⟨(ρ b).blk, (ρ b).base + (offOf p + off), none⟩) len c := by
  cases cap
  · exact ⟨_, by simp only [val, pack, SV.isAgg, cells, Nat.mul_one]; rfl⟩
  · exact ⟨_, by simp only [val, pack, SV.isAgg, cells, Nat.mul_one]; rfl⟩

theorem copySrc_spec {h : HF} {x : SV} {k : IntKind → Nat → (Nat → Int) → R α} {r : α} (hk : copySrc h x k = some r) :
    ∃ kd n src, k kd n src = some r ∧ ∀ ρ D w, HRel I ρ D h w → (Builtin.lenOf (val ρ x)).run P w = .ok n w ∧ ∀ m, m ≤ n → (Builtin.firstCells 1 m (val ρ x)).run P w = .ok ((List.range m).map fun i => Value.int kd (src i)).toArray w := by
  unfold copySrc at hk
  split at hk <;> try (simp at hk; done)
  · rename_i s
    refine ⟨_, _, _, hk, fun ρ D w hh => ⟨by simp [val_str, Builtin.lenOf], fun m hm => ?_⟩⟩
    have e : List.take m (List.map (fun b : UInt8 => Value.int IntKind.u8 (b.toNat : Int)) s.data.toList) = (List.range m).map fun i => Value.int .u8 (bytesAt s i) := by
      apply List.ext_getElem?
      intro j
      by_cases hj : j < m
      · have hlt : j < s.data.toList.length := by have : s.size = s.data.toList.length := rfl; omega
        have hb : bytesAt s j = ((s.data.toList[j].toNat : Nat) : Int) := by
          unfold bytesAt
          have : s[j]? = some s.data.toList[j] := by
            have hlt2 : j < s.size := by have : s.size = s.data.toList.length := rfl; omega
            rw [getElem?_pos s j hlt2]; rfl
          rw [this]; rfl
        simp [hj, hb]
        exact ⟨s.data[j]'(by simpa using hlt), by simp, rfl⟩
      · simp [List.getElem?_take, hj]
    simp only [val_str, Builtin.firstCells]
    simp
    apply Array.toList_inj.1
    simpa using e
  · rename_i b p sz off len cap
    split at hk <;> try (simp at hk; done)
    rename_i g v hb
    obtain ⟨u, h5, hl, _⟩ := sub_spec hk
    split at h5 <;> try (simp at h5; done)
    rename_i kd m f _
    obtain ⟨h6, h7⟩ := bif_some h5
    simp only [Bool.and_eq_true, decide_eq_true_eq] at h6
    obtain ⟨h6, h8⟩ := h6
    have := Nat.eq_of_beq_eq_true h6
    subst this
    refine ⟨_, _, _, h7, fun ρ D w hh => ?_⟩
    have ev : val ρ (.slc b p 1 off len cap) = .slice (some ⟨(ρ b).blk, (ρ b).base + offOf p + off, none⟩) len (match cap with | some c => c | none => (ρ b).cap - off) := by
      simp only [val, pack, SV.isAgg, cells, Nat.mul_one, Nat.add_assoc]; rfl
    rw [ev]
    refine ⟨by simp [Builtin.lenOf], fun m' hm => ?_⟩
    have e := run_loadCells_list (P := P) w ⟨(ρ b).blk, (ρ b).base + offOf p + off, none⟩ ((List.range m').map fun i => Value.int kd (f (off + i))) (fun j v' hj => by
      have hjl : j < m' := by have := (List.getElem?_eq_some_iff.1 hj).1; simpa using this
      have := hh.cell (j := off + j) hb hl (by simp [SV.size]; omega)
      rw [addr_add rfl, show (ρ b).base + offOf p + off + j = (ρ b).base + offOf p + (off + j) by omega]
      simp only
      rw [this, ← hj]
      simp [cells, hjl, show off + j < m by omega])
    simp only [List.length_map, List.length_range] at e
    simp [Builtin.firstCells, e]

theorem wval_spec {te : TE} (hte : TEok P te) {o : Oper} {g : EF} {h : HF} {nid : Nat} {k : SV → Nat → SObj → R α} {r : α} (hv : wval te o.op g h nid k = some r) :
    ∃ v b ob, k v b ob = some r ∧ (b = nid ∨ ∃ o0, h b = some o0) ∧ WOk P I g h o nid v b ob := by
  obtain ⟨dst, op, type, pos, after, guard⟩ := o
  cases op <;> simp only [wval] at hv <;> try (simp at hv; done)
  case alloc t =>
    obtain ⟨s, h1, ht⟩ := tlook_spec hv hte
    refine ⟨_, _, _, h1, .inl rfl, fun N ρ D D' a w he hh hn hD hnD => ?_⟩
    have hz := val_cells ρ ht.zero.2.1
    obtain ⟨e1, e2⟩ := HRel.add hh (hn rfl) hD (hnD rfl) (o := .cells none s.zero) (ht.zero.2.2 I D') (p := ⟨w.heap.size, 0, 0⟩) rfl (objAt_new (T := t) (ht.zero.2.2 I D) (hn rfl))
    refine ⟨_, _, .value (.pointer (some ⟨w.heap.size, 0, none⟩)), ?_, .inl ?_, e1, e2, by simpa [Wf] using hnD rfl⟩
    · simp [execOp, Instr.alloc, run_zeroValue ht ρ, newVar, newRow, hz]
    · simp [val_ptr, putP_same, offOf]
  case box t x =>
    obtain ⟨v, h1, hx⟩ := ev_spec hv
    cases ht : v.isTuple <;> rw [ht] at h1 <;> simp at h1
    refine ⟨_, _, _, h1, .inl rfl, fun N ρ D D' a w he hh hn hD hnD => ?_⟩
    obtain ⟨x1, x2⟩ := hx I N ρ D a he
    have hz := val_cells ρ ht
    obtain ⟨e1, e2⟩ := HRel.add hh (hn rfl) hD (hnD rfl) (o := .cells none v) (Wf.mono hD x2) (p := ⟨w.heap.size, 0, 0⟩) rfl (objAt_new (T := t) x2 (hn rfl))
    refine ⟨_, _, .value (.pointer (some ⟨w.heap.size, 0, none⟩)), ?_, .inl ?_, e1, e2, by simpa [Wf] using hnD rfl⟩
    · simp [execOp, Instr.box, newVar, newRow, x1, hz]
    · simp [val_ptr, putP_same, offOf]
  case store t x y =>
    obtain ⟨s, h1, ht⟩ := tlook_spec hv hte
    obtain ⟨p, h2, hp⟩ := ev_spec h1
    cases p <;> (try simp only at h2) <;> try (simp at h2; done)
    rename_i b p
    obtain ⟨v, h3, hy⟩ := ev_spec h2
    obtain ⟨h4, h5⟩ := bif_some h3
    split at h5 <;> try (simp at h5; done)
    rename_i gg u0 hb
    obtain ⟨u, h6, htu, hwr, hwf⟩ := setSub_spec h5
    have hs : v.size = s.size := by simpa using h4
    refine ⟨_, _, _, h6, .inr ⟨_, hb⟩, fun N ρ D D' a w he hh hn hD hnD => ?_⟩
    obtain ⟨p1, p2⟩ := hp I N ρ D a he
    obtain ⟨y1, y2⟩ := hy I N ρ D a he
    obtain ⟨c, T, fz, hheap, hcell, hr1, hr2, hfz⟩ := hh.obj b _ hb
    have hvl := cells_length ρ v
    have hul := cells_length ρ u
    have hroom := hwr.room
    have hst := run_storeCells_gen (P := P) (ρ b).blk ((ρ b).base + offOf p) T fz (cells ρ v) 0 c w hheap (by omega) (fun j _ hj => by
      have := hfz (offOf p + j) (by omega)
      rwa [← Nat.add_assoc] at this) (fun x hx => cells_flat ρ v x hx)
    have hobj : ObjAt ρ b (World.setBlk w (ρ b).blk (.cells (overlay c.toList (cells ρ v) ((ρ b).base + offOf p + 0)).toArray T fz)) (.cells gg u) := by
      have hsz : u.size = u0.size := hwr.size
      have hreach : reachOf (ρ b) gg u = reachOf (ρ b) gg u0 := by cases gg <;> simp [reachOf, hsz]
      have hol : (overlay c.toList (cells ρ v) ((ρ b).base + offOf p + 0)).length = c.size := by simp [overlay]; omega
      refine ⟨_, T, fz, setBlk_get hheap, fun j hj => ?_, by rw [hreach]; omega, by rw [hreach]; simp only [List.size_toArray, hol]; exact hr2, by rw [hreach]; exact hfz⟩
      simp only [List.getElem?_toArray, Nat.add_zero]
      by_cases hc : offOf p ≤ j ∧ j < offOf p + v.size
      · have hnew := hwr.new ρ (j - offOf p) (by omega)
        rw [show offOf p + (j - offOf p) = j by omega] at hnew
        rw [hnew]
        unfold overlay
        have e : (List.take ((ρ b).base + offOf p) c.toList).length = (ρ b).base + offOf p := by simp; omega
        rw [List.append_assoc, List.getElem?_append_right (by rw [e]; omega), e, List.getElem?_append_left (by omega)]
        congr 1; omega
      · have hold := hwr.old ρ j (by omega)
        rw [hold, ← hcell j (by omega)]
        unfold overlay
        have e : (List.take ((ρ b).base + offOf p) c.toList).length = (ρ b).base + offOf p := by simp; omega
        by_cases hlt : j < offOf p
        · rw [List.append_assoc, List.getElem?_append_left (by rw [e]; omega), List.getElem?_take, if_pos (by omega)]
          simp
        · rw [List.getElem?_append_right (by simp; omega)]
          have e2 : (List.take ((ρ b).base + offOf p) c.toList ++ cells ρ v).length = (ρ b).base + offOf p + v.size := by simp; omega
          rw [e2, List.getElem?_drop]
          rw [show (ρ b).base + offOf p + (cells ρ v).length + ((ρ b).base + j - ((ρ b).base + offOf p + v.size)) = (ρ b).base + j by omega]
          simp
    obtain ⟨e1, e2⟩ := HRel.set hh hb (o := .cells gg u) (hwf I D (hh.wf.dom b _ hb).2 y2) hobj
    refine ⟨ρ, _, .skip, ?_, .inr ⟨rfl, rfl⟩, HRel.mono e1 hD, ⟨hD, e2.agree, e2.os, e2.tape, e2.output, e2.size, e2.frame, e2.img⟩, by simp [Wf, Wfs]⟩
    have hvc := val_cells ρ htu
    have hne : ¬ (cells ρ v).length ≠ s.size := by omega
    simp only [execOp, p1, y1, val_ptr, Instr.storeAt, Instr.sureAddr, Sem.run_bind, Sem.run_pure, Result.andThen_ok, storeVar, run_sizeOf ht, hvc, List.size_toArray, hst, Sem.run_ite, if_neg hne]
  case call c =>
    obtain ⟨callee, args, argTypes⟩ := c
    cases callee <;> (try simp only at hv) <;> try (simp at hv; done)
    rename_i bi
    cases bi <;> (try simp only at hv) <;> try (simp at hv; done)
    unfold wcopy at hv
    split at hv <;> try (simp at hv; done)
    rename_i d x dT sT hargs htys
    obtain ⟨s, h1, ht⟩ := tlook_spec hv hte
    split at h1 <;> try (simp at h1; done)
    rename_i e hsd
    obtain ⟨es, h2, hes⟩ := tlook_spec h1 hte
    obtain ⟨h3, h4⟩ := bif_some h2
    obtain ⟨dv, h5, hd⟩ := ev_spec h4
    cases dv <;> (try simp only at h5) <;> try (simp at h5; done)
    rename_i b p sz off dlen cap
    obtain ⟨h6, h7⟩ := bif_some h5
    obtain ⟨xv, h8, hx⟩ := ev_spec h7
    obtain ⟨kd, slen, src, h9, hsrc⟩ := copySrc_spec (P := P) (I := I) h8
    split at h9 <;> try (simp at h9; done)
    rename_i gg u0 hb
    obtain ⟨y, h10, hl, _⟩ := sub_spec h9
    split at h10 <;> try (simp at h10; done)
    rename_i kd' m f _
    obtain ⟨h11, h12⟩ := bif_some h10
    obtain ⟨u, h13, _, hwr, hwf⟩ := setSub_spec h12
    have hsz1 := Nat.eq_of_beq_eq_true h6
    have hes1 := Nat.eq_of_beq_eq_true h3
    subst hsz1
    simp only [Bool.and_eq_true, decide_eq_true_eq] at h11
    obtain ⟨hkd, hm⟩ := h11
    subst hkd
    refine ⟨_, _, _, h13, .inr ⟨_, hb⟩, fun N ρ D D' a w he hh hn hD hnD => ?_⟩
    have ea : args = #[d, x] := by apply Array.toList_inj.1; simpa using hargs
    have et : argTypes = #[dT, sT] := by apply Array.toList_inj.1; simpa using htys
    subst ea; subst et
    have hnd : Nat.min slen dlen ≤ dlen := Nat.min_le_right _ _
    have hroom := hwr.room
    simp only [SV.size] at hroom
    have hud := ht.desc
    rw [hsd] at hud
    obtain ⟨w', q1, q2, q3⟩ := write_cells (P := P) hh hb (u := u) (o := offOf p + off) (cs := (List.range (Nat.min slen dlen)).map fun i => Value.int kd' (src i)) (by simp; omega) hwr.size (fun j hj => by
        simp only [List.length_map, List.length_range] at hj
        have := hwr.new ρ (off + j) (by simp only [SV.size]; omega)
        rw [Nat.add_assoc, this]
        have hb1 : Nat.ble off (off + j) = true := by simp
        have hb2 : Nat.blt (off + j) (off + Nat.min slen dlen) = true := by simpa using hj
        simp [cells, hj, show off + j < m by omega, cpy, hb1, hb2]) (fun j hj => by
        simp only [List.length_map, List.length_range] at hj
        by_cases hr : offOf p ≤ j ∧ j < offOf p + m
        · have h1 := hwr.new ρ (j - offOf p) (by simp only [SV.size]; omega)
          have h2 := hl.2 ρ (j - offOf p) (by simp only [SV.size]; omega)
          rw [show offOf p + (j - offOf p) = j by omega] at h1 h2
          rw [h1, h2]
          have hb1 : (Nat.ble off (j - offOf p) && Nat.blt (j - offOf p) (off + Nat.min slen dlen)) = false := by
            cases e1 : Nat.ble off (j - offOf p)
            · rfl
            · have e1' := Nat.le_of_ble_eq_true e1
              cases e2 : Nat.blt (j - offOf p) (off + Nat.min slen dlen)
              · rfl
              · have e2' : j - offOf p < off + Nat.min slen dlen := by simpa using e2
                omega
          simp [cells, show j - offOf p < m by omega, cpy, hb1]
        · exact hwr.old ρ j (by simp only [SV.size]; omega)) (fun x hx => by
        obtain ⟨i, _, rfl⟩ := List.mem_map.1 hx
        rfl) (hwf I D (hh.wf.dom b _ hb).2 (by simp [Wf]))
    obtain ⟨d1, d2⟩ := hd I N ρ D a he
    obtain ⟨x1, x2⟩ := hx I N ρ D a he
    obtain ⟨s1, s2⟩ := hsrc ρ D w hh
    obtain ⟨cv, ev⟩ := val_slc1 ρ b p off dlen cap
    refine ⟨ρ, w', .value (goInt (Nat.min slen dlen)), ?_, .inl (by simp [val_int, goInt]), HRel.mono q2 hD, ⟨hD, q3.agree, q3.os, q3.tape, q3.output, q3.size, q3.frame, q3.img⟩, by simp [Wf]⟩
    have hso := run_sizeOf hes (w := w)
    rw [hes1] at hso
    simp [execOp, resolve, invoke, builtin, Builtin.copy_, d1, x1, ev, run_underlying hud.1, s1, hso, s2 _ (Nat.min_le_left slen dlen), q1]
  case buildSlice t len ps =>
    obtain ⟨s, h1, ht⟩ := tlook_spec hv hte
    split at h1 <;> try (simp at h1; done)
    rename_i e hsd
    have hd := ht.desc
    rw [hsd] at hd
    obtain ⟨es, h2, hes⟩ := tlook_spec h1 hte
    cases hz : Nat.beq es.size 0 <;> rw [hz] at h2 <;> simp only [cond_false, cond_true] at h2 <;> try (simp at h2; done)
    have hz' : es.size ≠ 0 := fun e => by rw [e] at hz; simp at hz
    obtain ⟨h3, h4⟩ := bif_some h2
    have h3 := of_decide_eq_true h3
    obtain ⟨u, h5, hus, hall⟩ := fill_spec (fun i k r h => arPlace_spec h) h4
    refine ⟨_, _, _, h5, .inl rfl, fun N ρ D D' a w he hh hn hD hnD => ?_⟩
    obtain ⟨q1, q2, q3, q4⟩ := rowOf_spec (ρ := ρ) hes.zero.2.1 (by rw [hes.zero.1]; exact hz') len
    have hzc := val_cells ρ hes.zero.2.1
    obtain ⟨g1, g2⟩ := hall I N ρ D a he (q3 I D (hes.zero.2.2 I D))
    obtain ⟨e1, e2⟩ := HRel.add hh (hn rfl) hD (hnD rfl) (o := .cells none u) (Wf.mono hD g1) (p := ⟨w.heap.size, 0, 0⟩) rfl (objAt_new (T := e) g1 (hn rfl))
    refine ⟨_, _, .value (.slice (some ⟨w.heap.size, 0, none⟩) len len), ?_, .inl ?_, e1, e2, by simpa [Wf] using hnD rfl⟩
    · rw [hes.zero.1] at q4
      have e3 : (ps.map fun x => (x.1, a.eval x.2)).toList = ps.toList.map fun x => (x.1, a.eval x.2) := by simp
      by_cases hlen : len * es.size = 0
      · have : len = 0 := by rcases Nat.mul_eq_zero.1 hlen with h | h <;> omega
        subst this
        have q5 : (Array.range (0 * es.size)).map (fun i => (#[] : Array Value)[i % (#[] : Array Value).size]!) = (cells ρ (rowOf es.zero 0)).toArray := by rw [← q4]; simp
        simp only [execOp, Instr.buildSlice, Sem.run_bind, run_underlying hd.1, Result.andThen_ok, run_sizeOf hes, Sem.run_ite]
        rw [if_neg (by omega)]
        simp only [hlen, if_true, Sem.run_pure, Result.andThen_ok, e3]
        simp only [hlen] at q5
        simp only [q5, g2, newRow, Sem.run_bind, run_newObj, Result.andThen_ok, Sem.run_pure]
      · simp only [execOp, Instr.buildSlice, Sem.run_bind, run_underlying hd.1, Result.andThen_ok, run_sizeOf hes, Sem.run_ite]
        rw [if_neg (by omega)]
        simp only [hlen, if_false, Sem.run_pure, Sem.run_bind, run_zeroValue hes ρ, hzc, Result.andThen_ok, e3, q4, g2, newRow, run_newObj]
    · simp [val, pack, SV.isAgg, cells, putP_same, offOf]
  case makeSlice t l c =>
    obtain ⟨s, h1, ht⟩ := tlook_spec hv hte
    split at h1 <;> try (simp at h1; done)
    rename_i e hsd
    have hd := ht.desc
    rw [hsd] at hd
    obtain ⟨es, h2, hes⟩ := tlook_spec h1 hte
    cases hz : Nat.beq es.size 0 <;> rw [hz] at h2 <;> simp only [cond_false, cond_true] at h2 <;> try (simp at h2; done)
    have hz' : es.size ≠ 0 := fun e => by rw [e] at hz; simp at hz
    obtain ⟨lv, h3, hl⟩ := ev_spec h2
    cases lv <;> (try simp only at h3) <;> try (simp at h3; done)
    rename_i kl l'
    obtain ⟨cv, h4, hc⟩ := ev_spec h3
    cases cv <;> (try simp only at h4) <;> try (simp at h4; done)
    rename_i kc c'
    obtain ⟨h5, h6⟩ := bif_some h4
    obtain ⟨h7, h8⟩ := bif_some h6
    simp only [Bool.and_eq_true, decide_eq_true_eq] at h5 h7
    obtain ⟨⟨hkl, hkc⟩, hl0, hlc⟩ := h5
    subst hkl; subst hkc
    refine ⟨_, _, _, h8, .inl rfl, fun N ρ D D' a w he hh hn hD hnD => ?_⟩
    obtain ⟨l1, _⟩ := hl I N ρ D a he
    obtain ⟨c1, _⟩ := hc I N ρ D a he
    obtain ⟨q1, q2, q3, q4⟩ := rowOf_spec (ρ := ρ) hes.zero.2.1 (by rw [hes.zero.1]; exact hz') c'.toNat
    have hzc := val_cells ρ hes.zero.2.1
    obtain ⟨e1, e2⟩ := HRel.add hh (hn rfl) hD (hnD rfl) (o := .cells none (rowOf es.zero c'.toNat)) (Wf.mono hD (q3 I D (hes.zero.2.2 I D))) (p := ⟨w.heap.size, 0, 0⟩) rfl (objAt_new (T := e) (q3 I D (hes.zero.2.2 I D)) (hn rfl))
    refine ⟨_, _, .value (.slice (some ⟨w.heap.size, 0, none⟩) l'.toNat c'.toNat), ?_, .inl ?_, e1, e2, by simpa [Wf] using hnD rfl⟩
    · obtain ⟨i, hi1, hi2, hi3, hi4⟩ := ty_info hes
      have hti : (typeInfo e).run P w = .ok i w := by simp [typeInfo, hi1]
      have w1 := wrap_small hl0 (by omega)
      have w2 := wrap_small (n := c') (by omega) h7.2
      have hcond : ¬ ((decide (c' < 0) || decide ((i.bytes : Int) * c' > 2 ^ 48)) = true ∨ l' < 0 ∨ l' > c') := by
        simp only [Bool.or_eq_true, decide_eq_true_eq, hi3]
        omega
      rw [hes.zero.1] at q4
      simp only [execOp, l1, c1, val_int, Instr.makeSlice, Sem.run_bind, run_underlying hd.1, Result.andThen_ok, asInt, asIntOf, Sem.run_pure, hti, w1, w2, Sem.run_ite]
      rw [if_neg (by simpa [or_assoc] using hcond)]
      simp only [run_askRoom, Result.andThen_ok, run_sizeOf hes, Sem.run_bind, Sem.run_ite, Sem.run_pure, run_zeroValue hes ρ, hzc, newRow, run_newObj]
      by_cases hc0 : c'.toNat * es.size = 0
      · have q5 : (Array.range (c'.toNat * es.size)).map (fun i => (#[] : Array Value)[i % (#[] : Array Value).size]!) = (cells ρ (rowOf es.zero c'.toNat)).toArray := by rw [← q4]; simp [hc0]
        simp only [hc0, if_true, Result.andThen_ok] at q5 ⊢
        simp only [q5]
      · simp only [hc0, if_false, Result.andThen_ok, q4]
    · simp [val, pack, SV.isAgg, cells, putP_same, offOf]
end
end Go.Sh
