/-
  The shadow heap, what it says of a world, how worlds go on; the operations that only look (pval), and that the model does what they say.
-/
import Derived.Test.YtigomjcmpafeeaaSk1
set_option linter.unusedSimpArgs false
set_option linter.unusedVariables false
namespace Go.Sh
open Go

inductive SObj where
  | cells (g : Option Nat) (v : SV)
  | map (es : List (SV × SV))
  | dead
/-- What is known of a block: of one that is given up, nothing. -/
def SObj.live : SObj → Option SObj
  | .dead => none
  | .cells g v => some (.cells g v)
  | .map es => some (.map es)
theorem live_some {o o' : SObj} (h : o.live = some o') : o' = o := by cases o <;> simp [SObj.live] at h <;> exact h.symm

structure Heap where
  next : Nat
  blocks : List (Nat × SObj)

def getL : List (Nat × SObj) → Nat → Option SObj
  | [], _ => none
  | (s, o) :: l, b => bif Nat.beq s b then o.live else getL l b
def Heap.get (σ : Heap) (b : Nat) : Option SObj := getL σ.blocks b

def OWf (I : Imm) (n : Nat → Prop) : SObj → Prop
  | .cells _ v => Wf I n v
  | .map es => ∀ e ∈ es, Wf I n e.1 ∧ Wf I n e.2
  | .dead => True

/-- How many cells of the block are ours. -/
def reachOf (p : Pl) (g : Option Nat) (v : SV) : Nat := match g with | none => v.size | some s => p.cap * s

def ObjAt (ρ : Nat → Pl) (b : Nat) (w : World) : SObj → Prop
  | .cells g v => ∃ c T fz, w.heap[(ρ b).blk]? = some (.cells c T fz) ∧ (∀ j, j < v.size → c[(ρ b).base + j]? = (cells ρ v)[j]?) ∧
      v.size ≤ reachOf (ρ b) g v ∧ (ρ b).base + reachOf (ρ b) g v ≤ c.size ∧ ∀ j, j < reachOf (ρ b) g v → ¬ (fz.1 ≤ (ρ b).base + j ∧ (ρ b).base + j < fz.2)
  | .map es => ∃ ms clock, w.heap[(ρ b).blk]? = some (.map ms clock) ∧ ms.toList.map (fun m => (m.key, m.val)) = es.map (fun e => (val ρ e.1, val ρ e.2))
  | .dead => False

abbrev HF := Nat → Option SObj

structure HWf (I : Imm) (n : Nat → Prop) (h : HF) : Prop where
  dom : ∀ b o, h b = some o → n b ∧ OWf I n o

/-- The shadow heap h (its ids are n's) lies in the world w as ρ says. -/
structure HRel (I : Imm) (ρ : Nat → Pl) (n : Nat → Prop) (h : HF) (w : World) : Prop where
  wf : HWf I n h
  obj : ∀ b o, h b = some o → ObjAt ρ b w o
  inj : ∀ b o b' o', h b = some o → h b' = some o' → (ρ b).blk = (ρ b').blk → b = b'
  imm : ∀ i o, I i = some o → w.heap[i]? = some o
  off : ∀ b o, h b = some o → I (ρ b).blk = none

theorem ObjAt.lt {ρ : Nat → Pl} {b : Nat} {w : World} {o : SObj} (h : ObjAt ρ b w o) : (ρ b).blk < w.heap.size := by
  cases o with
  | cells g v => obtain ⟨c, T, fz, h, _⟩ := h; exact (Array.getElem?_eq_some_iff.1 h).1
  | map es => obtain ⟨ms, cl, h, _⟩ := h; exact (Array.getElem?_eq_some_iff.1 h).1
  | dead => exact h.elim

/-- How a run goes on: what is not ours stays. -/
structure Ext (ρ : Nat → Pl) (n : Nat → Prop) (h : HF) (w : World) (ρ' : Nat → Pl) (n' : Nat → Prop) (h' : HF) (w' : World) : Prop where
  le : ∀ b, n b → n' b
  agree : ∀ b, n b → ρ' b = ρ b
  os : w'.os = w.os
  tape : w'.tape = w.tape
  output : w'.output = w.output
  size : w.heap.size ≤ w'.heap.size
  frame : ∀ i, i < w.heap.size → (∀ b o, h b = some o → (ρ b).blk ≠ i) → w'.heap[i]? = w.heap[i]?
  img : ∀ b o, h' b = some o → w.heap.size ≤ (ρ' b).blk ∨ ∃ b0 o0, h b0 = some o0 ∧ (ρ b0).blk = (ρ' b).blk

theorem Ext.refl (ρ : Nat → Pl) (n : Nat → Prop) (h : HF) (w : World) : Ext ρ n h w ρ n h w :=
  ⟨fun _ h => h, fun _ _ => rfl, rfl, rfl, rfl, Nat.le_refl _, fun _ _ _ => rfl, fun b o hb => .inr ⟨b, o, hb, rfl⟩⟩

theorem Ext.trans {ρ ρ' ρ'' : Nat → Pl} {n n' n'' : Nat → Prop} {e e' e'' : HF} {w w' w'' : World} (h : Ext ρ n e w ρ' n' e' w') (g : Ext ρ' n' e' w' ρ'' n'' e'' w'') : Ext ρ n e w ρ'' n'' e'' w'' where
  le b hb := g.le b (h.le b hb)
  agree b hb := (g.agree b (h.le b hb)).trans (h.agree b hb)
  os := g.os.trans h.os
  tape := g.tape.trans h.tape
  output := g.output.trans h.output
  size := Nat.le_trans h.size g.size
  frame i hi hn := by
    rw [g.frame i (Nat.lt_of_lt_of_le hi h.size) (fun b o hb e => ?_), h.frame i hi hn]
    rcases h.img b o hb with h1 | ⟨b0, o0, h1, h2⟩
    · omega
    · exact hn b0 o0 h1 (h2.trans e)
  img b o hb := by
    rcases g.img b o hb with h1 | ⟨b0, o0, h1, h2⟩
    · exact .inl (Nat.le_trans h.size h1)
    · rcases h.img b0 o0 h1 with h3 | ⟨b1, o1, h3, h4⟩
      · exact .inl (by omega)
      · exact .inr ⟨b1, o1, h3, h4.trans h2⟩

/-- A draw alone. -/
theorem Ext.drew (ρ : Nat → Pl) (n : Nat → Prop) (h : HF) (w : World) (m : Nat) : Ext ρ n h w ρ n h { w with drawn := m } :=
  ⟨fun _ h => h, fun _ _ => rfl, rfl, rfl, rfl, Nat.le_refl _, fun _ _ _ => rfl, fun b o hb => .inr ⟨b, o, hb, rfl⟩⟩
theorem HRel.drew {I : Imm} {ρ : Nat → Pl} {n : Nat → Prop} {h : HF} {w : World} (g : HRel I ρ n h w) (m : Nat) : HRel I ρ n h { w with drawn := m } :=
  ⟨g.wf, fun b o hb => by have := g.obj b o hb; cases o <;> exact this, g.inj, g.imm, g.off⟩

/-! ### The frame's slots -/
abbrev Env := List (Nat × SV)
def getE : Env → Nat → Option SV
  | [], _ => none
  | (s, v) :: l, t => bif Nat.beq s t then some v else getE l t
abbrev EF := Nat → Option SV

structure EnvOk (I : Imm) (N : Nat) (ρ : Nat → Pl) (n : Nat → Prop) (g : EF) (a : Act) : Prop where
  size : N ≤ a.tmps.size
  defers : a.defers = []
  env : ∀ t v, g t = some v → a.tmps[t]? = some (val ρ v) ∧ Wf I n v

theorem EnvOk.ext {I : Imm} {N : Nat} {ρ ρ' : Nat → Pl} {n m : Nat → Prop} {g : EF} {a : Act} (h : EnvOk I N ρ n g a) (hn : ∀ b, n b → m b) (hρ : ∀ b, n b → ρ' b = ρ b) : EnvOk I N ρ' m g a :=
  ⟨h.size, h.defers, fun t v ht => by
    obtain ⟨h1, h2⟩ := h.env t v ht
    exact ⟨by rw [h1, val_congr hρ h2], h2.mono hn⟩⟩

def putE (g : EF) (d : Nat) (v : SV) : EF := fun t => bif Nat.beq d t then some v else g t
theorem getE_cons (env : Env) (d : Nat) (v : SV) : getE ((d, v) :: env) = putE (getE env) d v := by
  funext t; simp [getE, putE]

theorem EnvOk.put {I : Imm} {N : Nat} {ρ : Nat → Pl} {n : Nat → Prop} {g : EF} {a : Act} (h : EnvOk I N ρ n g a) {d : Nat} (hd : d < N) {v : SV} (hv : Wf I n v) : EnvOk I N ρ n (putE g d v) (a.put (some d) (val ρ v)) := by
  have hs := h.size
  refine ⟨by simp [Act.put]; exact hs, h.defers, fun t u ht => ?_⟩
  simp only [putE] at ht
  simp only [Act.put]
  cases e : Nat.beq d t
  · rw [e] at ht
    have hne : d ≠ t := fun h' => by subst h'; rw [Nat.beq_refl] at e; cases e
    rw [Array.getElem?_setIfInBounds_ne hne]
    exact h.env t u (by simpa using ht)
  · rw [e] at ht
    have : d = t := Nat.eq_of_beq_eq_true e
    subst this
    simp at ht; subst ht
    exact ⟨Array.getElem?_setIfInBounds_self_of_lt (by omega), hv⟩

/-- The same value once more, spelt otherwise. -/
theorem EnvOk.again {I : Imm} {N : Nat} {ρ : Nat → Pl} {n : Nat → Prop} {g : EF} {a : Act} (h : EnvOk I N ρ n g a) {d : Nat} {v u : SV} (hd : g d = some v) (hu : val ρ u = val ρ v) (hw : Wf I n u) : EnvOk I N ρ n (putE g d u) a :=
  ⟨h.size, h.defers, fun t x ht => by
    simp only [putE] at ht
    cases e : Nat.beq d t
    · rw [e] at ht; exact h.env t x (by simpa using ht)
    · rw [e] at ht
      have : d = t := Nat.eq_of_beq_eq_true e
      subst this
      simp at ht; subst ht
      exact ⟨by rw [hu]; exact (h.env d v hd).1, hw⟩⟩

/-! ### Operands -/
def ofValue : Value → Option SV
  | .bool b => some (.bool b)
  | .int j n => some (.int j n)
  | .string s => some (.str s)
  | .pointer none => some .nilp
  | .slice none 0 0 => some .nils
  | .nilFunc => some .nilfn
  | .nilIface => some .nilifc
  | .map none => some .nilmap
  | _ => none

theorem ofValue_spec {v : Value} {u : SV} (h : ofValue v = some u) (ρ : Nat → Pl) (I : Imm) (n : Nat → Prop) : v = val ρ u ∧ Wf I n u := by
  unfold ofValue at h
  split at h <;> simp at h <;> subst h <;> simp [val, pack, SV.isAgg, cells, Wf]

def ev {α : Type} (g : EF) (x : Operand) (k : SV → R α) : R α :=
  match x with
  | .tmp t => match g t with | some v => k v | none => none
  | .const v => match ofValue v with | some u => k u | none => none
  | .func f => k (.fn (.func f) [] [])
  | .global _ => none

theorem ev_spec {α : Type} {g : EF} {x : Operand} {k : SV → R α} {r : α} (h : ev g x k = some r) :
    ∃ v, k v = some r ∧ ∀ I N ρ n a, EnvOk I N ρ n g a → a.eval x = val ρ v ∧ Wf I n v := by
  unfold ev at h
  split at h
  · split at h <;> try (simp at h; done)
    rename_i v h1
    refine ⟨v, h, fun I N ρ n a he => ?_⟩
    obtain ⟨h3, h4⟩ := he.env _ _ h1
    exact ⟨by simp [Act.eval, h3], h4⟩
  · split at h
    · rename_i v u hu
      exact ⟨u, h, fun I N ρ n a _ => by have := ofValue_spec hu ρ I n; exact ⟨by simp [Act.eval, this.1], this.2⟩⟩
    · simp at h
  · exact ⟨_, h, fun I N ρ n a _ => by simp [Act.eval, val, pack, SV.isAgg, cells, vals, Wf, Wfs]⟩
  · simp at h

def evs {α : Type} (g : EF) : List Operand → (List SV → R α) → R α
  | [], k => k []
  | x :: l, k => ev g x fun v => evs g l fun vs => k (v :: vs)
theorem evs_spec {α : Type} {g : EF} : ∀ {l : List Operand} {k : List SV → R α} {r : α}, evs g l k = some r →
    ∃ vs, k vs = some r ∧ ∀ I N ρ n a, EnvOk I N ρ n g a → l.map a.eval = vs.map (val ρ) ∧ ∀ v ∈ vs, Wf I n v
  | [], k, r, h => ⟨[], by simpa [evs] using h, by simp⟩
  | x :: l, k, r, h => by
    simp only [evs] at h
    obtain ⟨v, h1, h2⟩ := ev_spec h
    obtain ⟨vs, h3, h4⟩ := evs_spec h1
    refine ⟨v :: vs, h3, fun I N ρ n a he => ?_⟩
    obtain ⟨e1, e2⟩ := h2 I N ρ n a he
    obtain ⟨e3, e4⟩ := h4 I N ρ n a he
    exact ⟨by simp [e1, e3], by simpa using ⟨e2, e4⟩⟩

/-! ### Types -/
inductive SD where
  | sc (d : TypeDesc)
  | st (fs : List (Nat × Nat × Bool))
  | ar (n e es : Nat) (ea : Bool)
/-- How values of a type are compared, part by part. -/
inductive Shape where
  | bl
  | it (k : IntKind)
  | sr
  | st (fs : List (Nat × Nat × Bool × Shape))
  | ar (n es : Nat) (s : Shape)
structure STy where
  zero : SV
  size : Nat
  bytes : Nat
  sd : SD
  eqs : Option Shape := none
abbrev TE := List (Nat × STy)

def aggDesc : TypeDesc → Bool
  | .struct _ | .array .. => true
  | _ => false
def isAggT (P : Program) (t : TypeId) : Option Bool := (P.underlying t).map aggDesc

def sizeB (P : Program) (e : TypeId) (n : Nat) : Bool := match P.info? e with
  | some i => Nat.beq i.size n
  | none => false
def aggB (P : Program) (e : TypeId) (g : Bool) : Bool := match P.underlying e with
  | some d => aggDesc d == g
  | none => false
def fieldsB (P : Program) (q : TypeId → Shape → Bool) : List Field → List (Nat × Nat × Bool × Shape) → Bool
  | [], [] => true
  | f :: F, (o, sz, g, s) :: fs => (f.name != "_") && Nat.beq f.offset o && sizeB P f.type sz && aggB P f.type g && q f.type s && fieldsB P q F fs
  | _, _ => false
/-- The type is one of the shape (as deep as d). -/
def shB (P : Program) : Nat → TypeId → Shape → Bool
  | 0, _, _ => false
  | d + 1, t, s => match P.underlying t, s with
    | some .bool, .bl => true
    | some (.int k), .it k' => decide (k = k')
    | some .string, .sr => true
    | some (.struct F), .st fs => !P.stoodInHeld t && fieldsB P (shB P d) F.toList fs
    | some (.array n e), .ar n' es s => Nat.beq n n' && sizeB P e es && shB P d e s
    | _, _ => false

structure TyOk (P : Program) (t : TypeId) (s : STy) : Prop where
  info : ∀ ρ, (P.info? t).map (fun i => (i.zero, i.size, i.bytes)) = some (some (val ρ s.zero), s.size, s.bytes)
  zero : s.zero.size = s.size ∧ s.zero.isTuple = false ∧ ∀ I n, Wf I n s.zero
  desc : match s.sd with
    | .sc d => P.underlying t = some d ∧ aggDesc d = false
    | .st fs => ∃ F : Array Field, P.underlying t = some (.struct F) ∧ F.toList.map (fun f => (f.offset, (P.info? f.type).map (·.size), isAggT P f.type)) = fs.map fun x => (x.1, some x.2.1, some x.2.2)
    | .ar n e es ea => P.underlying t = some (.array n e) ∧ (P.info? e).map (·.size) = some es ∧ isAggT P e = some ea
  eqs : ∀ sh, s.eqs = some sh → shB P 8 t sh = true ∧ P.eqGuardType P.depth t = false

def TEok (P : Program) (te : TE) : Prop := ∀ x ∈ te, TyOk P x.1 x.2
theorem TEok.nil (P : Program) : TEok P [] := by simp [TEok]
theorem TEok.cons {P : Program} {t : Nat} {s : STy} {te : TE} (h : TyOk P t s) (g : TEok P te) : TEok P ((t, s) :: te) := by
  intro x hx; rcases List.mem_cons.1 hx with rfl | hx
  · exact h
  · exact g x hx

def tlook {α : Type} : TE → Nat → (STy → R α) → R α
  | [], _, _ => none
  | (s, v) :: l, t, k => bif Nat.beq s t then k v else tlook l t k
theorem tlook_spec {α : Type} {P : Program} {k : STy → R α} {r : α} : ∀ {te : TE} {t : Nat}, tlook te t k = some r → TEok P te → ∃ s, k s = some r ∧ TyOk P t s
  | [], t, h, _ => by simp [tlook] at h
  | (s, v) :: l, t, h, hok => by
    simp only [tlook] at h
    cases hs : Nat.beq s t
    · rw [hs] at h; exact tlook_spec (te := l) (by simpa using h) (fun x hx => hok x (List.mem_cons_of_mem _ hx))
    · rw [hs] at h
      have : s = t := Nat.eq_of_beq_eq_true hs
      subst this
      exact ⟨v, by simpa using h, hok (s, v) (by simp)⟩
end Go.Sh
