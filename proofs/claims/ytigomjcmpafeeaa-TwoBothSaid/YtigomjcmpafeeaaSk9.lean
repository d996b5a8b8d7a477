/-
  Calls, regions, code, functions: what seval says is what the model's run comes to.
-/
import Derived.Test.YtigomjcmpafeeaaSk8a
import Derived.LoopN
import Derived.Scope
set_option linter.unusedSimpArgs false
set_option linter.unusedVariables false
namespace Go.Sh
open Go

section
variable {α : Type} {P : Program} {I : Imm}

/-- No id from lo on, below hi. -/
abbrev free (D : Nat → Prop) (lo hi : Nat) : Prop := ∀ c, lo ≤ c → c < hi → ¬ D c
/-- The ids, and the new ones. -/
def plus (D : Nat → Prop) (lo hi : Nat) : Nat → Prop := fun c => D c ∨ (lo ≤ c ∧ c < hi)
theorem plus_same (D : Nat → Prop) (n : Nat) : plus D n n = D := by
  funext c; simp only [plus, eq_iff_iff]; constructor
  · rintro (h | h)
    · exact h
    · omega
  · exact .inl
theorem plus_plus {D : Nat → Prop} {a b c : Nat} (h : a ≤ b) (h' : b ≤ c) : plus (plus D a b) b c = plus D a c := by
  funext x; simp only [plus, eq_iff_iff]; constructor
  · rintro ((h | h) | h)
    · exact .inl h
    · exact .inr (by omega)
    · exact .inr (by omega)
  · rintro (h | h)
    · exact .inl (.inl h)
    · by_cases hx : x < b
      · exact .inl (.inr (by omega))
      · exact .inr (by omega)
theorem free.left {D : Nat → Prop} {a b c : Nat} (h : free D a c) (hb : b ≤ c) : free D a b := fun x h1 h2 => h x h1 (by omega)
theorem free.right {D : Nat → Prop} {a b c : Nat} (h : free D a c) (hb : a ≤ b) : free (plus D a b) b c := fun x h1 h2 h3 => by
  rcases h3 with h3 | h3
  · exact h x (by omega) h2 h3
  · omega

theorem getL_append {l m : List (Nat × SObj)} {b : Nat} {o : SObj} (h : getL (l ++ m) b = some o) : (∃ o', (b, o') ∈ l) ∨ getL m b = some o := by
  induction l with
  | nil => exact .inr h
  | cons x l ih =>
    obtain ⟨c, o'⟩ := x
    simp only [List.cons_append, getL] at h
    cases e : Nat.beq c b
    · rw [e] at h
      rcases ih (by simpa using h) with ⟨o2, h2⟩ | h2
      · exact .inl ⟨o2, List.mem_cons_of_mem _ h2⟩
      · exact .inr h2
    · have := Nat.eq_of_beq_eq_true e
      subst this
      exact .inl ⟨o', by simp⟩

/-- The heap only grows: what is written lies ahead of what was there; ids are old ones or new ones. -/
structure Grow (σ σ' : Heap) : Prop where
  le : σ.next ≤ σ'.next
  pre : ∃ l, σ'.blocks = l ++ σ.blocks ∧ ∀ x ∈ l, (∃ o, σ.get x.1 = some o) ∨ (σ.next ≤ x.1 ∧ x.1 < σ'.next)
theorem Grow.refl (σ : Heap) : Grow σ σ := ⟨Nat.le_refl _, [], by simp, by simp⟩
theorem Grow.trans {a b c : Heap} (h : Grow a b) (g : Grow b c) : Grow a c := by
  obtain ⟨h1, l, h2, h3⟩ := h
  obtain ⟨g1, m, g2, g3⟩ := g
  refine ⟨Nat.le_trans h1 g1, m ++ l, by rw [g2, h2, List.append_assoc], fun x hx => ?_⟩
  have old : ∀ y ∈ l, (∃ o, a.get y.1 = some o) ∨ (a.next ≤ y.1 ∧ y.1 < c.next) := fun y hy => by
    rcases h3 y hy with h4 | h4
    · exact .inl h4
    · exact .inr (by omega)
  rcases List.mem_append.1 hx with hx | hx
  · rcases g3 x hx with ⟨o, g4⟩ | g4
    · unfold Heap.get at g4
      rw [h2] at g4
      rcases getL_append g4 with ⟨o', h5⟩ | h5
      · exact old (x.1, o') h5
      · exact .inl ⟨o, h5⟩
    · exact .inr (by omega)
  · exact old x hx

theorem getL_cons (l : List (Nat × SObj)) (b : Nat) (o : SObj) (m : Nat) : (Heap.mk m ((b, o) :: l)).get = putH (Heap.mk m l).get b o := by
  funext c; simp [Heap.get, getL, putH]
theorem get_next (l : List (Nat × SObj)) (m n : Nat) : (Heap.mk m l).get = (Heap.mk n l).get := rfl

structure St (I : Imm) (N : Nat) (ρ : Nat → Pl) (D : Nat → Prop) (env : Env) (σ : Heap) (a : Act) (w : World) : Prop where
  env : EnvOk I N ρ D (getE env) a
  heap : HRel I ρ D σ.get w

abbrev ExtS (ρ : Nat → Pl) (D : Nat → Prop) (σ : Heap) (w : World) (ρ' : Nat → Pl) (σ' : Heap) (w' : World) : Prop := Ext ρ D σ.get w ρ' (plus D σ.next σ'.next) σ'.get w'
theorem ExtS.trans {ρ ρ' ρ'' : Nat → Pl} {D : Nat → Prop} {σ σ' σ'' : Heap} {w w' w'' : World} (h : ExtS ρ D σ w ρ' σ' w') (g : ExtS ρ' (plus D σ.next σ'.next) σ' w' ρ'' σ'' w'') (h1 : σ.next ≤ σ'.next) (h2 : σ'.next ≤ σ''.next) : ExtS ρ D σ w ρ'' σ'' w'' := by
  have := Ext.trans h g
  rwa [plus_plus h1 h2] at this
theorem ExtS.same {ρ : Nat → Pl} {D : Nat → Prop} {σ : Heap} {w : World} : ExtS ρ D σ w ρ σ w := by
  unfold ExtS; rw [plus_same]; exact Ext.refl _ _ _ _
theorem St.same {N : Nat} {ρ : Nat → Pl} {D : Nat → Prop} {env : Env} {σ : Heap} {n : Nat} {a : Act} {w : World} (h : St I N ρ D env σ a w) : St I N ρ (plus D n n) env σ a w := by rwa [plus_same]

/-- The contract of a function, at given arguments and heap. -/
def SCalls (P : Program) (I : Imm) (f : FuncId) (args : List SV) (σ : Heap) (v : SV) (σ' : Heap) : Prop :=
  ∀ ρ D w, HRel I ρ D σ.get w → free D σ.next σ'.next → (∀ x ∈ args, Wf I D x) → Calls P f (args.map (val ρ)).toArray w fun e w' =>
    ∃ ρ', e = .returned (val ρ' v) ∧ ExtS ρ D σ w ρ' σ' w' ∧ HRel I ρ' (plus D σ.next σ'.next) σ'.get w' ∧ Wf I (plus D σ.next σ'.next) v

/-- .. of one of whose run the heap shows nothing. -/
def SPure (P : Program) (I : Imm) (f : FuncId) (args : List SV) (v : SV) : Prop :=
  ∀ D, (∀ x ∈ args, Wf I D x) → ∀ ρ h w, HRel I ρ D h w → Calls P f (args.map (val ρ)).toArray w fun e w' => e = .returned (val ρ v) ∧ Wf I D v ∧ Ext ρ D h w ρ D h w' ∧ HRel I ρ D h w'

abbrev FP (α : Type) := List SV → (SV → R α) → R α
abbrev FF (α : Type) := List SV → Heap → (SV → Heap → R α) → R α
inductive Orc (α : Type) where
  | pure (F : FP α)
  | full (F : FF α)

/-- The function is entered (it has a body). -/
def Enters (P : Program) (f : FuncId) : Prop := ∃ fn, P.funcs[f]? = some fn ∧ (fn.name == "runtime.NumGoroutine") = false ∧ fn.body.isNone = false

def OrcOk (P : Program) (I : Imm) (f : FuncId) : Orc α → Prop
  | .pure F => Enters P f ∧ ∀ args k r, F args k = some r → ∃ v, k v = some r ∧ SPure P I f args v
  | .full F => Enters P f ∧ ∀ args σ k r, F args σ k = some r → ∃ v σ', k v σ' = some r ∧ Grow σ σ' ∧ SCalls P I f args σ v σ'

abbrev ORC (α : Type) := List (Nat × Orc α)
def OOk (P : Program) (I : Imm) (O : ORC α) : Prop := ∀ x ∈ O, OrcOk P I x.1 x.2
theorem OOk.nil : OOk (α := α) P I [] := by simp [OOk]
theorem OOk.cons {f : Nat} {o : Orc α} {O : ORC α} (h : OrcOk P I f o) (g : OOk P I O) : OOk P I ((f, o) :: O) := by
  intro x hx; rcases List.mem_cons.1 hx with rfl | hx
  · exact h
  · exact g x hx
def olook {β : Type} : ORC α → Nat → (Orc α → R β) → R β
  | [], _, _ => none
  | (s, v) :: l, t, k => bif Nat.beq s t then k v else olook l t k
theorem olook_spec {β : Type} {k : Orc α → R β} {r : β} : ∀ {O : ORC α} {t : Nat}, olook O t k = some r → OOk P I O → ∃ s, k s = some r ∧ OrcOk P I t s
  | [], t, h, _ => by simp [olook] at h
  | (s, v) :: l, t, h, hok => by
    simp only [olook] at h
    cases hs : Nat.beq s t
    · rw [hs] at h; exact olook_spec (O := l) (by simpa using h) (fun x hx => hok x (List.mem_cons_of_mem _ hx))
    · rw [hs] at h
      have : s = t := Nat.eq_of_beq_eq_true hs
      subst this
      exact ⟨v, by simpa using h, hok (s, v) (by simp)⟩

def putK {β : Type} (N : Nat) (d : Option Nat) (v : SV) (env : Env) (k : Env → R β) : R β :=
  match d with
  | none => k env
  | some d => bif Nat.blt d N then k ((d, v) :: env) else none

def nextK {β : Type} (c : Bool) (n : Nat) (k : Nat → R β) : R β := cond c (k (n + 1)) (k n)
theorem nextK_eq {β : Type} (c : Bool) (n : Nat) (k : Nat → R β) : nextK c n k = k (bif c then n + 1 else n) := by cases c <;> rfl
/-- One operation. -/
def sop (te : TE) (O : ORC α) (N : Nat) (o : Oper) (env : Env) (σ : Heap) (k : Env → Heap → R α) : R α :=
  match o.op with
  | .call c => match c.callee with
    | .value f => ev (getE env) f fun
      | .fn (.func fid) first cap => evs (getE env) c.args.toList fun args => olook O fid fun
        | .pure F => F (first ++ args ++ cap) fun v => putK N o.dst v env fun env => k env σ
        | .full F => F (first ++ args ++ cap) σ fun v σ => putK N o.dst v env fun env => k env σ
      | _ => none
    | .builtin .copy => wval te o.op (getE env) σ.get σ.next fun v b ob => putK N o.dst v env fun env => nextK (Nat.beq b σ.next) σ.next fun n => k env ⟨n, (b, ob) :: σ.blocks⟩
    | .builtin .append => wapp te (getE env) σ.get σ.next c.args.toList c.argTypes.toList (fun v => putK N o.dst v env fun env => k env σ) (fun v wr => putK N o.dst v env fun env => k env ⟨σ.next + 1, wr ++ σ.blocks⟩)
    | _ => pval te o.op (getE env) σ.get fun v => putK N o.dst v env fun env => k env σ
  | .alloc _ | .box .. | .store .. | .buildSlice .. | .makeSlice .. =>
    wval te o.op (getE env) σ.get σ.next fun v b ob => putK N o.dst v env fun env => nextK (Nat.beq b σ.next) σ.next fun n => k env ⟨n, (b, ob) :: σ.blocks⟩
  | _ => pval te o.op (getE env) σ.get fun v => putK N o.dst v env fun env => k env σ

/-- What the model does in one operation, as worlds go. -/
def OpTo (P : Program) (I : Imm) (N : Nat) (o : Oper) (env : Env) (σ : Heap) (env' : Env) (σ' : Heap) : Prop :=
  ∀ ρ D a w, St I N ρ D env σ a w → free D σ.next σ'.next → ∀ (next : Act → World → Prop) (Q : Exit → Act → World → Prop),
    (∀ ρ' a' w', St I N ρ' (plus D σ.next σ'.next) env' σ' a' w' → ExtS ρ D σ w ρ' σ' w' → next a' w') → o.wp P a w next Q

theorem putK_spec {β : Type} {N : Nat} {d : Option Nat} {v : SV} {env : Env} {k : Env → R β} {r : β} (h : putK N d v env k = some r) :
    ∃ env', k env' = some r ∧ ∀ ρ D a, EnvOk I N ρ D (getE env) a → Wf I D v → EnvOk I N ρ D (getE env') (a.put d (val ρ v)) := by
  cases d with
  | none => exact ⟨env, by simpa [putK] using h, fun ρ D a he _ => he⟩
  | some d =>
    simp only [putK] at h
    obtain ⟨h1, h2⟩ := bif_some h
    have hd : d < N := by simpa using h1
    refine ⟨_, h2, fun ρ D a he hv => ?_⟩
    rw [getE_cons]
    exact he.put hd hv

theorem pure_op {te : TE} (hte : TEok P te) {N : Nat} {o : Oper} {env : Env} {σ : Heap} {k : Env → Heap → R α} {r : α} (h : (pval te o.op (getE env) σ.get fun v => putK N o.dst v env fun env => k env σ) = some r) :
    ∃ env' σ', k env' σ' = some r ∧ Grow σ σ' ∧ OpTo P I N o env σ env' σ' := by
  obtain ⟨v, h1, hv⟩ := pval_spec (I := I) hte h
  obtain ⟨env', h2, hp⟩ := putK_spec (I := I) h1
  refine ⟨env', σ, h2, .refl _, fun ρ D a w hs _ next Q hn => ?_⟩
  obtain ⟨e1, e2⟩ := hv D N ρ a w hs.env hs.heap
  unfold Oper.wp
  rw [e1]
  exact hn ρ _ w (.same ⟨hp ρ _ a hs.env e2, hs.heap⟩) .same

theorem grow_one {n : Nat} {l : List (Nat × SObj)} {b : Nat} {ob : SObj} (h : b = n ∨ ∃ o, (Heap.mk n l).get b = some o) : Grow ⟨n, l⟩ ⟨bif Nat.beq b n then n + 1 else n, (b, ob) :: l⟩ := by
  refine ⟨by cases Nat.beq b n <;> simp, [(b, ob)], rfl, fun x hx => ?_⟩
  simp only [List.mem_singleton] at hx
  subst hx
  rcases h with rfl | h
  · exact .inr (by simp)
  · exact .inl h

theorem write_op {te : TE} (hte : TEok P te) {N : Nat} {o : Oper} {env : Env} {σ : Heap} {k : Env → Heap → R α} {r : α}
    (h : (wval te o.op (getE env) σ.get σ.next fun v b ob => putK N o.dst v env fun env => k env ⟨bif Nat.beq b σ.next then σ.next + 1 else σ.next, (b, ob) :: σ.blocks⟩) = some r) :
    ∃ env' σ', k env' σ' = some r ∧ Grow σ σ' ∧ OpTo P I N o env σ env' σ' := by
  obtain ⟨v, b, ob, h1, hb, hv⟩ := wval_spec (I := I) hte h
  obtain ⟨env', h2, hp⟩ := putK_spec (I := I) h1
  refine ⟨env', _, h2, grow_one hb, fun ρ D a w hs hfr next Q hn => ?_⟩
  obtain ⟨σn, σl⟩ := σ
  simp only at *
  have fin : ∀ m ρ' w' nx, (execOp a.eval o).run P w = .ok nx w' → (nx = .value (val ρ' v) ∨ (nx = .skip ∧ v = .tuple [])) →
      HRel I ρ' (plus D σn m) (putH (Heap.mk σn σl).get b ob) w' → Ext ρ D (Heap.mk σn σl).get w ρ' (plus D σn m) (putH (Heap.mk σn σl).get b ob) w' → Wf I (plus D σn m) v →
      (∀ ρ' a' w', St I N ρ' (plus D σn m) env' ⟨m, (b, ob) :: σl⟩ a' w' → ExtS ρ D ⟨σn, σl⟩ w ρ' ⟨m, (b, ob) :: σl⟩ w' → next a' w') → o.wp P a w next Q := by
    intro m ρ' w' nx e1 e2 e3 e4 e5 hn
    have henv : EnvOk I N ρ' (plus D σn m) (getE env') (a.put o.dst (val ρ' v)) := hp ρ' _ a (hs.env.ext e4.le e4.agree) e5
    have hst : St I N ρ' (plus D σn m) env' ⟨m, (b, ob) :: σl⟩ (a.put o.dst (val ρ' v)) w' := ⟨henv, by rw [getL_cons]; exact e3⟩
    have hext : ExtS ρ D ⟨σn, σl⟩ w ρ' ⟨m, (b, ob) :: σl⟩ w' := by unfold ExtS; rw [getL_cons]; exact e4
    unfold Oper.wp
    rw [e1]
    rcases e2 with rfl | ⟨rfl, rfl⟩
    · exact hn _ _ _ hst hext
    · exact hn _ _ _ hst hext
  cases hbn : Nat.beq b σn
  · rw [hbn] at hn
    have hbne : b ≠ σn := fun e => by subst e; rw [Nat.beq_refl] at hbn; cases hbn
    obtain ⟨ρ', w', nx, e1, e2, e3, e4, e5⟩ := hv N ρ D (plus D σn σn) a w hs.env hs.heap (fun e => absurd e hbne) (fun _ h => .inl h) (fun e => absurd e hbne)
    exact fin _ ρ' w' nx e1 e2 e3 e4 e5 hn
  · rw [hbn] at hn hfr
    obtain ⟨ρ', w', nx, e1, e2, e3, e4, e5⟩ := hv N ρ D (plus D σn (σn + 1)) a w hs.env hs.heap (fun _ => hfr σn (Nat.le_refl _) (by simp)) (fun c hc => .inl hc) (fun _ => .inr (by omega))
    exact fin _ ρ' w' nx e1 e2 e3 e4 e5 hn

theorem getL_puts (l m : List (Nat × SObj)) : getL (l ++ m) = putsH (getL m) l := by
  induction l with
  | nil => rfl
  | cons x l ih => funext c; obtain ⟨b, o⟩ := x; simp only [List.cons_append, getL, ih, putsH, putH]

theorem append_op {te : TE} (hte : TEok P te) {N : Nat} {o : Oper} {c : Call} (ho : o.op = .call c) (hc : c.callee = .builtin .append) {env : Env} {σ : Heap} {k : Env → Heap → R α} {r : α}
    (h : (wapp te (getE env) σ.get σ.next c.args.toList c.argTypes.toList (fun v => putK N o.dst v env fun env => k env σ) (fun v wr => putK N o.dst v env fun env => k env ⟨σ.next + 1, wr ++ σ.blocks⟩)) = some r) :
    ∃ env' σ', k env' σ' = some r ∧ Grow σ σ' ∧ OpTo P I N o env σ env' σ' := by
  rcases wapp_spec (I := I) hte ho hc h with ⟨v, h1, hv⟩ | ⟨v, wr, h1, hids, hv⟩
  · obtain ⟨env', h2, hp⟩ := putK_spec (I := I) h1
    refine ⟨env', σ, h2, .refl _, fun ρ D a w hs _ next Q hn => ?_⟩
    obtain ⟨e1, e2⟩ := hv D N ρ a w hs.env hs.heap
    unfold Oper.wp
    rw [e1]
    exact hn ρ _ w (.same ⟨hp ρ _ a hs.env e2, hs.heap⟩) .same
  · obtain ⟨env', h2, hp⟩ := putK_spec (I := I) h1
    refine ⟨env', _, h2, ⟨Nat.le_succ _, wr, rfl, fun x hx => ?_⟩, fun ρ D a w hs hfr next Q hn => ?_⟩
    · rcases hids x hx with e | e
      · rw [e]; exact .inr ⟨Nat.le_refl _, Nat.lt_succ_self _⟩
      · exact .inl e
    · obtain ⟨ρ', w', e1, e3, e4, e5⟩ := hv N ρ D (plus D σ.next (σ.next + 1)) a w hs.env hs.heap (hfr σ.next (Nat.le_refl _) (by simp)) (fun _ h => .inl h) (.inr (by omega))
      have hget : (Heap.mk (σ.next + 1) (wr ++ σ.blocks)).get = putsH σ.get wr := getL_puts _ _
      unfold Oper.wp
      rw [e1]
      refine hn ρ' _ w' ⟨hp ρ' _ a (hs.env.ext e4.le e4.agree) e5, by rw [hget]; exact e3⟩ ?_
      unfold ExtS
      rw [hget]; exact e4

theorem evs_args {ρ : Nat → Pl} {a : Act} {args : Array Operand} {vs : List SV} (h : args.toList.map a.eval = vs.map (val ρ)) : (args.map a.eval) = (vs.map (val ρ)).toArray := by
  apply Array.toList_inj.1; simpa using h

theorem sop_spec {te : TE} (hte : TEok P te) {O : ORC α} (hO : OOk P I O) {N : Nat} {o : Oper} {env : Env} {σ : Heap} {k : Env → Heap → R α} {r : α} (h : sop te O N o env σ k = some r) :
    ∃ env' σ', k env' σ' = some r ∧ Grow σ σ' ∧ OpTo P I N o env σ env' σ' := by
  unfold sop at h
  simp only [nextK_eq] at h
  split at h
  · rename_i c hop
    split at h
    · rename_i f hcal
      obtain ⟨fv, h1, hf⟩ := ev_spec h
      split at h1 <;> try (simp at h1; done)
      rename_i fid first cap
      obtain ⟨args, h2, ha⟩ := evs_spec h1
      obtain ⟨orc, h3, ho⟩ := olook_spec h2 hO
      have hrun : ∀ ρ D a w, St I N ρ D env σ a w → Enters P fid → (execOp a.eval o).run P w = .ok (.enter fid ((first ++ args ++ cap).map (val ρ)).toArray) w := by
        intro ρ D a w hs ⟨fn, hfn, hname, hbody⟩
        have e1 := (hf I N ρ _ a hs.env).1
        have e2 := evs_args (ha I N ρ _ a hs.env).1
        have e3 : a.eval f = .func (.func fid) (first.map (val ρ)).toArray (cap.map (val ρ)).toArray := by
          rw [e1]; simp [val, pack, SV.isAgg, cells, vals_eq]
        simp only [execOp, hop, resolve, hcal, Sem.run_bind, e3, e2, Deferred.ofValue, Sem.run_pure, Result.andThen_ok, invoke, callFunc, run_program, hfn, hname, hbody, Bool.false_eq_true, if_false]
        simp
      have hwf : ∀ ρ D a w, St I N ρ D env σ a w → ∀ x ∈ first ++ args ++ cap, Wf I D x := by
        intro ρ D a w hs x hx
        have e1 := (hf I N ρ _ a hs.env).2
        have e2 := (ha I N ρ _ a hs.env).2
        simp only [Wf, wfs_iff] at e1
        rcases List.mem_append.1 hx with hx | hx
        · rcases List.mem_append.1 hx with hx | hx
          · exact e1.1 x hx
          · exact e2 x hx
        · exact e1.2 x hx
      cases orc with
      | pure F =>
        simp only at h3
        obtain ⟨hent, hF⟩ := ho
        obtain ⟨v, h4, hp⟩ := hF _ _ _ h3
        obtain ⟨env', h5, hput⟩ := putK_spec (I := I) h4
        refine ⟨env', σ, h5, .refl _, fun ρ D a w hs _ next Q hn => ?_⟩
        have hc := hp D (hwf ρ D a w hs)
        unfold Oper.wp
        rw [hrun ρ D a w hs hent]
        simp only [Oper.upon]
        refine (hc ρ _ w hs.heap).mono ?_
        rintro e w' ⟨rfl, hv, hx, hh⟩
        exact hn ρ _ w' (.same ⟨hput ρ _ a hs.env hv, hh⟩) (by unfold ExtS; rw [plus_same]; exact hx)
      | full F =>
        simp only at h3
        obtain ⟨hent, hF⟩ := ho
        obtain ⟨v, σ', h4, hg, hp⟩ := hF _ _ _ _ h3
        obtain ⟨env', h5, hput⟩ := putK_spec (I := I) h4
        refine ⟨env', σ', h5, hg, fun ρ D a w hs hfr next Q hn => ?_⟩
        unfold Oper.wp
        rw [hrun ρ D a w hs hent]
        simp only [Oper.upon]
        refine (hp ρ D w hs.heap hfr (hwf ρ D a w hs)).mono ?_
        rintro e w' ⟨ρ', rfl, hx, hh, hv⟩
        exact hn ρ' _ w' ⟨hput ρ' _ a (hs.env.ext hx.le hx.agree) hv, hh⟩ hx
    · exact write_op hte h
    · rename_i hcal; exact append_op hte hop hcal h
    · exact pure_op hte h
  all_goals first
    | exact write_op hte h
    | exact pure_op hte h

/-! ### Regions, in the order of their list -/
def dstOf : List Oper → Nat → Option Nat
  | [], _ => none
  | o :: _, 0 => o.dst
  | _ :: r, j + 1 => dstOf r j
theorem dstOf_spec : ∀ {l : List Oper} {j : Nat}, dstOf l j = (l[j]?).bind (·.dst)
  | [], _ => by simp [dstOf]
  | o :: _, 0 => by simp [dstOf]
  | _ :: r, j + 1 => by simp [dstOf, dstOf_spec (l := r) (j := j)]

def skipOp (N : Nat) (o : Oper) (env : Env) (σ : Heap) (k : Env → Heap → R α) : R α := putK N o.dst (.tuple []) env fun env => k env σ

def sops (te : TE) (O : ORC α) (N : Nat) (all : List Oper) : List Oper → Env → Heap → (Env → Heap → R α) → R α
  | [], env, σ, k => k env σ
  | o :: rest, env, σ, k =>
    match o.guard with
    | none => sop te O N o env σ fun env σ => sops te O N all rest env σ k
    | some (j, want) => match dstOf all j with
      | none => none
      | some d => match getE env d with
        | some (.bool g) =>
          cond g (cond want (sop te O N o ((d, .bool true) :: env) σ fun env σ => sops te O N all rest env σ k) (skipOp N o ((d, .bool true) :: env) σ fun env σ => sops te O N all rest env σ k))
                 (cond want (skipOp N o ((d, .bool false) :: env) σ fun env σ => sops te O N all rest env σ k) (sop te O N o ((d, .bool false) :: env) σ fun env σ => sops te O N all rest env σ k))
        | some (.tuple _) => skipOp N o env σ fun env σ => sops te O N all rest env σ k
        | _ => none

def ListTo (P : Program) (I : Imm) (N : Nat) (all : List Oper) (l : List Oper) (env : Env) (σ : Heap) (env' : Env) (σ' : Heap) : Prop :=
  ∀ ρ D a w, St I N ρ D env σ a w → free D σ.next σ'.next → ∀ (Q : Exit → Act → World → Prop),
    (∀ ρ' a' w', St I N ρ' (plus D σ.next σ'.next) env' σ' a' w' → ExtS ρ D σ w ρ' σ' w' → Q .normal a' w') → wpList P all.toArray Q l a w

theorem yielded_of {all : List Oper} {j d : Nat} (h : dstOf all j = some d) {N : Nat} {ρ : Nat → Pl} {D : Nat → Prop} {env : Env} {a : Act} (he : EnvOk I N ρ D (getE env) a) {g : Bool} (hg : getE env d = some (.bool g)) :
    yielded all.toArray a.tmps j = some g := by
  rw [dstOf_spec] at h
  have e := (he.env _ _ hg).1
  simp only [yielded, List.getElem?_toArray, h, Option.bind_some, e, val_bool]

theorem yielded_none {all : List Oper} {j d : Nat} (h : dstOf all j = some d) {N : Nat} {ρ : Nat → Pl} {D : Nat → Prop} {env : Env} {a : Act} (he : EnvOk I N ρ D (getE env) a) {l : List SV} (hg : getE env d = some (.tuple l)) :
    yielded all.toArray a.tmps j = none := by
  rw [dstOf_spec] at h
  have e := (he.env _ _ hg).1
  simp only [yielded, List.getElem?_toArray, h, Option.bind_some, e, val]

theorem skip_spec {N : Nat} {o : Oper} {env : Env} {σ : Heap} {k : Env → Heap → R α} {r : α} (h : skipOp N o env σ k = some r) :
    ∃ env', k env' σ = some r ∧ ∀ ρ D a w, St I N ρ D env σ a w → St I N ρ D env' σ (a.put o.dst undef) w := by
  obtain ⟨env', h2, hp⟩ := putK_spec (I := I) h
  refine ⟨env', h2, fun ρ D a w hs => ⟨?_, hs.heap⟩⟩
  exact hp ρ _ a hs.env (by simp [Wf, Wfs])

theorem St.again {N : Nat} {ρ : Nat → Pl} {D : Nat → Prop} {env : Env} {σ : Heap} {a : Act} {w : World} (h : St I N ρ D env σ a w) {d : Nat} {b c : Bool} (hd : getE env d = some (.bool b)) (hc : b = c) : St I N ρ D ((d, .bool c) :: env) σ a w :=
  ⟨by rw [getE_cons]; exact h.env.again hd (by rw [hc]) (by simp [Wf]), h.heap⟩

theorem sops_spec {te : TE} (hte : TEok P te) {O : ORC α} (hO : OOk P I O) {N : Nat} {all : List Oper} : ∀ {l : List Oper} {env : Env} {σ : Heap} {k : Env → Heap → R α} {r : α}, sops te O N all l env σ k = some r →
    ∃ env' σ', k env' σ' = some r ∧ Grow σ σ' ∧ ListTo P I N all l env σ env' σ'
  | [], env, σ, k, r, h => ⟨env, σ, by simpa [sops] using h, .refl _, fun ρ D a w hs _ Q hn => by simpa [wpList] using hn ρ a w (.same hs) .same⟩
  | o :: rest, env, σ, k, r, h => by
    -- the operation is carried out
    have run : ∀ env1, (sop te O N o env1 σ fun env σ => sops te O N all rest env σ k) = some r →
        ∃ env' σ', k env' σ' = some r ∧ Grow σ σ' ∧ ∀ ρ D a w, St I N ρ D env1 σ a w → free D σ.next σ'.next → Region.wanted o (yielded all.toArray a.tmps) = true → ∀ (Q : Exit → Act → World → Prop),
          (∀ ρ' a' w', St I N ρ' (plus D σ.next σ'.next) env' σ' a' w' → ExtS ρ D σ w ρ' σ' w' → Q .normal a' w') → wpList P all.toArray Q (o :: rest) a w := by
      intro env1 h1
      obtain ⟨env2, σ2, h2, g2, hop⟩ := sop_spec hte hO h1
      obtain ⟨env3, σ3, h3, g3, hl⟩ := sops_spec hte hO h2
      refine ⟨env3, σ3, h3, g2.trans g3, fun ρ D a w hs hfr hw Q hn => ?_⟩
      unfold wpList
      rw [if_pos hw]
      refine .inl (hop ρ D a w hs (hfr.left g3.le) _ Q fun ρ' a' w' hs' hx => hl ρ' _ a' w' hs' (hfr.right g2.le) Q fun ρ2 a2 w2 hs2 hx2 => hn ρ2 a2 w2 ?_ (hx.trans hx2 g2.le g3.le))
      rwa [plus_plus g2.le g3.le] at hs2
    have skip : ∀ env1, (skipOp N o env1 σ fun env σ => sops te O N all rest env σ k) = some r →
        ∃ env' σ', k env' σ' = some r ∧ Grow σ σ' ∧ ∀ ρ D a w, St I N ρ D env1 σ a w → free D σ.next σ'.next → Region.wanted o (yielded all.toArray a.tmps) = false → ∀ (Q : Exit → Act → World → Prop),
          (∀ ρ' a' w', St I N ρ' (plus D σ.next σ'.next) env' σ' a' w' → ExtS ρ D σ w ρ' σ' w' → Q .normal a' w') → wpList P all.toArray Q (o :: rest) a w := by
      intro env1 h1
      obtain ⟨env2, h2, hop⟩ := skip_spec (I := I) h1
      obtain ⟨env3, σ3, h3, g3, hl⟩ := sops_spec hte hO h2
      refine ⟨env3, σ3, h3, g3, fun ρ D a w hs hfr hw Q hn => ?_⟩
      unfold wpList
      rw [if_neg (by rw [hw]; simp)]
      exact hl ρ D _ w (hop ρ D a w hs) hfr Q hn
    simp only [sops] at h
    split at h
    · rename_i hg
      obtain ⟨env', σ', h1, g1, h2⟩ := run env h
      exact ⟨env', σ', h1, g1, fun ρ D a w hs hfr Q hn => h2 ρ D a w hs hfr (by simp [Region.wanted, hg]) Q hn⟩
    · rename_i j want hg
      split at h <;> try (simp at h; done)
      rename_i d hd
      split at h <;> try (simp at h; done)
      case h_2 l hgd =>
        obtain ⟨env', σ', h1, g1, h2⟩ := skip _ h
        exact ⟨env', σ', h1, g1, fun ρ D a w hs hfr Q hn => h2 ρ D a w hs hfr (by simp [Region.wanted, hg, yielded_none hd hs.env hgd]) Q hn⟩
      rename_i g hgd
      cases g <;> cases want <;> simp only [cond_true, cond_false] at h
      · obtain ⟨env', σ', h1, g1, h2⟩ := run _ h
        exact ⟨env', σ', h1, g1, fun ρ D a w hs hfr Q hn => h2 ρ D a w (hs.again hgd rfl) hfr (by simp [Region.wanted, hg, yielded_of hd hs.env hgd]) Q hn⟩
      · obtain ⟨env', σ', h1, g1, h2⟩ := skip _ h
        exact ⟨env', σ', h1, g1, fun ρ D a w hs hfr Q hn => h2 ρ D a w (hs.again hgd rfl) hfr (by simp [Region.wanted, hg, yielded_of hd hs.env hgd]) Q hn⟩
      · obtain ⟨env', σ', h1, g1, h2⟩ := skip _ h
        exact ⟨env', σ', h1, g1, fun ρ D a w hs hfr Q hn => h2 ρ D a w (hs.again hgd rfl) hfr (by simp [Region.wanted, hg, yielded_of hd hs.env hgd]) Q hn⟩
      · obtain ⟨env', σ', h1, g1, h2⟩ := run _ h
        exact ⟨env', σ', h1, g1, fun ρ D a w hs hfr Q hn => h2 ρ D a w (hs.again hgd rfl) hfr (by simp [Region.wanted, hg, yielded_of hd hs.env hgd]) Q hn⟩
end
end Go.Sh
