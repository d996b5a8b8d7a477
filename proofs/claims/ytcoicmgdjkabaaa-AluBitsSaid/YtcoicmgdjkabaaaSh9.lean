/-
  Calls, regions, code, functions: what seval says is what the model's run comes to.
-/
import Derived.Test.YtcoicmgdjkabaaaSh8
import Derived.LoopN
import Derived.Scope
namespace Go.Sh
open Go

section
variable {α : Type} {P : Program} {I : Imm}

abbrev below (n : Nat) : Nat → Prop := fun b => b < n

theorem getL_cons (l : List (Nat × SObj)) (b : Nat) (o : SObj) (m : Nat) : (Heap.mk m ((b, o) :: l)).get = putH (Heap.mk m l).get b o := by
  funext c; simp [Heap.get, getL, putH]
theorem get_next (l : List (Nat × SObj)) (m n : Nat) : (Heap.mk m l).get = (Heap.mk n l).get := rfl

structure St (I : Imm) (N : Nat) (ρ : Nat → Pl) (env : Env) (σ : Heap) (a : Act) (w : World) : Prop where
  env : EnvOk I N ρ (below σ.next) (getE env) a
  heap : HRel I ρ (below σ.next) σ.get w

abbrev ExtS (ρ : Nat → Pl) (σ : Heap) (w : World) (ρ' : Nat → Pl) (σ' : Heap) (w' : World) : Prop := Ext ρ (below σ.next) σ.get w ρ' (below σ'.next) σ'.get w'

/-- The contract of a function, at given arguments and heap. -/
def SCalls (P : Program) (I : Imm) (f : FuncId) (args : List SV) (σ : Heap) (v : SV) (σ' : Heap) : Prop :=
  ∀ ρ w, HRel I ρ (below σ.next) σ.get w → Calls P f (args.map (val ρ)).toArray w fun e w' =>
    ∃ ρ', e = .returned (val ρ' v) ∧ ExtS ρ σ w ρ' σ' w' ∧ HRel I ρ' (below σ'.next) σ'.get w' ∧ Wf I (below σ'.next) v

/-- .. of one that leaves the heap as it is. -/
def SPure (P : Program) (I : Imm) (f : FuncId) (args : List SV) (D : Nat → Prop) (h : HF) (v : SV) : Prop :=
  Wf I D v ∧ ∀ ρ w, HRel I ρ D h w → Calls P f (args.map (val ρ)).toArray w fun e w' => e = .returned (val ρ v) ∧ Ext ρ D h w ρ D h w' ∧ HRel I ρ D h w'

abbrev FP (α : Type) := List SV → HF → (SV → R α) → R α
abbrev FF (α : Type) := List SV → Heap → (SV → Heap → R α) → R α
inductive Orc (α : Type) where
  | pure (F : FP α)
  | full (F : FF α)

/-- The function is entered (it has a body). -/
def Enters (P : Program) (f : FuncId) : Prop := ∃ fn, P.funcs[f]? = some fn ∧ (fn.name == "runtime.NumGoroutine") = false ∧ fn.body.isNone = false

def OrcOk (P : Program) (I : Imm) (f : FuncId) : Orc α → Prop
  | .pure F => Enters P f ∧ ∀ args h k r, F args h k = some r → ∃ v, k v = some r ∧ ∀ D, HWf I D h → (∀ x ∈ args, Wf I D x) → SPure P I f args D h v
  | .full F => Enters P f ∧ ∀ args σ k r, F args σ k = some r → ∃ v σ', k v σ' = some r ∧ (HWf I (below σ.next) σ.get → (∀ x ∈ args, Wf I (below σ.next) x) → SCalls P I f args σ v σ')

abbrev ORC (α : Type) := List (Nat × Orc α)
def OOk (P : Program) (I : Imm) (O : ORC α) : Prop := ∀ x ∈ O, OrcOk P I x.1 x.2
theorem OOk.nil : OOk (α := α) P I [] := by simp [OOk]
theorem OOk.cons {f : Nat} {o : Orc α} {O : ORC α} (h : OrcOk P I f o) (g : OOk P I O) : OOk P I ((f, o) :: O) := by
  intro x hx; rcases List.mem_cons.1 hx with rfl | hx
  · exact h
  · exact g x hx
def olook {β : Type} : ORC α → Nat → (Orc α → R β) → R β
  | [], _, _ => none
  | (s, v) :: l, t, k => bif Nat.beq s t then k v else olook l t k
theorem olook_spec {β : Type} {k : Orc α → R β} {r : β} : ∀ {O : ORC α} {t : Nat}, olook O t k = some r → OOk P I O → ∃ s, k s = some r ∧ OrcOk P I t s
  | [], t, h, _ => by simp [olook] at h
  | (s, v) :: l, t, h, hok => by
    simp only [olook] at h
    cases hs : Nat.beq s t
    · rw [hs] at h; exact olook_spec (O := l) (by simpa using h) (fun x hx => hok x (List.mem_cons_of_mem _ hx))
    · rw [hs] at h
      have : s = t := Nat.eq_of_beq_eq_true hs
      subst this
      exact ⟨v, by simpa using h, hok (s, v) (by simp)⟩

def putK {β : Type} (N : Nat) (d : Option Nat) (v : SV) (env : Env) (k : Env → R β) : R β :=
  match d with
  | none => k env
  | some d => bif Nat.blt d N then k ((d, v) :: env) else none

/-- One operation. -/
def sop (te : TE) (O : ORC α) (N : Nat) (o : Oper) (env : Env) (σ : Heap) (k : Env → Heap → R α) : R α :=
  match o.op with
  | .call c => match c.callee with
    | .value f => ev (getE env) f fun
      | .fn (.func fid) first cap => evs (getE env) c.args.toList fun args => olook O fid fun
        | .pure F => F (first ++ args ++ cap) σ.get fun v => putK N o.dst v env fun env => k env σ
        | .full F => F (first ++ args ++ cap) σ fun v σ => putK N o.dst v env fun env => k env σ
      | _ => none
    | _ => pval te o.op (getE env) σ.get fun v => putK N o.dst v env fun env => k env σ
  | .alloc _ | .box .. | .store .. | .buildSlice .. | .makeSlice .. =>
    wval te o.op (getE env) σ.get σ.next fun v b ob => putK N o.dst v env fun env => k env ⟨bif Nat.beq b σ.next then σ.next + 1 else σ.next, (b, ob) :: σ.blocks⟩
  | _ => pval te o.op (getE env) σ.get fun v => putK N o.dst v env fun env => k env σ

/-- What the model does in one operation, as worlds go. -/
def OpTo (P : Program) (I : Imm) (N : Nat) (o : Oper) (env : Env) (σ : Heap) (env' : Env) (σ' : Heap) : Prop :=
  ∀ ρ a w, St I N ρ env σ a w → ∀ (next : Act → World → Prop) (Q : Exit → Act → World → Prop),
    (∀ ρ' a' w', St I N ρ' env' σ' a' w' → ExtS ρ σ w ρ' σ' w' → next a' w') → o.wp P a w next Q

theorem putK_spec {β : Type} {N : Nat} {d : Option Nat} {v : SV} {env : Env} {k : Env → R β} {r : β} (h : putK N d v env k = some r) :
    ∃ env', k env' = some r ∧ ∀ ρ D a, EnvOk I N ρ D (getE env) a → Wf I D v → EnvOk I N ρ D (getE env') (a.put d (val ρ v)) := by
  cases d with
  | none => exact ⟨env, by simpa [putK] using h, fun ρ D a he _ => he⟩
  | some d =>
    simp only [putK] at h
    obtain ⟨h1, h2⟩ := bif_some h
    have hd : d < N := by simpa using h1
    refine ⟨_, h2, fun ρ D a he hv => ?_⟩
    rw [getE_cons]
    exact he.put hd hv

theorem pure_op {te : TE} (hte : TEok P te) {N : Nat} {o : Oper} {env : Env} {σ : Heap} {k : Env → Heap → R α} {r : α} (h : (pval te o.op (getE env) σ.get fun v => putK N o.dst v env fun env => k env σ) = some r) :
    ∃ env' σ', k env' σ' = some r ∧ OpTo P I N o env σ env' σ' := by
  obtain ⟨v, h1, hv⟩ := pval_spec (I := I) hte h
  obtain ⟨env', h2, hp⟩ := putK_spec (I := I) h1
  refine ⟨env', σ, h2, fun ρ a w hs next Q hn => ?_⟩
  obtain ⟨e1, e2⟩ := hv N ρ a w hs.env hs.heap
  unfold Oper.wp
  rw [e1]
  exact hn ρ _ w ⟨hp ρ _ a hs.env e2, hs.heap⟩ (Ext.refl _ _ _ _)

theorem write_op {te : TE} (hte : TEok P te) {N : Nat} {o : Oper} {env : Env} {σ : Heap} {k : Env → Heap → R α} {r : α}
    (h : (wval te o.op (getE env) σ.get σ.next fun v b ob => putK N o.dst v env fun env => k env ⟨bif Nat.beq b σ.next then σ.next + 1 else σ.next, (b, ob) :: σ.blocks⟩) = some r) :
    ∃ env' σ', k env' σ' = some r ∧ OpTo P I N o env σ env' σ' := by
  obtain ⟨v, b, ob, h1, hb, hv⟩ := wval_spec (I := I) hte h
  obtain ⟨env', h2, hp⟩ := putK_spec (I := I) h1
  refine ⟨env', _, h2, fun ρ a w hs next Q hn => ?_⟩
  obtain ⟨σn, σl⟩ := σ
  simp only at *
  have fin : ∀ m ρ' w' nx, (execOp a.eval o).run P w = .ok nx w' → (nx = .value (val ρ' v) ∨ (nx = .skip ∧ v = .tuple [])) →
      HRel I ρ' (below m) (putH (Heap.mk σn σl).get b ob) w' → Ext ρ (below σn) (Heap.mk σn σl).get w ρ' (below m) (putH (Heap.mk σn σl).get b ob) w' → Wf I (below m) v →
      (∀ ρ' a' w', St I N ρ' env' ⟨m, (b, ob) :: σl⟩ a' w' → ExtS ρ ⟨σn, σl⟩ w ρ' ⟨m, (b, ob) :: σl⟩ w' → next a' w') → o.wp P a w next Q := by
    intro m ρ' w' nx e1 e2 e3 e4 e5 hn
    have henv : EnvOk I N ρ' (below m) (getE env') (a.put o.dst (val ρ' v)) := hp ρ' _ a (hs.env.ext e4.le e4.agree) e5
    have hst : St I N ρ' env' ⟨m, (b, ob) :: σl⟩ (a.put o.dst (val ρ' v)) w' := ⟨henv, by rw [getL_cons]; exact e3⟩
    have hext : ExtS ρ ⟨σn, σl⟩ w ρ' ⟨m, (b, ob) :: σl⟩ w' := by unfold ExtS; rw [getL_cons]; exact e4
    unfold Oper.wp
    rw [e1]
    rcases e2 with rfl | ⟨rfl, rfl⟩
    · exact hn _ _ _ hst hext
    · exact hn _ _ _ hst hext
  cases hbn : Nat.beq b σn
  · rw [hbn] at hn
    have hbne : b ≠ σn := fun e => by subst e; rw [Nat.beq_refl] at hbn; cases hbn
    obtain ⟨ρ', w', nx, e1, e2, e3, e4, e5⟩ := hv N ρ (below σn) (below σn) a w hs.env hs.heap (fun e => absurd e hbne) (fun _ h => h) (fun e => absurd e hbne)
    exact fin _ ρ' w' nx e1 e2 e3 e4 e5 hn
  · rw [hbn] at hn
    obtain ⟨ρ', w', nx, e1, e2, e3, e4, e5⟩ := hv N ρ (below σn) (below (σn + 1)) a w hs.env hs.heap (fun _ => Nat.lt_irrefl _) (fun c hc => Nat.lt_succ_of_lt hc) (fun _ => Nat.lt_succ_self _)
    exact fin _ ρ' w' nx e1 e2 e3 e4 e5 hn

theorem evs_args {ρ : Nat → Pl} {a : Act} {args : Array Operand} {vs : List SV} (h : args.toList.map a.eval = vs.map (val ρ)) : (args.map a.eval) = (vs.map (val ρ)).toArray := by
  apply Array.toList_inj.1; simpa using h

theorem sop_spec {te : TE} (hte : TEok P te) {O : ORC α} (hO : OOk P I O) {N : Nat} {o : Oper} {env : Env} {σ : Heap} {k : Env → Heap → R α} {r : α} (h : sop te O N o env σ k = some r) :
    ∃ env' σ', k env' σ' = some r ∧ OpTo P I N o env σ env' σ' := by
  unfold sop at h
  split at h
  · rename_i c hop
    split at h
    · rename_i f hcal
      obtain ⟨fv, h1, hf⟩ := ev_spec h
      split at h1 <;> try (simp at h1; done)
      rename_i fid first cap
      obtain ⟨args, h2, ha⟩ := evs_spec h1
      obtain ⟨orc, h3, ho⟩ := olook_spec h2 hO
      have hrun : ∀ ρ a w, St I N ρ env σ a w → Enters P fid → (execOp a.eval o).run P w = .ok (.enter fid ((first ++ args ++ cap).map (val ρ)).toArray) w := by
        intro ρ a w hs ⟨fn, hfn, hname, hbody⟩
        have e1 := (hf I N ρ _ a hs.env).1
        have e2 := evs_args (ha I N ρ _ a hs.env).1
        have e3 : a.eval f = .func (.func fid) (first.map (val ρ)).toArray (cap.map (val ρ)).toArray := by
          rw [e1]; simp [val, pack, SV.isAgg, cells, vals_eq]
        simp only [execOp, hop, resolve, hcal, Sem.run_bind, e3, e2, Deferred.ofValue, Sem.run_pure, Result.andThen_ok, invoke, callFunc, run_program, hfn, hname, hbody, Bool.false_eq_true, if_false]
        simp
      have hwf : ∀ ρ a w, St I N ρ env σ a w → ∀ x ∈ first ++ args ++ cap, Wf I (below σ.next) x := by
        intro ρ a w hs x hx
        have e1 := (hf I N ρ _ a hs.env).2
        have e2 := (ha I N ρ _ a hs.env).2
        simp only [Wf, wfs_iff] at e1
        rcases List.mem_append.1 hx with hx | hx
        · rcases List.mem_append.1 hx with hx | hx
          · exact e1.1 x hx
          · exact e2 x hx
        · exact e1.2 x hx
      cases orc with
      | pure F =>
        simp only at h3
        obtain ⟨hent, hF⟩ := ho
        obtain ⟨v, h4, hp⟩ := hF _ _ _ _ h3
        obtain ⟨env', h5, hput⟩ := putK_spec (I := I) h4
        refine ⟨env', σ, h5, fun ρ a w hs next Q hn => ?_⟩
        obtain ⟨hv, hc⟩ := hp (below σ.next) hs.heap.wf (hwf ρ a w hs)
        unfold Oper.wp
        rw [hrun ρ a w hs hent]
        simp only [Oper.upon]
        refine (hc ρ w hs.heap).mono ?_
        rintro e w' ⟨rfl, hx, hh⟩
        exact hn ρ _ w' ⟨hput ρ _ a hs.env hv, hh⟩ hx
      | full F =>
        simp only at h3
        obtain ⟨hent, hF⟩ := ho
        obtain ⟨v, σ', h4, hp⟩ := hF _ _ _ _ h3
        obtain ⟨env', h5, hput⟩ := putK_spec (I := I) h4
        refine ⟨env', σ', h5, fun ρ a w hs next Q hn => ?_⟩
        have hc := hp hs.heap.wf (hwf ρ a w hs)
        unfold Oper.wp
        rw [hrun ρ a w hs hent]
        simp only [Oper.upon]
        refine (hc ρ w hs.heap).mono ?_
        rintro e w' ⟨ρ', rfl, hx, hh, hv⟩
        exact hn ρ' _ w' ⟨hput ρ' _ a (hs.env.ext hx.le hx.agree) hv, hh⟩ hx
    · exact pure_op hte h
  all_goals first
    | exact write_op hte h
    | exact pure_op hte h

/-! ### Regions, in the order of their list -/
def dstOf : List Oper → Nat → Option Nat
  | [], _ => none
  | o :: _, 0 => o.dst
  | _ :: r, j + 1 => dstOf r j
theorem dstOf_spec : ∀ {l : List Oper} {j : Nat}, dstOf l j = (l[j]?).bind (·.dst)
  | [], _ => by simp [dstOf]
  | o :: _, 0 => by simp [dstOf]
  | _ :: r, j + 1 => by simp [dstOf, dstOf_spec (l := r) (j := j)]

def skipOp (N : Nat) (o : Oper) (env : Env) (σ : Heap) (k : Env → Heap → R α) : R α := putK N o.dst (.tuple []) env fun env => k env σ

def sops (te : TE) (O : ORC α) (N : Nat) (all : List Oper) : List Oper → Env → Heap → (Env → Heap → R α) → R α
  | [], env, σ, k => k env σ
  | o :: rest, env, σ, k =>
    match o.guard with
    | none => sop te O N o env σ fun env σ => sops te O N all rest env σ k
    | some (j, want) => match dstOf all j with
      | none => none
      | some d => match getE env d with
        | some (.bool g) =>
          cond g (cond want (sop te O N o ((d, .bool true) :: env) σ fun env σ => sops te O N all rest env σ k) (skipOp N o ((d, .bool true) :: env) σ fun env σ => sops te O N all rest env σ k))
                 (cond want (skipOp N o ((d, .bool false) :: env) σ fun env σ => sops te O N all rest env σ k) (sop te O N o ((d, .bool false) :: env) σ fun env σ => sops te O N all rest env σ k))
        | some (.tuple _) => skipOp N o env σ fun env σ => sops te O N all rest env σ k
        | _ => none

def ListTo (P : Program) (I : Imm) (N : Nat) (all : List Oper) (l : List Oper) (env : Env) (σ : Heap) (env' : Env) (σ' : Heap) : Prop :=
  ∀ ρ a w, St I N ρ env σ a w → ∀ (Q : Exit → Act → World → Prop),
    (∀ ρ' a' w', St I N ρ' env' σ' a' w' → ExtS ρ σ w ρ' σ' w' → Q .normal a' w') → wpList P all.toArray Q l a w

theorem yielded_of {all : List Oper} {j d : Nat} (h : dstOf all j = some d) {N : Nat} {ρ : Nat → Pl} {D : Nat → Prop} {env : Env} {a : Act} (he : EnvOk I N ρ D (getE env) a) {g : Bool} (hg : getE env d = some (.bool g)) :
    yielded all.toArray a.tmps j = some g := by
  rw [dstOf_spec] at h
  have e := (he.env _ _ hg).1
  simp only [yielded, List.getElem?_toArray, h, Option.bind_some, e, val_bool]

theorem yielded_none {all : List Oper} {j d : Nat} (h : dstOf all j = some d) {N : Nat} {ρ : Nat → Pl} {D : Nat → Prop} {env : Env} {a : Act} (he : EnvOk I N ρ D (getE env) a) {l : List SV} (hg : getE env d = some (.tuple l)) :
    yielded all.toArray a.tmps j = none := by
  rw [dstOf_spec] at h
  have e := (he.env _ _ hg).1
  simp only [yielded, List.getElem?_toArray, h, Option.bind_some, e, val]

theorem skip_spec {N : Nat} {o : Oper} {env : Env} {σ : Heap} {k : Env → Heap → R α} {r : α} (h : skipOp N o env σ k = some r) :
    ∃ env' σ', k env' σ' = some r ∧ ∀ ρ a w, St I N ρ env σ a w → St I N ρ env' σ' (a.put o.dst undef) w ∧ ExtS ρ σ w ρ σ' w := by
  obtain ⟨env', h2, hp⟩ := putK_spec (I := I) h
  refine ⟨env', σ, h2, fun ρ a w hs => ⟨⟨?_, hs.heap⟩, Ext.refl _ _ _ _⟩⟩
  exact hp ρ _ a hs.env (by simp [Wf, Wfs])

theorem St.again {N : Nat} {ρ : Nat → Pl} {env : Env} {σ : Heap} {a : Act} {w : World} (h : St I N ρ env σ a w) {d : Nat} {b c : Bool} (hd : getE env d = some (.bool b)) (hc : b = c) : St I N ρ ((d, .bool c) :: env) σ a w :=
  ⟨by rw [getE_cons]; exact h.env.again hd (by rw [hc]) (by simp [Wf]), h.heap⟩

theorem sops_spec {te : TE} (hte : TEok P te) {O : ORC α} (hO : OOk P I O) {N : Nat} {all : List Oper} : ∀ {l : List Oper} {env : Env} {σ : Heap} {k : Env → Heap → R α} {r : α}, sops te O N all l env σ k = some r →
    ∃ env' σ', k env' σ' = some r ∧ ListTo P I N all l env σ env' σ'
  | [], env, σ, k, r, h => ⟨env, σ, by simpa [sops] using h, fun ρ a w hs Q hn => by simpa [wpList] using hn ρ a w hs (Ext.refl _ _ _ _)⟩
  | o :: rest, env, σ, k, r, h => by
    -- the operation is carried out
    have run : ∀ env1, (sop te O N o env1 σ fun env σ => sops te O N all rest env σ k) = some r →
        ∃ env' σ', k env' σ' = some r ∧ ∀ ρ a w, St I N ρ env1 σ a w → Region.wanted o (yielded all.toArray a.tmps) = true → ∀ (Q : Exit → Act → World → Prop),
          (∀ ρ' a' w', St I N ρ' env' σ' a' w' → ExtS ρ σ w ρ' σ' w' → Q .normal a' w') → wpList P all.toArray Q (o :: rest) a w := by
      intro env1 h1
      obtain ⟨env2, σ2, h2, hop⟩ := sop_spec hte hO h1
      obtain ⟨env3, σ3, h3, hl⟩ := sops_spec hte hO h2
      refine ⟨env3, σ3, h3, fun ρ a w hs hw Q hn => ?_⟩
      unfold wpList
      rw [if_pos hw]
      exact .inl (hop ρ a w hs _ Q fun ρ' a' w' hs' hx => hl ρ' a' w' hs' Q fun ρ2 a2 w2 hs2 hx2 => hn ρ2 a2 w2 hs2 (hx.trans hx2))
    have skip : ∀ env1, (skipOp N o env1 σ fun env σ => sops te O N all rest env σ k) = some r →
        ∃ env' σ', k env' σ' = some r ∧ ∀ ρ a w, St I N ρ env1 σ a w → Region.wanted o (yielded all.toArray a.tmps) = false → ∀ (Q : Exit → Act → World → Prop),
          (∀ ρ' a' w', St I N ρ' env' σ' a' w' → ExtS ρ σ w ρ' σ' w' → Q .normal a' w') → wpList P all.toArray Q (o :: rest) a w := by
      intro env1 h1
      obtain ⟨env2, σ2, h2, hop⟩ := skip_spec (I := I) h1
      obtain ⟨env3, σ3, h3, hl⟩ := sops_spec hte hO h2
      refine ⟨env3, σ3, h3, fun ρ a w hs hw Q hn => ?_⟩
      unfold wpList
      rw [if_neg (by rw [hw]; simp)]
      obtain ⟨hs', hx⟩ := hop ρ a w hs
      exact hl ρ _ w hs' Q fun ρ2 a2 w2 hs2 hx2 => hn ρ2 a2 w2 hs2 (hx.trans hx2)
    simp only [sops] at h
    split at h
    · rename_i hg
      obtain ⟨env', σ', h1, h2⟩ := run env h
      exact ⟨env', σ', h1, fun ρ a w hs Q hn => h2 ρ a w hs (by simp [Region.wanted, hg]) Q hn⟩
    · rename_i j want hg
      split at h <;> try (simp at h; done)
      rename_i d hd
      split at h <;> try (simp at h; done)
      case h_2 l hgd =>
        obtain ⟨env', σ', h1, h2⟩ := skip _ h
        exact ⟨env', σ', h1, fun ρ a w hs Q hn => h2 ρ a w hs (by simp [Region.wanted, hg, yielded_none hd hs.env hgd]) Q hn⟩
      rename_i g hgd
      cases g <;> cases want <;> simp only [cond_true, cond_false] at h
      · obtain ⟨env', σ', h1, h2⟩ := run _ h
        exact ⟨env', σ', h1, fun ρ a w hs Q hn => h2 ρ a w (hs.again hgd rfl) (by simp [Region.wanted, hg, yielded_of hd hs.env hgd]) Q hn⟩
      · obtain ⟨env', σ', h1, h2⟩ := skip _ h
        exact ⟨env', σ', h1, fun ρ a w hs Q hn => h2 ρ a w (hs.again hgd rfl) (by simp [Region.wanted, hg, yielded_of hd hs.env hgd]) Q hn⟩
      · obtain ⟨env', σ', h1, h2⟩ := skip _ h
        exact ⟨env', σ', h1, fun ρ a w hs Q hn => h2 ρ a w (hs.again hgd rfl) (by simp [Region.wanted, hg, yielded_of hd hs.env hgd]) Q hn⟩
      · obtain ⟨env', σ', h1, h2⟩ := run _ h
        exact ⟨env', σ', h1, fun ρ a w hs Q hn => h2 ρ a w (hs.again hgd rfl) (by simp [Region.wanted, hg, yielded_of hd hs.env hgd]) Q hn⟩

/-! ### Code -/
inductive SX where
  | norm
  | exit (id : Nat)
  | ret
def SX.exit' : SX → Exit
  | .norm => .normal
  | .exit id => .exit id
  | .ret => .ret

abbrev KC (α : Type) := SX → Env → Heap → R α

/-- A cut of loops after n rounds. -/
def srounds (body : Env → Heap → KC α → R α) (k : KC α) : Nat → Env → Heap → R α
  | 0, _, _ => none
  | n + 1, env, σ => body env σ fun
    | .norm, env, σ => srounds body k n env σ
    | x, env, σ => k x env σ

def seval (te : TE) (O : ORC α) (N n : Nat) : Code → Env → Heap → KC α → R α
  | .skip, env, σ, k => k .norm env σ
  | .region _ ops false, env, σ, k => sops te O N ops.toList ops.toList env σ (k .norm)
  | .seq a b, env, σ, k => seval te O N n a env σ fun
    | .norm, env, σ => seval te O N n b env σ k
    | x, env, σ => k x env σ
  | .cond (.tmp t) x y, env, σ, k => match getE env t with
    | some (.bool b) => cond b (seval te O N n x ((t, .bool true) :: env) σ k) (seval te O N n y ((t, .bool false) :: env) σ k)
    | _ => none
  | .block id c, env, σ, k => seval te O N n c env σ fun
    | .exit i, env, σ => bif Nat.beq i id then k .norm env σ else k (.exit i) env σ
    | x, env, σ => k x env σ
  | .loop c, env, σ, k => srounds (seval te O N n c) k n env σ
  | .exit id, env, σ, k => k (.exit id) env σ
  | .scope c, env, σ, k => seval te O N n c env σ k
  | .label _, env, σ, k => k .norm env σ
  | .ret, env, σ, k => k .ret env σ
  | _, _, _, _ => none

def CodeTo (P : Program) (I : Imm) (N : Nat) (c : Code) (env : Env) (σ : Heap) (x : SX) (env' : Env) (σ' : Heap) : Prop :=
  ∀ ρ a w, St I N ρ env σ a w → ∀ (Q : Exit → Act → World → Prop),
    (∀ ρ' a' w', St I N ρ' env' σ' a' w' → ExtS ρ σ w ρ' σ' w' → Q x.exit' a' w') → c.wp P Q a w

/-- What a piece of code is said to do is what it does. -/
def SoundC (P : Program) (I : Imm) (N : Nat) (c : Code) (F : Env → Heap → KC α → R α) : Prop :=
  ∀ env σ k r, F env σ k = some r → ∃ x env' σ', k x env' σ' = some r ∧ CodeTo P I N c env σ x env' σ'

theorem sound_seq {N : Nat} {a b : Code} {A B : Env → Heap → KC α → R α} (ha : SoundC P I N a A) (hb : SoundC P I N b B) :
    SoundC P I N (.seq a b) fun env σ k => A env σ fun | .norm, env, σ => B env σ k | x, env, σ => k x env σ := by
  intro env σ k r h
  obtain ⟨x, env1, σ1, h1, c1⟩ := ha _ _ _ _ h
  cases x
  · obtain ⟨x2, env2, σ2, h2, c2⟩ := hb _ _ _ _ h1
    refine ⟨x2, env2, σ2, h2, fun ρ ac w hs Q hn => wp_seq (c1 ρ ac w hs _ fun ρ1 a1 w1 hs1 hx1 => ?_)⟩
    exact c2 ρ1 a1 w1 hs1 Q fun ρ2 a2 w2 hs2 hx2 => hn ρ2 a2 w2 hs2 (hx1.trans hx2)
  · exact ⟨_, env1, σ1, h1, fun ρ ac w hs Q hn => wp_seq (c1 ρ ac w hs _ fun ρ1 a1 w1 hs1 hx1 => hn ρ1 a1 w1 hs1 hx1)⟩
  · exact ⟨_, env1, σ1, h1, fun ρ ac w hs Q hn => wp_seq (c1 ρ ac w hs _ fun ρ1 a1 w1 hs1 hx1 => hn ρ1 a1 w1 hs1 hx1)⟩

theorem sound_cond {N : Nat} {t : Nat} {a b : Code} {A B : Env → Heap → KC α → R α} (ha : SoundC P I N a A) (hb : SoundC P I N b B) :
    SoundC P I N (.cond (.tmp t) a b) fun env σ k => match getE env t with
      | some (.bool b) => cond b (A ((t, .bool true) :: env) σ k) (B ((t, .bool false) :: env) σ k)
      | _ => none := by
  intro env σ k r h
  simp only at h
  split at h <;> try (simp at h; done)
  rename_i c hc
  have ev : ∀ ρ ac w, St I N ρ env σ ac w → ac.eval (.tmp t) = .bool c := fun ρ ac w hs => by
    have := (hs.env.env _ _ hc).1
    simp [Act.eval, this, val_bool]
  cases c <;> simp only [cond_true, cond_false] at h
  · obtain ⟨x, env1, σ1, h1, c1⟩ := hb _ _ _ _ h
    exact ⟨x, env1, σ1, h1, fun ρ ac w hs Q hn => wp_cond_false (ev ρ ac w hs) (c1 ρ ac w (hs.again hc rfl) Q hn)⟩
  · obtain ⟨x, env1, σ1, h1, c1⟩ := ha _ _ _ _ h
    exact ⟨x, env1, σ1, h1, fun ρ ac w hs Q hn => wp_cond_true (ev ρ ac w hs) (c1 ρ ac w (hs.again hc rfl) Q hn)⟩

theorem sound_block {N : Nat} {id : Nat} {a : Code} {A : Env → Heap → KC α → R α} (ha : SoundC P I N a A) :
    SoundC P I N (.block id a) fun env σ k => A env σ fun | .exit i, env, σ => bif Nat.beq i id then k .norm env σ else k (.exit i) env σ | x, env, σ => k x env σ := by
  intro env σ k r h
  obtain ⟨x, env1, σ1, h1, c1⟩ := ha _ _ _ _ h
  cases x
  · exact ⟨_, env1, σ1, h1, fun ρ ac w hs Q hn => wp_block (c1 ρ ac w hs _ fun ρ1 a1 w1 hs1 hx1 => hn ρ1 a1 w1 hs1 hx1)⟩
  · rename_i i
    simp only at h1
    cases hi : Nat.beq i id
    · rw [hi] at h1
      have hne : i ≠ id := fun e => by subst e; rw [Nat.beq_refl] at hi; cases hi
      refine ⟨_, env1, σ1, h1, fun ρ ac w hs Q hn => wp_block (c1 ρ ac w hs _ fun ρ1 a1 w1 hs1 hx1 => ?_)⟩
      have := hn ρ1 a1 w1 hs1 hx1
      simp only [SX.exit', Exit.inBlock, hne, if_false] at this ⊢
      exact this
    · rw [hi] at h1
      have : i = id := Nat.eq_of_beq_eq_true hi
      subst this
      refine ⟨_, env1, σ1, h1, fun ρ ac w hs Q hn => wp_block (c1 ρ ac w hs _ fun ρ1 a1 w1 hs1 hx1 => ?_)⟩
      have := hn ρ1 a1 w1 hs1 hx1
      simp only [SX.exit', Exit.inBlock, if_true] at this ⊢
      exact this
  · exact ⟨_, env1, σ1, h1, fun ρ ac w hs Q hn => wp_block (c1 ρ ac w hs _ fun ρ1 a1 w1 hs1 hx1 => hn ρ1 a1 w1 hs1 hx1)⟩

/-- A loop, round by round. -/
def RoundsTo (P : Program) (I : Imm) (N : Nat) (c : Code) (env : Env) (σ : Heap) (x : SX) (env' : Env) (σ' : Heap) : Prop :=
  ∃ n, ∀ ρ a w, St I N ρ env σ a w → ∀ (Q : Exit → Act → World → Prop),
    (∀ ρ' a' w', St I N ρ' env' σ' a' w' → ExtS ρ σ w ρ' σ' w' → Q x.exit' a' w') → Code.rounds P c Q n a w

theorem RoundsTo.last {N : Nat} {c : Code} {env env' : Env} {σ σ' : Heap} {x : SX} (h : CodeTo P I N c env σ x env' σ') (hx : x ≠ .norm) : RoundsTo P I N c env σ x env' σ' :=
  ⟨1, fun ρ a w hs Q hn => by
    rw [rounds_succ]
    refine h ρ a w hs _ fun ρ1 a1 w1 hs1 hx1 => ?_
    have := hn ρ1 a1 w1 hs1 hx1
    cases x
    · exact absurd rfl hx
    · exact this
    · exact this⟩
theorem RoundsTo.round {N : Nat} {c : Code} {env env1 env' : Env} {σ σ1 σ' : Heap} {x : SX} (h : CodeTo P I N c env σ .norm env1 σ1) (g : RoundsTo P I N c env1 σ1 x env' σ') : RoundsTo P I N c env σ x env' σ' := by
  obtain ⟨n, g⟩ := g
  refine ⟨n + 1, fun ρ a w hs Q hn => ?_⟩
  rw [rounds_succ]
  exact h ρ a w hs _ fun ρ1 a1 w1 hs1 hx1 => g ρ1 a1 w1 hs1 Q fun ρ2 a2 w2 hs2 hx2 => hn ρ2 a2 w2 hs2 (hx1.trans hx2)
theorem RoundsTo.loop {N : Nat} {c : Code} {env env' : Env} {σ σ' : Heap} {x : SX} (h : RoundsTo P I N c env σ x env' σ') : CodeTo P I N (.loop c) env σ x env' σ' := by
  obtain ⟨n, h⟩ := h
  exact fun ρ a w hs Q hn => wp_loop_rounds n (h ρ a w hs Q hn)

theorem srounds_spec {N : Nat} {c : Code} {F : Env → Heap → KC α → R α} (hF : SoundC P I N c F) {k : KC α} {r : α} : ∀ {n : Nat} {env : Env} {σ : Heap}, srounds F k n env σ = some r →
    ∃ x env' σ', k x env' σ' = some r ∧ RoundsTo P I N c env σ x env' σ'
  | 0, _, _, h => by simp [srounds] at h
  | n + 1, env, σ, h => by
    simp only [srounds] at h
    obtain ⟨x, env1, σ1, h1, c1⟩ := hF _ _ _ _ h
    cases x
    · obtain ⟨x2, env2, σ2, h2, c2⟩ := srounds_spec hF (n := n) h1
      exact ⟨x2, env2, σ2, h2, c2.round c1⟩
    · exact ⟨_, env1, σ1, h1, .last c1 (by simp)⟩
    · exact ⟨_, env1, σ1, h1, .last c1 (by simp)⟩

theorem sound_loop {N n : Nat} {a : Code} {A : Env → Heap → KC α → R α} (ha : SoundC P I N a A) : SoundC P I N (.loop a) fun env σ k => srounds A k n env σ := by
  intro env σ k r h
  obtain ⟨x, env1, σ1, h1, c1⟩ := srounds_spec ha h
  exact ⟨x, env1, σ1, h1, c1.loop⟩

theorem seval_spec {te : TE} (hte : TEok P te) {O : ORC α} (hO : OOk P I O) {N n : Nat} : ∀ c : Code, SoundC P I N c (seval te O N n c)
  | .skip => fun env σ k r h => ⟨.norm, env, σ, by simpa [seval] using h, fun ρ a w hs Q hn => wp_skip (hn ρ a w hs (Ext.refl _ _ _ _))⟩
  | .label _ => fun env σ k r h => ⟨.norm, env, σ, by simpa [seval] using h, fun ρ a w hs Q hn => wp_label (hn ρ a w hs (Ext.refl _ _ _ _))⟩
  | .exit id => fun env σ k r h => ⟨.exit id, env, σ, by simpa [seval] using h, fun ρ a w hs Q hn => wp_exit (hn ρ a w hs (Ext.refl _ _ _ _))⟩
  | .ret => fun env σ k r h => ⟨.ret, env, σ, by simpa [seval] using h, fun ρ a w hs Q hn => wp_ret (hn ρ a w hs (Ext.refl _ _ _ _))⟩
  | .region id ops false => fun env σ k r h => by
    simp only [seval] at h
    obtain ⟨env', σ', h1, h2⟩ := sops_spec hte hO h
    exact ⟨.norm, env', σ', h1, fun ρ a w hs Q hn => wp_region_list (by simpa using h2 ρ a w hs Q hn)⟩
  | .region id ops true => fun env σ k r h => by simp [seval] at h
  | .seq a b => fun env σ k r h => sound_seq (seval_spec hte hO a) (seval_spec hte hO b) env σ k r (by simpa only [seval] using h)
  | .cond (.tmp t) a b => fun env σ k r h => sound_cond (seval_spec hte hO a) (seval_spec hte hO b) env σ k r (by simpa only [seval] using h)
  | .cond (.const _) a b => fun env σ k r h => by simp [seval] at h
  | .cond (.global _) a b => fun env σ k r h => by simp [seval] at h
  | .cond (.func _) a b => fun env σ k r h => by simp [seval] at h
  | .block id a => fun env σ k r h => sound_block (seval_spec hte hO a) env σ k r (by simpa only [seval] using h)
  | .loop a => fun env σ k r h => sound_loop (seval_spec hte hO a) env σ k r (by simpa only [seval] using h)
  | .scope a => fun env σ k r h => by
    simp only [seval] at h
    obtain ⟨x, env1, σ1, h1, c1⟩ := seval_spec hte hO a env σ k r h
    exact ⟨x, env1, σ1, h1, fun ρ ac w hs Q hn => wp_scope_straight (c1 ρ ac w hs _ fun ρ1 a1 w1 hs1 hx1 => by have := hn ρ1 a1 w1 hs1 hx1; cases x <;> exact this)⟩
  | .rangeFunc .. => fun env σ k r h => by simp [seval] at h
  | .goto _ => fun env σ k r h => by simp [seval] at h
  | .refuse _ => fun env σ k r h => by simp [seval] at h
end
end Go.Sh
