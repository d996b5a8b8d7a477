/-
  Regions that draw their order: an operation on the part of the frame and of the memory that it sees, and its record.
-/
import Derived.Test.YtigomjcmpafeeaaSk10
set_option linter.unusedSimpArgs false
set_option linter.unusedVariables false
namespace Go.Sh
open Go

section
variable {α : Type} {P : Program} {I : Imm}

def inL (t : Nat) : List Nat → Bool
  | [] => false
  | x :: l => Nat.beq x t || inL t l
def restr : List Nat → Env → Env
  | [], _ => []
  | t :: l, env => match getE env t with
    | some v => (t, v) :: restr l env
    | none => restr l env
theorem restr_get {env : Env} {t : Nat} {v : SV} : ∀ {l : List Nat}, getE (restr l env) t = some v → inL t l = true ∧ getE env t = some v
  | [], h => by simp [restr, getE] at h
  | x :: l, h => by
    simp only [restr] at h
    split at h
    · rename_i u hu
      simp only [getE] at h
      cases e : Nat.beq x t
      · rw [e] at h
        obtain ⟨h1, h2⟩ := restr_get (l := l) (by simpa using h)
        exact ⟨by simp [inL, h1], h2⟩
      · rw [e] at h
        have := Nat.eq_of_beq_eq_true e
        subst this
        exact ⟨by simp [inL], by simp at h; rw [hu, h]⟩
    · obtain ⟨h1, h2⟩ := restr_get (l := l) h
      exact ⟨by simp [inL, h1], h2⟩
def restH (l : List Nat) (h : HF) : HF := fun b => bif inL b l then h b else none
theorem restH_get {l : List Nat} {h : HF} {b : Nat} {o : SObj} (hb : restH l h b = some o) : inL b l = true ∧ h b = some o := by
  unfold restH at hb
  cases e : inL b l <;> rw [e] at hb
  · cases hb
  · exact ⟨rfl, hb⟩

/-- The block that a value leads to. -/
def headOf : SV → List Nat
  | .ptr b _ => [b]
  | .slc b .. => [b]
  | .map b => [b]
  | _ => []
def heads (env : Env) : List Operand → List Nat
  | [] => []
  | .tmp t :: l => (match getE env t with | some v => headOf v | none => []) ++ heads env l
  | _ :: l => heads env l

/-- What one operation was seen to do, of the part (g, h) of the frame and the memory. -/
structure Did (P : Program) (I : Imm) (N : Nat) (all : List Oper) (o : Oper) (g : EF) (h : HF) (v : SV) (wr : List (Nat × SObj)) (lo hi : Nat) : Prop where
  le : lo ≤ hi
  ids : ∀ b, hits b wr = true → (∃ x, h b = some x) ∨ (lo ≤ b ∧ b < hi)
  run : ∀ ρ D a w, EnvOk I N ρ D g a → HRel I ρ D h w → free D lo hi →
    (Region.wanted o (yielded all.toArray a.tmps) = true ∧ ∀ (next : Act → World → Prop) Q, (∀ ρ' w', Ext ρ D h w ρ' (plus D lo hi) (putsH h wr) w' → HRel I ρ' (plus D lo hi) (putsH h wr) w' → Wf I (plus D lo hi) v → next (a.put o.dst (val ρ' v)) w') → o.wp P a w next Q) ∨
    (Region.wanted o (yielded all.toArray a.tmps) = false ∧ v = .tuple [] ∧ wr = [] ∧ hi = lo)

def newW (σ' σ : Heap) : List (Nat × SObj) := σ'.blocks.take (σ'.blocks.length - σ.blocks.length)

/-- An operation on restricted env: its value, what it wrote, the ids' end, the blocks that it read. -/
def dop (te : TE) (O : ORC α) (o : Oper) (env : Env) (σ : Heap) (k : SV → List (Nat × SObj) → Nat → Option (List Nat) → R α) : R α :=
  match o.op with
  | .call c => match c.callee with
    | .value f => ev (getE env) f fun
      | .fn (.func fid) first cap => evs (getE env) c.args.toList fun args => olook O fid fun
        | .pure F => F (first ++ args ++ cap) fun v => k v [] σ.next (some [])
        | .full F => F (first ++ args ++ cap) σ fun v σ' => k v (newW σ' σ) σ'.next none
      | _ => none
    | .builtin .copy => wval te o.op (getE env) (restH (heads env o.op.operands.toList) σ.get) σ.next fun v b ob => nextK (Nat.beq b σ.next) σ.next fun n => k v [(b, ob)] n (some (heads env o.op.operands.toList))
    | .builtin .append => wapp te (getE env) (restH (heads env o.op.operands.toList) σ.get) σ.next c.args.toList c.argTypes.toList (fun v => k v [] σ.next (some (heads env o.op.operands.toList))) (fun v wr => k v wr (σ.next + 1) (some (heads env o.op.operands.toList)))
    | _ => pval te o.op (getE env) (restH (heads env o.op.operands.toList) σ.get) fun v => k v [] σ.next (some (heads env o.op.operands.toList))
  | .alloc _ | .box .. | .store .. | .buildSlice .. | .makeSlice .. =>
    wval te o.op (getE env) (restH (heads env o.op.operands.toList) σ.get) σ.next fun v b ob => nextK (Nat.beq b σ.next) σ.next fun n => k v [(b, ob)] n (some (heads env o.op.operands.toList))
  | _ => pval te o.op (getE env) (restH (heads env o.op.operands.toList) σ.get) fun v => k v [] σ.next (some (heads env o.op.operands.toList))

def seen (rd : Option (List Nat)) (h : HF) : HF := match rd with | none => h | some l => restH l h
theorem seen_le {rd : Option (List Nat)} {h : HF} {b : Nat} {o : SObj} (hb : seen rd h b = some o) : h b = some o := by
  cases rd
  · exact hb
  · exact (restH_get hb).2

/-- What a wanted operation does. -/
def DidW (P : Program) (I : Imm) (N : Nat) (o : Oper) (g : EF) (h : HF) (v : SV) (wr : List (Nat × SObj)) (lo hi : Nat) : Prop :=
  ∀ ρ D a w, EnvOk I N ρ D g a → HRel I ρ D h w → free D lo hi → ∀ (next : Act → World → Prop) Q,
    (∀ ρ' w', Ext ρ D h w ρ' (plus D lo hi) (putsH h wr) w' → HRel I ρ' (plus D lo hi) (putsH h wr) w' → Wf I (plus D lo hi) v → next (a.put o.dst (val ρ' v)) w') → o.wp P a w next Q

theorem dop_pure {te : TE} (hte : TEok P te) {N : Nat} {o : Oper} {g : EF} {h : HF} {n : Nat} {k : SV → R α} {r : α} (hk : pval te o.op g h k = some r) :
    ∃ v, k v = some r ∧ DidW P I N o g h v [] n n := by
  obtain ⟨v, h1, hv⟩ := pval_spec (I := I) hte hk
  refine ⟨v, h1, fun ρ D a w he hh _ next Q hn => ?_⟩
  obtain ⟨e1, e2⟩ := hv D N ρ a w he hh
  unfold Oper.wp
  rw [e1]
  simp only [plus_same, putsH] at hn
  exact hn ρ w (Ext.refl _ _ _ _) hh e2

theorem dop_spec {te : TE} (hte : TEok P te) {O : ORC α} (hO : OOk P I O) {N : Nat} {o : Oper} {env : Env} {σ : Heap} {k : SV → List (Nat × SObj) → Nat → Option (List Nat) → R α} {r : α} (h : dop te O o env σ k = some r) :
    ∃ v wr hi rd, k v wr hi rd = some r ∧ σ.next ≤ hi ∧ (∀ b, hits b wr = true → (∃ x, seen rd σ.get b = some x) ∨ (σ.next ≤ b ∧ b < hi)) ∧ DidW P I N o (getE env) (seen rd σ.get) v wr σ.next hi := by
  have pureCase : (pval te o.op (getE env) (restH (heads env o.op.operands.toList) σ.get) fun v => k v [] σ.next (some (heads env o.op.operands.toList))) = some r →
      ∃ v wr hi rd, k v wr hi rd = some r ∧ σ.next ≤ hi ∧ (∀ b, hits b wr = true → (∃ x, seen rd σ.get b = some x) ∨ (σ.next ≤ b ∧ b < hi)) ∧ DidW P I N o (getE env) (seen rd σ.get) v wr σ.next hi := by
    intro h
    obtain ⟨v, h1, h2⟩ := dop_pure (I := I) (N := N) (n := σ.next) hte h
    exact ⟨v, [], _, _, h1, Nat.le_refl _, fun b hb => by simp [hits] at hb, h2⟩
  have writeCase : (wval te o.op (getE env) (restH (heads env o.op.operands.toList) σ.get) σ.next fun v b ob => k v [(b, ob)] (bif Nat.beq b σ.next then σ.next + 1 else σ.next) (some (heads env o.op.operands.toList))) = some r →
      ∃ v wr hi rd, k v wr hi rd = some r ∧ σ.next ≤ hi ∧ (∀ b, hits b wr = true → (∃ x, seen rd σ.get b = some x) ∨ (σ.next ≤ b ∧ b < hi)) ∧ DidW P I N o (getE env) (seen rd σ.get) v wr σ.next hi := by
    intro h
    obtain ⟨v, b, ob, h1, hb, hv⟩ := wval_spec (I := I) hte h
    refine ⟨v, _, _, _, h1, by cases Nat.beq b σ.next <;> simp, fun c hc => ?_, fun ρ D a w he hh hfr next Q hn => ?_⟩
    · simp only [hits, List.any_cons, List.any_nil, Bool.or_false] at hc
      have := Nat.eq_of_beq_eq_true hc
      subst this
      rcases hb with rfl | hb
      · exact .inr (by simp)
      · exact .inl hb
    · have fin : ∀ m, (b = σ.next → ¬ D σ.next) → (b = σ.next → plus D σ.next m σ.next) → (∀ ρ' w', Ext ρ D (seen (some (heads env o.op.operands.toList)) σ.get) w ρ' (plus D σ.next m) (putsH (seen (some (heads env o.op.operands.toList)) σ.get) [(b, ob)]) w' →
          HRel I ρ' (plus D σ.next m) (putsH (seen (some (heads env o.op.operands.toList)) σ.get) [(b, ob)]) w' → Wf I (plus D σ.next m) v → next (a.put o.dst (val ρ' v)) w') → o.wp P a w next Q := by
        intro m h2 h3 hn
        obtain ⟨ρ', w', nx, e1, e2, e3, e4, e5⟩ := hv N ρ D (plus D σ.next m) a w he hh h2 (fun _ h => .inl h) h3
        have := hn ρ' w' e4 e3 e5
        unfold Oper.wp
        rw [e1]
        rcases e2 with rfl | ⟨rfl, rfl⟩
        · exact this
        · exact this
      cases hbn : Nat.beq b σ.next
      · rw [hbn] at hn
        have hbne : b ≠ σ.next := fun e => by subst e; rw [Nat.beq_refl] at hbn; cases hbn
        exact fin _ (fun e => absurd e hbne) (fun e => absurd e hbne) hn
      · rw [hbn] at hn hfr
        exact fin _ (fun _ => hfr _ (Nat.le_refl _) (by simp)) (fun _ => .inr (by simp)) hn
  unfold dop at h
  simp only [nextK_eq] at h
  split at h
  · rename_i c hop
    split at h
    · rename_i f hcal
      obtain ⟨fv, h1, hf⟩ := ev_spec h
      split at h1 <;> try (simp at h1; done)
      rename_i fid first cap
      obtain ⟨args, h2, ha⟩ := evs_spec h1
      obtain ⟨orc, h3, ho⟩ := olook_spec h2 hO
      have hrun : ∀ ρ D a w, EnvOk I N ρ D (getE env) a → Enters P fid → (execOp a.eval o).run P w = .ok (.enter fid ((first ++ args ++ cap).map (val ρ)).toArray) w := by
        intro ρ D a w hs ⟨fn, hfn, hname, hbody⟩
        have e1 := (hf I N ρ _ a hs).1
        have e2 := evs_args (ha I N ρ _ a hs).1
        have e3 : a.eval f = .func (.func fid) (first.map (val ρ)).toArray (cap.map (val ρ)).toArray := by
          rw [e1]; simp [val, pack, SV.isAgg, cells, vals_eq]
        simp only [execOp, hop, resolve, hcal, Sem.run_bind, e3, e2, Deferred.ofValue, Sem.run_pure, Result.andThen_ok, invoke, callFunc, run_program, hfn, hname, hbody, Bool.false_eq_true, if_false]
        simp
      have hwf : ∀ ρ D a, EnvOk I N ρ D (getE env) a → ∀ x ∈ first ++ args ++ cap, Wf I D x := by
        intro ρ D a hs x hx
        have e1 := (hf I N ρ _ a hs).2
        have e2 := (ha I N ρ _ a hs).2
        simp only [Wf, wfs_iff] at e1
        rcases List.mem_append.1 hx with hx | hx
        · rcases List.mem_append.1 hx with hx | hx
          · exact e1.1 x hx
          · exact e2 x hx
        · exact e1.2 x hx
      cases orc with
      | pure F =>
        simp only at h3
        obtain ⟨hent, hF⟩ := ho
        obtain ⟨v, h4, hp⟩ := hF _ _ _ h3
        refine ⟨v, _, _, _, h4, Nat.le_refl _, fun b hb => by simp [hits] at hb, fun ρ D a w he hh _ next Q hn => ?_⟩
        have hc := hp D (hwf ρ D a he)
        unfold Oper.wp
        rw [hrun ρ D a w he hent]
        simp only [Oper.upon]
        refine (hc ρ _ w hh).mono ?_
        rintro e w' ⟨rfl, hv, hx, hh'⟩
        simp only [plus_same, putsH] at hn
        exact hn ρ w' hx hh' hv
      | full F =>
        simp only at h3
        obtain ⟨hent, hF⟩ := ho
        obtain ⟨v, σ', h4, ⟨hg1, l, hg2, hg3⟩, hp⟩ := hF _ _ _ _ h3
        have hl : newW σ' σ = l := by unfold newW; rw [hg2]; simp
        have hputs : σ'.get = putsH σ.get l := by unfold Heap.get; rw [hg2]; exact getL_puts _ _
        rw [hl] at h4
        refine ⟨v, _, _, _, h4, hg1, fun b hb => ?_, fun ρ D a w he hh hfr next Q hn => ?_⟩
        · simp only [hits, List.any_eq_true] at hb
          obtain ⟨x, hx, hb⟩ := hb
          have := Nat.eq_of_beq_eq_true hb
          subst this
          exact hg3 x hx
        · unfold Oper.wp
          rw [hrun ρ D a w he hent]
          simp only [Oper.upon]
          refine (hp ρ D w hh hfr (hwf ρ D a he)).mono ?_
          rintro e w' ⟨ρ', rfl, hx, hh', hv⟩
          rw [hputs] at hh'
          unfold ExtS at hx
          rw [hputs] at hx
          exact hn ρ' w' hx hh' hv
    · exact writeCase h
    · rename_i hcal
      rcases wapp_spec (I := I) hte hop hcal h with ⟨v, h1, hv⟩ | ⟨v, wr, h1, hids, hv⟩
      · refine ⟨v, [], _, _, h1, Nat.le_refl _, fun b hb => by simp [hits] at hb, fun ρ D a w he hh _ next Q hn => ?_⟩
        obtain ⟨e1, e2⟩ := hv D N ρ a w he hh
        unfold Oper.wp
        rw [e1]
        simp only [plus_same, putsH] at hn
        exact hn ρ w (Ext.refl _ _ _ _) hh e2
      · refine ⟨v, wr, _, _, h1, Nat.le_succ _, fun b hb => ?_, fun ρ D a w he hh hfr next Q hn => ?_⟩
        · simp only [hits, List.any_eq_true] at hb
          obtain ⟨x, hx, hb⟩ := hb
          have := Nat.eq_of_beq_eq_true hb
          subst this
          rcases hids x hx with e | e
          · rw [e]; exact .inr ⟨Nat.le_refl _, Nat.lt_succ_self _⟩
          · exact .inl e
        · obtain ⟨ρ', w', e1, e3, e4, e5⟩ := hv N ρ D (plus D σ.next (σ.next + 1)) a w he hh (hfr σ.next (Nat.le_refl _) (by simp)) (fun _ h => .inl h) (.inr (by omega))
          unfold Oper.wp
          rw [e1]
          exact hn ρ' w' e4 e3 e5
    · exact pureCase h
  all_goals first
    | (rename_i hop; exact writeCase (by simpa only [hop] using h))
    | exact pureCase h
end
end Go.Sh
