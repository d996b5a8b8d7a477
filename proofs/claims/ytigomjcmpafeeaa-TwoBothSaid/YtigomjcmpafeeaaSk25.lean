/-
  Laws of loops by an invariant: rounds evaluated one by one, what is told behind the loop chosen.
-/
import Derived.Test.YtigomjcmpafeeaaSk24
set_option linter.unusedSimpArgs false
set_option linter.unusedVariables false
namespace Go.Sh
open Go

abbrev Out := SX × Env × Heap
def outK : KC Out := fun x env σ => some (x, env, σ)

section
variable {α : Type} {P : Program} {I : Imm}

/-- The end of an evaluated piece of code. -/
def Gives (x : R Out) (Q : SX → Env → Heap → Prop) : Prop := ∃ sx env σ, x = some (sx, env, σ) ∧ Q sx env σ
theorem Gives.mono {x : R Out} {Q Q' : SX → Env → Heap → Prop} (h : Gives x Q) (hq : ∀ sx env σ, Q sx env σ → Q' sx env σ) : Gives x Q' := by
  obtain ⟨sx, env, σ, h1, h2⟩ := h
  exact ⟨sx, env, σ, h1, hq _ _ _ h2⟩

/-- Rounds. -/
inductive Loops (B : Env → Heap → KC Out → R Out) : Env → Heap → SX → Env → Heap → Prop where
  | last {env env' : Env} {σ σ' : Heap} {x : SX} : B env σ outK = some (x, env', σ') → x ≠ .norm → Loops B env σ x env' σ'
  | round {env env1 env' : Env} {σ σ1 σ' : Heap} {x : SX} : B env σ outK = some (.norm, env1, σ1) → Loops B env1 σ1 x env' σ' → Loops B env σ x env' σ'

theorem code_of_out {N : Nat} {c : Code} {B : Env → Heap → KC Out → R Out} (hB : SoundC P I N c B) {env env' : Env} {σ σ' : Heap} {x : SX} (h : B env σ outK = some (x, env', σ')) : Grow σ σ' ∧ CodeTo P I N c env σ x env' σ' := by
  obtain ⟨x1, env1, σ1, h1, h2, h3⟩ := hB _ _ _ _ h
  simp only [outK, Option.some.injEq, Prod.mk.injEq] at h1
  obtain ⟨rfl, rfl, rfl⟩ := h1
  exact ⟨h2, h3⟩
theorem Loops.rounds {N : Nat} {c : Code} {B : Env → Heap → KC Out → R Out} (hB : SoundC P I N c B) {env env' : Env} {σ σ' : Heap} {x : SX} (h : Loops B env σ x env' σ') : Grow σ σ' ∧ RoundsTo P I N c env σ x env' σ' := by
  induction h with
  | last h hx =>
    obtain ⟨h1, h2⟩ := code_of_out hB h
    exact ⟨h1, .last h2 hx⟩
  | round h _ ih =>
    obtain ⟨h1, h2⟩ := code_of_out hB h
    exact ⟨h1.trans ih.1, ih.2.round h2 h1.le ih.1.le⟩

/-- Less is told of a frame and a heap. -/
structure Less (env' : Env) (σ σ' : Heap) (env1 : Env) (σ1 : Heap) : Prop where
  env : ∀ t v, getE env' t = some v → getE env1 t = some v
  next : σ'.next = σ1.next
  heap : ∀ b o, σ'.get b = some o → σ1.get b = some o
  grow : Grow σ σ'
theorem CodeTo.less {N : Nat} {c : Code} {env env1 env' : Env} {σ σ1 σ' : Heap} {x : SX} (h : CodeTo P I N c env σ x env1 σ1) (hl : Less env' σ σ' env1 σ1) : CodeTo P I N c env σ x env' σ' := by
  intro ρ D a w hs hfr Q hq
  refine h ρ D a w hs (by rw [← hl.next]; exact hfr) Q fun ρ' a' w' hs' hx => hq ρ' a' w' ⟨by rw [hl.next]; exact hs'.env.less hl.env, by rw [hl.next]; exact hs'.heap.less hl.heap⟩ ?_
  unfold ExtS at hx ⊢
  rw [hl.next]
  exact ⟨hx.le, hx.agree, hx.os, hx.tape, hx.output, hx.size, hx.frame, fun b o hb => hx.img b o (hl.heap b o hb)⟩

/-- **THE LAW OF A LOOP.** -/
theorem loop_of {N : Nat} {c : Code} {A : Env → Heap → KC Out → R Out} (ha : SoundC P I N c A) (ts bs : List Nat) {F : LF α}
    (hF : ∀ env σ k r, F env σ k = some r → ∃ x env1 σ1 env' σ', Loops (lround ts bs A) env σ x env1 σ1 ∧ Less env' σ σ' env1 σ1 ∧ k x env' σ' = some r) : SoundC P I N (.loop c) F := by
  intro env σ k r h
  obtain ⟨x, env1, σ1, env', σ', h1, h2, h3⟩ := hF env σ k r h
  obtain ⟨_, h5⟩ := h1.rounds (sound_lround ha)
  exact ⟨x, env', σ', h3, h2.grow, h5.loop.less h2⟩

/-- A loop that counts: an invariant, the last round. -/
theorem loops_count {B : Env → Heap → KC Out → R Out} {Inv : Nat → Env → Heap → Prop} {Q : SX → Env → Heap → Prop} {n : Nat}
    (hr : ∀ j env σ, j < n → Inv j env σ → Gives (B env σ outK) fun x env' σ' => x = .norm ∧ Inv (j + 1) env' σ') (he : ∀ env σ, Inv n env σ → Gives (B env σ outK) fun x env' σ' => x ≠ .norm ∧ Q x env' σ') :
    ∀ m j env σ, j + m = n → Inv j env σ → ∃ x env1 σ1, Loops B env σ x env1 σ1 ∧ Q x env1 σ1
  | 0, j, env, σ, hj, hi => by
    have : j = n := by omega
    subst this
    obtain ⟨x, env', σ', h1, h2, h3⟩ := he env σ hi
    exact ⟨x, env', σ', .last h1 h2, h3⟩
  | m + 1, j, env, σ, hj, hi => by
    obtain ⟨x, env', σ', h1, rfl, h3⟩ := hr j env σ (by omega) hi
    obtain ⟨x, env1, σ1, h4, h5⟩ := loops_count hr he m (j + 1) env' σ' (by omega) h3
    exact ⟨x, env1, σ1, .round h1 h4, h5⟩

theorem env_less {env1 : Env} : ∀ {l : Env}, AllL (fun x => getE env1 x.1 = some x.2) l → ∀ t v, getE l t = some v → getE env1 t = some v
  | [], _, t, v, h => by simp [getE] at h
  | (c, u) :: l, ha, t, v, h => by
    simp only [getE] at h
    cases e : Nat.beq c t <;> rw [e] at h
    · exact env_less (l := l) ha.2 t v h
    · have := Nat.eq_of_beq_eq_true e
      subst this
      simp only [cond_true, Option.some.injEq] at h
      subst h
      exact ha.1
/-- What is told behind a loop: some temporaries, some blocks; no new block. -/
theorem less_mk {l : Env} {bl : List (Nat × SObj)} {σ : Heap} {env1 : Env} {σ1 : Heap} (he : AllL (fun x => getE env1 x.1 = some x.2) l) (hn : σ1.next = σ.next) (hb : AllL (Told σ1) bl)
    (hk : ∀ b o, inK b bl = false → σ.get b = some o → σ1.get b = some o) (hg : AllL (fun y => ∃ o, σ.get y.1 = some o) bl) : Less l σ ⟨σ.next, bl ++ σ.blocks⟩ env1 σ1 := by
  refine ⟨env_less he, hn.symm, fun b o h => ?_, Nat.le_refl _, bl, rfl, fun y hy => .inl (allL_iff.1 hg y hy)⟩
  cases e : inK b bl
  · have h2 : getL (bl ++ σ.blocks) b = some o := h
    rw [getL_none_of (inK_false e)] at h2
    exact hk b o e h2
  · have h1 := inK_app e h
    exact told_of (allL_iff.1 hb _ (getL_mem h1)) o (getL_live h1)
theorem inK_one {b c : Nat} {o : SObj} (h : inK b [(c, o)] = false) : Nat.beq c b = false := by
  simp only [inK] at h
  cases e : Nat.beq c b
  · rfl
  · rw [e] at h; simp at h

def bodyOf (fn : Func) : Code := match fn.body with | some c => c | none => .skip
/-- A function's loops, by number. -/
def loopNo (fn : Func) (j : Nat) : Code := (loopsOf (bodyOf fn)).getD j .skip

theorem flok_of {L : LO α} {fn : Func} {l : List Code} (hl : loopsOf (bodyOf fn) = l) (h : AllL (fun c' => ∀ F, llook L (headId c') = some F → SoundC P I fn.ntmps (.loop c') F) l) : FLOk P I L fn := by
  intro c hc c' hc' F hF
  have : bodyOf fn = c := by unfold bodyOf; rw [hc]
  rw [← this, hl] at hc'
  exact allL_iff.1 h c' hc' F hF
theorem lk_one {i : Nat} {F G : LF α} {L : LO α} (h : llook ((i, F) :: L) (some i) = some G) : G = F := by
  simp only [llook, Nat.beq_refl, cond_true, Option.some.injEq] at h
  exact h.symm
/-- One loop, one law. -/
theorem flok_one {fn : Func} {i : Nat} {F : LF α} (hl : loopsOf (bodyOf fn) = [loopNo fn 0]) (hi : headId (loopNo fn 0) = some i) (h : SoundC P I fn.ntmps (.loop (loopNo fn 0)) F) : FLOk P I [(i, F)] fn := by
  refine flok_of hl ⟨fun G hG => ?_, trivial⟩
  rw [hi] at hG
  rw [lk_one hG]; exact h
end
end Go.Sh
