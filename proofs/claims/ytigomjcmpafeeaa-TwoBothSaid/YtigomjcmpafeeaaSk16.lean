/-
  Code: what seval says is what the model's run comes to.
-/
import Derived.Test.YtigomjcmpafeeaaSk15
set_option linter.unusedSimpArgs false
set_option linter.unusedVariables false
namespace Go.Sh
open Go

section
variable {α : Type} {P : Program} {I : Imm}

inductive SX where
  | norm
  | exit (id : Nat)
  | ret
def SX.exit' : SX → Exit
  | .norm => .normal
  | .exit id => .exit id
  | .ret => .ret

abbrev KC (α : Type) := SX → Env → Heap → R α

/-- The first region of a piece of code: by it a loop is named. -/
def headId : Code → Option Nat
  | .region id _ _ => some id
  | .seq a b => match headId a with
    | some i => some i
    | none => headId b
  | .block _ c => headId c
  | .loop c => headId c
  | .scope c => headId c
  | _ => none
def klook : List (Nat × List Nat) → Nat → Option (List Nat)
  | [], _ => none
  | (i, l) :: r, j => bif Nat.beq i j then some l else klook r j
/-- What is kept of the frame at a loop's head. -/
def keepE (L : List (Nat × List Nat)) (id : Option Nat) (env : Env) : Env :=
  match id with
  | none => env
  | some i => match klook L i with
    | none => env
    | some ts => restr ts env
theorem keepE_get {L : List (Nat × List Nat)} {id : Option Nat} {env : Env} {t : Nat} {v : SV} (h : getE (keepE L id env) t = some v) : getE env t = some v := by
  unfold keepE at h
  split at h
  · exact h
  · split at h
    · exact h
    · exact (restr_get h).2

/-- What is laid anew at a loop's head: the blocks that the loop looks at (they stand first), all else behind them. -/
def keepB (σ : Heap) : List Nat → List (Nat × SObj)
  | [] => []
  | b :: l => match σ.get b with
    | some o => (b, o) :: keepB σ l
    | none => keepB σ l

/-- Rounds of a loop, as many as n. -/
def srounds (body : Env → Heap → KC α → R α) (k : KC α) : Nat → Env → Heap → R α
  | 0, _, _ => none
  | n + 1, env, σ => body env σ fun
    | .norm, env, σ => srounds body k n env σ
    | x, env, σ => k x env σ

/-- A loop's own law: what it comes to. -/
abbrev LF (α : Type) := Env → Heap → KC α → R α
abbrev LO (α : Type) := List (Nat × LF α)
def llook : LO α → Option Nat → Option (LF α)
  | _, none => none
  | [], some _ => none
  | (i, F) :: l, some j => bif Nat.beq i j then some F else llook l (some j)

/-- How far loops are followed, and what is kept at their heads. -/
structure Fuel where
  n : Nat
  keep : List (Nat × List Nat)

def seval (te : TE) (O : ORC α) (L : LO α) (N : Nat) (n : Fuel) : Code → Env → Heap → KC α → R α
  | .skip, env, σ, k => k .norm env σ
  | .region _ ops false, env, σ, k => sops te O N ops.toList ops.toList env σ (k .norm)
  | .region _ ops true, env, σ, k => dregion te O N ops.toList env σ (k .norm)
  | .seq a b, env, σ, k => seval te O L N n a env σ fun
    | .norm, env, σ => seval te O L N n b env σ k
    | x, env, σ => k x env σ
  | .cond (.tmp t) x y, env, σ, k => match getE env t with
    | some (.bool b) => cond b (seval te O L N n x ((t, .bool true) :: env) σ k) (seval te O L N n y ((t, .bool false) :: env) σ k)
    | _ => none
  | .block id c, env, σ, k => seval te O L N n c env σ fun
    | .exit i, env, σ => bif Nat.beq i id then k .norm env σ else k (.exit i) env σ
    | x, env, σ => k x env σ
  | .loop c, env, σ, k => match llook L (headId c) with
    | some F => F env σ k
    | none => srounds (fun env σ k => seval te O L N n c (keepE n.keep (headId c) env) σ k) k n.n env σ
  | .exit id, env, σ, k => k (.exit id) env σ
  | .scope c, env, σ, k => seval te O L N n c env σ k
  | .label _, env, σ, k => k .norm env σ
  | .ret, env, σ, k => k .ret env σ
  | _, _, _, _ => none

/-- The draw regions of a piece of code: what of their check needs no values. -/
def codeOk : Code → Bool
  | .region _ ops true => regOk ops.toList
  | .seq a b => codeOk a && codeOk b
  | .cond _ a b => codeOk a && codeOk b
  | .block _ c => codeOk c
  | .loop c => codeOk c
  | .scope c => codeOk c
  | _ => true
/-- The loops of a piece of code. -/
def loopsOf : Code → List Code
  | .seq a b => loopsOf a ++ loopsOf b
  | .cond _ a b => loopsOf a ++ loopsOf b
  | .block _ c => loopsOf c
  | .loop c => c :: loopsOf c
  | .scope c => loopsOf c
  | _ => []

def CodeTo (P : Program) (I : Imm) (N : Nat) (c : Code) (env : Env) (σ : Heap) (x : SX) (env' : Env) (σ' : Heap) : Prop :=
  ∀ ρ D a w, St I N ρ D env σ a w → free D σ.next σ'.next → ∀ (Q : Exit → Act → World → Prop),
    (∀ ρ' a' w', St I N ρ' (plus D σ.next σ'.next) env' σ' a' w' → ExtS ρ D σ w ρ' σ' w' → Q x.exit' a' w') → c.wp P Q a w

/-- What a piece of code is said to do is what it does. -/
def SoundC (P : Program) (I : Imm) (N : Nat) (c : Code) (F : Env → Heap → KC α → R α) : Prop :=
  ∀ env σ k r, F env σ k = some r → ∃ x env' σ', k x env' σ' = some r ∧ Grow σ σ' ∧ CodeTo P I N c env σ x env' σ'

theorem sound_seq {N : Nat} {a b : Code} {A B : Env → Heap → KC α → R α} (ha : SoundC P I N a A) (hb : SoundC P I N b B) :
    SoundC P I N (.seq a b) fun env σ k => A env σ fun | .norm, env, σ => B env σ k | x, env, σ => k x env σ := by
  intro env σ k r h
  obtain ⟨x, env1, σ1, h1, g1, c1⟩ := ha _ _ _ _ h
  cases x
  · obtain ⟨x2, env2, σ2, h2, g2, c2⟩ := hb _ _ _ _ h1
    refine ⟨x2, env2, σ2, h2, g1.trans g2, fun ρ D ac w hs hfr Q hn => wp_seq (c1 ρ D ac w hs (hfr.left g2.le) _ fun ρ1 a1 w1 hs1 hx1 => ?_)⟩
    exact c2 ρ1 _ a1 w1 hs1 (hfr.right g1.le) Q fun ρ2 a2 w2 hs2 hx2 => hn ρ2 a2 w2 (by rwa [plus_plus g1.le g2.le] at hs2) (hx1.trans hx2 g1.le g2.le)
  · exact ⟨_, env1, σ1, h1, g1, fun ρ D ac w hs hfr Q hn => wp_seq (c1 ρ D ac w hs hfr _ fun ρ1 a1 w1 hs1 hx1 => hn ρ1 a1 w1 hs1 hx1)⟩
  · exact ⟨_, env1, σ1, h1, g1, fun ρ D ac w hs hfr Q hn => wp_seq (c1 ρ D ac w hs hfr _ fun ρ1 a1 w1 hs1 hx1 => hn ρ1 a1 w1 hs1 hx1)⟩

theorem sound_cond {N : Nat} {t : Nat} {a b : Code} {A B : Env → Heap → KC α → R α} (ha : SoundC P I N a A) (hb : SoundC P I N b B) :
    SoundC P I N (.cond (.tmp t) a b) fun env σ k => match getE env t with
      | some (.bool b) => cond b (A ((t, .bool true) :: env) σ k) (B ((t, .bool false) :: env) σ k)
      | _ => none := by
  intro env σ k r h
  simp only at h
  split at h <;> try (simp at h; done)
  rename_i c hc
  have ev : ∀ ρ D ac w, St I N ρ D env σ ac w → ac.eval (.tmp t) = .bool c := fun ρ D ac w hs => by
    have := (hs.env.env _ _ hc).1
    simp [Act.eval, this, val_bool]
  cases c <;> simp only [cond_true, cond_false] at h
  · obtain ⟨x, env1, σ1, h1, g1, c1⟩ := hb _ _ _ _ h
    exact ⟨x, env1, σ1, h1, g1, fun ρ D ac w hs hfr Q hn => wp_cond_false (ev ρ D ac w hs) (c1 ρ D ac w (hs.again hc rfl) hfr Q hn)⟩
  · obtain ⟨x, env1, σ1, h1, g1, c1⟩ := ha _ _ _ _ h
    exact ⟨x, env1, σ1, h1, g1, fun ρ D ac w hs hfr Q hn => wp_cond_true (ev ρ D ac w hs) (c1 ρ D ac w (hs.again hc rfl) hfr Q hn)⟩

theorem sound_block {N : Nat} {id : Nat} {a : Code} {A : Env → Heap → KC α → R α} (ha : SoundC P I N a A) :
    SoundC P I N (.block id a) fun env σ k => A env σ fun | .exit i, env, σ => bif Nat.beq i id then k .norm env σ else k (.exit i) env σ | x, env, σ => k x env σ := by
  intro env σ k r h
  obtain ⟨x, env1, σ1, h1, g1, c1⟩ := ha _ _ _ _ h
  cases x
  · exact ⟨_, env1, σ1, h1, g1, fun ρ D ac w hs hfr Q hn => wp_block (c1 ρ D ac w hs hfr _ fun ρ1 a1 w1 hs1 hx1 => hn ρ1 a1 w1 hs1 hx1)⟩
  · rename_i i
    simp only at h1
    cases hi : Nat.beq i id
    · rw [hi] at h1
      have hne : i ≠ id := fun e => by subst e; rw [Nat.beq_refl] at hi; cases hi
      refine ⟨_, env1, σ1, h1, g1, fun ρ D ac w hs hfr Q hn => wp_block (c1 ρ D ac w hs hfr _ fun ρ1 a1 w1 hs1 hx1 => ?_)⟩
      have := hn ρ1 a1 w1 hs1 hx1
      simp only [SX.exit', Exit.inBlock, hne, if_false] at this ⊢
      exact this
    · rw [hi] at h1
      have : i = id := Nat.eq_of_beq_eq_true hi
      subst this
      refine ⟨_, env1, σ1, h1, g1, fun ρ D ac w hs hfr Q hn => wp_block (c1 ρ D ac w hs hfr _ fun ρ1 a1 w1 hs1 hx1 => ?_)⟩
      have := hn ρ1 a1 w1 hs1 hx1
      simp only [SX.exit', Exit.inBlock, if_true] at this ⊢
      exact this
  · exact ⟨_, env1, σ1, h1, g1, fun ρ D ac w hs hfr Q hn => wp_block (c1 ρ D ac w hs hfr _ fun ρ1 a1 w1 hs1 hx1 => hn ρ1 a1 w1 hs1 hx1)⟩

/-- A loop, round by round. -/
def RoundsTo (P : Program) (I : Imm) (N : Nat) (c : Code) (env : Env) (σ : Heap) (x : SX) (env' : Env) (σ' : Heap) : Prop :=
  ∃ n, ∀ ρ D a w, St I N ρ D env σ a w → free D σ.next σ'.next → ∀ (Q : Exit → Act → World → Prop),
    (∀ ρ' a' w', St I N ρ' (plus D σ.next σ'.next) env' σ' a' w' → ExtS ρ D σ w ρ' σ' w' → Q x.exit' a' w') → Code.rounds P c Q n a w

theorem RoundsTo.last {N : Nat} {c : Code} {env env' : Env} {σ σ' : Heap} {x : SX} (h : CodeTo P I N c env σ x env' σ') (hx : x ≠ .norm) : RoundsTo P I N c env σ x env' σ' :=
  ⟨1, fun ρ D a w hs hfr Q hn => by
    rw [rounds_succ]
    refine h ρ D a w hs hfr _ fun ρ1 a1 w1 hs1 hx1 => ?_
    have := hn ρ1 a1 w1 hs1 hx1
    cases x
    · exact absurd rfl hx
    · exact this
    · exact this⟩
theorem RoundsTo.round {N : Nat} {c : Code} {env env1 env' : Env} {σ σ1 σ' : Heap} {x : SX} (h : CodeTo P I N c env σ .norm env1 σ1) (g : RoundsTo P I N c env1 σ1 x env' σ') (h1 : σ.next ≤ σ1.next) (h2 : σ1.next ≤ σ'.next) : RoundsTo P I N c env σ x env' σ' := by
  obtain ⟨n, g⟩ := g
  refine ⟨n + 1, fun ρ D a w hs hfr Q hn => ?_⟩
  rw [rounds_succ]
  exact h ρ D a w hs (hfr.left h2) _ fun ρ1 a1 w1 hs1 hx1 => g ρ1 _ a1 w1 hs1 (hfr.right h1) Q fun ρ2 a2 w2 hs2 hx2 => hn ρ2 a2 w2 (by rwa [plus_plus h1 h2] at hs2) (hx1.trans hx2 h1 h2)
theorem RoundsTo.loop {N : Nat} {c : Code} {env env' : Env} {σ σ' : Heap} {x : SX} (h : RoundsTo P I N c env σ x env' σ') : CodeTo P I N (.loop c) env σ x env' σ' := by
  obtain ⟨n, h⟩ := h
  exact fun ρ D a w hs hfr Q hn => wp_loop_rounds n (h ρ D a w hs hfr Q hn)

theorem srounds_spec {N : Nat} {c : Code} {F : Env → Heap → KC α → R α} (hF : SoundC P I N c F) {k : KC α} {r : α} : ∀ {n : Nat} {env : Env} {σ : Heap}, srounds F k n env σ = some r →
    ∃ x env' σ', k x env' σ' = some r ∧ Grow σ σ' ∧ RoundsTo P I N c env σ x env' σ'
  | 0, _, _, h => by simp [srounds] at h
  | n + 1, env, σ, h => by
    simp only [srounds] at h
    obtain ⟨x, env1, σ1, h1, g1, c1⟩ := hF _ _ _ _ h
    cases x
    · obtain ⟨x2, env2, σ2, h2, g2, c2⟩ := srounds_spec hF (n := n) h1
      exact ⟨x2, env2, σ2, h2, g1.trans g2, c2.round c1 g1.le g2.le⟩
    · exact ⟨_, env1, σ1, h1, g1, .last c1 (by simp)⟩
    · exact ⟨_, env1, σ1, h1, g1, .last c1 (by simp)⟩

theorem sound_keep {N : Nat} {c : Code} {A : Env → Heap → KC α → R α} (ha : SoundC P I N c A) {f : Env → Env} (hf : ∀ env t v, getE (f env) t = some v → getE env t = some v) : SoundC P I N c fun env σ k => A (f env) σ k := by
  intro env σ k r h
  obtain ⟨x, env1, σ1, h1, g1, c1⟩ := ha _ _ _ _ h
  exact ⟨x, env1, σ1, h1, g1, fun ρ D a w hs hfr Q hn => c1 ρ D a w ⟨hs.env.less (hf env), hs.heap⟩ hfr Q hn⟩

theorem sound_loop {N n : Nat} {a : Code} {A : Env → Heap → KC α → R α} (ha : SoundC P I N a A) : SoundC P I N (.loop a) fun env σ k => srounds A k n env σ := by
  intro env σ k r h
  obtain ⟨x, env1, σ1, h1, g1, c1⟩ := srounds_spec ha h
  exact ⟨x, env1, σ1, h1, g1, c1.loop⟩

/-- The laws of the loops hold. -/
def LOk (P : Program) (I : Imm) (N : Nat) (L : LO α) (c : Code) : Prop := ∀ c' ∈ loopsOf c, ∀ F, llook L (headId c') = some F → SoundC P I N (.loop c') F
theorem LOk.nil {N : Nat} {c : Code} : LOk (α := α) P I N [] c := fun c' _ F h => by cases e : headId c' <;> rw [e] at h <;> simp [llook] at h

theorem seval_spec {te : TE} (hte : TEok P te) (hm : P.follows .mixedOrders = true) {O : ORC α} (hO : OOk P I O) {L : LO α} {N : Nat} {n : Fuel} : ∀ c : Code, codeOk c = true → LOk P I N L c → SoundC P I N c (seval te O L N n c)
  | .skip, _, _ => fun env σ k r h => ⟨.norm, env, σ, by simpa [seval] using h, .refl _, fun ρ D a w hs _ Q hn => wp_skip (hn ρ a w (.same hs) .same)⟩
  | .label _, _, _ => fun env σ k r h => ⟨.norm, env, σ, by simpa [seval] using h, .refl _, fun ρ D a w hs _ Q hn => wp_label (hn ρ a w (.same hs) .same)⟩
  | .exit id, _, _ => fun env σ k r h => ⟨.exit id, env, σ, by simpa [seval] using h, .refl _, fun ρ D a w hs _ Q hn => wp_exit (hn ρ a w (.same hs) .same)⟩
  | .ret, _, _ => fun env σ k r h => ⟨.ret, env, σ, by simpa [seval] using h, .refl _, fun ρ D a w hs _ Q hn => wp_ret (hn ρ a w (.same hs) .same)⟩
  | .region id ops false, _, _ => fun env σ k r h => by
    simp only [seval] at h
    obtain ⟨env', σ', h1, g1, h2⟩ := sops_spec hte hO h
    exact ⟨.norm, env', σ', h1, g1, fun ρ D a w hs hfr Q hn => wp_region_list (by simpa using h2 ρ D a w hs hfr Q hn)⟩
  | .region id ops true, hc, _ => fun env σ k r h => by
    simp only [seval] at h
    obtain ⟨env', σ', h1, g1, h2⟩ := dregion_spec (id := id) hte hm hO (by simpa only [codeOk] using hc) h
    exact ⟨.norm, env', σ', h1, g1, fun ρ D a w hs hfr Q hn => by simpa using h2 ρ D a w hs hfr Q hn⟩
  | .seq a b, hc, hL => fun env σ k r h => by
    simp only [codeOk, Bool.and_eq_true] at hc
    exact sound_seq (seval_spec hte hm hO a hc.1 fun c' h' => hL c' (by simp only [loopsOf, List.mem_append]; exact .inl h')) (seval_spec hte hm hO b hc.2 fun c' h' => hL c' (by simp only [loopsOf, List.mem_append]; exact .inr h')) env σ k r (by simpa only [seval] using h)
  | .cond (.tmp t) a b, hc, hL => fun env σ k r h => by
    simp only [codeOk, Bool.and_eq_true] at hc
    exact sound_cond (seval_spec hte hm hO a hc.1 fun c' h' => hL c' (by simp only [loopsOf, List.mem_append]; exact .inl h')) (seval_spec hte hm hO b hc.2 fun c' h' => hL c' (by simp only [loopsOf, List.mem_append]; exact .inr h')) env σ k r (by simpa only [seval] using h)
  | .cond (.const _) a b, _, _ => fun env σ k r h => by simp [seval] at h
  | .cond (.global _) a b, _, _ => fun env σ k r h => by simp [seval] at h
  | .cond (.func _) a b, _, _ => fun env σ k r h => by simp [seval] at h
  | .block id a, hc, hL => fun env σ k r h => sound_block (seval_spec hte hm hO a (by simpa only [codeOk] using hc) fun c' h' => hL c' (by simpa only [loopsOf] using h')) env σ k r (by simpa only [seval] using h)
  | .loop a, hc, hL => fun env σ k r h => by
    simp only [seval] at h
    split at h
    · rename_i F hF
      exact hL a (by simp [loopsOf]) F hF env σ k r h
    · exact sound_loop (sound_keep (seval_spec hte hm hO a (by simpa only [codeOk] using hc) fun c' h' => hL c' (by simp only [loopsOf]; exact List.mem_cons_of_mem _ h')) fun _ _ _ => keepE_get) env σ k r h
  | .scope a, hc, hL => fun env σ k r h => by
    simp only [seval] at h
    obtain ⟨x, env1, σ1, h1, g1, c1⟩ := seval_spec hte hm hO a (by simpa only [codeOk] using hc) (fun c' h' => hL c' (by simpa only [loopsOf] using h')) env σ k r h
    exact ⟨x, env1, σ1, h1, g1, fun ρ D a w hs hfr Q hn => wp_scope_straight (c1 ρ D a w hs hfr _ fun ρ1 a1 w1 hs1 hx1 => by have := hn ρ1 a1 w1 hs1 hx1; cases x <;> exact this)⟩
  | .rangeFunc .., _, _ => fun env σ k r h => by simp [seval] at h
  | .goto _, _, _ => fun env σ k r h => by simp [seval] at h
  | .refuse _, _, _ => fun env σ k r h => by simp [seval] at h

/-! ### Laws of loops -/
theorem keepB_mem {σ : Heap} : ∀ {l : List Nat} {x : Nat × SObj}, x ∈ keepB σ l → σ.get x.1 = some x.2
  | [], x, h => by simp [keepB] at h
  | b :: l, x, h => by
    simp only [keepB] at h
    split at h
    · rename_i o ho
      rcases List.mem_cons.1 h with rfl | h
      · exact ho
      · exact keepB_mem h
    · exact keepB_mem h
theorem live_live {o o' : SObj} (h : o.live = some o') : o'.live = some o' := by cases o <;> simp [SObj.live] at h <;> subst h <;> rfl
theorem getL_live : ∀ {l : List (Nat × SObj)} {b : Nat} {o : SObj}, getL l b = some o → o.live = some o
  | [], b, o, h => by simp [getL] at h
  | (c, o') :: l, b, o, h => by
    simp only [getL] at h
    cases e : Nat.beq c b <;> rw [e] at h
    · exact getL_live (l := l) h
    · exact live_live h
theorem getL_keep {σ : Heap} {l : List (Nat × SObj)} (h : ∀ x ∈ l, σ.get x.1 = some x.2) : getL (l ++ σ.blocks) = σ.get := by
  induction l with
  | nil => rfl
  | cons x l ih =>
    funext b
    obtain ⟨c, o⟩ := x
    simp only [List.cons_append, getL]
    cases e : Nat.beq c b
    · simp only [cond_false]; rw [ih fun x hx => h x (List.mem_cons_of_mem _ hx)]
    · have := Nat.eq_of_beq_eq_true e
      subst this
      simp only [cond_true]
      have h1 := h (c, o) (by simp)
      rw [h1]; exact getL_live h1
def keepH (bs : List Nat) (σ : Heap) : Heap := ⟨σ.next, keepB σ bs ++ σ.blocks⟩
theorem keepH_get (bs : List Nat) (σ : Heap) : (keepH bs σ).get = σ.get := getL_keep fun _ h => keepB_mem h
theorem keepH_grow (bs : List Nat) (σ : Heap) : Grow σ (keepH bs σ) := ⟨Nat.le_refl _, _, rfl, fun x hx => .inl ⟨x.2, keepB_mem hx⟩⟩

theorem CodeTo.heap {N : Nat} {c : Code} {env env' : Env} {σ σ1 σ' : Heap} {x : SX} (h : CodeTo P I N c env σ1 x env' σ') (hn : σ1.next = σ.next) (hg : σ1.get = σ.get) : CodeTo P I N c env σ x env' σ' := by
  intro ρ D a w hs hfr Q hq
  refine h ρ D a w ⟨hs.env, by rw [hg]; exact hs.heap⟩ (by rw [hn]; exact hfr) Q fun ρ' a' w' hs' hx => hq ρ' a' w' (by rw [hn] at hs'; exact hs') ?_
  unfold ExtS at hx ⊢
  rw [hn, hg] at hx; exact hx

/-- A loop's law: rounds, each begun with a part of the frame (ts) and with the heap laid anew (bs). -/
def lround (ts bs : List Nat) (A : Env → Heap → KC α → R α) : Env → Heap → KC α → R α := fun env σ k => A (restr ts env) (keepH bs σ) k
theorem sound_lround {N : Nat} {c : Code} {ts bs : List Nat} {A : Env → Heap → KC α → R α} (ha : SoundC P I N c A) : SoundC P I N c (lround ts bs A) := by
  intro env σ k r h
  obtain ⟨x, env1, σ1, h1, g1, c1⟩ := ha _ _ _ _ h
  refine ⟨x, env1, σ1, h1, (keepH_grow bs σ).trans g1, ?_⟩
  have c2 : CodeTo P I N c env (keepH bs σ) x env1 σ1 := fun ρ D a w hs hfr Q hn => c1 ρ D a w ⟨hs.env.less fun _ _ ht => (restr_get ht).2, hs.heap⟩ hfr Q hn
  exact c2.heap rfl (keepH_get bs σ)
/-- **THE LAW OF A LOOP, BY ROUNDS.** -/
theorem loop_law {N : Nat} {c : Code} {A : Env → Heap → KC α → R α} (ha : SoundC P I N c A) (ts bs : List Nat) {F : LF α} (hF : ∀ env σ k r, F env σ k = some r → ∃ n, srounds (lround ts bs A) k n env σ = some r) : SoundC P I N (.loop c) F := by
  intro env σ k r h
  obtain ⟨n, h1⟩ := hF env σ k r h
  exact sound_loop (sound_lround ha) env σ k r h1
theorem srounds_succ (body : Env → Heap → KC α → R α) (k : KC α) (n : Nat) (env : Env) (σ : Heap) : srounds body k (n + 1) env σ = body env σ fun
    | .norm, env, σ => srounds body k n env σ
    | x, env, σ => k x env σ := rfl
end
end Go.Sh
