/-
  Functions: a body evaluated on shadow values gives the function's contract.
-/
import Derived.Test.YtigomjcmpafeeaaSk16
set_option linter.unusedSimpArgs false
set_option linter.unusedVariables false
namespace Go.Sh
open Go

section
variable {α : Type} {P : Program} {I : Imm}

def resK {β : Type} (te : TE) : List ResultVar → Env → Heap → (List SV → R β) → R β
  | [], _, _, k => k []
  | .tmp t :: l, env, σ, k => match getE env t with
    | some v => resK te l env σ fun vs => k (v :: vs)
    | none => none
  | .cell p t :: l, env, σ, k => tlook te t fun s => match getE env p with
    | some (.ptr b q) => match σ.get b with
      | some (.cells _ v) => sub v q fun u => bif okLoad s u then resK te l env σ fun vs => k (u :: vs) else none
      | _ => none
    | _ => none

def resOne (tmps : Array Value) : ResultVar → Sem Value
  | .tmp t => pure (tmps.getD t undef)
  | .cell p t => do loadVar t (← asAddr (tmps.getD p undef))
theorem results_eq (fn : Func) (tmps : Array Value) : results fn tmps = (do
  let vs ← fn.results.mapM (resOne tmps)
  pure (if h : vs.size = 1 then vs[0] else .tuple vs)) := rfl

def resV : List SV → SV
  | [v] => v
  | vs => .tuple vs

def withV {β : Type} (vs : List SV) (k : SV → R β) : R β :=
  match vs with
  | [v] => k v
  | vs => k (.tuple vs)
theorem withV_eq {β : Type} (vs : List SV) (k : SV → R β) : withV vs k = k (resV vs) := by
  match vs with
  | [] => rfl
  | [v] => rfl
  | v :: u :: vs => rfl

theorem resK_spec {β : Type} {te : TE} (hte : TEok P te) {N : Nat} : ∀ {l : List ResultVar} {env : Env} {σ : Heap} {k : List SV → R β} {r : β}, resK te l env σ k = some r →
    ∃ vs, k vs = some r ∧ ∀ ρ D a w, St I N ρ D env σ a w → (∀ v ∈ vs, Wf I D v) ∧
      (l.mapM (resOne a.tmps)).run P w = .ok (vs.map (val ρ)) w
  | [], env, σ, k, r, h => ⟨[], by simpa [resK] using h, fun ρ D a w hs => ⟨by simp, by simp⟩⟩
  | .tmp t :: l, env, σ, k, r, h => by
    simp only [resK] at h
    split at h <;> try (simp at h; done)
    rename_i v hv
    obtain ⟨vs, h1, hall⟩ := resK_spec hte h
    refine ⟨v :: vs, h1, fun ρ D a w hs => ?_⟩
    obtain ⟨h2, h3⟩ := hall ρ D a w hs
    obtain ⟨h4, h5⟩ := hs.env.env _ _ hv
    refine ⟨by simpa using ⟨h5, h2⟩, ?_⟩
    simp only [List.mapM_cons, resOne, Sem.run_bind, h3, Sem.run_pure, Result.andThen_ok]
    simp [h4]
  | .cell p t :: l, env, σ, k, r, h => by
    simp only [resK] at h
    obtain ⟨s, h0, ht⟩ := tlook_spec h hte
    split at h0 <;> try (simp at h0; done)
    rename_i b q hv
    split at h0 <;> try (simp at h0; done)
    rename_i g v hb
    obtain ⟨u, h1, hl, hw⟩ := sub_spec h0
    obtain ⟨h2, h3⟩ := bif_some h1
    obtain ⟨vs, h4, hall⟩ := resK_spec hte h3
    refine ⟨u :: vs, h4, fun ρ D a w hs => ?_⟩
    obtain ⟨h5, h6⟩ := hall ρ D a w hs
    obtain ⟨h7, h8⟩ := hs.env.env _ _ hv
    refine ⟨by simpa using ⟨hw I _ (hs.heap.wf.dom b _ hb).2, h5⟩, ?_⟩
    have e := run_loadVar_of (P := P) ht (a := ⟨(ρ b).blk, (ρ b).base + offOf q, none⟩) rfl (ρ := ρ) (u := u) (w := w) (fun j hj => hs.heap.cell hb hl hj) h2
    have e2 : a.tmps.getD p undef = .pointer (some ⟨(ρ b).blk, (ρ b).base + offOf q, none⟩) := by simp [h7, val_ptr]
    have e3 : (asAddr (a.tmps.getD p undef)).run P w = .ok ⟨(ρ b).blk, (ρ b).base + offOf q, none⟩ w := by rw [e2]; rfl
    simp only [List.mapM_cons, resOne, Sem.run_bind, e3, Sem.run_pure, Result.andThen_ok, e, h6]
    simp

def argEnv : Nat → List SV → Env
  | _, [] => []
  | i, v :: l => (i, v) :: argEnv (i + 1) l
theorem argEnv_get : ∀ {l : List SV} {i t : Nat} {v : SV}, getE (argEnv i l) t = some v → i ≤ t ∧ l[t - i]? = some v
  | [], i, t, v, h => by simp [argEnv, getE] at h
  | x :: l, i, t, v, h => by
    simp only [argEnv, getE] at h
    cases e : Nat.beq i t
    · rw [e] at h
      obtain ⟨h1, h2⟩ := argEnv_get (l := l) (by simpa using h)
      exact ⟨by omega, by rw [show t - i = (t - (i + 1)) + 1 by omega]; simpa using h2⟩
    · rw [e] at h
      have : i = t := Nat.eq_of_beq_eq_true e
      subst this
      simp at h; subst h
      exact ⟨Nat.le_refl _, by simp⟩

/-- The end of a body: the results are handed back. -/
def endK (te : TE) (rs : List ResultVar) (k : SV → Heap → R α) : KC α
  | .exit _, _, _ => none
  | _, env, σ => resK te rs env σ fun vs => withV vs fun v => k v σ

def bodyL (te : TE) (O : ORC α) (L : LO α) (n : Fuel) (fn : Func) (args : List SV) (σ : Heap) (k : SV → Heap → R α) : R α :=
  match fn.body with
  | some c => seval te O L fn.ntmps n c (argEnv 0 args) σ (endK te fn.results.toList k)
  | none => none
abbrev bodyK (te : TE) (O : ORC α) (n : Fuel) (fn : Func) (args : List SV) (σ : Heap) (k : SV → Heap → R α) : R α := bodyL te O [] n fn args σ k
/-- What of a function's draw regions needs no values. -/
def fnOk (fn : Func) : Bool := match fn.body with | some c => codeOk c | none => true
/-- The laws of a function's loops hold. -/
def FLOk (P : Program) (I : Imm) (L : LO α) (fn : Func) : Prop := ∀ c, fn.body = some c → LOk P I fn.ntmps L c
theorem FLOk.nil {fn : Func} : FLOk (α := α) P I [] fn := fun _ _ => LOk.nil

/-- From what a body's code is said to do to the function's contract. -/
theorem calls_of_code {te : TE} (hte : TEok P te) {f : FuncId} {fn : Func} {c : Code} (hf : P.funcs[f]? = some fn) (hb : fn.body = some c) {args : List SV} {σ : Heap} {x : SX} {env' : Env} {σ' : Heap} {k : SV → Heap → R α} {r : α}
    (hc : CodeTo P I fn.ntmps c (argEnv 0 args) σ x env' σ') (hk : endK te fn.results.toList k x env' σ' = some r) :
    ∃ v, k v σ' = some r ∧ SCalls P I f args σ v σ' := by
  have main : ∀ {vs : List SV}, (∀ ρ D a w, St I fn.ntmps ρ D env' σ' a w → (∀ v ∈ vs, Wf I D v) ∧
      (fn.results.toList.mapM (resOne a.tmps)).run P w = .ok (vs.map (val ρ)) w) → (x = .norm ∨ x = .ret) →
      SCalls P I f args σ (resV vs) σ' := by
    intro vs hall hx ρ D w hh hfr hargs
    refine calls_of_wp hf hb ?_
    have hst : St I fn.ntmps ρ D (argEnv 0 args) σ { tmps := (args.map (val ρ)).toArray ++ Array.replicate (fn.ntmps - (args.map (val ρ)).toArray.size) undef, defers := [] } w := by
      refine ⟨⟨by simp; omega, rfl, fun t v ht => ?_⟩, hh⟩
      obtain ⟨_, h1⟩ := argEnv_get ht
      simp only [Nat.sub_zero] at h1
      have hlt := (List.getElem?_eq_some_iff.1 h1).1
      refine ⟨?_, hargs v (List.mem_of_getElem? h1)⟩
      rw [Array.getElem?_append_left (by simpa using hlt)]
      simp [h1]
    refine hc ρ D _ w hst hfr _ fun ρ' a' w' hs' hx' => ?_
    obtain ⟨hw, hr⟩ := hall ρ' _ a' w' hs'
    have hres : (results fn a'.tmps).run P w' = .ok (val ρ' (resV vs)) w' := by
      rw [results_eq, Sem.run_bind, Array.mapM_eq_mapM_toList]
      simp only [Sem.run_map, hr, Result.andThen_ok, Sem.run_pure]
      match vs, hw with
      | [], _ => simp [resV, val, vals]
      | [v], _ => simp [resV]
      | v :: u :: vs, _ => simp [resV, val, vals_eq]
    have hwv : Wf I (plus D σ.next σ'.next) (resV vs) := by
      match vs, hw with
      | [], _ => simp [resV, Wf, Wfs]
      | [v], hw => exact hw v (by simp)
      | v :: u :: vs, hw => simp only [resV, Wf]; exact wfs_iff.2 hw
    rcases hx with rfl | rfl
    · exact ⟨hs'.env.defers, _, hres, ρ', rfl, hx', hs'.heap, hwv⟩
    · exact ⟨hs'.env.defers, _, hres, ρ', rfl, hx', hs'.heap, hwv⟩
  cases x
  · simp only [endK] at hk
    obtain ⟨vs, h1, hall⟩ := resK_spec (I := I) (N := fn.ntmps) hte hk
    rw [withV_eq] at h1
    exact ⟨_, h1, main hall (.inl rfl)⟩
  · simp [endK] at hk
  · simp only [endK] at hk
    obtain ⟨vs, h1, hall⟩ := resK_spec (I := I) (N := fn.ntmps) hte hk
    rw [withV_eq] at h1
    exact ⟨_, h1, main hall (.inr rfl)⟩

/-- The program's types are as the table says, and its regions draw from all orders. -/
structure Prg (P : Program) (te : TE) : Prop where
  te : TEok P te
  mix : P.follows .mixedOrders = true

theorem body_calls {te : TE} (hp : Prg P te) {O : ORC α} (hO : OOk P I O) {L : LO α} {n : Fuel} {f : FuncId} {fn : Func} (hf : P.funcs[f]? = some fn) (hok : fnOk fn = true) (hL : FLOk P I L fn) {args : List SV} {σ : Heap} {k : SV → Heap → R α} {r : α}
    (h : bodyL te O L n fn args σ k = some r) : ∃ v σ', k v σ' = some r ∧ Grow σ σ' ∧ SCalls P I f args σ v σ' := by
  unfold bodyL at h
  split at h <;> try (simp at h; done)
  rename_i c hc
  obtain ⟨x, env', σ', h1, h2, h3⟩ := seval_spec hp.te hp.mix hO c (by unfold fnOk at hok; rw [hc] at hok; exact hok) (hL c hc) _ _ _ _ h
  obtain ⟨v, h4, h5⟩ := calls_of_code hp.te hf hc h3 h1
  exact ⟨v, σ', h4, h2, h5⟩

/-- A function, by its body. -/
abbrev byBody (te : TE) (O : ORC α) (n : Fuel) (fn : Func) : FF α := fun args σ k => bodyK te O n fn args σ k
theorem enters_of {f : FuncId} {fn : Func} (hf : P.funcs[f]? = some fn) (h1 : (fn.name == "runtime.NumGoroutine") = false) (h2 : fn.body.isNone = false) : Enters P f := ⟨fn, hf, h1, h2⟩
theorem orc_body {te : TE} (hp : Prg P te) {O : ORC α} (hO : OOk P I O) (n : Fuel) {f : FuncId} {fn : Func} (hf : P.funcs[f]? = some fn) (h1 : (fn.name == "runtime.NumGoroutine") = false) (h2 : fn.body.isNone = false) (h3 : fnOk fn = true) :
    OrcOk P I f (.full (byBody te O n fn)) :=
  ⟨enters_of hf h1 h2, fun _ _ _ _ h => body_calls hp hO hf h3 .nil h⟩

/-! ### A function of plain values: its heap is the empty one -/
def emp : Heap := ⟨0, []⟩
abbrev Ans := SV × Heap
def ans : SV → Heap → R Ans := fun v σ => some (v, σ)

/-- The evaluation ends with the value v. -/
def EndsV (x : R Ans) (v : SV) : Prop := ∃ σ, x = some (v, σ)

theorem ends_int {kd : IntKind} {x y : Int} {σ : Heap} (h : x = y) : EndsV (some (.int kd x, σ)) (.int kd y) := by subst h; exact ⟨_, rfl⟩
theorem ends_bool {x y : Bool} {σ : Heap} (h : x = y) : EndsV (some (.bool x, σ)) (.bool y) := by subst h; exact ⟨_, rfl⟩
theorem ends_any {x y : SV} {σ : Heap} (h : x = y) : EndsV (some (x, σ)) y := by subst h; exact ⟨_, rfl⟩
end
end Go.Sh
