/-
  Regions that draw their order: the evaluation in one order, and its proof.
-/
import Derived.Test.YtigomjcmpafeeaaSk14
set_option linter.unusedSimpArgs false
set_option linter.unusedVariables false
namespace Go.Sh
open Go

section
variable {α : Type} {P : Program} {I : Imm}

def opTmps : List Operand → List Nat
  | [] => []
  | .tmp t :: l => t :: opTmps l
  | _ :: l => opTmps l
def tmOf (all : List Oper) (o : Oper) : List Nat :=
  match o.guard with
  | none => opTmps o.op.operands.toList
  | some (j, _) => match dstOf all j with
    | none => opTmps o.op.operands.toList
    | some d => d :: opTmps o.op.operands.toList

/-- Whether a guarded operation is wanted. -/
def dguard (all : List Oper) (o : Oper) (env : Env) (run skip : Env → R α) : R α :=
  match o.guard with
  | none => run env
  | some (j, want) => match dstOf all j with
    | none => none
    | some d => match getE env d with
      | some (.bool g) => cond g (cond want (run ((d, .bool true) :: env)) (skip ((d, .bool true) :: env))) (cond want (skip ((d, .bool false) :: env)) (run ((d, .bool false) :: env)))
      | some (.tuple _) => skip env
      | _ => none

/-- Writers' part of the check. -/
def allB {β : Type} (p : β → Bool) : List β → Bool
  | [] => true
  | x :: l => cond (p x) (allB p l) false
def anyB {β : Type} (p : β → Bool) : List β → Bool
  | [] => false
  | x :: l => cond (p x) true (anyB p l)
theorem allB_eq {β : Type} (p : β → Bool) : ∀ l : List β, allB p l = l.all p
  | [] => rfl
  | x :: l => by simp only [allB, allB_eq p l, List.all_cons]; cases p x <;> rfl
theorem anyB_eq {β : Type} (p : β → Bool) : ∀ l : List β, anyB p l = l.any p
  | [] => rfl
  | x :: l => by simp only [anyB, anyB_eq p l, List.any_cons]; cases p x <;> rfl
def bfO (rd : Option (List Nat)) (b : Nat) : Bool := match rd with | none => true | some l => inL b l
def bfN (rd : Option (List Nat)) (lo hi b : Nat) : Bool := match rd with | none => cond (Nat.ble lo b) (cond (Nat.blt b hi) false true) true | some l => inL b l
def confB (q r : Rec) : Bool :=
  cond (anyB (fun x => bfO r.rd x.1) q.wr) true (cond (anyB (fun x => bfN q.rd q.hi r.hi x.1) r.wr) true (anyB (fun x => anyB (fun y => Nat.beq y.1 x.1) r.wr) q.wr))
theorem confB_eq (q r : Rec) : confB q r = confD q r := by
  have e1 : ∀ x, bfO r.rd x = rdOld r.rd x := fun x => by cases h : r.rd <;> rfl
  have e2 : ∀ x, bfN q.rd q.hi r.hi x = rdNew q.rd q.hi r.hi x := fun x => by
    cases h : q.rd with
    | none => simp only [bfN, rdNew]; cases Nat.ble q.hi x <;> cases Nat.blt x r.hi <;> rfl
    | some l => rfl
  unfold confB confD
  simp only [anyB_eq, e1, e2, hits]
  cases (q.wr.any fun x => rdOld r.rd x.1) <;> cases (r.wr.any fun x => rdNew q.rd q.hi r.hi x.1) <;> rfl
def bit (M : List Nat) (r q : Nat) : Bool := (M.getD r 0).testBit q
/-- The writers' check of one record against the elder ones. (The operations' places stand in a list of their own: so they stay closed words.) -/
def dynOne (M : List Nat) (i : Nat) (r : Rec) : List Nat → List Rec → Bool
  | j :: js, q :: qs => cond (confB q r) (cond (bit M i j) (dynOne M i r js qs) false) (dynOne M i r js qs)
  | _, _ => true
def dynAll (M : List Nat) : List Nat → List Rec → Bool
  | i :: is, r :: rs => cond (dynOne M i r is rs) (dynAll M is rs) false
  | _, _ => true

def dops (te : TE) (O : ORC α) (N : Nat) (all : List Oper) (M : List Nat) : List (Nat × Oper) → List Nat → List Rec → Env → Heap → (Env → Heap → R α) → R α
  | [], is, recs, env, σ, k => bif dynAll M is recs then k env σ else none
  | (i, o) :: rest, is, recs, env, σ, k =>
      dguard all o env
        (fun env => dop te O o (restr (tmOf all o) env) σ fun v wr hi rd => putK N o.dst v env fun env' =>
          dops te O N all M rest (i :: is) (⟨i, o.dst, v, wr, σ.next, hi, rd, tmOf all o⟩ :: recs) env' ⟨hi, wr ++ σ.blocks⟩ k)
        (fun env => putK N o.dst (.tuple []) env fun env' =>
          dops te O N all M rest (i :: is) (⟨i, o.dst, .tuple [], [], σ.next, σ.next, some [], tmOf all o⟩ :: recs) env' σ k)

/-! ### What of the check needs no values: once for each region, by the kernel -/
abbrev Tri := Nat × Option Nat × List Nat
def triI (all : List Oper) (x : Nat × Oper) : Tri := (x.1, x.2.dst, tmOf all x.2)
def triR (r : Rec) : Tri := (r.i, r.dst, r.tm)
def okPairE (M : List Nat) (q r : Tri) : Bool := !Nat.beq q.1 r.1 && (!confE q.2.1 q.2.2 r.2.1 r.2.2 || (M.getD r.1 0).testBit q.1)
def okE (M : List Nat) : List Tri → Bool
  | [] => true
  | r :: rs => rs.all (fun q => okPairE M q r) && okE M rs
def topo : List (Nat × Oper) → List Nat → Bool
  | [], _ => true
  | (i, o) :: l, d => (o.after.toList.all fun e => !bindsA e || d.any fun j => Nat.beq j e.on) && topo l (i :: d)

theorem dynOne_spec {M : List Nat} {i : Nat} {r : Rec} : ∀ {l : List Rec}, dynOne M i r (l.map (·.i)) l = true → ∀ q ∈ l, confD q r = true → (M.getD i 0).testBit q.i = true
  | [], _, q, hq, _ => by simp at hq
  | x :: l, h, q, hq, hc => by
    simp only [List.map_cons, dynOne] at h
    rcases List.mem_cons.1 hq with rfl | hq
    · rw [confB_eq, hc] at h
      simp only [cond_true] at h
      cases e : bit M i q.i <;> rw [e] at h
      · cases h
      · exact e
    · refine dynOne_spec (l := l) ?_ q hq hc
      cases e : confB x r <;> rw [e] at h
      · exact h
      · simp only [cond_true] at h
        cases e2 : bit M i x.i <;> rw [e2] at h
        · cases h
        · exact h
theorem okAll_of {M : List Nat} : ∀ {l : List Rec}, okE M (l.map triR) = true → dynAll M (l.map (·.i)) l = true → okAll M l = true
  | [], _, _ => rfl
  | r :: rs, h1, h2 => by
    simp only [List.map_cons, okE, Bool.and_eq_true, List.all_eq_true, List.mem_map] at h1
    simp only [List.map_cons, dynAll] at h2
    have h2' : dynOne M r.i r (rs.map (·.i)) rs = true ∧ dynAll M (rs.map (·.i)) rs = true := by
      cases e : dynOne M r.i r (rs.map (·.i)) rs <;> rw [e] at h2
      · cases h2
      · exact ⟨rfl, h2⟩
    obtain ⟨h3, h4⟩ := h2'
    simp only [okAll, Bool.and_eq_true, List.all_eq_true]
    refine ⟨fun q hq => ?_, okAll_of h1.2 h4⟩
    have a1 := h1.1 (triR q) ⟨q, hq, rfl⟩
    have a2 := dynOne_spec h3 q hq
    simp only [okPairE, triR, Bool.and_eq_true] at a1
    simp only [okPair, Bool.and_eq_true]
    refine ⟨a1.1, ?_⟩
    cases e1 : confE q.dst q.tm r.dst r.tm
    · cases e2 : confD q r
      · simp [conf, e1, e2]
      · have := a2 e2
        rw [this]; simp
    · rw [e1] at a1
      simpa using .inr (by simpa using a1.2)

structure Inv (P : Program) (I : Imm) (N : Nat) (all : List Oper) (n : Nat) (g : EF) (h : HF) (recs : List Rec) (env : Env) (σ : Heap) : Prop where
  good : Good P I N all n g h recs
  env : getE env = eF allS g recs
  heap : σ.get = hF allS h recs
  next : σ.next = nx n recs

theorem getE_same {env : Env} {d : Nat} {v : SV} (h : getE env d = some v) : getE ((d, v) :: env) = getE env := by
  funext t
  rw [getE_cons]
  unfold putE
  cases e : Nat.beq d t
  · rfl
  · have := Nat.eq_of_beq_eq_true e
    subst this
    rw [h]; rfl

theorem putK_env {β : Type} {N : Nat} {d : Option Nat} {v : SV} {env : Env} {k : Env → R β} {r : β} (h : putK N d v env k = some r) :
    ∃ env', k env' = some r ∧ (∀ t, getE env' t = bif setD d t then some v else getE env t) ∧ ∀ x, d = some x → x < N := by
  cases d with
  | none => exact ⟨env, by simpa [putK] using h, fun t => rfl, fun x hx => by cases hx⟩
  | some d =>
    simp only [putK] at h
    obtain ⟨h1, h2⟩ := bif_some h
    exact ⟨_, h2, fun t => rfl, fun x hx => by cases hx; simpa using h1⟩

theorem inL_head {d : Nat} {l : List Nat} : inL d (d :: l) = true := by simp [inL]

theorem yielded_of' {all : List Oper} {j d : Nat} (h : dstOf all j = some d) {N : Nat} {ρ : Nat → Pl} {D : Nat → Prop} {g : EF} {a : Act} (he : EnvOk I N ρ D g a) {b : Bool} (hg : g d = some (.bool b)) :
    yielded all.toArray a.tmps j = some b := by
  rw [dstOf_spec] at h
  have e := (he.env _ _ hg).1
  simp only [yielded, List.getElem?_toArray, h, Option.bind_some, e, val_bool]
theorem yielded_none' {all : List Oper} {j d : Nat} (h : dstOf all j = some d) {N : Nat} {ρ : Nat → Pl} {D : Nat → Prop} {g : EF} {a : Act} (he : EnvOk I N ρ D g a) {l : List SV} (hg : g d = some (.tuple l)) :
    yielded all.toArray a.tmps j = none := by
  rw [dstOf_spec] at h
  have e := (he.env _ _ hg).1
  simp only [yielded, List.getElem?_toArray, h, Option.bind_some, e, val]

theorem dops_spec {te : TE} (hte : TEok P te) {O : ORC α} (hO : OOk P I O) {N n : Nat} {all : List Oper} {M : List Nat} {g : EF} {h : HF} {k : Env → Heap → R α} {r : α} : ∀ {items : List (Nat × Oper)} {recs : List Rec} {env : Env} {σ : Heap},
    (∀ x ∈ items, all[x.1]? = some x.2) → topo items (recs.map (·.i)) = true → Inv P I N all n g h recs env σ → dops te O N all M items (recs.map (·.i)) recs env σ k = some r →
    ∃ recs' env' σ', k env' σ' = some r ∧ Inv P I N all n g h recs' env' σ' ∧ Grow σ σ' ∧ dynAll M (recs'.map (·.i)) recs' = true ∧ recs'.map triR = (items.map (triI all)).reverse ++ recs.map triR
  | [], recs, env, σ, _, _, hi, hk => by
    simp only [dops] at hk
    obtain ⟨h1, h2⟩ := bif_some hk
    exact ⟨recs, env, σ, h2, hi, .refl _, h1, by simp⟩
  | (i, o) :: rest, recs, env, σ, hitems, htopo, hi, hk => by
    simp only [dops] at hk
    simp only [topo, Bool.and_eq_true] at htopo
    obtain ⟨hp, htopo⟩ := htopo
    have ho : all[i]? = some o := hitems (i, o) (by simp)
    have hpre : ∀ e ∈ o.after.toList, bindsA e = true → ∃ q ∈ recs, q.i = e.on := fun e he hb => by
      have := (List.all_eq_true.1 hp) e he
      rw [hb] at this
      simp only [Bool.not_true, Bool.false_or, List.any_eq_true, List.mem_map] at this
      obtain ⟨_, ⟨q, hq, rfl⟩, e⟩ := this
      exact ⟨q, hq, Nat.eq_of_beq_eq_true e⟩
    have run : ∀ env1, getE env1 = getE env → (∀ ρ D a, EnvOk I N ρ D (looks (getE env) (tmOf all o)) a → Region.wanted o (yielded all.toArray a.tmps) = true) →
        (dop te O o (restr (tmOf all o) env1) σ fun v wr hi rd => putK N o.dst v env1 fun env' => dops te O N all M rest (i :: recs.map (·.i)) (⟨i, o.dst, v, wr, σ.next, hi, rd, tmOf all o⟩ :: recs) env' ⟨hi, wr ++ σ.blocks⟩ k) = some r →
        ∃ recs' env' σ', k env' σ' = some r ∧ Inv P I N all n g h recs' env' σ' ∧ Grow σ σ' ∧ dynAll M (recs'.map (·.i)) recs' = true ∧ recs'.map triR = (((i, o) :: rest).map (triI all)).reverse ++ recs.map triR := by
      intro env1 henv1 hw hk
      obtain ⟨v, wr, hi', rd, h1, hle, hids, hdid⟩ := dop_spec (I := I) (N := N) hte hO hk
      obtain ⟨env', h2, henv', hN⟩ := putK_env h1
      have hnew : ∀ b, hits b wr = true → (∃ x, seen rd (hF allS h recs) b = some x) ∨ (σ.next ≤ b ∧ b < hi') := by rw [← hi.heap]; exact hids
      have hlook : ∀ t u, getE (restr (tmOf all o) env1) t = some u → looks (getE env) (tmOf all o) t = some u := fun t u ht => by
        obtain ⟨h3, h4⟩ := restr_get ht
        unfold looks
        rw [h3, ← henv1]; exact h4
      have hinv : Inv P I N all n g h (⟨i, o.dst, v, wr, σ.next, hi', rd, tmOf all o⟩ :: recs) env' ⟨hi', wr ++ σ.blocks⟩ := by
        refine ⟨⟨hi.good, hi.next, o, ho, rfl, fun d hd => hN d hd, hpre, ⟨hle, hnew, fun ρ D a w he hh hfr => .inl ⟨hw ρ D a (by rw [hi.env]; exact he), fun next Q hn => ?_⟩⟩⟩, ?_, ?_, rfl⟩
        · have := hdid ρ D a w (he.less (by rw [← hi.env]; exact hlook)) (by rw [hi.heap]; exact hh) hfr next Q
          rw [hi.heap] at this
          exact this hn
        · funext t
          rw [henv' t, henv1, hi.env]
          simp only [eF, Bool.true_and, Rec.sets]
        · simp only [hF, cond_true]
          rw [← hi.heap]
          exact getL_puts _ _
      have hgr : Grow σ ⟨hi', wr ++ σ.blocks⟩ := ⟨hle, wr, rfl, fun x hx => by
        rcases hids x.1 (by simp only [hits, List.any_eq_true]; exact ⟨x, hx, by simp⟩) with ⟨y, hy⟩ | hy
        · exact .inl ⟨y, seen_le hy⟩
        · exact .inr hy⟩
      obtain ⟨recs', env2, σ2, e1, e2, e3, e4, e5⟩ := dops_spec (recs := ⟨i, o.dst, v, wr, σ.next, hi', rd, tmOf all o⟩ :: recs) hte hO (fun x hx => hitems x (List.mem_cons_of_mem _ hx)) htopo hinv h2
      exact ⟨recs', env2, σ2, e1, e2, hgr.trans e3, e4, by rw [e5]; simp [triI, triR]⟩
    have skip : ∀ env1, getE env1 = getE env → (∀ ρ D a, EnvOk I N ρ D (looks (getE env) (tmOf all o)) a → Region.wanted o (yielded all.toArray a.tmps) = false) →
        (putK N o.dst (.tuple []) env1 fun env' => dops te O N all M rest (i :: recs.map (·.i)) (⟨i, o.dst, .tuple [], [], σ.next, σ.next, some [], tmOf all o⟩ :: recs) env' σ k) = some r →
        ∃ recs' env' σ', k env' σ' = some r ∧ Inv P I N all n g h recs' env' σ' ∧ Grow σ σ' ∧ dynAll M (recs'.map (·.i)) recs' = true ∧ recs'.map triR = (((i, o) :: rest).map (triI all)).reverse ++ recs.map triR := by
      intro env1 henv1 hw hk
      obtain ⟨env', h2, henv', hN⟩ := putK_env hk
      have hinv : Inv P I N all n g h (⟨i, o.dst, .tuple [], [], σ.next, σ.next, some [], tmOf all o⟩ :: recs) env' σ := by
        refine ⟨⟨hi.good, hi.next, o, ho, rfl, fun d hd => hN d hd, hpre, ⟨Nat.le_refl _, fun b hb => by simp [hits] at hb, fun ρ D a w he hh hfr => .inr ⟨hw ρ D a (by rw [hi.env]; exact he), rfl, rfl, rfl⟩⟩⟩, ?_, ?_, rfl⟩
        · funext t
          rw [henv' t, henv1, hi.env]
          simp only [eF, Bool.true_and, Rec.sets]
        · simp only [hF, cond_true, putsH]
          exact hi.heap
      obtain ⟨recs', env2, σ2, e1, e2, e3, e4, e5⟩ := dops_spec (recs := ⟨i, o.dst, .tuple [], [], σ.next, σ.next, some [], tmOf all o⟩ :: recs) hte hO (fun x hx => hitems x (List.mem_cons_of_mem _ hx)) htopo hinv h2
      exact ⟨recs', env2, σ2, e1, e2, e3, e4, by rw [e5]; simp [triI, triR]⟩
    unfold dguard at hk
    split at hk
    · rename_i hg
      exact run env rfl (fun ρ D a _ => by simp [Region.wanted, hg]) hk
    · rename_i j want hg
      split at hk <;> try (simp at hk; done)
      rename_i d hd
      have htm : tmOf all o = d :: opTmps o.op.operands.toList := by simp [tmOf, hg, hd]
      have hl : ∀ u, getE env d = some u → looks (getE env) (tmOf all o) d = some u := fun u hu => by unfold looks; rw [htm, inL_head]; exact hu
      split at hk <;> try (simp at hk; done)
      case h_2 l hgd => exact skip env rfl (fun ρ D a he => by simp [Region.wanted, hg, yielded_none' hd he (hl _ hgd)]) hk
      rename_i b hgd
      cases b <;> cases want <;> simp only [cond_true, cond_false] at hk
      · exact run _ (getE_same hgd) (fun ρ D a he => by simp [Region.wanted, hg, yielded_of' hd he (hl _ hgd)]) hk
      · exact skip _ (getE_same hgd) (fun ρ D a he => by simp [Region.wanted, hg, yielded_of' hd he (hl _ hgd)]) hk
      · exact skip _ (getE_same hgd) (fun ρ D a he => by simp [Region.wanted, hg, yielded_of' hd he (hl _ hgd)]) hk
      · exact run _ (getE_same hgd) (fun ρ D a he => by simp [Region.wanted, hg, yielded_of' hd he (hl _ hgd)]) hk

/-! ### The order of the evaluation: what lays new memory comes late -/
def idx : Nat → List Oper → List (Nat × Oper)
  | _, [] => []
  | i, o :: l => (i, o) :: idx (i + 1) l
theorem idx_spec : ∀ {l : List Oper} {n : Nat} {x : Nat × Oper}, x ∈ idx n l → n ≤ x.1 ∧ l[x.1 - n]? = some x.2
  | [], n, x, h => by simp [idx] at h
  | o :: l, n, x, h => by
    simp only [idx, List.mem_cons] at h
    rcases h with rfl | h
    · simp
    · obtain ⟨h1, h2⟩ := idx_spec h
      exact ⟨by omega, by rw [show x.1 - n = (x.1 - (n + 1)) + 1 by omega]; simpa using h2⟩
def isLate (o : Oper) : Bool := match o.op with
  | .alloc _ | .box .. | .buildSlice .. | .makeSlice .. => true
  | _ => false
def ordr : List (Nat × Oper) → List (Nat × Oper) → List (Nat × Oper)
  | [], post => post
  | x :: rest, post => bif isLate x.2 then ordr rest (post ++ [x])
    else bif x.2.after.toList.any (fun e => bindsA e && post.any (fun y => Nat.beq y.1 e.on)) then post ++ x :: ordr rest [] else x :: ordr rest post
theorem ordr_mem {y : Nat × Oper} : ∀ {l post : List (Nat × Oper)}, y ∈ ordr l post → y ∈ l ∨ y ∈ post
  | [], post, h => .inr h
  | x :: rest, post, h => by
    simp only [ordr] at h
    cases e : isLate x.2 <;> rw [e] at h
    · simp only [cond_false] at h
      cases e2 : (x.2.after.toList.any fun e => bindsA e && post.any fun y => Nat.beq y.1 e.on) <;> rw [e2] at h
      · simp only [cond_false, List.mem_cons] at h
        rcases h with rfl | h
        · exact .inl (by simp)
        · rcases ordr_mem h with h | h
          · exact .inl (List.mem_cons_of_mem _ h)
          · exact .inr h
      · simp only [cond_true, List.mem_append, List.mem_cons] at h
        rcases h with h | rfl | h
        · exact .inr h
        · exact .inl (by simp)
        · rcases ordr_mem h with h | h
          · exact .inl (List.mem_cons_of_mem _ h)
          · simp at h
    · simp only [cond_true] at h
      rcases ordr_mem h with h | h
      · exact .inl (List.mem_cons_of_mem _ h)
      · rcases List.mem_append.1 h with h | h
        · exact .inr h
        · simp only [List.mem_singleton] at h; subst h; exact .inl (by simp)

def dregion (te : TE) (O : ORC α) (N : Nat) (all : List Oper) (env : Env) (σ : Heap) (k : Env → Heap → R α) : R α :=
  dops te O N all (masks all []) (ordr (idx 0 all) []) [] [] env σ k
/-- The part of the check that needs no values. -/
def regOk (all : List Oper) : Bool :=
  topo (ordr (idx 0 all) []) [] && (okE (masks all []) (((ordr (idx 0 all) []).map (triI all)).reverse) && (List.range all.length).all fun i => (ordr (idx 0 all) []).any fun x => Nat.beq x.1 i)

theorem dregion_spec {te : TE} (hte : TEok P te) (hm : P.follows .mixedOrders = true) {O : ORC α} (hO : OOk P I O) {N : Nat} {id : Nat} {all : List Oper} {env : Env} {σ : Heap} {k : Env → Heap → R α} {r : α} (hreg : regOk all = true) (hk : dregion te O N all env σ k = some r) :
    ∃ env' σ', k env' σ' = some r ∧ Grow σ σ' ∧ ∀ ρ D a w, St I N ρ D env σ a w → free D σ.next σ'.next → ∀ (Q : Exit → Act → World → Prop),
      (∀ ρ' a' w', St I N ρ' (plus D σ.next σ'.next) env' σ' a' w' → ExtS ρ D σ w ρ' σ' w' → Q .normal a' w') → (Code.region id all.toArray true).wp P Q a w := by
  have hitems : ∀ x ∈ ordr (idx 0 all) [], all[x.1]? = some x.2 := fun x hx => by
    rcases ordr_mem hx with hx | hx
    · simpa using (idx_spec hx).2
    · simp at hx
  simp only [regOk, Bool.and_eq_true] at hreg
  obtain ⟨hr1, hr2, hr3⟩ := hreg
  obtain ⟨recs, env', σ', h1, hi, hg, hdyn, htri⟩ := dops_spec (n := σ.next) (g := getE env) (h := σ.get) (recs := []) hte hO hitems hr1 ⟨by unfold Good; trivial, rfl, rfl, rfl⟩ hk
  simp only [List.map_nil, List.append_nil] at htri
  have hok : okAll (masks all []) recs = true := okAll_of (by rw [htri]; exact hr2) hdyn
  have hcov : ∀ i, i < all.length → ∃ r ∈ recs, r.i = i := fun i hi => by
    have := List.all_eq_true.1 hr3 i (List.mem_range.2 hi)
    obtain ⟨x, hx, e⟩ := List.any_eq_true.1 this
    have hm : triI all x ∈ recs.map triR := by rw [htri, List.mem_reverse]; exact List.mem_map_of_mem hx
    obtain ⟨q, hq, e2⟩ := List.mem_map.1 hm
    refine ⟨q, hq, ?_⟩
    have : q.i = x.1 := congrArg Prod.fst e2
    rw [this]; exact Nat.eq_of_beq_eq_true e
  refine ⟨env', σ', h1, hg, fun ρ D a w hs hfr Q hn => ?_⟩
  refine wp_region_any hm (any_all (ρ0 := ρ) (D0 := D) (w0 := { w with drawn := w.drawn + 1 }) hi.good hok (masks_all all) hcov (by rw [← hi.next]; exact hfr) (fun b x hb => (hs.heap.wf.dom b x hb).1) ?_ _ _ _ _ (by simp) ?_ ?_ ?_)
  · rintro a' w' ⟨ρ', he, hh, hx⟩
    rw [dF_all hi.good, ← hi.next] at he hh hx
    rw [← hi.env] at he
    rw [← hi.heap] at hh hx
    refine hn ρ' a' w' ⟨he, hh⟩ ?_
    have := (Ext.drew ρ D σ.get w (w.drawn + 1)).trans hx
    exact this
  · refine Nat.le_trans (List.length_filter_le _ _) (by simp)
  · intro i o _ hi
    simp [sOf] at hi
    by_cases e : i < all.length <;> simp [e] at hi
  · have e : sOf (Array.replicate all.toArray.size false) = fun _ => false := by
      funext i; simp only [sOf, Array.getD_eq_getD_getElem?]
      by_cases e : i < all.length <;> simp [e]
    rw [e]
    exact ⟨ρ, by rw [eF_none, dF_none]; exact hs.env, by rw [hF_none, dF_none]; exact hs.heap.drew _, by rw [hF_none, dF_none]; exact Ext.refl _ _ _ _⟩
end
end Go.Sh
