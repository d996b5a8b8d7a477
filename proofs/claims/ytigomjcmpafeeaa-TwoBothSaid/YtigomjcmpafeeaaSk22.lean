/-
  Contracts over memory, by a run on blocks that are numbered from 0 on.
-/
import Derived.Test.YtigomjcmpafeeaaSk21
set_option linter.unusedSimpArgs false
set_option linter.unusedVariables false
namespace Go.Sh
open Go

section
variable {α : Type} {P : Program} {I : Imm}

def getN : List Nat → Nat → Option Nat
  | [], _ => none
  | b :: _, 0 => some b
  | _ :: l, i + 1 => getN l i
theorem getN_eq : ∀ (l : List Nat) (i : Nat), getN l i = l[i]?
  | [], _ => by simp [getN]
  | b :: _, 0 => by simp [getN]
  | _ :: l, i + 1 => by simp [getN, getN_eq l i]
def posN : List Nat → Nat → Nat
  | [], _ => 0
  | b :: l, i => bif Nat.beq b i then 0 else posN l i + 1
theorem posN_spec : ∀ {l : List Nat} {j i : Nat}, l.Nodup → l[j]? = some i → posN l i = j
  | [], _, _, _, h => by simp at h
  | b :: l, 0, i, _, h => by simp at h; subst h; simp [posN]
  | b :: l, j + 1, i, hn, h => by
    simp only [List.getElem?_cons_succ] at h
    have hm : i ∈ l := List.mem_of_getElem? h
    have hne : b ≠ i := fun e => (List.nodup_cons.1 hn).1 (e ▸ hm)
    simp only [posN, beq_ne hne, cond_false, posN_spec (List.nodup_cons.1 hn).2 h]
/-- Other names: of the blocks that were there (rl), of new ones (nw: from n on). -/
def rnm (rl : List Nat) (n : Nat) (nw : List Nat) (i : Nat) : Nat :=
  match getN rl i with
  | some b => b
  | none => n + posN nw i
def enumO : Nat → List SObj → List (Nat × SObj)
  | _, [] => []
  | i, o :: l => (i, o) :: enumO (i + 1) l
theorem enumO_get : ∀ {l : List SObj} {n i : Nat} {o : SObj}, getL (enumO n l) i = some o → n ≤ i ∧ l[i - n]? = some o
  | [], n, i, o, h => by simp [enumO, getL] at h
  | x :: l, n, i, o, h => by
    simp only [enumO, getL] at h
    cases e : Nat.beq n i <;> rw [e] at h
    · obtain ⟨h1, h2⟩ := enumO_get (l := l) (by simpa using h)
      exact ⟨by omega, by rw [show i - n = (i - (n + 1)) + 1 by omega]; simpa using h2⟩
    · have := Nat.eq_of_beq_eq_true e
      subst this
      have h2 := live_some (show x.live = some o by simpa using h)
      subst h2
      exact ⟨Nat.le_refl _, by simp⟩
theorem enumO_mem : ∀ {l : List SObj} {n i : Nat} {o : SObj}, n ≤ i → l[i - n]? = some o → (i, o) ∈ enumO n l
  | [], n, i, o, _, h => by simp at h
  | x :: l, n, i, o, h0, h => by
    by_cases e : i = n
    · subst e; simp at h; subst h; simp [enumO]
    · rw [show i - n = (i - (n + 1)) + 1 by omega] at h
      exact List.mem_cons_of_mem _ (enumO_mem (l := l) (by omega) (by simpa using h))
/-- The heap on which a contract's run begins. -/
def hp (os : List SObj) : Heap := ⟨os.length, enumO 0 os⟩

def inK (i : Nat) : List (Nat × SObj) → Bool
  | [] => false
  | x :: l => bif Nat.beq x.1 i then true else inK i l
theorem inK_app {i : Nat} {o : SObj} {rest : List (Nat × SObj)} : ∀ {l : List (Nat × SObj)}, inK i l = true → getL (l ++ rest) i = some o → getL l i = some o
  | [], h, _ => by simp [inK] at h
  | (c, o') :: l, h, h2 => by
    simp only [inK] at h
    simp only [List.cons_append, getL] at h2 ⊢
    cases e : Nat.beq c i <;> rw [e] at h h2
    · exact inK_app (l := l) (by simpa using h) h2
    · exact h2

/-- An evaluation ends so. -/
def Ends (x : R Ans) (Q : SV → Heap → Prop) : Prop := ∃ v σ, x = some (v, σ) ∧ Q v σ

/-- What of a run on numbered blocks is told: the value, the blocks bl (of the given ones, and new ones: nw). -/
structure Pub (rl : List Nat) (os : List SObj) (σ : Heap) (v0 : SV) (σ1 : Heap) (nw : List Nat) (bl : List (Nat × SObj)) : Prop where
  nodup : nw.Nodup
  new : ∀ i ∈ nw, os.length ≤ i ∧ i < σ1.next
  ids : Ids (fun i => i < os.length ∨ i ∈ nw) v0
  key : ∀ x ∈ bl, (x.1 < os.length ∨ x.1 ∈ nw) ∧ OIds (fun i => i < os.length ∨ i ∈ nw) x.2
  told : ∀ x ∈ bl, (∀ o, x.2.live = some o → σ1.get x.1 = some o)
  kept : ∀ y ∈ enumO 0 os, inK y.1 bl = true ∨ σ1.get y.1 = some y.2

/-- The given blocks: their names, and that the heap has them. -/
structure Lay (rl : List Nat) (os : List SObj) (args0 : List SV) (args : List SV) (σ : Heap) : Prop where
  len : rl.length = os.length
  nodup : rl.Nodup
  args : args0.map (ren (rnm rl 0 [])) = args
  have_ : ∀ y ∈ enumO 0 os, σ.get (rnm rl 0 [] y.1) = some (renO (rnm rl 0 []) y.2)
  aids : ∀ x ∈ args0, Ids (fun i => i < os.length) x
  oids : ∀ o ∈ os, OIds (fun i => i < os.length) o

theorem getL_mem {i : Nat} {o : SObj} : ∀ {l : List (Nat × SObj)}, getL l i = some o → (i, o) ∈ l
  | [], h => by simp [getL] at h
  | (c, o') :: l, h => by
    simp only [getL] at h
    cases e : Nat.beq c i <;> rw [e] at h
    · exact List.mem_cons_of_mem _ (getL_mem (l := l) (by simpa using h))
    · have := Nat.eq_of_beq_eq_true e
      subst this
      have h2 := live_some (show o'.live = some o by simpa using h)
      subst h2; simp

theorem inK_false {i : Nat} : ∀ {l : List (Nat × SObj)}, inK i l = false → ∀ x ∈ l, x.1 ≠ i
  | [], _, x, hx => by simp at hx
  | y :: l, h, x, hx => by
    simp only [inK] at h
    cases e : Nat.beq y.1 i <;> rw [e] at h
    · rcases List.mem_cons.1 hx with rfl | hx
      · rintro rfl; rw [Nat.beq_refl] at e; cases e
      · exact inK_false (l := l) (by simpa using h) x hx
    · simp at h
theorem canon_calls {f : FuncId} {rl : List Nat} {os : List SObj} {args0 args : List SV} {σ σ1 : Heap} {v0 : SV} {nw : List Nat} {bl : List (Nat × SObj)} (h : SCalls P I f args0 (hp os) v0 σ1) (hg : Grow (hp os) σ1) (hl : Lay rl os args0 args σ) (hp' : Pub rl os σ v0 σ1 nw bl) :
    SCalls P I f args σ (ren (rnm rl σ.next nw) v0) ⟨σ.next + nw.length, (bl.map fun x => (rnm rl σ.next nw x.1, renO (rnm rl σ.next nw) x.2)) ++ σ.blocks⟩ ∧
      Grow σ ⟨σ.next + nw.length, (bl.map fun x => (rnm rl σ.next nw x.1, renO (rnm rl σ.next nw) x.2)) ++ σ.blocks⟩ := by
  have hr : ∀ n nw' i, i < os.length → rnm rl n nw' i = rl[i]?.getD 0 := fun n nw' i hi => by
    have : i < rl.length := by rw [hl.len]; exact hi
    simp [rnm, getN_eq, this]
  have hob : ∀ i o, (hp os).get i = some o → i < os.length ∧ OIds (fun i => i < os.length) o := fun i o hi => by
    obtain ⟨_, h2⟩ := enumO_get hi
    exact ⟨(List.getElem?_eq_some_iff.1 h2).1, hl.oids o (List.mem_of_getElem? h2)⟩
  have hσ : ∀ i o, (hp os).get i = some o → σ.get (rnm rl 0 [] i) = some (renO (rnm rl 0 []) o) := fun i o hi => hl.have_ (i, o) (getL_mem hi)
  have hnew : ∀ (j i : Nat), nw[j]? = some i → rnm rl σ.next nw i = σ.next + j := fun j i hj => by
    have hge := (hp'.new i (List.mem_of_getElem? hj)).1
    simp only [rnm, getN_eq, List.getElem?_eq_none (show rl.length ≤ i by rw [hl.len]; exact hge), posN_spec hp'.nodup hj]
  subst_vars
  refine ⟨?_, Nat.le_add_right _ _, _, rfl, ?_⟩
  · have hargs := hl.args
    subst hargs
    refine scalls_ren (m := os.length) (r := rnm rl 0 []) (K := fun i => i < os.length ∨ i ∈ nw) h rfl (fun i j hi hj e => ?_) hl.aids hob hσ (fun i hi => by rw [hr _ _ i hi, hr _ _ i hi]) (fun j i hj => ?_) (fun i => Iff.rfl) hp'.ids hp'.key (fun i o hi ho => ?_)
    · rw [hr _ _ i hi, hr _ _ j hj] at e
      have h1 : i < rl.length := by rw [hl.len]; exact hi
      have h2 : j < rl.length := by rw [hl.len]; exact hj
      simp only [h1, h2, List.getElem?_eq_getElem, Option.getD_some] at e
      exact (List.getElem_inj hl.nodup).1 e
    · have hmem := List.mem_of_getElem? hj
      obtain ⟨h1, h2⟩ := hp'.new i hmem
      exact ⟨h1, h2, hnew j i hj⟩
    · cases e : inK i bl
      · rw [getL_none_of (inK_false e)] at ho
        rcases hp'.kept (i, o) (getL_mem ho) with h1 | h1
        · rw [e] at h1; cases h1
        · exact h1
      · have h1 := inK_app e ho
        exact hp'.told _ (getL_mem h1) o (getL_live h1)
  · intro x hx
    obtain ⟨y, hy, rfl⟩ := List.mem_map.1 hx
    rcases (hp'.key y hy).1 with h1 | h1
    · left
      have := hl.have_ (y.1, os[y.1]) (enumO_mem (n := 0) (by omega) (by simp))
      rw [hr _ _ _ h1] at this
      exact ⟨_, by simp only [hr _ _ _ h1]; exact this⟩
    · right
      obtain ⟨j, hj⟩ := List.getElem?_of_mem h1
      have hlt := (List.getElem?_eq_some_iff.1 hj).1
      simp only [hnew j y.1 hj]
      omega

/-- **THE CONTRACT OF A FUNCTION OVER MEMORY.** -/
theorem orc_canon {te : TE} (hpr : Prg P te) {O : ORC Ans} (hO : OOk P I O) {L : LO Ans} (n : Fuel) {f : FuncId} {fn : Func} (hf : P.funcs[f]? = some fn) (h1 : (fn.name == "runtime.NumGoroutine") = false) (h2 : fn.body.isNone = false) (hok : fnOk fn = true) (hL : FLOk P I L fn)
    {F : FF α} (hF : ∀ args σ k r, F args σ k = some r → ∃ rl os args0, Lay rl os args0 args σ ∧ Ends (bodyL te O L n fn args0 (hp os) ans) fun v0 σ1 => ∃ nw bl, Pub rl os σ v0 σ1 nw bl ∧
      k (ren (rnm rl σ.next nw) v0) ⟨σ.next + nw.length, (bl.map fun x => (rnm rl σ.next nw x.1, renO (rnm rl σ.next nw) x.2)) ++ σ.blocks⟩ = some r) : OrcOk P I f (.full F) := by
  refine ⟨enters_of hf h1 h2, fun args σ k r hk => ?_⟩
  obtain ⟨rl, os, args0, h3, v0, σ1, h4, nw, bl, h5, h6⟩ := hF args σ k r hk
  obtain ⟨v', σ', h7, hg, h8⟩ := body_calls hpr hO hf hok hL h4
  simp only [ans, Option.some.injEq, Prod.mk.injEq] at h7
  obtain ⟨rfl, rfl⟩ := h7
  obtain ⟨h9, h10⟩ := canon_calls h8 hg h3 h5
  exact ⟨_, _, h6, h10, h9⟩

/-- A contract on the empty heap is one on every heap. -/
theorem pure_of_calls {f : FuncId} {args : List SV} {v : SV} {σe : Heap} (h : SCalls P I f args emp v σe) (hv : Ids (fun _ => False) v) (ha : ∀ x ∈ args, Ids (fun _ => False) x) : SPure P I f args v := by
  refine fun D hargs ρ e w hh => ?_
  have hargs' : ∀ x ∈ args, Wf I (fun _ => False) x := fun x hx => (Wf.andIds (hargs x hx) (ha x hx)).mono fun _ h => h.2
  have hemp : HRel I ρ (fun _ => False) emp.get w := ⟨⟨fun b o hb => by simp [emp, Heap.get, getL] at hb⟩, fun b o hb => by simp [emp, Heap.get, getL] at hb, fun b o b' o' hb => by simp [emp, Heap.get, getL] at hb, hh.imm, fun b o hb => by simp [emp, Heap.get, getL] at hb⟩
  refine (h ρ _ w hemp (fun _ _ _ h => h) hargs').mono ?_
  rintro en w' ⟨ρ', rfl, hx, hr, hwv⟩
  have hwv' : Wf I (fun _ => False) v := (Wf.andIds hwv hv).mono fun _ h => h.2
  have hfr : ∀ i, i < w.heap.size → w'.heap[i]? = w.heap[i]? := fun i hi => hx.frame i hi fun b o hb => by simp [emp, Heap.get, getL] at hb
  refine ⟨?_, hwv'.mono fun _ h => h.elim, ⟨fun _ h => h, fun _ _ => rfl, hx.os, hx.tape, hx.output, hx.size, fun i hi _ => hfr i hi, fun b o hb => .inr ⟨b, o, hb, rfl⟩⟩, ⟨hh.wf, fun b o hb => ?_, hh.inj, hr.imm, hh.off⟩⟩
  · rw [val_congr (I := I) (n := fun _ => False) (fun b hb => hb.elim) hwv']
  · exact ObjAt.congr (I := I) (hh.obj b o hb) (hh.wf.dom b o hb).2 (fun _ _ => rfl) (hh.wf.dom b o hb).1 (hfr _ (hh.obj b o hb).lt)

/-- **THE CONTRACT OF A FUNCTION OF PLAIN VALUES.** (Rows of the caller's memory may be among its arguments; what it leaves behind is forgotten.) -/
theorem orc_pure {te : TE} (hpr : Prg P te) {O : ORC Ans} (hO : OOk P I O) {L : LO Ans} (n : Fuel) {f : FuncId} {fn : Func} (hf : P.funcs[f]? = some fn) (h1 : (fn.name == "runtime.NumGoroutine") = false) (h2 : fn.body.isNone = false) (hok : fnOk fn = true) (hL : FLOk P I L fn)
    {F : FP α} (hF : ∀ args k r, F args k = some r → ∃ v, k v = some r ∧ Ids (fun _ => False) v ∧ (∀ x ∈ args, Ids (fun _ => False) x) ∧ EndsV (bodyL te O L n fn args emp ans) v) : OrcOk P I f (.pure F) := by
  refine ⟨enters_of hf h1 h2, fun args k r hk => ?_⟩
  obtain ⟨v, h3, h4, h5, σe, h6⟩ := hF args k r hk
  refine ⟨v, h3, ?_⟩
  obtain ⟨v', σ', h7, hg, h8⟩ := body_calls hpr hO hf hok hL h6
  simp only [ans, Option.some.injEq, Prod.mk.injEq] at h7
  obtain ⟨rfl, rfl⟩ := h7
  exact pure_of_calls h8 h4 h5
end
end Go.Sh
