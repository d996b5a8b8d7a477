/-
  Regions that draw their order: evaluated in one order; what is unordered does not meddle; hence every order comes to the same.
-/
import Derived.Test.YtigomjcmpafeeaaSk11
import Derived.Orders
set_option linter.unusedSimpArgs false
set_option linter.unusedVariables false
namespace Go.Sh
open Go

section
variable {α : Type} {P : Program} {I : Imm}

abbrev bindsA (e : Edge) : Bool := Region.binds .any e

def rdOld (rd : Option (List Nat)) (b : Nat) : Bool := match rd with | none => true | some l => inL b l
def rdNew (rd : Option (List Nat)) (lo hi b : Nat) : Bool := match rd with | none => !(Nat.ble lo b && Nat.blt b hi) | some l => inL b l
/-- By the frame: do two operations meddle with each other? (q was done ahead of r) -/
def confE (qd : Option Nat) (qt : List Nat) (rd : Option Nat) (rt : List Nat) : Bool :=
  (match qd with | some d => inL d rt | none => false) || (match rd with | some d => inL d qt || setD qd d | none => false)
/-- By the memory. -/
def confD (q r : Rec) : Bool :=
  (q.wr.any fun x => rdOld r.rd x.1) || (r.wr.any fun x => rdNew q.rd q.hi r.hi x.1) || (q.wr.any fun x => hits x.1 r.wr)
def conf (q r : Rec) : Bool := confE q.dst q.tm r.dst r.tm || confD q r
def okPair (M : List Nat) (q r : Rec) : Bool := !Nat.beq q.i r.i && (!conf q r || (M.getD r.i 0).testBit q.i)
def okAll (M : List Nat) : List Rec → Bool
  | [] => true
  | r :: rs => rs.all (fun q => okPair M q r) && okAll M rs

/-- The operations that come ahead of each, as bits. -/
def maskOf (acc : List Nat) (o : Oper) : Nat := o.after.toList.foldl (fun m e => bif bindsA e then (m ||| 2 ^ e.on) ||| acc.getD e.on 0 else m) 0
def masks : List Oper → List Nat → List Nat
  | [], acc => acc
  | o :: l, acc => masks l (acc ++ [maskOf acc o])

/-- A set of operations that holds whatever comes ahead of its own. -/
def Closed (all : List Oper) (s : Nat → Bool) : Prop := ∀ (i : Nat) (o : Oper), all[i]? = some o → s i = true → ∀ e ∈ o.after.toList, bindsA e = true → s e.on = true

def MaskOk (all : List Oper) (acc : List Nat) : Prop := ∀ (i : Nat) (o : Oper), all[i]? = some o → ∀ s, Closed all s → (∀ e ∈ o.after.toList, bindsA e = true → s e.on = true) → ∀ j, (acc.getD i 0).testBit j = true → s j = true

theorem maskOf_spec {all : List Oper} {acc : List Nat} (hacc : MaskOk all acc) (hlen : acc.length ≤ all.length) {o : Oper} {s : Nat → Bool} (hs : Closed all s) (ho : ∀ e ∈ o.after.toList, bindsA e = true → s e.on = true) :
    ∀ j, (maskOf acc o).testBit j = true → s j = true := by
  unfold maskOf
  have gen : ∀ (l : List Edge) (m : Nat), (∀ e ∈ l, bindsA e = true → s e.on = true) → (∀ j, m.testBit j = true → s j = true) → ∀ j, (l.foldl (fun m e => bif bindsA e then (m ||| 2 ^ e.on) ||| acc.getD e.on 0 else m) m).testBit j = true → s j = true := by
    intro l
    induction l with
    | nil => intro m _ hm j hj; exact hm j hj
    | cons e l ih =>
      intro m hl hm
      simp only [List.foldl_cons]
      refine ih _ (fun e' he' => hl e' (List.mem_cons_of_mem _ he')) fun j hj => ?_
      cases hb : bindsA e <;> rw [hb] at hj
      · exact hm j hj
      · simp only [cond_true, Nat.testBit_or, Bool.or_eq_true, Nat.testBit_two_pow, decide_eq_true_eq] at hj
        have he := hl e (by simp) hb
        rcases hj with (hj | hj) | hj
        · exact hm j hj
        · rw [← hj]; exact he
        · by_cases hlt : e.on < all.length
          · exact hacc e.on all[e.on] (by simp [hlt]) s hs (hs e.on all[e.on] (by simp [hlt]) he) j hj
          · have : acc.getD e.on 0 = 0 := by simp [List.getD, List.getElem?_eq_none (show acc.length ≤ e.on by omega)]
            rw [this] at hj
            simp at hj
  exact gen _ 0 ho (fun j hj => by simp at hj)

theorem masks_ok {all : List Oper} : ∀ {l : List Oper} {acc : List Nat}, MaskOk all acc → (∀ (j : Nat), l[j]? = all[acc.length + j]?) → MaskOk all (masks l acc)
  | [], acc, h, _ => h
  | o :: l, acc, h, hl => by
    have h0 : all[acc.length]? = some o := by have := hl 0; simpa using this.symm
    have hlt := (List.getElem?_eq_some_iff.1 h0).1
    refine masks_ok (l := l) ?_ (fun j => by have := hl (j + 1); simpa [Nat.add_assoc, Nat.add_comm 1 j] using this)
    intro i o' ho' s hs hp j hj
    by_cases e : i < acc.length
    · have : (acc ++ [maskOf acc o]).getD i 0 = acc.getD i 0 := by simp [List.getD, List.getElem?_append_left e]
      rw [this] at hj
      exact h i o' ho' s hs hp j hj
    · by_cases e2 : i = acc.length
      · subst e2
        have h3 : (acc ++ [maskOf acc o]).getD acc.length 0 = maskOf acc o := by simp [List.getD]
        rw [h3] at hj
        rw [h0] at ho'
        cases ho'
        exact maskOf_spec h (by omega) hs hp j hj
      · have : (acc ++ [maskOf acc o]).getD i 0 = 0 := by simp [List.getD, List.getElem?_eq_none (show (acc ++ [maskOf acc o]).length ≤ i by simp; omega)]
        rw [this] at hj
        simp at hj
theorem masks_all (all : List Oper) : MaskOk all (masks all []) := masks_ok (fun i o _ s _ _ j hj => by simp at hj) (fun j => by simp)

def nx (n : Nat) : List Rec → Nat
  | [] => n
  | r :: _ => r.hi
def looks (g : EF) (tm : List Nat) : EF := fun t => bif inL t tm then g t else none

/-- Records that tell truly what was done, one behind the other (the newest first). -/
def Good (P : Program) (I : Imm) (N : Nat) (all : List Oper) (n : Nat) (g : EF) (h : HF) : List Rec → Prop
  | [] => True
  | r :: rs => Good P I N all n g h rs ∧ r.lo = nx n rs ∧ ∃ o, all[r.i]? = some o ∧ o.dst = r.dst ∧ (∀ d, r.dst = some d → d < N) ∧ (∀ e ∈ o.after.toList, bindsA e = true → ∃ q ∈ rs, q.i = e.on) ∧
      Did P I N all o (looks (eF allS g rs) r.tm) (seen r.rd (hF allS h rs)) r.v r.wr r.lo r.hi

theorem Good.nx {N n : Nat} {all : List Oper} {g : EF} {h : HF} : ∀ {l : List Rec}, Good P I N all n g h l → n ≤ nx n l
  | [], _ => Nat.le_refl _
  | r :: rs, ⟨h1, h2, o, _, _, _, _, h3⟩ => by
    have := Good.nx h1
    have := h3.le
    simp only [Go.Sh.nx]
    omega
theorem Good.range {N n : Nat} {all : List Oper} {g : EF} {h : HF} : ∀ {l : List Rec}, Good P I N all n g h l → ∀ q ∈ l, n ≤ q.lo ∧ q.lo ≤ q.hi ∧ q.hi ≤ Go.Sh.nx n l
  | [], _, q, hq => by simp at hq
  | r :: rs, ⟨h1, h2, o, _, _, _, _, h3⟩, q, hq => by
    have h4 := h1.nx
    have h5 := h3.le
    rcases List.mem_cons.1 hq with rfl | hq
    · simp only [Go.Sh.nx]; omega
    · have := Good.range h1 q hq
      simp only [Go.Sh.nx]; omega
theorem Good.app {N n : Nat} {all : List Oper} {g : EF} {h : HF} : ∀ {l m : List Rec}, Good P I N all n g h (l ++ m) → Good P I N all n g h m
  | [], _, hg => hg
  | _ :: l, m, hg => Good.app (l := l) hg.1
theorem Good.newer {N n : Nat} {all : List Oper} {g : EF} {h : HF} {r : Rec} {m : List Rec} : ∀ {l : List Rec}, Good P I N all n g h (l ++ r :: m) → ∀ q ∈ l, r.hi ≤ q.lo
  | [], _, q, hq => by simp at hq
  | x :: l, ⟨h1, h2, o, _, _, _, _, h3⟩, q, hq => by
    rcases List.mem_cons.1 hq with rfl | hq
    · rw [h2]
      have := Good.range h1 r (by simp)
      omega
    · exact Good.newer h1 q hq
/-- Blocks are old ones, or of the new ids. -/
theorem Good.dom {N n : Nat} {all : List Oper} {g : EF} {h : HF} {b : Nat} {o : SObj} : ∀ {l : List Rec}, Good P I N all n g h l → hF allS h l b = some o → (∃ x, h b = some x) ∨ (n ≤ b ∧ b < Go.Sh.nx n l)
  | [], _, hb => .inl ⟨o, hb⟩
  | r :: rs, ⟨h1, h2, o', _, _, _, _, h3⟩, hb => by
    have h4 := h1.nx
    have h5 := h3.le
    have old : ∀ x, hF allS h rs b = some x → (∃ x, h b = some x) ∨ (n ≤ b ∧ b < Go.Sh.nx n (r :: rs)) := fun x hx => by
      rcases Good.dom h1 hx with h6 | h6
      · exact .inl h6
      · exact .inr (by simp only [Go.Sh.nx] at *; omega)
    simp only [hF, cond_true] at hb
    cases e : hits b r.wr
    · rw [puts_off e] at hb; exact old o hb
    · rcases h3.ids b e with ⟨x, hx⟩ | hx
      · exact old x (seen_le hx)
      · exact .inr (by simp only [Go.Sh.nx]; omega)
end
end Go.Sh
