/-
  Regions that draw their order: the frame of an operation, folds over the records of operations done.
-/
import Derived.Test.YtigomjcmpafeeaaSk9
set_option linter.unusedSimpArgs false
set_option linter.unusedVariables false
namespace Go.Sh
open Go

section
variable {α : Type} {P : Program} {I : Imm}

def hits (b : Nat) (l : List (Nat × SObj)) : Bool := l.any fun x => Nat.beq x.1 b
theorem puts_off {h : HF} {l : List (Nat × SObj)} {b : Nat} (hb : hits b l = false) : putsH h l b = h b := by
  induction l with
  | nil => rfl
  | cons x l ih =>
    simp only [hits, List.any_cons, Bool.or_eq_false_iff] at hb
    have hne : b ≠ x.1 := fun e => by rw [e, Nat.beq_refl] at hb; simp at hb
    rw [putsH, putH_other hne]
    exact ih hb.2
theorem puts_on {h h' : HF} {l : List (Nat × SObj)} {b : Nat} (hb : hits b l = true) : putsH h l b = putsH h' l b := by
  induction l with
  | nil => simp [hits] at hb
  | cons x l ih =>
    by_cases e : b = x.1
    · subst e; simp only [putsH, putH_same]
    · simp only [putsH, putH_other e]
      refine ih ?_
      simp only [hits, List.any_cons, Bool.or_eq_true] at hb
      rcases hb with hb | hb
      · exact absurd (Nat.eq_of_beq_eq_true hb).symm e
      · exact hb

theorem EnvOk.less {N : Nat} {ρ : Nat → Pl} {D : Nat → Prop} {g g' : EF} {a : Act} (h : EnvOk I N ρ D g a) (hg : ∀ t v, g' t = some v → g t = some v) : EnvOk I N ρ D g' a :=
  ⟨h.size, h.defers, fun t v ht => h.env t v (hg t v ht)⟩
theorem HRel.less {ρ : Nat → Pl} {D : Nat → Prop} {h h' : HF} {w : World} (g : HRel I ρ D h w) (hh : ∀ b o, h' b = some o → h b = some o) : HRel I ρ D h' w :=
  ⟨⟨fun b o hb => g.wf.dom b o (hh b o hb)⟩, fun b o hb => g.obj b o (hh b o hb), fun b o b' o' hb hb' => g.inj b o b' o' (hh b o hb) (hh b' o' hb'), g.imm, fun b o hb => g.off b o (hh b o hb)⟩

/-- **THE FRAME**: what ran beside more memory leaves that as it was. -/
theorem frame {ρ ρ' : Nat → Pl} {D : Nat → Prop} {lo hi : Nat} {h hr : HF} {l : List (Nat × SObj)} {w w' : World} (hh : HRel I ρ D h w) (hle : ∀ b o, hr b = some o → h b = some o)
    (hx : Ext ρ D hr w ρ' (plus D lo hi) (putsH hr l) w') (hh' : HRel I ρ' (plus D lo hi) (putsH hr l) w') :
    HRel I ρ' (plus D lo hi) (putsH h l) w' ∧ Ext ρ D h w ρ' (plus D lo hi) (putsH h l) w' := by
  -- a block of the whole is one that the run saw, or one that it did not
  have parts : ∀ b o, putsH h l b = some o → putsH hr l b = some o ∨ (putsH hr l b = none ∧ hr b = none ∧ h b = some o) := by
    intro b o hb
    cases e : hits b l
    · rw [puts_off e] at hb ⊢
      cases e2 : hr b with
      | none => exact .inr ⟨rfl, rfl, hb⟩
      | some o2 => exact .inl (by rw [hle b o2 e2] at hb; exact hb)
    · exact .inl (by rw [puts_on (h' := h) e]; exact hb)
  have keep : ∀ b o, hr b = none → h b = some o → w'.heap[(ρ b).blk]? = w.heap[(ρ b).blk]? := fun b o e1 e2 =>
    hx.frame _ (hh.obj b o e2).lt fun c oc hc e => by
      have := hh.inj c oc b o (hle c oc hc) e2 e
      subst this
      rw [e1] at hc; cases hc
  have agr : ∀ b o, h b = some o → ρ' b = ρ b := fun b o hb => hx.agree b (hh.wf.dom b o hb).1
  have mix : ∀ b o b' o', putsH hr l b = some o → hr b' = none → h b' = some o' → (ρ' b).blk = (ρ' b').blk → False := fun b o b' o' h1 h2 h3 e => by
    rw [agr b' o' h3] at e
    have hlt := (hh.obj b' o' h3).lt
    rcases hx.img b o h1 with h4 | ⟨b0, o0, h5, h6⟩
    · omega
    · have := hh.inj b0 o0 b' o' (hle b0 o0 h5) h3 (h6.trans e)
      subst this
      rw [h2] at h5; cases h5
  refine ⟨⟨⟨fun b o hb => ?_⟩, fun b o hb => ?_, fun b o b' o' hb hb' e => ?_, hh'.imm, fun b o hb => ?_⟩, ⟨hx.le, hx.agree, hx.os, hx.tape, hx.output, hx.size, fun i hi hn => hx.frame i hi fun b o hb => hn b o (hle b o hb), fun b o hb => ?_⟩⟩
  · rcases parts b o hb with h1 | ⟨_, _, h3⟩
    · exact hh'.wf.dom b o h1
    · exact ⟨.inl (hh.wf.dom b o h3).1, (hh.wf.dom b o h3).2.mono fun c hc => .inl hc⟩
  · rcases parts b o hb with h1 | ⟨_, h2, h3⟩
    · exact hh'.obj b o h1
    · exact ObjAt.congr (I := I) (hh.obj b o h3) (hh.wf.dom b o h3).2 hx.agree (hh.wf.dom b o h3).1 (keep b o h2 h3)
  · rcases parts b o hb with h1 | ⟨_, h2, h3⟩ <;> rcases parts b' o' hb' with h1' | ⟨_, h2', h3'⟩
    · exact hh'.inj b o b' o' h1 h1' e
    · exact (mix b o b' o' h1 h2' h3' e).elim
    · exact (mix b' o' b o h1' h2 h3 e.symm).elim
    · rw [agr b o h3, agr b' o' h3'] at e
      exact hh.inj b o b' o' h3 h3' e
  · rcases parts b o hb with h1 | ⟨_, _, h3⟩
    · exact hh'.off b o h1
    · rw [agr b o h3]; exact hh.off b o h3
  · rcases parts b o hb with h1 | ⟨_, _, h3⟩
    · rcases hx.img b o h1 with h4 | ⟨b0, o0, h5, h6⟩
      · exact .inl h4
      · exact .inr ⟨b0, o0, hle b0 o0 h5, h6⟩
    · exact .inr ⟨b, o, h3, by rw [agr b o h3]⟩

/-! ### Records -/
/-- What an operation did: its place in the region, its temporary, its value, what it wrote, its new ids, the blocks that it read (none: all), the temporaries that it looked at. -/
structure Rec where
  i : Nat
  dst : Option Nat
  v : SV
  wr : List (Nat × SObj)
  lo : Nat
  hi : Nat
  rd : Option (List Nat)
  tm : List Nat

def setD (d : Option Nat) (t : Nat) : Bool := match d with | some d => Nat.beq d t | none => false
def Rec.sets (r : Rec) (t : Nat) : Bool := setD r.dst t
def eF (s : Nat → Bool) (g : EF) : List Rec → EF
  | [] => g
  | r :: rs => fun t => bif s r.i && r.sets t then some r.v else eF s g rs t
def hF (s : Nat → Bool) (h : HF) : List Rec → HF
  | [] => h
  | r :: rs => bif s r.i then putsH (hF s h rs) r.wr else hF s h rs
def dF (s : Nat → Bool) (D : Nat → Prop) (rs : List Rec) : Nat → Prop := fun c => D c ∨ ∃ r ∈ rs, s r.i = true ∧ r.lo ≤ c ∧ c < r.hi

abbrev allS : Nat → Bool := fun _ => true
abbrev addS (s : Nat → Bool) (i : Nat) : Nat → Bool := fun j => s j || Nat.beq i j

theorem eF_congr {s s' : Nat → Bool} {g : EF} {t : Nat} : ∀ {l : List Rec}, (∀ q ∈ l, q.sets t = true → s q.i = s' q.i) → eF s g l t = eF s' g l t
  | [], _ => rfl
  | r :: rs, h => by
    simp only [eF]
    rw [eF_congr (l := rs) fun q hq => h q (List.mem_cons_of_mem _ hq)]
    cases e : r.sets t
    · simp
    · rw [h r (by simp) e]
theorem eF_skip {s : Nat → Bool} {g : EF} {t : Nat} {m : List Rec} : ∀ {l : List Rec}, (∀ q ∈ l, q.sets t = true → s q.i = false) → eF s g (l ++ m) t = eF s g m t
  | [], _ => rfl
  | r :: rs, h => by
    simp only [List.cons_append, eF]
    rw [eF_skip (l := rs) fun q hq => h q (List.mem_cons_of_mem _ hq)]
    cases e : r.sets t
    · simp
    · rw [h r (by simp) e]; simp
theorem hF_congr {s s' : Nat → Bool} {g : HF} {b : Nat} : ∀ {l : List Rec}, (∀ q ∈ l, hits b q.wr = true → s q.i = s' q.i) → hF s g l b = hF s' g l b
  | [], _ => rfl
  | r :: rs, h => by
    have ih := hF_congr (s := s) (s' := s') (g := g) (l := rs) fun q hq => h q (List.mem_cons_of_mem _ hq)
    simp only [hF]
    cases e : hits b r.wr
    · cases s r.i <;> cases s' r.i <;> simp only [cond_true, cond_false, puts_off e, ih]
    · rw [h r (by simp) e]
      cases s' r.i
      · simp only [cond_false, ih]
      · simp only [cond_true]; exact puts_on e
theorem hF_skip {s : Nat → Bool} {g : HF} {b : Nat} {m : List Rec} : ∀ {l : List Rec}, (∀ q ∈ l, hits b q.wr = true → s q.i = false) → hF s g (l ++ m) b = hF s g m b
  | [], _ => rfl
  | r :: rs, h => by
    have ih := hF_skip (s := s) (g := g) (m := m) (l := rs) fun q hq => h q (List.mem_cons_of_mem _ hq)
    simp only [List.cons_append, hF]
    cases e : hits b r.wr
    · cases s r.i <;> simp only [cond_true, cond_false, puts_off e, ih]
    · rw [h r (by simp) e]; exact ih
end
end Go.Sh
