/-
  Regions that draw their order: the evaluation, and that it holds in every order.
-/
import Derived.Test.YtigomjcmpafeeaaSk13
set_option linter.unusedSimpArgs false
set_option linter.unusedVariables false
namespace Go.Sh
open Go

section
variable {α : Type} {P : Program} {I : Imm}

abbrev sOf (listed : Array Bool) : Nat → Bool := fun i => listed.getD i false

theorem eF_none {g : EF} {l : List Rec} : eF (fun _ => false) g l = g := by
  funext t
  have := eF_skip (s := fun _ => false) (g := g) (t := t) (m := []) (l := l) (fun _ _ _ => rfl)
  simpa [eF] using this
theorem hF_none {h : HF} {l : List Rec} : hF (fun _ => false) h l = h := by
  funext b
  have := hF_skip (s := fun _ => false) (g := h) (b := b) (m := []) (l := l) (fun _ _ _ => rfl)
  simpa [hF] using this
theorem dF_none {D : Nat → Prop} {l : List Rec} : dF (fun _ => false) D l = D := by
  funext c; simp [dF]
theorem dF_all {N n : Nat} {all : List Oper} {g : EF} {h : HF} {D : Nat → Prop} : ∀ {l : List Rec}, Good P I N all n g h l → dF allS D l = plus D n (nx n l)
  | [], _ => by rw [nx, plus_same]; funext c; simp [dF]
  | r :: rs, ⟨h1, h2, o, _, _, _, _, h3⟩ => by
    have ih := dF_all (D := D) h1
    have e : dF allS D (r :: rs) = plus (dF allS D rs) r.lo r.hi := by
      funext c
      simp only [dF, plus, eq_iff_iff, List.mem_cons]
      constructor
      · rintro (h4 | ⟨q, rfl | hq, h5, h6⟩)
        · exact .inl (.inl h4)
        · exact .inr h6
        · exact .inl (.inr ⟨q, hq, trivial, h6⟩)
      · rintro ((h4 | ⟨q, hq, h5, h6⟩) | h4)
        · exact .inl h4
        · exact .inr ⟨q, .inr hq, trivial, h6⟩
        · exact .inr ⟨r, .inl rfl, trivial, h4⟩
    have := h3.le
    rw [e, ih, h2, plus_plus h1.nx (by omega)]
    rfl

theorem any_all {N n : Nat} {all : List Oper} {g : EF} {h : HF} {M : List Nat} {recs : List Rec} {ρ0 : Nat → Pl} {D0 : Nat → Prop} {w0 : World}
    (hgood : Good P I N all n g h recs) (hok : okAll M recs = true) (hM : MaskOk all M) (hcov : ∀ i, i < all.length → ∃ r ∈ recs, r.i = i) (hfr : free D0 n (nx n recs)) (hdom : ∀ b x, h b = some x → D0 b)
    {Q : Exit → Act → World → Prop} (hQ : ∀ a w, JJ I N recs g h ρ0 D0 w0 allS a w → Q .normal a w) :
    ∀ (fuel : Nat) (listed : Array Bool) (a : Act) (w : World), listed.size = all.length → ((List.range all.length).filter fun i => !listed.getD i true).length ≤ fuel → Closed all (sOf listed) →
      JJ I N recs g h ρ0 D0 w0 (sOf listed) a w → wpAny P .any all.toArray Q fuel listed a w := by
  have done : ∀ (listed : Array Bool) (a : Act) (w : World), listed.size = all.length → JJ I N recs g h ρ0 D0 w0 (sOf listed) a w → Region.ready .any all.toArray listed = [] → Q .normal a w := by
    intro listed a w hsz hJ hr
    have hall : ∀ l, (∃ m, recs = m ++ l) → ∀ q ∈ l, sOf listed q.i = true := by
      intro l
      induction l with
      | nil => intro _ q hq; simp at hq
      | cons r rs ih =>
        rintro ⟨m, rfl⟩ q hq
        have ih' := ih ⟨m ++ [r], by simp⟩
        rcases List.mem_cons.1 hq with rfl | hq
        · obtain ⟨_, _, o, ho, _, _, hpre, _⟩ := hgood.app
          cases e : sOf listed q.i
          · exfalso
            have hlt : q.i < listed.size := by rw [hsz]; exact (List.getElem?_eq_some_iff.1 ho).1
            have hin : q.i ∈ Region.ready .any all.toArray listed := by
              refine mem_ready.2 ⟨?_, o, by simpa using ho, fun e he hb => ?_⟩
              · simp only [sOf, Array.getD_eq_getD_getElem?] at e ⊢
                simp only [hlt, getElem?_pos, Option.getD_some] at e ⊢
                exact e
              · obtain ⟨q', hq', e'⟩ := hpre e (by simpa using he) hb
                have := ih' q' hq'
                rw [e'] at this
                exact this
            rw [hr] at hin; cases hin
          · rfl
        · exact ih' q hq
    have hsel := hall recs ⟨[], rfl⟩
    obtain ⟨ρ, he, hh, hx⟩ := hJ
    have e1 : eF (sOf listed) g recs = eF allS g recs := by funext t; exact eF_congr fun q hq _ => hsel q hq
    have e2 : hF (sOf listed) h recs = hF allS h recs := by funext t; exact hF_congr fun q hq _ => hsel q hq
    have e3 : dF (sOf listed) D0 recs = dF allS D0 recs := by
      funext c; simp only [dF, eq_iff_iff]
      constructor
      · rintro (h1 | ⟨q, hq, _, h2⟩)
        · exact .inl h1
        · exact .inr ⟨q, hq, trivial, h2⟩
      · rintro (h1 | ⟨q, hq, _, h2⟩)
        · exact .inl h1
        · exact .inr ⟨q, hq, hsel q hq, h2⟩
    rw [e1, e3] at he
    rw [e2, e3] at hh hx
    exact hQ a w ⟨ρ, he, hh, hx⟩
  intro fuel
  induction fuel with
  | zero =>
    intro listed a w hsz hf hcl hJ
    have hr : Region.ready .any all.toArray listed = [] := by
      cases e : Region.ready .any all.toArray listed with
      | nil => rfl
      | cons x xs =>
        exfalso
        have hx : x ∈ Region.ready .any all.toArray listed := by rw [e]; simp
        obtain ⟨h1, o, h2, _⟩ := mem_ready.1 hx
        have hlt : x < all.length := by have := (Array.getElem?_eq_some_iff.1 h2).1; simpa using this
        have : x ∈ (List.range all.length).filter fun i => !listed.getD i true := by
          rw [List.mem_filter]; exact ⟨List.mem_range.2 hlt, by rw [h1]; rfl⟩
        have hnil : (List.range all.length).filter (fun i => !listed.getD i true) = [] := List.eq_nil_of_length_eq_zero (by omega)
        rw [hnil] at this; cases this
    exact ⟨hr, done listed a w hsz hJ hr⟩
  | succ fuel ih =>
    intro listed a w hsz hf hcl hJ
    refine ⟨done listed a w hsz hJ, fun i hi => ?_⟩
    obtain ⟨h1, o, h2, h3⟩ := mem_ready.1 hi
    have ho : all[i]? = some o := by simpa using h2
    have hlt := (List.getElem?_eq_some_iff.1 ho).1
    have hls : i < listed.size := by omega
    obtain ⟨r, hr, rfl⟩ := hcov i hlt
    obtain ⟨newer, older, rfl⟩ := List.append_of_mem hr
    have hs : sOf listed r.i = false := by
      simp only [sOf, Array.getD_eq_getD_getElem?] at h1 ⊢
      simp only [hls, getElem?_pos, Option.getD_some] at h1 ⊢
      exact h1
    have hset : sOf (listed.setIfInBounds r.i true) = addS (sOf listed) r.i := by
      funext j
      simp only [sOf, addS, Array.getD_eq_getD_getElem?]
      by_cases e : r.i = j
      · subst e; simp [hls]
      · have : Nat.beq r.i j = false := by cases e2 : Nat.beq r.i j; rfl; exact absurd (Nat.eq_of_beq_eq_true e2) e
        rw [Array.getElem?_setIfInBounds_ne e, this]; simp
    have hpre : ∀ e ∈ o.after.toList, bindsA e = true → sOf listed e.on = true := fun e he hb => h3 e (by simpa using he) hb
    have hcl' : Closed all (sOf (listed.setIfInBounds r.i true)) := by
      rw [hset]
      intro j oj hoj hj e he hb
      simp only [addS, Bool.or_eq_true] at hj ⊢
      rcases hj with hj | hj
      · exact .inl (hcl j oj hoj hj e he hb)
      · have := Nat.eq_of_beq_eq_true hj
        subst this
        rw [ho] at hoj; cases hoj
        exact .inl (hpre e he hb)
    have hcnt : ((List.range all.length).filter fun j => !(listed.setIfInBounds r.i true).getD j true).length ≤ fuel := by
      have e : ((List.range all.length).filter fun j => !(listed.setIfInBounds r.i true).getD j true) = (((List.range all.length).filter fun j => !listed.getD j true).filter fun j => !Nat.beq r.i j) := by
        rw [List.filter_filter]
        congr 1
        funext j
        by_cases e : r.i = j
        · subst e; simp [hls]
        · have : Nat.beq r.i j = false := by cases e2 : Nat.beq r.i j; rfl; exact absurd (Nat.eq_of_beq_eq_true e2) e
          rw [getD_set_ne true e, this]; simp
      rw [e]
      have hlt2 : (((List.range all.length).filter fun j => !listed.getD j true).filter fun j => !Nat.beq r.i j).length < ((List.range all.length).filter fun j => !listed.getD j true).length := by
        rw [List.length_filter_lt_length_iff_exists]
        exact ⟨r.i, by rw [List.mem_filter]; exact ⟨List.mem_range.2 hlt, by rw [h1]; rfl⟩, by simp⟩
      omega
    have st := step_any hgood hok hM hfr hdom hcl ho hs hpre hJ (K := wpAny P .any all.toArray Q fuel (listed.setIfInBounds r.i true)) (Q := Q) fun a' w' hJ' =>
      ih _ a' w' (by simpa using hsz) hcnt hcl' (by rw [hset]; exact hJ')
    unfold wpOp
    simp only [h2]
    by_cases hw : Region.wanted o (yielded all.toArray a.tmps) = true
    · rw [if_pos hw] at st ⊢; exact .inl st
    · rw [if_neg hw] at st ⊢; exact st
end
end Go.Sh
