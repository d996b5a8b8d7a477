/-
  Regions that draw their order: one operation in any order; the whole region.
-/
import Derived.Test.YtigomjcmpafeeaaSk12
set_option linter.unusedSimpArgs false
set_option linter.unusedVariables false
namespace Go.Sh
open Go

section
variable {α : Type} {P : Program} {I : Imm}

theorem okAll_older {M : List Nat} {r : Rec} {m : List Rec} : ∀ {l : List Rec}, okAll M (l ++ r :: m) = true → ∀ q ∈ m, okPair M q r = true
  | [], h, q, hq => by simp only [List.nil_append, okAll, Bool.and_eq_true, List.all_eq_true] at h; exact h.1 q hq
  | x :: l, h, q, hq => by simp only [List.cons_append, okAll, Bool.and_eq_true] at h; exact okAll_older h.2 q hq
theorem okAll_newer {M : List Nat} {r : Rec} {m : List Rec} : ∀ {l : List Rec}, okAll M (l ++ r :: m) = true → ∀ q ∈ l, okPair M r q = true
  | [], _, q, hq => by simp at hq
  | x :: l, h, q, hq => by
    simp only [List.cons_append, okAll, Bool.and_eq_true, List.all_eq_true] at h
    rcases List.mem_cons.1 hq with rfl | hq
    · exact h.1 r (by simp)
    · exact okAll_newer h.2 q hq
theorem okPair_ne {M : List Nat} {q r : Rec} (h : okPair M q r = true) : q.i ≠ r.i := fun e => by
  simp only [okPair, e, Nat.beq_refl, Bool.not_true, Bool.false_and] at h; cases h
theorem okPair_bit {M : List Nat} {q r : Rec} (h : okPair M q r = true) (hc : conf q r = true) : (M.getD r.i 0).testBit q.i = true := by
  simp only [okPair, hc, Bool.not_true, Bool.false_or, Bool.and_eq_true] at h; exact h.2
theorem Good.op {N n : Nat} {all : List Oper} {g : EF} {h : HF} : ∀ {l : List Rec}, Good P I N all n g h l → ∀ q ∈ l, ∃ o, all[q.i]? = some o
  | [], _, q, hq => by simp at hq
  | r :: rs, ⟨h1, _, o, h2, _⟩, q, hq => by
    rcases List.mem_cons.1 hq with rfl | hq
    · exact ⟨o, h2⟩
    · exact Good.op h1 q hq

/-- How things stand when the operations of s are done. -/
def JJ (I : Imm) (N : Nat) (recs : List Rec) (g : EF) (h : HF) (ρ0 : Nat → Pl) (D0 : Nat → Prop) (w0 : World) (s : Nat → Bool) (a : Act) (w : World) : Prop :=
  ∃ ρ, EnvOk I N ρ (dF s D0 recs) (eF s g recs) a ∧ HRel I ρ (dF s D0 recs) (hF s h recs) w ∧ Ext ρ0 D0 h w0 ρ (dF s D0 recs) (hF s h recs) w

theorem sets_spec {r : Rec} {t : Nat} (h : r.sets t = true) : r.dst = some t := by
  unfold Rec.sets setD at h
  split at h
  · rename_i d hd; rw [hd, Nat.eq_of_beq_eq_true h]
  · cases h

theorem hits_spec {b : Nat} {l : List (Nat × SObj)} (h : hits b l = true) : ∃ x ∈ l, x.1 = b := by
  simp only [hits, List.any_eq_true] at h
  obtain ⟨x, hx, e⟩ := h
  exact ⟨x, hx, Nat.eq_of_beq_eq_true e⟩

theorem step_any {N n : Nat} {all : List Oper} {g : EF} {h : HF} {M : List Nat} {newer older : List Rec} {r : Rec} {o : Oper} {ρ0 : Nat → Pl} {D0 : Nat → Prop} {w0 : World}
    (hgood : Good P I N all n g h (newer ++ r :: older)) (hok : okAll M (newer ++ r :: older) = true) (hM : MaskOk all M) (hfr : free D0 n (nx n (newer ++ r :: older))) (hdom : ∀ b x, h b = some x → D0 b)
    {s : Nat → Bool} (hcl : Closed all s) (ho : all[r.i]? = some o) (hs : s r.i = false) (hpre : ∀ e ∈ o.after.toList, bindsA e = true → s e.on = true)
    {a : Act} {w : World} (hJ : JJ I N (newer ++ r :: older) g h ρ0 D0 w0 s a w) {K : Act → World → Prop} {Q : Exit → Act → World → Prop}
    (hK : ∀ a' w', JJ I N (newer ++ r :: older) g h ρ0 D0 w0 (addS s r.i) a' w' → K a' w') :
    if Region.wanted o (yielded all.toArray a.tmps) then o.wp P a w K Q else K (a.put o.dst undef) w := by
  obtain ⟨ρ, he, hh, hx0⟩ := hJ
  obtain ⟨hg1, hlo, o', ho', hdst, hdN, _, hdid⟩ := hgood.app
  rw [ho] at ho'; cases ho'
  have rng := hgood.range
  have rngr := rng r (by simp)
  -- what meddles is ordered
  have old : ∀ q ∈ older, conf q r = true → s q.i = true := fun q hq hc => hM r.i o ho s hcl hpre q.i (okPair_bit (okAll_older hok q hq) hc)
  have new : ∀ q ∈ newer, conf r q = true → s q.i = false := fun q hq hc => by
    cases e : s q.i
    · rfl
    · obtain ⟨oq, hoq⟩ := hgood.op q (by simp [hq])
      have := hM q.i oq hoq s hcl (hcl q.i oq hoq e) r.i (okPair_bit (okAll_newer hok q hq) hc)
      rw [hs] at this; cases this
  have neOld : ∀ q ∈ older, q.i ≠ r.i := fun q hq => okPair_ne (okAll_older hok q hq)
  have neNew : ∀ q ∈ newer, q.i ≠ r.i := fun q hq e => okPair_ne (okAll_newer hok q hq) e.symm
  have add_ne : ∀ q : Rec, q.i ≠ r.i → addS s r.i q.i = s q.i := fun q hq => by
    have : Nat.beq r.i q.i = false := by cases e : Nat.beq r.i q.i; rfl; exact absurd (Nat.eq_of_beq_eq_true e).symm hq
    simp [addS, this]
  have add_r : addS s r.i r.i = true := by simp [addS]
  -- what it looks at is as it was
  have A1 : ∀ t v, looks (eF allS g older) r.tm t = some v → eF s g (newer ++ r :: older) t = some v := fun t v ht => by
    unfold looks at ht
    cases e : inL t r.tm <;> rw [e] at ht
    · cases ht
    · simp only [cond_true] at ht
      rw [eF_skip fun q hq hq2 => new q hq (by simp [conf, confE, Rec.sets, setD, sets_spec hq2, e])]
      simp only [eF, hs, Bool.false_and, cond_false]
      rw [eF_congr (s' := allS) fun q hq hq2 => old q hq (by simp [conf, confE, Rec.sets, setD, sets_spec hq2, e])]
      exact ht
  have A2 : ∀ b x, seen r.rd (hF allS h older) b = some x → hF s h (newer ++ r :: older) b = some x := fun b x hb => by
    have hb2 := seen_le hb
    rw [hF_skip fun q hq hq2 => new q hq ?_]
    · simp only [hF, hs, cond_false]
      rw [hF_congr (s' := allS) fun q hq hq2 => old q hq ?_]
      · exact hb2
      · obtain ⟨y, hy, rfl⟩ := hits_spec hq2
        have : (q.wr.any fun x => rdOld r.rd x.1) = true := by
          rw [List.any_eq_true]
          refine ⟨y, hy, ?_⟩
          cases hrd : r.rd with
          | none => simp [rdOld]
          | some l => rw [hrd] at hb; exact (restH_get hb).1
        simp only [conf, confD, this, Bool.or_true, Bool.true_or]
    · obtain ⟨y, hy, rfl⟩ := hits_spec hq2
      have : (q.wr.any fun x => rdNew r.rd r.hi q.hi x.1) = true := by
        rw [List.any_eq_true]
        refine ⟨y, hy, ?_⟩
        cases hrd : r.rd with
        | some l => rw [hrd] at hb; exact (restH_get hb).1
        | none =>
          simp only [rdNew, Bool.not_eq_true', Bool.and_eq_false_iff]
          have hqr := rng q (by simp [hq])
          have hnx : r.lo = nx n older := hlo
          rcases hg1.dom hb2 with ⟨z, hz⟩ | hz
          · have := hfr y.1 
            cases e1 : Nat.ble r.hi y.1
            · exact .inl rfl
            · cases e2 : Nat.blt y.1 q.hi
              · exact .inr rfl
              · have e1' := Nat.le_of_ble_eq_true e1
                have e2' : y.1 < q.hi := by simpa using e2
                exact absurd (hdom _ _ hz) (this (by omega) (by omega))
          · cases e1 : Nat.ble r.hi y.1
            · exact .inl rfl
            · have e1' := Nat.le_of_ble_eq_true e1
              omega
      simp only [conf, confD, this, Bool.or_true, Bool.true_or]
  have A3 : free (dF s D0 (newer ++ r :: older)) r.lo r.hi := fun c h1 h2 h3 => by
    rcases h3 with h3 | ⟨q, hq, h4, h5, h6⟩
    · exact hfr c (by omega) (by omega) h3
    · rcases List.mem_append.1 hq with hq | hq
      · have := hgood.newer q hq; omega
      · rcases List.mem_cons.1 hq with rfl | hq
        · rw [hs] at h4; cases h4
        · have := hg1.range q hq; omega
  have A4 : ∀ t, eF (addS s r.i) g (newer ++ r :: older) t = bif r.sets t then some r.v else eF s g (newer ++ r :: older) t := fun t => by
    cases e : r.sets t
    · simp only [cond_false]
      refine eF_congr fun q hq hq2 => add_ne q ?_
      rcases List.mem_append.1 hq with hq | hq
      · exact neNew q hq
      · rcases List.mem_cons.1 hq with rfl | hq
        · rw [e] at hq2; cases hq2
        · exact neOld q hq
    · rw [eF_skip fun q hq hq2 => (add_ne q (neNew q hq)).trans (new q hq (by simp [conf, confE, sets_spec hq2, setD, sets_spec e]))]
      simp only [eF, add_r, e, Bool.true_and, cond_true]
  have A5 : hF (addS s r.i) h (newer ++ r :: older) = putsH (hF s h (newer ++ r :: older)) r.wr := by
    funext b
    cases e : hits b r.wr
    · rw [puts_off e]
      refine hF_congr fun q hq hq2 => add_ne q ?_
      rcases List.mem_append.1 hq with hq | hq
      · exact neNew q hq
      · rcases List.mem_cons.1 hq with rfl | hq
        · rw [e] at hq2; cases hq2
        · exact neOld q hq
    · rw [hF_skip fun q hq hq2 => (add_ne q (neNew q hq)).trans (new q hq ?_)]
      · simp only [hF, add_r, cond_true]
        exact puts_on e
      · obtain ⟨y, hy, hyb⟩ := hits_spec e
        have : (r.wr.any fun x => hits x.1 q.wr) = true := by rw [List.any_eq_true]; exact ⟨y, hy, by rw [hyb]; exact hq2⟩
        simp only [conf, confD, this, Bool.or_true]
  have A6 : dF (addS s r.i) D0 (newer ++ r :: older) = plus (dF s D0 (newer ++ r :: older)) r.lo r.hi := by
    funext c
    simp only [dF, plus, eq_iff_iff]
    constructor
    · rintro (h1 | ⟨q, hq, h2, h3⟩)
      · exact .inl (.inl h1)
      · by_cases e : q.i = r.i
        · have : q = r := by
            rcases List.mem_append.1 hq with hq | hq
            · exact absurd e (neNew q hq)
            · rcases List.mem_cons.1 hq with rfl | hq
              · rfl
              · exact absurd e (neOld q hq)
          subst this
          exact .inr h3
        · rw [add_ne q e] at h2
          exact .inl (.inr ⟨q, hq, h2, h3⟩)
    · rintro ((h1 | ⟨q, hq, h2, h3⟩) | h1)
      · exact .inl h1
      · exact .inr ⟨q, hq, by simp [addS, h2], h3⟩
      · exact .inr ⟨r, by simp, add_r, h1⟩
  have close : ∀ ρ' w', EnvOk I N ρ' (plus (dF s D0 (newer ++ r :: older)) r.lo r.hi) (eF s g (newer ++ r :: older)) a → Wf I (plus (dF s D0 (newer ++ r :: older)) r.lo r.hi) r.v →
      HRel I ρ' (plus (dF s D0 (newer ++ r :: older)) r.lo r.hi) (putsH (hF s h (newer ++ r :: older)) r.wr) w' → Ext ρ (dF s D0 (newer ++ r :: older)) (hF s h (newer ++ r :: older)) w ρ' (plus (dF s D0 (newer ++ r :: older)) r.lo r.hi) (putsH (hF s h (newer ++ r :: older)) r.wr) w' →
      K (a.put o.dst (val ρ' r.v)) w' := by
    intro ρ' w' he' hv hh' hx
    refine hK _ _ ⟨ρ', ?_, by rw [A5, A6]; exact hh', by rw [A5, A6]; exact hx0.trans hx⟩
    rw [A6, hdst]
    cases hd : r.dst with
    | none =>
      refine he'.less fun t v ht => ?_
      rw [A4] at ht
      simpa [Rec.sets, setD, hd] using ht
    | some d =>
      refine (he'.put (hdN d hd) hv).less fun t v ht => ?_
      rw [A4] at ht
      simpa [Rec.sets, setD, hd, putE] using ht
  rcases hdid.run ρ _ a w (he.less A1) (hh.less A2) A3 with ⟨hw, hrun⟩ | ⟨hw, hv, hwr, hhi⟩
  · rw [if_pos hw]
    refine hrun _ _ fun ρ' w' hx hh' hv => ?_
    obtain ⟨f1, f2⟩ := frame hh A2 hx hh'
    exact close ρ' w' (he.ext f2.le f2.agree) hv f1 f2
  · rw [if_neg (by rw [hw]; simp)]
    have hlh : r.hi = r.lo := hhi
    have := close ρ w (by rw [hlh, plus_same]; exact he) (by rw [hv]; simp [Wf, Wfs]) (by rw [hlh, plus_same, hwr]; exact hh) (by rw [hlh, plus_same, hwr]; exact Ext.refl _ _ _ _)
    rw [hv] at this
    exact this
end
end Go.Sh
