/-
  Partitions, plainly: the check.
-/
import Derived.Test.YtgagmgcljkhboaaSpC24b
set_option linter.unusedSimpArgs false
set_option linter.unusedVariables false
namespace Go.Sh
open Go

/-! ### The first that is so -/
noncomputable def firstN (P : Nat → Prop) (n : Nat) : Option Nat := @dite _ (∃ g, g < n ∧ P g ∧ ∀ i, i < g → ¬ P i) (Classical.propDecidable _) (fun h => some (Classical.choose h)) (fun _ => none)
theorem firstN_some {P : Nat → Prop} {n g : Nat} (h1 : g < n) (h2 : P g) (h3 : ∀ i, i < g → ¬ P i) : firstN P n = some g := by
  unfold firstN
  have h : ∃ g, g < n ∧ P g ∧ ∀ i, i < g → ¬ P i := ⟨g, h1, h2, h3⟩
  rw [dif_pos h]
  obtain ⟨c1, c2, c3⟩ := Classical.choose_spec h
  have : Classical.choose h = g := by
    rcases Nat.lt_trichotomy (Classical.choose h) g with hl | hl | hl
    · exact absurd c2 (h3 _ hl)
    · exact hl
    · exact absurd h2 (c3 _ hl)
  rw [this]
theorem firstN_none {P : Nat → Prop} {n : Nat} (h : ∀ i, i < n → ¬ P i) : firstN P n = none := by
  unfold firstN
  rw [dif_neg]
  rintro ⟨g, h1, h2, _⟩
  exact h g h1 h2
theorem firstN_no {P : Nat → Prop} {n : Nat} (h : firstN P n = none) : ∀ i, i < n → ¬ P i := by
  intro i
  induction i using Nat.strongRecOn with
  | _ i ih =>
    intro hi hp
    have := firstN_some hi hp (fun j hj => ih j hj (by omega))
    rw [h] at this
    cases this
/-! ### Tables' frames -/
def okT (T : Row) (tk : Nat → Bool) (n : Nat) : Prop := okN (fun _ => false) T.2.2.2.2 tk n
abbrev stp15 (s : S_config_frames_15) : Option (S_config_frames_15 ⊕ X_config_frames_15) := b_config_frames_15 sWithin s (fun s => some (.inl s)) (fun x => some (.inr (.inl x))) (fun x => some (.inr (.inr x)))
def W15 (s : S_config_frames_15) : Prop := s.v2 = 0 ∧ s.v1 = (s.v0.2.2.1 : Int) ∧ LenOk s.v0.2.2.1
def Q15 (s : S_config_frames_15) (x : X_config_frames_15) : Prop := match x with
  | .inl y => y.v0 = 0 ∧ y.v1 = false ∧ ¬ okT s.v0 s.v3 s.v0.2.2.1
  | .inr _ => okT s.v0 s.v3 s.v0.2.2.1
theorem go15 (T : Row) (tk : Nat → Bool) (hT : LenOk T.2.2.1) : ∀ (m j : Nat), j + m = T.2.2.1 → okT T tk j →
    ∃ y, Ends1 stp15 ⟨T, (T.2.2.1 : Int), (j : Int), tkN T.2.2.2.2 tk j⟩ y ∧ Q15 ⟨T, (T.2.2.1 : Int), 0, tk⟩ y
  | 0, j, h, hn => by
    have hj : j = T.2.2.1 := by omega
    subst hj
    refine ⟨.inr ⟨tkN T.2.2.2.2 tk T.2.2.1⟩, .stop ?_, hn⟩
    have e : decide (T.2.2.1 < T.2.2.1) = false := by simp
    unfold stp15 b_config_frames_15
    simp only [ltB_nat, e, cond_false]
  | m + 1, j, h, hn => by
    have hlt : j < T.2.2.1 := by omega
    have e : decide (j < T.2.2.1) = true := by simp; omega
    cases h2 : (leB 0 (T.2.2.2.2 j) && leB (T.2.2.2.2 j) 127)
    case false =>
      refine ⟨.inl ⟨0, false, tkN T.2.2.2.2 tk j⟩, .stop ?_, rfl, rfl, fun hh => by have := (hh j hlt).2; simp only at this; simp [leB] at h2; omega⟩
      unfold stp15 b_config_frames_15 sWithin
      simp only [ltB_nat, bnd_nat, e, Int.toNat_natCast, h2, cond_true, Bool.not_false]
    have hb : 0 ≤ T.2.2.2.2 j ∧ T.2.2.2.2 j < 128 := by simp [leB] at h2; omega
    have g1 : (decide (0 ≤ T.2.2.2.2 j) && decide (T.2.2.2.2 j < 128)) = true := by simp; omega
    have g2 : decide ((T.2.2.2.2 j).toNat < 128) = true := by simp; omega
    cases h3 : tkN T.2.2.2.2 tk j (T.2.2.2.2 j).toNat
    case true =>
      refine ⟨.inl ⟨0, false, tkN T.2.2.2.2 tk j⟩, .stop ?_, rfl, rfl, fun hh => by have := (hh j hlt).2.2.2; simp only at this; rw [h3] at this; cases this⟩
      unfold stp15 b_config_frames_15 sWithin
      simp only [ltB_nat, bnd_nat, e, Int.toNat_natCast, h2, h3, g1, g2, cond_true, cond_false, Bool.not_true]
    have hn2 : okT T tk (j + 1) := fun i hi => by
      by_cases hij : i < j
      · exact hn i hij
      · have : i = j := by omega
        subst this
        exact ⟨rfl, hb.1, hb.2, h3⟩
    have sst : stp15 ⟨T, (T.2.2.1 : Int), (j : Int), tkN T.2.2.2.2 tk j⟩ = some (.inl ⟨T, (T.2.2.1 : Int), ((j + 1 : Nat) : Int), tkN T.2.2.2.2 tk (j + 1)⟩) := by
      unfold stp15 b_config_frames_15 sWithin
      simp only [ltB_nat, bnd_nat, e, Int.toNat_natCast, h2, h3, g1, g2, wrap_next hlt hT, cond_true, cond_false, Bool.not_true]
      rfl
    obtain ⟨y, h5, h6⟩ := go15 T tk hT m (j + 1) (by omega) hn2
    exact ⟨y, .next sst h5, h6⟩
theorem w15 (s : S_config_frames_15) (h : W15 s) : ∃ x, Ends1 stp15 s x ∧ Q15 s x := by
  obtain ⟨T, n, j, tk⟩ := s
  obtain ⟨h1, h2, h3⟩ := h
  simp only at h1 h2 h3
  subst h1 h2
  exact go15 T tk h3 T.2.2.1 0 (by omega) (fun i hi => by omega)
noncomputable def sL15 {α : Type} : SgL_config_frames_15 α := fun s c0 c1 => lspec w15 s (k2 c0 c1)
theorem lok15 {α : Type} : LoopOk (α := α) stp15 (fun (s : S_config_frames_15) (k : X_config_frames_15 → R α) => sL15 s (fun x => k (.inl x)) (fun x => k (.inr x))) := by
  intro s k r h
  unfold sL15 at h
  simp only [k2_eta] at h
  exact lspec_ok w15 s k r h
/-! ### Frames -/
def CfgOk (c : GConfig) : Prop := RowsOk c.Guests ∧ LenOk c.Tables.2.2.1
def frBad (c : GConfig) (g : Nat) : Prop := ¬ okN (hasB c.Tables.2.2.2.2 c.Tables.2.2.1) (gF' c.Guests g) (tkG c.Guests g) (gL c.Guests g)
def tbBad (c : GConfig) : Prop := ¬ okT c.Tables (tkG c.Guests c.Guests.2.2.1) c.Tables.2.2.1
noncomputable def frS (c : GConfig) : Int × Bool := match firstN (frBad c) c.Guests.2.2.1 with
  | some g => ((g : Int), false)
  | none => @ite _ (tbBad c) (Classical.propDecidable _) (0, false) (0, true)
theorem okG_iff {c : GConfig} {n : Nat} (h : okG c.Tables c.Guests n) : ∀ i, i < n → ¬ frBad c i := fun i hi hb => hb (h i hi)
theorem frames_eq {α : Type} {c : GConfig} (h : CfgOk c) (k : Int → Bool → R α) : p_config_frames sL4 sL15 c k = k (frS c).1 (frS c).2 := by
  unfold p_config_frames sL4 sL15
  obtain ⟨x, ⟨_, hq⟩, hK⟩ := lspec_pos w4 (s := ⟨c.Guests, (c.Guests.2.2.1 : Int), 0, c.Guests, c.Quantum, c.Tables, fun _ => false⟩) ⟨rfl, rfl, rfl, h.1, h.2⟩
  rw [hK]
  rcases x with x | x
  · obtain ⟨q1, g, q2, q3, q4, q5⟩ := hq
    simp only at q1 q2 q3 q4 q5
    have e : firstN (frBad c) c.Guests.2.2.1 = some g := firstN_some q2 q4 (okG_iff q3)
    unfold frS
    rw [e]
    show k x.v0 x.v1 = _
    rw [q1, q5]
  · obtain ⟨q1, q2, q3, q4, q5⟩ := hq
    simp only at q1 q2 q3 q4 q5
    have e : firstN (frBad c) c.Guests.2.2.1 = none := firstN_none (okG_iff q1)
    unfold frS
    rw [e]
    show lspec w15 ⟨x.v2, (x.v2.2.2.1 : Int), 0, x.v3⟩ _ = _
    rw [q4, q5]
    obtain ⟨y, ⟨_, hr⟩, hK2⟩ := lspec_pos w15 (s := ⟨c.Tables, (c.Tables.2.2.1 : Int), 0, tkG c.Guests c.Guests.2.2.1⟩) ⟨rfl, rfl, h.2⟩
    rw [hK2]
    rcases y with y | y
    · obtain ⟨r1, r2, r3⟩ := hr
      simp only at r1 r2 r3
      have : tbBad c := r3
      simp only [if_pos this, k2, r1, r2]
    · have : ¬ tbBad c := fun hh => hh hr
      simp only [if_neg this, k2]
end Go.Sh
