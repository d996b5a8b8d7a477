/-
  Partitions, plainly: what the loops come to.
-/
import Derived.Test.YtgagmgcljkhboaaSpC24
import Derived.Test.YtgagmgcljkhboaaSkB
set_option linter.unusedSimpArgs false
set_option linter.unusedVariables false
namespace Go.Sh
open Go

/-! ### Loops by what is known of their ends -/
section
variable {S X : Type} {α : Type}
noncomputable def lspec {W : S → Prop} {Q : S → X → Prop} (h : ∀ s, W s → ∃ x, Q s x) (s : S) (K : X → R α) : R α :=
  @dite _ (W s) (Classical.propDecidable _) (fun hW => K (Classical.choose (h s hW))) (fun _ => none)
theorem lspec_pos {W : S → Prop} {Q : S → X → Prop} (h : ∀ s, W s → ∃ x, Q s x) {s : S} (hW : W s) : ∃ x, Q s x ∧ ∀ {α : Type} (K : X → R α), lspec h s K = K x :=
  ⟨_, Classical.choose_spec (h s hW), fun K => by unfold lspec; exact dif_pos hW⟩
theorem lspec_some {W : S → Prop} {Q : S → X → Prop} (h : ∀ s, W s → ∃ x, Q s x) {s : S} {K : X → R α} {r : α} (hr : lspec h s K = some r) : W s ∧ ∃ x, Q s x ∧ K x = some r := by
  unfold lspec at hr
  split at hr
  · rename_i hW
    exact ⟨hW, _, Classical.choose_spec (h s hW), hr⟩
  · cases hr
abbrev Ends1 (stp : S → Option (S ⊕ X)) (s : S) (x : X) : Prop := ∃ n, lps stp n s = some x
theorem lspec_ok {W : S → Prop} {Q : S → X → Prop} {stp : S → Option (S ⊕ X)} (h : ∀ s, W s → ∃ x, Ends1 stp s x ∧ Q s x) : LoopOk (α := α) stp (lspec h) := by
  intro s k r hr
  obtain ⟨_, x, ⟨⟨n, hn⟩, _⟩, hk⟩ := lspec_some h hr
  exact ⟨n, x, hn, hk⟩
theorem Ends1.stop {stp : S → Option (S ⊕ X)} {s : S} {x : X} (h : stp s = some (.inr x)) : Ends1 stp s x := ⟨1, by simp only [lps, h]⟩
theorem Ends1.next {stp : S → Option (S ⊕ X)} {s s' : S} {x : X} (h : stp s = some (.inl s')) (h2 : Ends1 stp s' x) : Ends1 stp s x := by
  obtain ⟨n, hn⟩ := h2
  exact ⟨n + 1, by simp only [lps, h]; exact hn⟩
end
def k2 {A B : Type} {α : Type} (k0 : A → R α) (k1 : B → R α) : A ⊕ B → R α
  | .inl y => k0 y
  | .inr y => k1 y
theorem k2_eta {A B α : Type} (k : A ⊕ B → R α) : k2 (fun x => k (.inl x)) (fun x => k (.inr x)) = k := by funext x; cases x <;> rfl
def k3 {A B C : Type} {α : Type} (k0 : A → R α) (k1 : B → R α) (k2 : C → R α) : A ⊕ B ⊕ C → R α
  | .inl y => k0 y
  | .inr (.inl y) => k1 y
  | .inr (.inr y) => k2 y
theorem k3_eta {A B C α : Type} (k : A ⊕ B ⊕ C → R α) : k3 (fun x => k (.inl x)) (fun x => k (.inr (.inl x))) (fun x => k (.inr (.inr x))) = k := by funext x; rcases x with x | x | x <;> rfl
abbrev Row : Type := Bool × Addr × Nat × Nat × (Nat → Int)
abbrev GRow : Type := Bool × Addr × Nat × Nat × (Nat → (Row × ByteArray × Int × ByteArray × Unit))
abbrev Row.len (r : Row) : Nat := r.2.2.1
abbrev Row.at (r : Row) : Nat → Int := r.2.2.2.2
def LenOk (n : Nat) : Prop := n ≤ 9223372036854775807
theorem wrap_next {j n : Nat} (h : j < n) (hn : LenOk n) : IntKind.i64.wrap ((j : Int) + 1) = ((j + 1 : Nat) : Int) := by
  unfold LenOk at hn
  rw [wrap_i64 (by omega) (by omega)]; omega
theorem ltB_nat {a b : Nat} : ltB (a : Int) (b : Int) = decide (a < b) := by
  unfold ltB
  exact decide_eq_decide.2 (by omega)
theorem bnd_nat {a b : Nat} : (decide ((0 : Int) ≤ (a : Int)) && decide ((a : Int) < (b : Int))) = decide (a < b) := by
  have h : decide ((0 : Int) ≤ (a : Int)) = true := by simp
  rw [h, Bool.true_and]
  exact decide_eq_decide.2 (by omega)
def sWithin {α : Type} : Sg_config_within α := fun a lo hi k => k (leB lo a && leB a hi)
theorem within_eq {α : Type} (a lo hi : Int) (k : Bool → R α) : p_config_within a lo hi k = sWithin a lo hi k := by
  unfold p_config_within sWithin
  cases leB lo a <;> rfl
/-! ### Is it there? -/
abbrev stpIx (s : S_slices_IndexInts_2) : Option (S_slices_IndexInts_2 ⊕ X_slices_IndexInts_2) := b_slices_IndexInts_2 s (fun s => some (.inl s)) (fun x => some (.inr (.inl x))) (fun x => some (.inr (.inr x)))
def QIx (s : S_slices_IndexInts_2) (x : X_slices_IndexInts_2) : Prop := (∃ i, i < s.v0.2.2.1 ∧ s.v0.2.2.2.2 i = s.v1 ∧ x = .inl ⟨(i : Int)⟩) ∨ ((∀ i, i < s.v0.2.2.1 → s.v0.2.2.2.2 i ≠ s.v1) ∧ x = .inr ⟨⟩)
theorem ix_go (T : Row) (x : Int) (hT : LenOk T.2.2.1) : ∀ (m j : Nat), j + m = T.2.2.1 → (∀ i, i < j → T.2.2.2.2 i ≠ x) → ∃ y, Ends1 stpIx ⟨T, x, (T.2.2.1 : Int), (j : Int)⟩ y ∧ QIx ⟨T, x, (T.2.2.1 : Int), 0⟩ y
  | 0, j, h, hn => by
    refine ⟨_, .stop (x := .inr ⟨⟩) ?_, .inr ⟨fun i hi => hn i (by simp only at hi; omega), rfl⟩⟩
    have e : decide (j < T.2.2.1) = false := by simp; omega
    unfold stpIx b_slices_IndexInts_2
    simp only [ltB_nat, e, cond_false]
  | m + 1, j, h, hn => by
    have e : decide (j < T.2.2.1) = true := by simp; omega
    cases hx : (x == T.2.2.2.2 j)
    · have st : stpIx ⟨T, x, (T.2.2.1 : Int), (j : Int)⟩ = some (.inl ⟨T, x, (T.2.2.1 : Int), ((j + 1 : Nat) : Int)⟩) := by
        unfold stpIx b_slices_IndexInts_2
        simp only [ltB_nat, bnd_nat, e, Int.toNat_natCast, hx, cond_true, cond_false, wrap_next (show j < T.2.2.1 by omega) hT]
      obtain ⟨y, h1, h2⟩ := ix_go T x hT m (j + 1) (by omega) (fun i hi => by
        by_cases hij : i < j
        · exact hn i hij
        · have : i = j := by omega
          subst this
          simp at hx
          exact fun hh => hx hh.symm)
      exact ⟨y, .next st h1, h2⟩
    · refine ⟨_, .stop (x := .inl ⟨(j : Int)⟩) ?_, .inl ⟨j, by simp only; omega, by simp at hx; exact hx.symm, rfl⟩⟩
      unfold stpIx b_slices_IndexInts_2
      simp only [ltB_nat, bnd_nat, e, Int.toNat_natCast, hx, cond_true]
def WIx (s : S_slices_IndexInts_2) : Prop := LenOk s.v0.2.2.1 ∧ s.v2 = (s.v0.2.2.1 : Int) ∧ s.v3 = 0
theorem ix_w (s : S_slices_IndexInts_2) (h : WIx s) : ∃ x, Ends1 stpIx s x ∧ QIx s x := by
  obtain ⟨T, x, n, j⟩ := s
  obtain ⟨h1, h2, h3⟩ := h
  simp only at h1 h2 h3
  subst h2 h3
  exact ix_go T x h1 T.2.2.1 0 (by omega) (fun i hi => by omega)
noncomputable def sLIx {α : Type} : SgL_slices_IndexInts_2 α := fun s k0 k1 => lspec ix_w s (k2 k0 k1)
theorem lokIx {α : Type} : LoopOk (α := α) stpIx (fun (s : S_slices_IndexInts_2) (k : X_slices_IndexInts_2 → R α) => sLIx s (fun x => k (.inl x)) (fun x => k (.inr x))) := by
  intro s k r h
  unfold sLIx at h
  simp only [k2_eta] at h
  exact lspec_ok ix_w s k r h
/-- Is x among the first n? -/
def hasB (f : Nat → Int) (n : Nat) (x : Int) : Bool := (List.range n).any fun i => f i == x
theorem hasB_iff {f : Nat → Int} {n : Nat} {x : Int} : hasB f n x = true ↔ ∃ i, i < n ∧ f i = x := by
  unfold hasB
  simp [List.any_eq_true]
noncomputable def sIx {α : Type} : Sg_slices_IndexInts α := fun T x k => p_slices_IndexInts sLIx T x k
theorem contains_eq {α : Type} {T : Row} (hT : LenOk T.2.2.1) (x : Int) (k : Bool → R α) : p_slices_ContainsInts sIx T x k = k (hasB T.2.2.2.2 T.2.2.1 x) := by
  unfold p_slices_ContainsInts sIx p_slices_IndexInts sLIx
  obtain ⟨y, ⟨_, hq⟩, hK⟩ := lspec_pos ix_w (s := ⟨T, x, (T.2.2.1 : Int), 0⟩) ⟨hT, rfl, rfl⟩
  rw [hK]
  rcases hq with ⟨i, h1, h2, rfl⟩ | ⟨h1, rfl⟩
  · have : hasB T.2.2.2.2 T.2.2.1 x = true := hasB_iff.2 ⟨i, h1, h2⟩
    rw [this]
    have e : leB 0 (i : Int) = true := by simp [leB]
    show k (leB 0 (i : Int)) = k true
    rw [e]
  · have : hasB T.2.2.2.2 T.2.2.1 x = false := by
      cases hb : hasB T.2.2.2.2 T.2.2.1 x
      · rfl
      · obtain ⟨i, h3, h4⟩ := hasB_iff.1 hb
        exact absurd h4 (h1 i h3)
    rw [this]
    rfl
noncomputable def sHas {α : Type} : Sg_slices_ContainsInts α := fun T x k => @dite _ (LenOk T.2.2.1) (Classical.propDecidable _) (fun _ => k (hasB T.2.2.2.2 T.2.2.1 x)) (fun _ => none)
theorem sHas_pos {α : Type} {T : Row} (hT : LenOk T.2.2.1) (x : Int) (k : Bool → R α) : sHas T x k = k (hasB T.2.2.2.2 T.2.2.1 x) := by
  unfold sHas; exact dif_pos hT
/-! ### Frames that are taken -/
def tkN (f : Nat → Int) (tk : Nat → Bool) : Nat → (Nat → Bool)
  | 0 => tk
  | n + 1 => upd (tkN f tk n) (f n).toNat true
/-- The first n may be had: none is barred (B), each is a frame, none was taken. -/
def okN (B : Int → Bool) (f : Nat → Int) (tk : Nat → Bool) (n : Nat) : Prop := ∀ i, i < n → B (f i) = false ∧ 0 ≤ f i ∧ f i < 128 ∧ tkN f tk i (f i).toNat = false

theorem okN_mono {B : Int → Bool} {f : Nat → Int} {tk : Nat → Bool} {n m : Nat} (h : okN B f tk n) (hm : m ≤ n) : okN B f tk m := fun i hi => h i (by omega)
/-! ### One guest's frames -/
noncomputable abbrev stp7 (s : S_config_frames_7) : Option (S_config_frames_7 ⊕ X_config_frames_7) := b_config_frames_7 sHas sWithin s (fun s => some (.inl s)) (fun x => some (.inr (.inl x))) (fun x => some (.inr (.inr (.inl x)))) (fun x => some (.inr (.inr (.inr x))))
def W7 (s : S_config_frames_7) : Prop := s.v6 = 0 ∧ s.v5 = (s.v4.2.2.1 : Int) ∧ s.v11 = s.v4 ∧ LenOk s.v4.2.2.1 ∧ LenOk s.v9.2.2.1
def Q7 (s : S_config_frames_7) (x : X_config_frames_7) : Prop := match x with
  | .inl y => y.v0 = s.v0 ∧ y.v1 = false ∧ y.v2 = s.v7 ∧ y.v3 = s.v8 ∧ y.v4 = s.v9 ∧ ¬ okN (hasB s.v9.2.2.2.2 s.v9.2.2.1) s.v4.2.2.2.2 s.v10 s.v4.2.2.1
  | .inr (.inl y) => okN (hasB s.v9.2.2.2.2 s.v9.2.2.1) s.v4.2.2.2.2 s.v10 s.v4.2.2.1 ∧ y.v0 = s.v1 ∧ y.v1 = s.v2 ∧ y.v2 = s.v3 ∧ y.v3 = s.v7 ∧ y.v4 = s.v8 ∧ y.v5 = s.v9 ∧ y.v6 = tkN s.v4.2.2.2.2 s.v10 s.v4.2.2.1
  | .inr (.inr y) => okN (hasB s.v9.2.2.2.2 s.v9.2.2.1) s.v4.2.2.2.2 s.v10 s.v4.2.2.1 ∧ y.v0 = s.v1 ∧ y.v1 = s.v2 ∧ y.v2 = s.v3 ∧ y.v3 = s.v7 ∧ y.v4 = s.v8 ∧ y.v5 = s.v9 ∧ y.v6 = tkN s.v4.2.2.2.2 s.v10 s.v4.2.2.1
theorem go7 (a0 : Int) (G : GRow) (a2 a3 : Int) (r : Row) (G7 : GRow) (q : Int) (T : Row) (tk : Nat → Bool) (im : ByteArray) (st : Int) (inp : ByteArray) (hr : LenOk r.2.2.1) (hT : LenOk T.2.2.1) : ∀ (m j : Nat), j + m = r.2.2.1 → okN (hasB T.2.2.2.2 T.2.2.1) r.2.2.2.2 tk j →
    ∃ y, Ends1 stp7 ⟨a0, G, a2, a3, r, (r.2.2.1 : Int), (j : Int), G7, q, T, tkN r.2.2.2.2 tk j, r, im, st, inp⟩ y ∧ Q7 ⟨a0, G, a2, a3, r, (r.2.2.1 : Int), 0, G7, q, T, tk, r, im, st, inp⟩ y
  | 0, j, h, hn => by
    have hj : j = r.2.2.1 := by omega
    subst hj
    refine ⟨.inr (.inr ⟨G, a2, a3, G7, q, T, tkN r.2.2.2.2 tk r.2.2.1, r, im, st, inp⟩), .stop ?_, hn, rfl, rfl, rfl, rfl, rfl, rfl, rfl⟩
    have e : decide (r.2.2.1 < r.2.2.1) = false := by simp
    unfold stp7 b_config_frames_7
    simp only [ltB_nat, e, cond_false]
  | m + 1, j, h, hn => by
    have hlt : j < r.2.2.1 := by omega
    have e : decide (j < r.2.2.1) = true := by simp; omega
    cases h1 : hasB T.2.2.2.2 T.2.2.1 (r.2.2.2.2 j)
    case true =>
      refine ⟨.inl ⟨a0, false, G7, q, T, tkN r.2.2.2.2 tk j, r, im, st, inp⟩, .stop ?_, rfl, rfl, rfl, rfl, rfl, fun hh => by have := (hh j hlt).1; simp only at this; rw [h1] at this; cases this⟩
      unfold stp7 b_config_frames_7
      simp only [ltB_nat, bnd_nat, e, Int.toNat_natCast, sHas_pos hT, h1, cond_true]
    cases h2 : (leB 0 (r.2.2.2.2 j) && leB (r.2.2.2.2 j) 127)
    case false =>
      refine ⟨.inl ⟨a0, false, G7, q, T, tkN r.2.2.2.2 tk j, r, im, st, inp⟩, .stop ?_, rfl, rfl, rfl, rfl, rfl, fun hh => by have := (hh j hlt).2; simp only at this; simp [leB] at h2; omega⟩
      unfold stp7 b_config_frames_7 sWithin
      simp only [ltB_nat, bnd_nat, e, Int.toNat_natCast, sHas_pos hT, h1, h2, cond_true, cond_false, Bool.not_false]
    have hb : 0 ≤ r.2.2.2.2 j ∧ r.2.2.2.2 j < 128 := by simp [leB] at h2; omega
    have g1 : (decide (0 ≤ r.2.2.2.2 j) && decide (r.2.2.2.2 j < 128)) = true := by simp; omega
    have g2 : decide ((r.2.2.2.2 j).toNat < 128) = true := by simp; omega
    cases h3 : tkN r.2.2.2.2 tk j (r.2.2.2.2 j).toNat
    case true =>
      refine ⟨.inl ⟨a0, false, G7, q, T, tkN r.2.2.2.2 tk j, r, im, st, inp⟩, .stop ?_, rfl, rfl, rfl, rfl, rfl, fun hh => by have := (hh j hlt).2.2.2; simp only at this; rw [h3] at this; cases this⟩
      unfold stp7 b_config_frames_7 sWithin
      simp only [ltB_nat, bnd_nat, e, Int.toNat_natCast, sHas_pos hT, h1, h2, h3, g1, g2, cond_true, cond_false, Bool.not_true]
    have hn2 : okN (hasB T.2.2.2.2 T.2.2.1) r.2.2.2.2 tk (j + 1) := fun i hi => by
      by_cases hij : i < j
      · exact hn i hij
      · have : i = j := by omega
        subst this
        exact ⟨h1, hb.1, hb.2, h3⟩
    have w1 : IntKind.i64.wrap ((r.2.2.1 : Int) - 1) = (r.2.2.1 : Int) - 1 := by unfold LenOk at hr; exact wrap_i64 (by omega) (by omega)
    cases h4 : ((j : Int) == (r.2.2.1 : Int) - 1)
    case true =>
      have hj : j + 1 = r.2.2.1 := by simp at h4; omega
      refine ⟨.inr (.inl ⟨G, a2, a3, G7, q, T, tkN r.2.2.2.2 tk (j + 1), r, im, st, inp⟩), .stop ?_, ?_, rfl, rfl, rfl, rfl, rfl, rfl, ?_⟩
      · unfold stp7 b_config_frames_7 sWithin
        simp only [ltB_nat, bnd_nat, e, Int.toNat_natCast, sHas_pos hT, h1, h2, h3, g1, g2, w1, h4, cond_true, cond_false, Bool.not_true]
        rfl
      · simp only; rw [← hj]; exact hn2
      · simp only; rw [hj]
    have sst : stp7 ⟨a0, G, a2, a3, r, (r.2.2.1 : Int), (j : Int), G7, q, T, tkN r.2.2.2.2 tk j, r, im, st, inp⟩ = some (.inl ⟨a0, G, a2, a3, r, (r.2.2.1 : Int), ((j + 1 : Nat) : Int), G7, q, T, tkN r.2.2.2.2 tk (j + 1), r, im, st, inp⟩) := by
      unfold stp7 b_config_frames_7 sWithin
      simp only [ltB_nat, bnd_nat, e, Int.toNat_natCast, sHas_pos hT, h1, h2, h3, g1, g2, w1, h4, wrap_next hlt hr, cond_true, cond_false, Bool.not_true]
      rfl
    obtain ⟨y, h5, h6⟩ := go7 a0 G a2 a3 r G7 q T tk im st inp hr hT m (j + 1) (by omega) hn2
    exact ⟨y, .next sst h5, h6⟩
theorem w7 (s : S_config_frames_7) (h : W7 s) : ∃ x, Ends1 stp7 s x ∧ Q7 s x := by
  obtain ⟨a0, G, a2, a3, r, n, j, G7, q, T, tk, r2, im, st, inp⟩ := s
  obtain ⟨h1, h2, h3, h4, h5⟩ := h
  simp only at h1 h2 h3 h4 h5
  subst h1 h2 h3
  exact go7 a0 G a2 a3 _ G7 q T tk im st inp h4 h5 r2.2.2.1 0 (by omega) (fun i hi => by omega)
noncomputable def sL7 {α : Type} : SgL_config_frames_7 α := fun s c0 c1 c2 => lspec w7 s (k3 c0 c1 c2)
theorem lok7 {α : Type} : LoopOk (α := α) stp7 (fun (s : S_config_frames_7) (k : X_config_frames_7 → R α) => sL7 s (fun x => k (.inl x)) (fun x => k (.inr (.inl x))) (fun x => k (.inr (.inr x)))) := by
  intro s k r h
  unfold sL7 at h
  simp only [k3_eta] at h
  exact lspec_ok w7 s k r h
/-! ### All guests' frames -/
def gL (G : GRow) (g : Nat) : Nat := (G.2.2.2.2 g).1.2.2.1
def gF' (G : GRow) (g : Nat) : Nat → Int := (G.2.2.2.2 g).1.2.2.2.2
def tkG (G : GRow) : Nat → (Nat → Bool)
  | 0 => fun _ => false
  | g + 1 => tkN (gF' G g) (tkG G g) (gL G g)
def okG (T : Row) (G : GRow) (n : Nat) : Prop := ∀ g, g < n → okN (hasB T.2.2.2.2 T.2.2.1) (gF' G g) (tkG G g) (gL G g)
def RowsOk (G : GRow) : Prop := LenOk G.2.2.1 ∧ ∀ g, g < G.2.2.1 → LenOk (gL G g)
noncomputable abbrev stp4 (s : S_config_frames_4) : Option (S_config_frames_4 ⊕ X_config_frames_4) := b_config_frames_4 sL7 s (fun s => some (.inl s)) (fun x => some (.inr (.inl x))) (fun x => some (.inr (.inr x)))
def W4 (s : S_config_frames_4) : Prop := s.v2 = 0 ∧ s.v1 = (s.v0.2.2.1 : Int) ∧ s.v6 = (fun _ => false) ∧ RowsOk s.v0 ∧ LenOk s.v5.2.2.1
def Q4 (s : S_config_frames_4) (x : X_config_frames_4) : Prop := match x with
  | .inl y => y.v1 = false ∧ ∃ g, g < s.v0.2.2.1 ∧ okG s.v5 s.v0 g ∧ ¬ okN (hasB s.v5.2.2.2.2 s.v5.2.2.1) (gF' s.v0 g) (tkG s.v0 g) (gL s.v0 g) ∧ y.v0 = (g : Int)
  | .inr y => okG s.v5 s.v0 s.v0.2.2.1 ∧ y.v0 = s.v3 ∧ y.v1 = s.v4 ∧ y.v2 = s.v5 ∧ y.v3 = tkG s.v0 s.v0.2.2.1
theorem go4 (G : GRow) (G3 : GRow) (q : Int) (T : Row) (hG : RowsOk G) (hT : LenOk T.2.2.1) : ∀ (m j : Nat), j + m = G.2.2.1 → okG T G j →
    ∃ y, Ends1 stp4 ⟨G, (G.2.2.1 : Int), (j : Int), G3, q, T, tkG G j⟩ y ∧ Q4 ⟨G, (G.2.2.1 : Int), 0, G3, q, T, fun _ => false⟩ y
  | 0, j, h, hn => by
    have hj : j = G.2.2.1 := by omega
    subst hj
    refine ⟨.inr ⟨G3, q, T, tkG G G.2.2.1⟩, .stop ?_, hn, rfl, rfl, rfl, rfl⟩
    have e : decide (G.2.2.1 < G.2.2.1) = false := by simp
    unfold stp4 b_config_frames_4
    simp only [ltB_nat, e, cond_false]
  | m + 1, j, h, hn => by
    have hlt : j < G.2.2.1 := by omega
    have e : decide (j < G.2.2.1) = true := by simp; omega
    obtain ⟨x, ⟨_, hq⟩, hK⟩ := lspec_pos w7 (s := ⟨(j : Int), G, (G.2.2.1 : Int), (j : Int), (G.2.2.2.2 j).1, ((G.2.2.2.2 j).1.2.2.1 : Int), 0, G3, q, T, tkG G j, (G.2.2.2.2 j).1, (G.2.2.2.2 j).2.1, (G.2.2.2.2 j).2.2.1, (G.2.2.2.2 j).2.2.2.1⟩) ⟨rfl, rfl, rfl, hG.2 j hlt, hT⟩
    have nx : ∀ {hq : okN (hasB T.2.2.2.2 T.2.2.1) (gF' G j) (tkG G j) (gL G j)}, okG T G (j + 1) := fun {hq} g hg => by
      by_cases hij : g < j
      · exact hn g hij
      · have : g = j := by omega
        subst this
        exact hq
    rcases x with x | x | x
    · obtain ⟨q0, q1, q2, q3, q4, q5⟩ := hq
      refine ⟨.inl ⟨x.v0, x.v1, x.v2, x.v3, x.v4, x.v5⟩, .stop ?_, q1, j, hlt, hn, q5, q0⟩
      unfold stp4 b_config_frames_4 sL7
      simp only [ltB_nat, bnd_nat, e, Int.toNat_natCast, hK, cond_true, k3]
    · obtain ⟨q0, q1, q2, q3, q4, q5, q6, q7⟩ := hq
      simp only at q0 q1 q2 q3 q4 q5 q6 q7
      have sst : stp4 ⟨G, (G.2.2.1 : Int), (j : Int), G3, q, T, tkG G j⟩ = some (.inl ⟨G, (G.2.2.1 : Int), ((j + 1 : Nat) : Int), G3, q, T, tkG G (j + 1)⟩) := by
        unfold stp4 b_config_frames_4 sL7
        simp only [ltB_nat, bnd_nat, e, Int.toNat_natCast, hK, cond_true, k3, q1, q2, q3, q4, q5, q6, q7, wrap_next hlt hG.1]
        rfl
      obtain ⟨y, h5, h6⟩ := go4 G G3 q T hG hT m (j + 1) (by omega) (nx (hq := q0))
      exact ⟨y, .next sst h5, h6⟩
    · obtain ⟨q0, q1, q2, q3, q4, q5, q6, q7⟩ := hq
      simp only at q0 q1 q2 q3 q4 q5 q6 q7
      have sst : stp4 ⟨G, (G.2.2.1 : Int), (j : Int), G3, q, T, tkG G j⟩ = some (.inl ⟨G, (G.2.2.1 : Int), ((j + 1 : Nat) : Int), G3, q, T, tkG G (j + 1)⟩) := by
        unfold stp4 b_config_frames_4 sL7
        simp only [ltB_nat, bnd_nat, e, Int.toNat_natCast, hK, cond_true, k3, q1, q2, q3, q4, q5, q6, q7, wrap_next hlt hG.1]
        rfl
      obtain ⟨y, h5, h6⟩ := go4 G G3 q T hG hT m (j + 1) (by omega) (nx (hq := q0))
      exact ⟨y, .next sst h5, h6⟩
theorem w4 (s : S_config_frames_4) (h : W4 s) : ∃ x, Ends1 stp4 s x ∧ Q4 s x := by
  obtain ⟨G, n, j, G3, q, T, tk⟩ := s
  obtain ⟨h1, h2, h3, h4, h5⟩ := h
  simp only at h1 h2 h3 h4 h5
  subst h1 h2 h3
  exact go4 G G3 q T h4 h5 G.2.2.1 0 (by omega) (fun i hi => by omega)
noncomputable def sL4 {α : Type} : SgL_config_frames_4 α := fun s c0 c1 => lspec w4 s (k2 c0 c1)
theorem lok4 {α : Type} : LoopOk (α := α) stp4 (fun (s : S_config_frames_4) (k : X_config_frames_4 → R α) => sL4 s (fun x => k (.inl x)) (fun x => k (.inr x))) := by
  intro s k r h
  unfold sL4 at h
  simp only [k2_eta] at h
  exact lspec_ok w4 s k r h
end Go.Sh
