/-
  Partitions, plainly: the check, whole.
-/
import Derived.Test.YtgagmgcljkhboaaSpC24c
set_option linter.unusedSimpArgs false
set_option linter.unusedVariables false
namespace Go.Sh
open Go

def lnBad (c : GConfig) (g : Nat) : Prop := ¬ (1 ≤ gL c.Guests g ∧ gL c.Guests g ≤ 16)
abbrev stpC4 (s : S_config_Check_4) : Option (S_config_Check_4 ⊕ X_config_Check_4) := b_config_Check_4 sWithin s (fun s => some (.inl s)) (fun x => some (.inr (.inl x))) (fun x => some (.inr (.inr x)))
def WC4 (s : S_config_Check_4) : Prop := s.v2 = 0 ∧ s.v1 = (s.v0.2.2.1 : Int) ∧ LenOk s.v0.2.2.1
def QC4 (s : S_config_Check_4) (x : X_config_Check_4) : Prop := match x with
  | .inl y => y.v1 = 240 ∧ ∃ g, g < s.v0.2.2.1 ∧ (∀ i, i < g → 1 ≤ gL s.v0 i ∧ gL s.v0 i ≤ 16) ∧ ¬ (1 ≤ gL s.v0 g ∧ gL s.v0 g ≤ 16) ∧ y.v0 = (g : Int)
  | .inr y => (∀ i, i < s.v0.2.2.1 → 1 ≤ gL s.v0 i ∧ gL s.v0 i ≤ 16) ∧ y = ⟨s.v3, s.v4, s.v5⟩
theorem goC4 (G G3 : GRow) (q : Int) (T : Row) (hG : LenOk G.2.2.1) : ∀ (m j : Nat), j + m = G.2.2.1 → (∀ i, i < j → 1 ≤ gL G i ∧ gL G i ≤ 16) →
    ∃ y, Ends1 stpC4 ⟨G, (G.2.2.1 : Int), (j : Int), G3, q, T⟩ y ∧ QC4 ⟨G, (G.2.2.1 : Int), 0, G3, q, T⟩ y
  | 0, j, h, hn => by
    have hj : j = G.2.2.1 := by omega
    subst hj
    refine ⟨.inr ⟨G3, q, T⟩, .stop ?_, hn, rfl⟩
    have e : decide (G.2.2.1 < G.2.2.1) = false := by simp
    unfold stpC4 b_config_Check_4
    simp only [ltB_nat, e, cond_false]
  | m + 1, j, h, hn => by
    have hlt : j < G.2.2.1 := by omega
    have e : decide (j < G.2.2.1) = true := by simp; omega
    cases h2 : (leB 1 ((gL G j : Nat) : Int) && leB ((gL G j : Nat) : Int) 16)
    case false =>
      have hb : ¬ (1 ≤ gL G j ∧ gL G j ≤ 16) := by simp [leB] at h2; omega
      refine ⟨.inl ⟨(j : Int), 240, G3, q, T⟩, .stop ?_, rfl, j, hlt, hn, hb, rfl⟩
      unfold gL at h2
      unfold stpC4 b_config_Check_4 sWithin
      simp only [ltB_nat, bnd_nat, e, Int.toNat_natCast, h2, cond_true, Bool.not_false]
    have hb : 1 ≤ gL G j ∧ gL G j ≤ 16 := by simp [leB] at h2; omega
    have hn2 : ∀ i, i < j + 1 → 1 ≤ gL G i ∧ gL G i ≤ 16 := fun i hi => by
      by_cases hij : i < j
      · exact hn i hij
      · have : i = j := by omega
        subst this
        exact hb
    have sst : stpC4 ⟨G, (G.2.2.1 : Int), (j : Int), G3, q, T⟩ = some (.inl ⟨G, (G.2.2.1 : Int), ((j + 1 : Nat) : Int), G3, q, T⟩) := by
      unfold gL at h2
      unfold stpC4 b_config_Check_4 sWithin
      simp only [ltB_nat, bnd_nat, e, Int.toNat_natCast, h2, wrap_next hlt hG, cond_true, cond_false, Bool.not_true]
    obtain ⟨y, h5, h6⟩ := goC4 G G3 q T hG m (j + 1) (by omega) hn2
    exact ⟨y, .next sst h5, h6⟩
theorem wC4 (s : S_config_Check_4) (h : WC4 s) : ∃ x, Ends1 stpC4 s x ∧ QC4 s x := by
  obtain ⟨G, n, j, G3, q, T⟩ := s
  obtain ⟨h1, h2, h3⟩ := h
  simp only at h1 h2 h3
  subst h1 h2
  exact goC4 G G3 q T h3 G.2.2.1 0 (by omega) (fun i hi => by omega)
noncomputable def sLC4 {α : Type} : SgL_config_Check_4 α := fun s c0 c1 => lspec wC4 s (k2 c0 c1)
theorem lokC4 {α : Type} : LoopOk (α := α) stpC4 (fun (s : S_config_Check_4) (k : X_config_Check_4 → R α) => sLC4 s (fun x => k (.inl x)) (fun x => k (.inr x))) := by
  intro s k r h
  unfold sLC4 at h
  simp only [k2_eta] at h
  exact lspec_ok wC4 s k r h
/-! ### Images -/
def sWin {α : Type} : Sg_config_Window α := fun g k => k (IntKind.i64.wrap (256 * ((g.Frames.2.2.1 : Nat) : Int)))
theorem win_eq {α : Type} (g : GGuest) (k : Int → R α) : p_config_Window g k = sWin g k := rfl
def imB (G : GRow) (g : Nat) : Bool :=
  ltB (IntKind.i64.wrap (256 * ((gL G g : Nat) : Int))) ((ByteArray.size (G.2.2.2.2 g).2.1 : Nat) : Int) || (Int.tmod (G.2.2.2.2 g).2.2.1 4 != 0 || (leB (IntKind.u64.wrap (IntKind.i64.wrap (256 * ((gL G g : Nat) : Int)))) (G.2.2.2.2 g).2.2.1 || ltB 64 ((ByteArray.size (G.2.2.2.2 g).2.2.2.1 : Nat) : Int)))
abbrev stpC15 (s : S_config_Check_15) : Option (S_config_Check_15 ⊕ X_config_Check_15) := b_config_Check_15 sWin s (fun s => some (.inl s)) (fun x => some (.inr (.inl x))) (fun x => some (.inr (.inr x)))
def WC15 (s : S_config_Check_15) : Prop := s.v2 = 0 ∧ s.v1 = (s.v0.2.2.1 : Int) ∧ LenOk s.v0.2.2.1
def QC15 (s : S_config_Check_15) (x : X_config_Check_15) : Prop := match x with
  | .inl y => y.v1 = 242 ∧ ∃ g, g < s.v0.2.2.1 ∧ (∀ i, i < g → imB s.v0 i = false) ∧ imB s.v0 g = true ∧ y.v0 = (g : Int)
  | .inr _ => ∀ i, i < s.v0.2.2.1 → imB s.v0 i = false
theorem stpC15_eq (G : GRow) {j : Nat} (hlt : j < G.2.2.1) (hG : LenOk G.2.2.1) : stpC15 ⟨G, (G.2.2.1 : Int), (j : Int)⟩ = cond (imB G j) (some (.inr (.inl ⟨(j : Int), 242⟩))) (some (.inl ⟨G, (G.2.2.1 : Int), ((j + 1 : Nat) : Int)⟩)) := by
  have e : decide (j < G.2.2.1) = true := by simp; omega
  unfold stpC15 b_config_Check_15 sWin imB gL
  simp only [ltB_nat, bnd_nat, e, Int.toNat_natCast, wrap_next hlt hG, cond_true]
  cases ltB (IntKind.i64.wrap (256 * (((G.2.2.2.2 j).1.2.2.1 : Nat) : Int))) ((ByteArray.size (G.2.2.2.2 j).2.1 : Nat) : Int) <;>
    cases (Int.tmod (G.2.2.2.2 j).2.2.1 4 != 0) <;>
    cases leB (IntKind.u64.wrap (IntKind.i64.wrap (256 * (((G.2.2.2.2 j).1.2.2.1 : Nat) : Int)))) (G.2.2.2.2 j).2.2.1 <;>
    cases ltB 64 ((ByteArray.size (G.2.2.2.2 j).2.2.2.1 : Nat) : Int) <;> rfl
theorem goC15 (G : GRow) (hG : LenOk G.2.2.1) : ∀ (m j : Nat), j + m = G.2.2.1 → (∀ i, i < j → imB G i = false) →
    ∃ y, Ends1 stpC15 ⟨G, (G.2.2.1 : Int), (j : Int)⟩ y ∧ QC15 ⟨G, (G.2.2.1 : Int), 0⟩ y
  | 0, j, h, hn => by
    have hj : j = G.2.2.1 := by omega
    subst hj
    refine ⟨.inr ⟨⟩, .stop ?_, hn⟩
    have e : decide (G.2.2.1 < G.2.2.1) = false := by simp
    unfold stpC15 b_config_Check_15
    simp only [ltB_nat, e, cond_false]
  | m + 1, j, h, hn => by
    have hlt : j < G.2.2.1 := by omega
    have se := stpC15_eq G hlt hG
    cases hb : imB G j
    · rw [hb] at se
      have hn2 : ∀ i, i < j + 1 → imB G i = false := fun i hi => by
        by_cases hij : i < j
        · exact hn i hij
        · have : i = j := by omega
          subst this
          exact hb
      obtain ⟨y, h5, h6⟩ := goC15 G hG m (j + 1) (by omega) hn2
      exact ⟨y, .next se h5, h6⟩
    · rw [hb] at se
      exact ⟨.inl ⟨(j : Int), 242⟩, .stop se, rfl, j, hlt, hn, hb, rfl⟩
theorem wC15 (s : S_config_Check_15) (h : WC15 s) : ∃ x, Ends1 stpC15 s x ∧ QC15 s x := by
  obtain ⟨G, n, j⟩ := s
  obtain ⟨h1, h2, h3⟩ := h
  simp only at h1 h2 h3
  subst h1 h2
  exact goC15 G h3 G.2.2.1 0 (by omega) (fun i hi => by omega)
noncomputable def sLC15 {α : Type} : SgL_config_Check_15 α := fun s c0 c1 => lspec wC15 s (k2 c0 c1)
theorem lokC15 {α : Type} : LoopOk (α := α) stpC15 (fun (s : S_config_Check_15) (k : X_config_Check_15 → R α) => sLC15 s (fun x => k (.inl x)) (fun x => k (.inr x))) := by
  intro s k r h
  unfold sLC15 at h
  simp only [k2_eta] at h
  exact lspec_ok wC15 s k r h
/-! ### The check -/
noncomputable def sFrames {α : Type} : Sg_config_frames α := fun c k => @dite _ (CfgOk c) (Classical.propDecidable _) (fun _ => k (frS c).1 (frS c).2) (fun _ => none)
theorem sFrames_pos {α : Type} {c : GConfig} (h : CfgOk c) (k : Int → Bool → R α) : sFrames c k = k (frS c).1 (frS c).2 := by unfold sFrames; exact dif_pos h
def manyB (c : GConfig) : Bool := (!(leB 1 ((c.Guests.2.2.1 : Nat) : Int) && leB ((c.Guests.2.2.1 : Nat) : Int) 4)) || ((c.Tables.2.2.1 : Nat) : Int) != IntKind.i64.wrap (2 * ((c.Guests.2.2.1 : Nat) : Int))
def quB (c : GConfig) : Bool := !(leB 1 c.Quantum && leB c.Quantum 1000)
noncomputable def chkS (c : GConfig) : Int × Int :=
  bif manyB c then (0, 240) else match firstN (lnBad c) c.Guests.2.2.1 with
  | some g => ((g : Int), 240)
  | none => bif quB c then (0, 243) else bif !(frS c).2 then ((frS c).1, 241) else match firstN (fun g => imB c.Guests g = true) c.Guests.2.2.1 with
    | some g => ((g : Int), 242)
    | none => (0, 0)
theorem check_eq {α : Type} {c : GConfig} (h : CfgOk c) (k : Int → Int → R α) : p_config_Check sWithin sFrames sLC4 sLC15 c k = k (chkS c).1 (chkS c).2 := by
  unfold p_config_Check sWithin sLC4 sLC15 chkS manyB quB
  dsimp only
  cases h1 : (leB 1 ((c.Guests.2.2.1 : Nat) : Int) && leB ((c.Guests.2.2.1 : Nat) : Int) 4)
  · rfl
  cases h2 : (((c.Tables.2.2.1 : Nat) : Int) != IntKind.i64.wrap (2 * ((c.Guests.2.2.1 : Nat) : Int)))
  case true => rfl
  simp only [h2, Bool.not_true, Bool.or_false, cond_false]
  obtain ⟨x, ⟨_, hq⟩, hK⟩ := lspec_pos wC4 (s := ⟨c.Guests, (c.Guests.2.2.1 : Int), 0, c.Guests, c.Quantum, c.Tables⟩) ⟨rfl, rfl, h.1.1⟩
  rw [hK]
  rcases x with x | x
  · obtain ⟨q1, g, q2, q3, q4, q5⟩ := hq
    simp only at q1 q2 q3 q4 q5
    have e : firstN (lnBad c) c.Guests.2.2.1 = some g := firstN_some q2 q4 (fun i hi hb => hb (q3 i hi))
    rw [e]
    simp only [k2, q1, q5]
  · obtain ⟨q1, q2⟩ := hq
    simp only at q1 q2
    subst q2
    have e : firstN (lnBad c) c.Guests.2.2.1 = none := firstN_none (fun i hi hb => hb (q1 i hi))
    rw [e]
    simp only [k2]
    cases h3 : (leB 1 c.Quantum && leB c.Quantum 1000)
    · rfl
    simp only [Bool.not_true, cond_false, sFrames_pos h]
    cases h4 : (frS c).2
    · rfl
    simp only [Bool.not_true, cond_false]
    obtain ⟨y, ⟨_, hr⟩, hK2⟩ := lspec_pos wC15 (s := ⟨c.Guests, (c.Guests.2.2.1 : Int), 0⟩) ⟨rfl, rfl, h.1.1⟩
    rw [hK2]
    rcases y with y | y
    · obtain ⟨r1, g, r2, r3, r4, r5⟩ := hr
      simp only at r1 r2 r3 r4 r5
      have e : firstN (fun g => imB c.Guests g = true) c.Guests.2.2.1 = some g := firstN_some r2 r4 (fun i hi hb => by rw [r3 i hi] at hb; cases hb)
      rw [e]
      simp only [k2, r1, r5]
    · have e : firstN (fun g => imB c.Guests g = true) c.Guests.2.2.1 = none := firstN_none (fun i hi hb => by rw [hr i hi] at hb; cases hb)
      rw [e]
      rfl
end Go.Sh
