/-
  The law ConfigTells, told without the program (written by wip/pr/gen_c24g.py).
-/
import Derived.Test.YtgagmgcljkhboaaSpC24f
namespace Go.Sh
open Go
set_option linter.unusedSimpArgs false
set_option linter.unusedVariables false

theorem tkN_iff {f : Nat → Int} {tk : Nat → Bool} {y : Nat} : ∀ {n : Nat}, tkN f tk n y = true ↔ tk y = true ∨ ∃ k, k < n ∧ (f k).toNat = y
  | 0 => by simp [tkN]
  | n + 1 => by
    have ih := tkN_iff (f := f) (tk := tk) (y := y) (n := n)
    simp only [tkN, upd]
    cases hb : Nat.beq y (f n).toNat
    · simp only [cond_false]
      rw [ih]
      constructor
      · rintro (h | ⟨k, h1, h2⟩)
        · exact .inl h
        · exact .inr ⟨k, by omega, h2⟩
      · rintro (h | ⟨k, h1, h2⟩)
        · exact .inl h
        · by_cases hk : k = n
          · subst hk
            rw [h2, Nat.beq_refl] at hb; cases hb
          · exact .inr ⟨k, by omega, h2⟩
    · simp only [cond_true, true_iff]
      exact .inr ⟨n, by omega, (Nat.eq_of_beq_eq_true hb).symm⟩
theorem tkG_iff {G : GRow} {y : Nat} : ∀ {i : Nat}, tkG G i y = true ↔ ∃ j, j < i ∧ ∃ k, k < gL G j ∧ (gF' G j k).toNat = y
  | 0 => by simp [tkG]
  | i + 1 => by
    have ih := tkG_iff (G := G) (y := y) (i := i)
    simp only [tkG]
    rw [tkN_iff, ih]
    constructor
    · rintro (⟨j, h1, h2⟩ | h)
      · exact ⟨j, by omega, h2⟩
      · exact ⟨i, by omega, h⟩
    · rintro ⟨j, h1, h2⟩
      by_cases hj : j = i
      · subst hj; exact .inr h2
      · exact .inl ⟨j, by omega, h2⟩
theorem isFr_iff {x : Int} : isFr x = true ↔ 0 ≤ x ∧ x < 128 := by simp [isFr, leB, ltB]
theorem toNat_inj {a b : Int} (ha : 0 ≤ a) (hb : 0 ≤ b) (h : a.toNat = b.toNat) : a = b := by omega
theorem fr26_iff {c : GConfig} {i : Nat} : fr26 c i = true ↔ ∀ k, k < gL c.Guests i → isFr (gF' c.Guests i k) = true ∧ hasB (gF' c.Guests i) k (gF' c.Guests i k) = false ∧ hasB c.Tables.2.2.2.2 c.Tables.2.2.1 (gF' c.Guests i k) = false ∧ ∀ j, j < i → hasB (gF' c.Guests j) (gL c.Guests j) (gF' c.Guests i k) = false := by
  unfold fr26 prevB
  simp only [Bool.not_eq_true', List.any_eq_false, List.mem_range, Bool.or_eq_true, Bool.not_eq_true, List.any_eq_true, not_or, not_exists, not_and, Bool.not_eq_false, Bool.not_eq_false']
theorem good_iff {c : GConfig} {i : Nat} (h : ∀ j, j < i → ¬ frBad c j) : ¬ frBad c i ↔ fr26 c i = true := by
  have hg : ∀ j, j < i → okN (hasB c.Tables.2.2.2.2 c.Tables.2.2.1) (gF' c.Guests j) (tkG c.Guests j) (gL c.Guests j) := fun j hj => Classical.not_not.1 (h j hj)
  unfold frBad
  rw [Classical.not_not, fr26_iff]
  constructor
  · intro ok k hk
    obtain ⟨h1, h2, h3, h4⟩ := ok k hk
    refine ⟨isFr_iff.2 ⟨h2, h3⟩, ?_, h1, fun j hj => ?_⟩
    · cases hb : hasB (gF' c.Guests i) k (gF' c.Guests i k)
      · rfl
      · obtain ⟨a, ha, he⟩ := hasB_iff.1 hb
        have : tkN (gF' c.Guests i) (tkG c.Guests i) k (gF' c.Guests i k).toNat = true := tkN_iff.2 (.inr ⟨a, ha, by rw [he]⟩)
        rw [this] at h4; cases h4
    · cases hb : hasB (gF' c.Guests j) (gL c.Guests j) (gF' c.Guests i k)
      · rfl
      · obtain ⟨a, ha, he⟩ := hasB_iff.1 hb
        have : tkN (gF' c.Guests i) (tkG c.Guests i) k (gF' c.Guests i k).toNat = true := tkN_iff.2 (.inl (tkG_iff.2 ⟨j, hj, a, ha, by rw [he]⟩))
        rw [this] at h4; cases h4
  · intro ok k hk
    obtain ⟨h1, h2, h3, h4⟩ := ok k hk
    obtain ⟨f0, f1⟩ := isFr_iff.1 h1
    refine ⟨h3, f0, f1, ?_⟩
    cases hb : tkN (gF' c.Guests i) (tkG c.Guests i) k (gF' c.Guests i k).toNat
    · rfl
    · rcases tkN_iff.1 hb with hb | ⟨a, ha, he⟩
      · obtain ⟨j, hj, a, ha, he⟩ := tkG_iff.1 hb
        have e := toNat_inj (hg j hj a ha).2.1 f0 he
        have := hasB_iff.2 ⟨a, ha, e⟩
        rw [h4 j hj] at this; cases this
      · have e := toNat_inj (isFr_iff.1 (ok a (by omega)).1).1 f0 he
        have := hasB_iff.2 ⟨a, ha, e⟩
        rw [h2] at this; cases this
theorem all_good {c : GConfig} {m : Nat} (h : ∀ i, i < m → fr26 c i = true) : ∀ i, i < m → ¬ frBad c i := by
  intro i
  induction i using Nat.strongRecOn with
  | _ i ih =>
    intro hi
    exact (good_iff (fun j hj => ih j hj (by omega))).2 (h i hi)
theorem tb_iff {c : GConfig} (h : ∀ j, j < c.Guests.2.2.1 → ¬ frBad c j) : ¬ tbBad c ↔ ∀ i, i < c.Tables.2.2.1 → ((!isFr (c.Tables.2.2.2.2 i)) || hasB c.Tables.2.2.2.2 i (c.Tables.2.2.2.2 i)) = false := by
  have hg : ∀ j, j < c.Guests.2.2.1 → okN (hasB c.Tables.2.2.2.2 c.Tables.2.2.1) (gF' c.Guests j) (tkG c.Guests j) (gL c.Guests j) := fun j hj => Classical.not_not.1 (h j hj)
  unfold tbBad
  rw [Classical.not_not]
  constructor
  · intro ok i hi
    obtain ⟨_, h2, h3, h4⟩ := ok i hi
    have e1 : isFr (c.Tables.2.2.2.2 i) = true := isFr_iff.2 ⟨h2, h3⟩
    have e2 : hasB c.Tables.2.2.2.2 i (c.Tables.2.2.2.2 i) = false := by
      cases hb : hasB c.Tables.2.2.2.2 i (c.Tables.2.2.2.2 i)
      · rfl
      · obtain ⟨a, ha, he⟩ := hasB_iff.1 hb
        have : tkN c.Tables.2.2.2.2 (tkG c.Guests c.Guests.2.2.1) i (c.Tables.2.2.2.2 i).toNat = true := tkN_iff.2 (.inr ⟨a, ha, by rw [he]⟩)
        rw [this] at h4; cases h4
    rw [e1, e2]; rfl
  · intro ok i hi
    have h1 := ok i hi
    simp only [Bool.or_eq_false_iff, Bool.not_eq_false'] at h1
    obtain ⟨f0, f1⟩ := isFr_iff.1 h1.1
    refine ⟨rfl, f0, f1, ?_⟩
    cases hb : tkN c.Tables.2.2.2.2 (tkG c.Guests c.Guests.2.2.1) i (c.Tables.2.2.2.2 i).toNat
    · rfl
    · rcases tkN_iff.1 hb with hb | ⟨a, ha, he⟩
      · obtain ⟨j, hj, a, ha, he⟩ := tkG_iff.1 hb
        obtain ⟨g1, g2, _, _⟩ := hg j hj a ha
        have e := toNat_inj g2 f0 he
        have : hasB c.Tables.2.2.2.2 c.Tables.2.2.1 (gF' c.Guests j a) = true := hasB_iff.2 ⟨i, hi, e.symm⟩
        rw [g1] at this; cases this
      · have ha2 := ok a (by omega)
        simp only [Bool.or_eq_false_iff, Bool.not_eq_false'] at ha2
        have e := toNat_inj (isFr_iff.1 ha2.1).1 f0 he
        have := hasB_iff.2 ⟨a, ha, e⟩
        rw [h1.2] at this; cases this
theorem ltB_leB (a b : Int) : ltB a b = !leB b a := by
  unfold ltB leB
  by_cases h : a < b
  · simp [h]
  · simp [h]; omega
theorem check26_eq {α : Type} {c : GConfig} (h : CfgOk c) (k : Int → Int → R α) : p_ref26_Check sLK5 sLK12 sLK17 sLK22 c k = k (chkS c).1 (chkS c).2 := by
  unfold p_ref26_Check chkS manyB quB sLK5 sLK12 sLK17 sLK22
  dsimp only
  rw [ltB_leB ((c.Guests.2.2.1 : Nat) : Int) 1, ltB_leB 4 ((c.Guests.2.2.1 : Nat) : Int)]
  cases h1 : leB 1 ((c.Guests.2.2.1 : Nat) : Int)
  · rfl
  cases h2 : leB ((c.Guests.2.2.1 : Nat) : Int) 4
  · rfl
  cases h3 : (((c.Tables.2.2.1 : Nat) : Int) != IntKind.i64.wrap (2 * ((c.Guests.2.2.1 : Nat) : Int)))
  case true => rfl
  simp only [Bool.and_self, Bool.not_true, Bool.or_false, cond_false]
  obtain ⟨x, ⟨_, G, q, T, he, hq⟩, hK⟩ := lspec_pos wK5 (s := ⟨((c.Guests.2.2.1 : Nat) : Int), 0, c.Guests, c.Quantum, c.Tables⟩) ⟨c.Guests, c.Quantum, c.Tables, rfl, h.1.1⟩
  simp only [S_ref26_Check_5.mk.injEq] at he
  obtain ⟨_, _, rfl, rfl, rfl⟩ := he
  rw [hK]
  have hln : ∀ i, (ltB ((gL c.Guests i : Nat) : Int) 1 || ltB 16 ((gL c.Guests i : Nat) : Int)) = true ↔ lnBad c i := by
    intro i
    unfold lnBad
    simp only [ltB, Bool.or_eq_true, decide_eq_true_eq]
    omega
  rcases hq with ⟨j, q1, q2, q3, rfl⟩ | ⟨q1, rfl⟩
  · have e : firstN (lnBad c) c.Guests.2.2.1 = some j := firstN_some q1 ((hln j).1 q2) (fun i hi hb => by have := (hln i).2 hb; rw [q3 i hi] at this; cases this)
    rw [e]; rfl
  have e : firstN (lnBad c) c.Guests.2.2.1 = none := firstN_none (fun i hi hb => by have := (hln i).2 hb; rw [q1 i hi] at this; cases this)
  rw [e]
  simp only [k2]
  rw [ltB_leB c.Quantum 1, ltB_leB 1000 c.Quantum]
  cases h4 : leB 1 c.Quantum
  · rfl
  cases h5 : leB c.Quantum 1000
  · rfl
  simp only [Bool.and_self, Bool.not_true, cond_false]
  obtain ⟨x, ⟨_, G, q, T, he, hq⟩, hK⟩ := lspec_pos wK12 (s := ⟨((c.Guests.2.2.1 : Nat) : Int), 0, c.Guests, c.Quantum, c.Tables⟩) ⟨c.Guests, c.Quantum, c.Tables, rfl, h⟩
  simp only [S_ref26_Check_12.mk.injEq] at he
  obtain ⟨_, _, rfl, rfl, rfl⟩ := he
  rw [hK]
  rcases hq with ⟨j, q1, q2, q3, rfl⟩ | ⟨q1, rfl⟩
  · have hb : ∀ i, i < j → fr26 c i = true := fun i hi => by have := q3 i hi; simpa using this
    have e : firstN (frBad c) c.Guests.2.2.1 = some j := firstN_some q1 (Classical.byContradiction fun hn => by
      have := (good_iff (all_good hb)).1 hn
      have q2' : (!fr26 c j) = true := q2
      rw [this] at q2'; cases q2') (all_good hb)
    unfold frS
    rw [e]; rfl
  have hb : ∀ i, i < c.Guests.2.2.1 → fr26 c i = true := fun i hi => by have := q1 i hi; simpa using this
  have hgd := all_good hb
  have e : firstN (frBad c) c.Guests.2.2.1 = none := firstN_none hgd
  unfold frS
  rw [e]
  simp only [k2]
  obtain ⟨x, ⟨_, a, G, q, T, he, hq⟩, hK⟩ := lspec_pos wK17 (s := ⟨((c.Guests.2.2.1 : Nat) : Int), 0, c.Guests, c.Quantum, c.Tables⟩) ⟨((c.Guests.2.2.1 : Nat) : Int), c.Guests, c.Quantum, c.Tables, rfl, h.2⟩
  simp only [S_ref26_Check_17.mk.injEq] at he
  obtain ⟨rfl, _, rfl, rfl, rfl⟩ := he
  rw [hK]
  rcases hq with ⟨j, q1, q2, q3, rfl⟩ | ⟨q1, rfl⟩
  · have hbad : tbBad c := Classical.byContradiction fun hn => by
      have := (tb_iff hgd).1 hn j q1
      rw [this] at q2; cases q2
    rw [if_pos hbad]; rfl
  have hbad : ¬ tbBad c := (tb_iff hgd).2 q1
  rw [if_neg hbad]
  simp only [k2, Bool.not_true, cond_false]
  obtain ⟨x, ⟨_, G, q, T, he, hq⟩, hK⟩ := lspec_pos wK22 (s := ⟨((c.Guests.2.2.1 : Nat) : Int), 0, c.Guests, c.Quantum, c.Tables⟩) ⟨c.Guests, c.Quantum, c.Tables, rfl, h.1.1⟩
  simp only [S_ref26_Check_22.mk.injEq] at he
  obtain ⟨_, _, rfl, rfl, rfl⟩ := he
  rw [hK]
  rcases hq with ⟨j, q1, q2, q3, rfl⟩ | ⟨q1, rfl⟩
  · have e : firstN (fun g => imB c.Guests g = true) c.Guests.2.2.1 = some j := firstN_some q1 q2 (fun i hi hb => by rw [q3 i hi] at hb; cases hb)
    rw [e]; rfl
  · have e : firstN (fun g => imB c.Guests g = true) c.Guests.2.2.1 = none := firstN_none (fun i hi hb => by rw [q1 i hi] at hb; cases hb)
    rw [e]; rfl
/-! ### The owner -/
def hasG (G : GRow) (x : Int) (j : Nat) : Prop := hasB (gF' G j) (gL G j) x = true
noncomputable def ownS (G : GRow) (x : Int) : Int := match firstN (hasG G x) G.2.2.1 with
  | some j => (j : Int)
  | none => -1
noncomputable def sIxF {α : Type} : Sg_slices_IndexFuncGuests α := fun G x k => @dite _ (RowsOk G) (Classical.propDecidable _) (fun _ => k (ownS G x) x) (fun _ => none)
theorem ixF_eq {α : Type} {G : GRow} (hG : RowsOk G) (x : Int) (k : Int → Int → R α) : p_slices_IndexFuncGuests sLOw G x k = k (ownS G x) x := by
  unfold p_slices_IndexFuncGuests sLOw
  obtain ⟨y, ⟨_, G', x', he, hq⟩, hK⟩ := lspec_pos wOw (s := ⟨G, ((G.2.2.1 : Nat) : Int), 0, x⟩) ⟨G, x, rfl, hG⟩
  simp only [S_slices_IndexFuncGuests_2.mk.injEq] at he
  obtain ⟨rfl, _, _, rfl⟩ := he
  rw [hK]
  unfold ownS
  rcases hq with ⟨j, q1, q2, q3, rfl⟩ | ⟨q1, rfl⟩
  · rw [firstN_some (P := hasG G x) q1 q2 (fun i hi hb => by unfold hasG at hb; rw [q3 i hi] at hb; cases hb)]; rfl
  · rw [firstN_none (P := hasG G x) (fun i hi hb => by unfold hasG at hb; rw [q1 i hi] at hb; cases hb)]; rfl
noncomputable def sOwner {α : Type} : Sg_config_Owner α := fun c x k => @dite _ (RowsOk c.Guests) (Classical.propDecidable _) (fun _ => k (ownS c.Guests x)) (fun _ => none)
theorem owner_eq {α : Type} {c : GConfig} (h : RowsOk c.Guests) (x : Int) (k : Int → R α) : p_config_Owner sIxF c x k = k (ownS c.Guests x) := by
  unfold p_config_Owner sIxF
  rw [dif_pos h]
theorem hasB_succ (f : Nat → Int) (n : Nat) (x : Int) : hasB f (n + 1) x = (hasB f n x || (f n == x)) := by
  unfold hasB
  rw [List.range_succ, List.any_append]
  simp
def owJ (G : GRow) (g : Nat) (x ow : Int) (j : Nat) : Int := bif hasB (gF' G g) j x then (g : Int) else ow
def owM (G : GRow) (x : Int) : Nat → Int
  | 0 => -1
  | m + 1 => owJ G (G.2.2.1 - (m + 1)) x (owM G x m) (gL G (G.2.2.1 - (m + 1)))
noncomputable abbrev stpT12 (s : S_law24_ConfigTells_12) : Option (S_law24_ConfigTells_12 ⊕ X_law24_ConfigTells_12) := b_law24_ConfigTells_12  s (fun s => some (.inl s)) (fun x => some (.inr x))
theorem stepT12 (x a b d e ow : Int) (g : Nat) (G : GRow) (q : Int) (T : Row) (hG : RowsOk G) (hg : g < G.2.2.1) {j : Nat} (hj : j < (gL G g)) : stpT12 ⟨x, a, b, d, e, owJ G g x ow j, (g : Int), ((j : Nat) : Int), G, q, T⟩ = cond (false) (some (.inr ⟨x, a, b, d, e, ow, (g : Int), G, q, T⟩)) (some (.inl ⟨x, a, b, d, e, owJ G g x ow (j + 1), (g : Int), (((j + 1) : Nat) : Int), G, q, T⟩)) := by
  have hl : LenOk (G.2.2.2.2 g).1.2.2.1 := hG.2 g hg
  have hj' : j < (G.2.2.2.2 g).1.2.2.1 := hj
  have e0 : decide (g < G.2.2.1) = true := by simp; omega
  have e1 : decide (j < (G.2.2.2.2 g).1.2.2.1) = true := by simp; omega
  have w : IntKind.i64.wrap ((j : Int) + 1) = ((j + 1 : Nat) : Int) := wrap_next hj' hl
  have hs : owJ G g x ow (j + 1) = cond (gF' G g j == x) (g : Int) (owJ G g x ow j) := by
    unfold owJ
    rw [hasB_succ]
    cases hasB (gF' G g) j x <;> cases (gF' G g j == x) <;> rfl
  have hs2 : ((G.2.2.2.2 g).1.2.2.2.2 j == x) = (gF' G g j == x) := rfl
  unfold stpT12 b_law24_ConfigTells_12
  simp only [bnd_nat, ltB_nat, e0, e1, Int.toNat_natCast, w, cond_true, cond_false, hs, hs2]
  try (cases (gF' G g j == x) <;> rfl)
theorem lastT12 (x a b d e ow : Int) (g : Nat) (G : GRow) (q : Int) (T : Row) (hG : RowsOk G) (hg : g < G.2.2.1) : stpT12 ⟨x, a, b, d, e, owJ G g x ow ((gL G g)), (g : Int), ((((gL G g)) : Nat) : Int), G, q, T⟩ = some (.inr ⟨x, a, b, d, e, owJ G g x ow (gL G g), (g : Int), G, q, T⟩) := by
  have e0 : decide (g < G.2.2.1) = true := by simp; omega
  have e1 : decide ((G.2.2.2.2 g).1.2.2.1 < (G.2.2.2.2 g).1.2.2.1) = false := by simp
  unfold stpT12 b_law24_ConfigTells_12 gL
  simp only [bnd_nat, ltB_nat, e0, e1, Int.toNat_natCast, cond_true, cond_false]
def WT12 (s : S_law24_ConfigTells_12) : Prop := ∃ (x a b d e ow : Int) (g : Nat) (G : GRow) (q : Int) (T : Row), s = ⟨x, a, b, d, e, ow, (g : Int), 0, G, q, T⟩ ∧ RowsOk G ∧ g < G.2.2.1
def QT12 (s : S_law24_ConfigTells_12) (xx : X_law24_ConfigTells_12) : Prop := ∃ (x a b d e ow : Int) (g : Nat) (G : GRow) (q : Int) (T : Row), s = ⟨x, a, b, d, e, ow, (g : Int), 0, G, q, T⟩ ∧ ((∃ j, j < (gL G g) ∧ false = true ∧ (∀ i0, i0 < j → false = false) ∧ xx = ⟨x, a, b, d, e, ow, (g : Int), G, q, T⟩) ∨ ((∀ i0, i0 < (gL G g) → false = false) ∧ xx = ⟨x, a, b, d, e, owJ G g x ow (gL G g), (g : Int), G, q, T⟩))
theorem wT12 (s : S_law24_ConfigTells_12) (h : WT12 s) : ∃ x, Ends1 stpT12 s x ∧ QT12 s x := by
  obtain ⟨x, a, b, d, e, ow, g, G, q, T, rfl, hG, hg⟩ := h
  rcases scan (stp := stpT12) (st := fun j => ⟨x, a, b, d, e, owJ G g x ow j, (g : Int), ((j : Nat) : Int), G, q, T⟩) (n := (gL G g)) (bad := fun j => false) (xb := fun j => ⟨x, a, b, d, e, ow, (g : Int), G, q, T⟩) (xe := ⟨x, a, b, d, e, owJ G g x ow (gL G g), (g : Int), G, q, T⟩) (fun j hj => stepT12 x a b d e ow g G q T hG hg hj) (lastT12 x a b d e ow g G q T hG hg) with ⟨j, h1, h2, h3, h4⟩ | ⟨h1, h2⟩
  · exact ⟨_, h4, x, a, b, d, e, ow, g, G, q, T, rfl, .inl ⟨j, h1, h2, h3, rfl⟩⟩
  · exact ⟨_, h2, x, a, b, d, e, ow, g, G, q, T, rfl, .inr ⟨h1, rfl⟩⟩
noncomputable def sLT12 {α : Type} : SgL_law24_ConfigTells_12 α := fun s c0 => lspec wT12 s c0
theorem lokT12 {α : Type} : LoopOk (α := α) stpT12 (fun (s : S_law24_ConfigTells_12) (k : X_law24_ConfigTells_12 → R α) => sLT12 s (fun x => k x)) := by
  intro s k r h
  unfold sLT12 at h
  exact lspec_ok wT12 s k r h
noncomputable abbrev stpT9 (s : S_law24_ConfigTells_9) : Option (S_law24_ConfigTells_9 ⊕ X_law24_ConfigTells_9) := b_law24_ConfigTells_9 sWin sLT12 s (fun s => some (.inl s)) (fun x => some (.inr (.inl x))) (fun x => some (.inr (.inr x)))
theorem stepT9 (x a b d e : Int) (G : GRow) (q : Int) (T : Row) (hG : RowsOk G) {j : Nat} (hj : j < G.2.2.1) : stpT9 ⟨x, a, b, d, e, owM G x j, ((G.2.2.1 - j : Nat) : Int) - 1, G, q, T⟩ = cond (false) (some (.inr (.inl ⟨false, G, q, T⟩))) (some (.inl ⟨x, a, b, d, e, owM G x (j + 1), ((G.2.2.1 - (j + 1) : Nat) : Int) - 1, G, q, T⟩)) := by
  have hn := hG.1
  unfold LenOk at hn
  have eg : ((G.2.2.1 - j : Nat) : Int) - 1 = ((G.2.2.1 - (j + 1) : Nat) : Int) := by omega
  rw [eg]
  have hg : G.2.2.1 - (j + 1) < G.2.2.1 := by omega
  have ow2 : owM G x (j + 1) = owJ G (G.2.2.1 - (j + 1)) x (owM G x j) (gL G (G.2.2.1 - (j + 1))) := rfl
  rw [ow2]
  generalize G.2.2.1 - (j + 1) = g at hg ⊢
  generalize owM G x j = ow
  obtain ⟨y, ⟨_, x', a', b', d', e', ow', g', G', q', T', he, hq⟩, hK⟩ := lspec_pos wT12 (s := ⟨x, a, b, d, e, ow, (g : Int), 0, G, q, T⟩) ⟨x, a, b, d, e, ow, g, G, q, T, rfl, hG, hg⟩
  simp only [S_law24_ConfigTells_12.mk.injEq] at he
  obtain ⟨rfl, rfl, rfl, rfl, rfl, rfl, he1, _, rfl, rfl, rfl⟩ := he
  have he1' : g = g' := by omega
  subst he1'
  have hy : y = ⟨x, a, b, d, e, owJ G g x ow (gL G g), (g : Int), G, q, T⟩ := by
    rcases hq with ⟨_, _, h2, _⟩ | ⟨_, h⟩
    · cases h2
    · exact h
  subst hy
  have e0 : decide (g < G.2.2.1) = true := by simp; omega
  have e1 : leB 0 (g : Int) = true := by simp [leB]
  have w : IntKind.i64.wrap ((g : Int) - 1) = (g : Int) - 1 := wrap_i64 (by omega) (by omega)
  unfold stpT9 b_law24_ConfigTells_9 sWin sLT12
  simp only [e1, hK, bnd_nat, e0, Int.toNat_natCast, w, cond_true, cond_false, bne_self_eq_false]
theorem lastT9 (x a b d e : Int) (G : GRow) (q : Int) (T : Row) (hG : RowsOk G) : stpT9 ⟨x, a, b, d, e, owM G x (G.2.2.1), ((G.2.2.1 - (G.2.2.1) : Nat) : Int) - 1, G, q, T⟩ = some (.inr (.inr ⟨x, a, b, d, e, owM G x G.2.2.1, G, q, T⟩)) := by
  have e1 : leB 0 (((G.2.2.1 - G.2.2.1 : Nat) : Int) - 1) = false := by simp [leB]
  unfold stpT9 b_law24_ConfigTells_9
  simp only [e1, cond_false]
def WT9 (s : S_law24_ConfigTells_9) : Prop := ∃ (x a b d e : Int) (G : GRow) (q : Int) (T : Row), s = ⟨x, a, b, d, e, -1, ((G.2.2.1 : Nat) : Int) - 1, G, q, T⟩ ∧ RowsOk G
def QT9 (s : S_law24_ConfigTells_9) (xx : X_law24_ConfigTells_9) : Prop := ∃ (x a b d e : Int) (G : GRow) (q : Int) (T : Row), s = ⟨x, a, b, d, e, -1, ((G.2.2.1 : Nat) : Int) - 1, G, q, T⟩ ∧ ((∃ j, j < G.2.2.1 ∧ false = true ∧ (∀ i0, i0 < j → false = false) ∧ xx = (.inl ⟨false, G, q, T⟩)) ∨ ((∀ i0, i0 < G.2.2.1 → false = false) ∧ xx = (.inr ⟨x, a, b, d, e, owM G x G.2.2.1, G, q, T⟩)))
theorem wT9 (s : S_law24_ConfigTells_9) (h : WT9 s) : ∃ x, Ends1 stpT9 s x ∧ QT9 s x := by
  obtain ⟨x, a, b, d, e, G, q, T, rfl, hG⟩ := h
  rcases scan (stp := stpT9) (st := fun j => ⟨x, a, b, d, e, owM G x j, ((G.2.2.1 - j : Nat) : Int) - 1, G, q, T⟩) (n := G.2.2.1) (bad := fun j => false) (xb := fun j => (.inl ⟨false, G, q, T⟩)) (xe := (.inr ⟨x, a, b, d, e, owM G x G.2.2.1, G, q, T⟩)) (fun j hj => stepT9 x a b d e G q T hG hj) (lastT9 x a b d e G q T hG) with ⟨j, h1, h2, h3, h4⟩ | ⟨h1, h2⟩
  · exact ⟨_, h4, x, a, b, d, e, G, q, T, rfl, .inl ⟨j, h1, h2, h3, rfl⟩⟩
  · exact ⟨_, h2, x, a, b, d, e, G, q, T, rfl, .inr ⟨h1, rfl⟩⟩
noncomputable def sLT9 {α : Type} : SgL_law24_ConfigTells_9 α := fun s c0 c1 => lspec wT9 s (k2 c0 c1)
theorem lokT9 {α : Type} : LoopOk (α := α) stpT9 (fun (s : S_law24_ConfigTells_9) (k : X_law24_ConfigTells_9 → R α) => sLT9 s (fun x => k (.inl x)) (fun x => k (.inr x))) := by
  intro s k r h
  unfold sLT9 at h
  simp only [k2_eta] at h
  exact lspec_ok wT9 s k r h

theorem owM_none {G : GRow} {x : Int} : ∀ m, m ≤ G.2.2.1 → (∀ i, G.2.2.1 - m ≤ i → i < G.2.2.1 → ¬ hasG G x i) → owM G x m = -1
  | 0, _, _ => rfl
  | m + 1, hm, h => by
    have h0 := h (G.2.2.1 - (m + 1)) (by omega) (by omega)
    have hb : hasB (gF' G (G.2.2.1 - (m + 1))) (gL G (G.2.2.1 - (m + 1))) x = false := by simpa [hasG] using h0
    simp only [owM, owJ, hb, cond_false]
    exact owM_none m (by omega) (fun i h1 h2 => h i (by omega) h2)
theorem owM_some {G : GRow} {x : Int} {j : Nat} (hp : hasG G x j) : ∀ m, m ≤ G.2.2.1 → G.2.2.1 - m ≤ j → j < G.2.2.1 → (∀ i, G.2.2.1 - m ≤ i → i < j → ¬ hasG G x i) → owM G x m = (j : Int)
  | 0, _, h1, h2, _ => by omega
  | m + 1, hm, h1, h2, h3 => by
    by_cases hj : j = G.2.2.1 - (m + 1)
    · have hb : hasB (gF' G (G.2.2.1 - (m + 1))) (gL G (G.2.2.1 - (m + 1))) x = true := by rw [← hj]; exact hp
      simp only [owM, owJ, hb, cond_true]
      rw [hj]
    · have h0 := h3 (G.2.2.1 - (m + 1)) (by omega) (by omega)
      have hb : hasB (gF' G (G.2.2.1 - (m + 1))) (gL G (G.2.2.1 - (m + 1))) x = false := by simpa [hasG] using h0
      simp only [owM, owJ, hb, cond_false]
      exact owM_some hp m (by omega) (by omega) h2 (fun i h4 h5 => h3 i (by omega) h5)
theorem own_eq (G : GRow) (x : Int) : owM G x G.2.2.1 = ownS G x := by
  unfold ownS
  by_cases h : ∃ j, j < G.2.2.1 ∧ hasG G x j
  · obtain ⟨j, h1, h2⟩ := h
    cases hf : firstN (hasG G x) G.2.2.1
    · exact absurd h2 (firstN_no hf j h1)
    · rename_i g
      unfold firstN at hf
      split at hf
      · rename_i hex
        obtain ⟨c1, c2, c3⟩ := Classical.choose_spec hex
        simp only [Option.some.injEq] at hf
        rw [hf] at c1 c2 c3
        exact owM_some c2 _ (Nat.le_refl _) (by omega) c1 (fun i _ hi => c3 i hi)
      · cases hf
  · have : firstN (hasG G x) G.2.2.1 = none := firstN_none (fun i hi hp => h ⟨i, hi, hp⟩)
    rw [this]
    exact owM_none _ (Nat.le_refl _) (fun i _ hi hp => h ⟨i, hi, hp⟩)
noncomputable def sCheck26 {α : Type} : Sg_ref26_Check α := fun c k => @dite _ (CfgOk c) (Classical.propDecidable _) (fun _ => k (chkS c).1 (chkS c).2) (fun _ => none)
theorem tellsC_eq {α : Type} {c : GConfig} (h : CfgOk c) (x : Int) (k : Bool → R α) : p_law24_ConfigTells sKnown24 sFew24 sCheck sCheck26 sOwner sLT9 c x k = k true := by
  unfold p_law24_ConfigTells sKnown24 sFew24 sCheck sCheck26 sOwner sLT9
  simp only [dif_pos h, Bool.not_true, cond_false]
  cases fewB c
  · rfl
  have hn := h.1.1
  unfold LenOk at hn
  have w : IntKind.i64.wrap (((c.Guests.2.2.1 : Nat) : Int) - 1) = ((c.Guests.2.2.1 : Nat) : Int) - 1 := wrap_i64 (by omega) (by omega)
  rw [w]
  simp only [Bool.not_true, cond_false]
  generalize (chkS c).1 = a
  generalize (chkS c).2 = b
  obtain ⟨y, ⟨_, x', a', b', d', e', G', q', T', he, hq⟩, hK⟩ := lspec_pos wT9 (s := ⟨x, a, b, a, b, -1, ((c.Guests.2.2.1 : Nat) : Int) - 1, c.Guests, c.Quantum, c.Tables⟩) ⟨x, a, b, a, b, c.Guests, c.Quantum, c.Tables, rfl, h.1⟩
  simp only [S_law24_ConfigTells_9.mk.injEq] at he
  obtain ⟨rfl, rfl, rfl, rfl, rfl, _, _, rfl, rfl, rfl⟩ := he
  have hy : y = .inr ⟨x, a, b, a, b, owM c.Guests x c.Guests.2.2.1, c.Guests, c.Quantum, c.Tables⟩ := by
    rcases hq with ⟨_, _, h2, _⟩ | ⟨_, h⟩
    · cases h2
    · exact h
  subst hy
  rw [hK]
  simp only [k2, beq_self_eq_true, cond_true, own_eq]
  rw [dif_pos h.1]
  try simp only [beq_self_eq_true]
noncomputable def sTellsC {α : Type} : Sg_law24_ConfigTells α := fun c _ k => @dite _ (CfgOk c) (Classical.propDecidable _) (fun _ => k true) (fun _ => none)
end Go.Sh
