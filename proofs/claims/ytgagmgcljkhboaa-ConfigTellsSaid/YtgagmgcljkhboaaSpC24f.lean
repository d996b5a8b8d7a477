/-
  Partitions: the document's check, the owner, plainly (written by wip/pr/gen_c24f.py).
-/
import Derived.Test.YtgagmgcljkhboaaSpC24e
import Derived.Test.YtgagmgcljkhboaaSpC24t
namespace Go.Sh
open Go
set_option linter.unusedSimpArgs false
set_option linter.unusedVariables false

/-- A loop that looks at one after the other. -/
theorem scan {S X : Type} {stp : S → Option (S ⊕ X)} {st : Nat → S} {n : Nat} {bad : Nat → Bool} {xb : Nat → X} {xe : X} (h : ∀ j, j < n → stp (st j) = cond (bad j) (some (.inr (xb j))) (some (.inl (st (j + 1))))) (he : stp (st n) = some (.inr xe)) :
    (∃ j, j < n ∧ bad j = true ∧ (∀ i, i < j → bad i = false) ∧ Ends1 stp (st 0) (xb j)) ∨ ((∀ i, i < n → bad i = false) ∧ Ends1 stp (st 0) xe) := by
  have go : ∀ (m j : Nat), j + m = n → (∀ i, i < j → bad i = false) → (∃ k, k < n ∧ bad k = true ∧ (∀ i, i < k → bad i = false) ∧ Ends1 stp (st j) (xb k)) ∨ ((∀ i, i < n → bad i = false) ∧ Ends1 stp (st j) xe) := by
    intro m
    induction m with
    | zero => intro j hj hn; have : j = n := by omega
              subst this; exact .inr ⟨hn, .stop he⟩
    | succ m ih =>
      intro j hj hn
      have hs := h j (by omega)
      cases hb : bad j
      · rw [hb] at hs
        have hn2 : ∀ i, i < j + 1 → bad i = false := fun i hi => by
          by_cases hij : i < j
          · exact hn i hij
          · have : i = j := by omega
            subst this; exact hb
        rcases ih (j + 1) (by omega) hn2 with ⟨k, h1, h2, h3, h4⟩ | ⟨h1, h2⟩
        · exact .inl ⟨k, h1, h2, h3, .next hs h4⟩
        · exact .inr ⟨h1, .next hs h2⟩
      · rw [hb] at hs
        exact .inl ⟨j, by omega, hb, hn, .stop hs⟩
  exact go n 0 (by omega) (fun i hi => by omega)
theorem hasB_shift (f : Nat → Int) (n : Nat) (x : Int) : hasB (fun i => f (0 + i)) n x = hasB f n x := by
  have : (fun i => f (0 + i)) = f := by funext i; rw [Nat.zero_add]
  rw [this]
def isFr (x : Int) : Bool := leB 0 x && ltB x 128
def sIsF {α : Type} : Sg_ref26_isFrame α := fun x k => k (isFr x)
theorem isF_eq {α : Type} (x : Int) (k : Bool → R α) : p_ref26_isFrame x k = sIsF x k := by
  unfold p_ref26_isFrame sIsF isFr
  cases leB 0 x <;> rfl
noncomputable def sIn {α : Type} : Sg_ref26_in α := fun T x k => @dite _ (LenOk T.2.2.1) (Classical.propDecidable _) (fun _ => k (hasB T.2.2.2.2 T.2.2.1 x)) (fun _ => none)
theorem sIn_pos {α : Type} {T : Row} (hT : LenOk T.2.2.1) (x : Int) (k : Bool → R α) : sIn T x k = k (hasB T.2.2.2.2 T.2.2.1 x) := by
  unfold sIn; exact dif_pos hT
def prevB (G : GRow) (i : Nat) (x : Int) : Bool := (List.range i).any fun j => hasB (gF' G j) (gL G j) x
theorem any_false {p : Nat → Bool} {n : Nat} (h : ∀ i, i < n → p i = false) : (List.range n).any p = false := by
  simp only [List.any_eq_false, List.mem_range]
  intro i hi
  rw [h i hi]; simp
theorem any_true {p : Nat → Bool} {n j : Nat} (hj : j < n) (h : p j = true) : (List.range n).any p = true := by
  simp only [List.any_eq_true, List.mem_range]
  exact ⟨j, hj, h⟩
theorem LenOk.le {n m : Nat} (h : LenOk n) (hm : m ≤ n) : LenOk m := Nat.le_trans hm h
theorem bnd_le {a b : Nat} : (decide ((0 : Int) ≤ (a : Int)) && decide ((a : Int) ≤ (b : Int))) = decide (a ≤ b) := by
  have h : decide ((0 : Int) ≤ (a : Int)) = true := by simp
  rw [h, Bool.true_and]
  exact decide_eq_decide.2 (by omega)
noncomputable abbrev stpIn (s : S_ref26_in_2) : Option (S_ref26_in_2 ⊕ X_ref26_in_2) := b_ref26_in_2  s (fun s => some (.inl s)) (fun x => some (.inr (.inl x))) (fun x => some (.inr (.inr x)))
theorem stepIn (T : Row) (x : Int) (hT : LenOk T.2.2.1) {j : Nat} (hj : j < T.2.2.1) : stpIn ⟨T, x, ((j : Nat) : Int)⟩ = cond ((T.2.2.2.2 j == x)) (some (.inr (.inl ⟨true⟩))) (some (.inl ⟨T, x, (((j + 1) : Nat) : Int)⟩)) := by
  have e : decide (j < T.2.2.1) = true := by simp; omega
  unfold stpIn b_ref26_in_2
  simp only [ltB_nat, bnd_nat, e, Int.toNat_natCast, wrap_next hj hT, cond_true]
  try (cases (T.2.2.2.2 j == x) <;> rfl)
theorem lastIn (T : Row) (x : Int) (hT : LenOk T.2.2.1) : stpIn ⟨T, x, (((T.2.2.1) : Nat) : Int)⟩ = some (.inr (.inr ⟨⟩)) := by
  have e : decide (T.2.2.1 < T.2.2.1) = false := by simp
  unfold stpIn b_ref26_in_2
  simp only [ltB_nat, e, cond_false]
def WIn (s : S_ref26_in_2) : Prop := ∃ (T : Row) (x : Int), s = ⟨T, x, 0⟩ ∧ LenOk T.2.2.1
def QIn (s : S_ref26_in_2) (xx : X_ref26_in_2) : Prop := ∃ (T : Row) (x : Int), s = ⟨T, x, 0⟩ ∧ ((∃ j, j < T.2.2.1 ∧ (T.2.2.2.2 j == x) = true ∧ (∀ i0, i0 < j → (T.2.2.2.2 i0 == x) = false) ∧ xx = (.inl ⟨true⟩)) ∨ ((∀ i0, i0 < T.2.2.1 → (T.2.2.2.2 i0 == x) = false) ∧ xx = (.inr ⟨⟩)))
theorem wIn (s : S_ref26_in_2) (h : WIn s) : ∃ x, Ends1 stpIn s x ∧ QIn s x := by
  obtain ⟨T, x, rfl, hT⟩ := h
  rcases scan (stp := stpIn) (st := fun j => ⟨T, x, ((j : Nat) : Int)⟩) (n := T.2.2.1) (bad := fun j => (T.2.2.2.2 j == x)) (xb := fun j => (.inl ⟨true⟩)) (xe := (.inr ⟨⟩)) (fun j hj => stepIn T x hT hj) (lastIn T x hT) with ⟨j, h1, h2, h3, h4⟩ | ⟨h1, h2⟩
  · exact ⟨_, h4, T, x, rfl, .inl ⟨j, h1, h2, h3, rfl⟩⟩
  · exact ⟨_, h2, T, x, rfl, .inr ⟨h1, rfl⟩⟩
noncomputable def sLIn {α : Type} : SgL_ref26_in_2 α := fun s c0 c1 => lspec wIn s (k2 c0 c1)
theorem lokIn {α : Type} : LoopOk (α := α) stpIn (fun (s : S_ref26_in_2) (k : X_ref26_in_2 → R α) => sLIn s (fun x => k (.inl x)) (fun x => k (.inr x))) := by
  intro s k r h
  unfold sLIn at h
  simp only [k2_eta] at h
  exact lspec_ok wIn s k r h
theorem in_eq {α : Type} {T : Row} (hT : LenOk T.2.2.1) (x : Int) (k : Bool → R α) : p_ref26_in sLIn T x k = k (hasB T.2.2.2.2 T.2.2.1 x) := by
  unfold p_ref26_in sLIn
  obtain ⟨y, ⟨_, T', x', he, hq⟩, hK⟩ := lspec_pos wIn (s := ⟨T, x, 0⟩) ⟨T, x, rfl, hT⟩
  simp only [S_ref26_in_2.mk.injEq] at he
  obtain ⟨rfl, rfl, _⟩ := he
  rw [hK]
  unfold hasB
  rcases hq with ⟨j, h1, h2, _, rfl⟩ | ⟨h1, rfl⟩
  · rw [any_true h1 h2]; rfl
  · rw [any_false h1]; rfl
noncomputable abbrev stpF8 (s : S_ref26_frames_8) : Option (S_ref26_frames_8 ⊕ X_ref26_frames_8) := b_ref26_frames_8 sIn s (fun s => some (.inl s)) (fun x => some (.inr (.inl x))) (fun x => some (.inr (.inr x)))
theorem stepF8 (G : GRow) (i k : Nat) (r : Row) (q : Int) (T : Row) (hG : RowsOk G) (hi : i ≤ G.2.2.1) (hk : k < r.2.2.1) {j : Nat} (hj : j < i) : stpF8 ⟨(i : Int), r, (k : Int), ((j : Nat) : Int), G, q, T⟩ = cond (hasB (gF' G j) (gL G j) (r.2.2.2.2 k)) (some (.inr (.inl ⟨false, G, q, T⟩))) (some (.inl ⟨(i : Int), r, (k : Int), (((j + 1) : Nat) : Int), G, q, T⟩)) := by
  have e : decide (j < i) = true := by simp; omega
  have e1 : decide (j < G.2.2.1) = true := by simp; omega
  have e2 : decide (k < r.2.2.1) = true := by simp; omega
  have hl : LenOk (G.2.2.2.2 j).1.2.2.1 := hG.2 j (by omega)
  have w : IntKind.i64.wrap ((j : Int) + 1) = ((j + 1 : Nat) : Int) := wrap_next (show j < G.2.2.1 by omega) hG.1
  unfold stpF8 b_ref26_frames_8
  simp only [ltB_nat, bnd_nat, e, e1, e2, Int.toNat_natCast, w, sIn_pos hl, cond_true]
  show cond (hasB (gF' G j) (gL G j) (r.2.2.2.2 k)) _ _ = _
  cases hasB (gF' G j) (gL G j) (r.2.2.2.2 k) <;> rfl
theorem lastF8 (G : GRow) (i k : Nat) (r : Row) (q : Int) (T : Row) (hG : RowsOk G) (hi : i ≤ G.2.2.1) (hk : k < r.2.2.1) : stpF8 ⟨(i : Int), r, (k : Int), (((i) : Nat) : Int), G, q, T⟩ = some (.inr (.inr ⟨(i : Int), r, (k : Int), G, q, T⟩)) := by
  have e : decide (i < i) = false := by simp
  unfold stpF8 b_ref26_frames_8
  simp only [ltB_nat, e, cond_false]
def WF8 (s : S_ref26_frames_8) : Prop := ∃ (G : GRow) (i k : Nat) (r : Row) (q : Int) (T : Row), s = ⟨(i : Int), r, (k : Int), 0, G, q, T⟩ ∧ RowsOk G ∧ i ≤ G.2.2.1 ∧ k < r.2.2.1
def QF8 (s : S_ref26_frames_8) (xx : X_ref26_frames_8) : Prop := ∃ (G : GRow) (i k : Nat) (r : Row) (q : Int) (T : Row), s = ⟨(i : Int), r, (k : Int), 0, G, q, T⟩ ∧ ((∃ j, j < i ∧ hasB (gF' G j) (gL G j) (r.2.2.2.2 k) = true ∧ (∀ i0, i0 < j → hasB (gF' G i0) (gL G i0) (r.2.2.2.2 k) = false) ∧ xx = (.inl ⟨false, G, q, T⟩)) ∨ ((∀ i0, i0 < i → hasB (gF' G i0) (gL G i0) (r.2.2.2.2 k) = false) ∧ xx = (.inr ⟨(i : Int), r, (k : Int), G, q, T⟩)))
theorem wF8 (s : S_ref26_frames_8) (h : WF8 s) : ∃ x, Ends1 stpF8 s x ∧ QF8 s x := by
  obtain ⟨G, i, k, r, q, T, rfl, hG, hi, hk⟩ := h
  rcases scan (stp := stpF8) (st := fun j => ⟨(i : Int), r, (k : Int), ((j : Nat) : Int), G, q, T⟩) (n := i) (bad := fun j => hasB (gF' G j) (gL G j) (r.2.2.2.2 k)) (xb := fun j => (.inl ⟨false, G, q, T⟩)) (xe := (.inr ⟨(i : Int), r, (k : Int), G, q, T⟩)) (fun j hj => stepF8 G i k r q T hG hi hk hj) (lastF8 G i k r q T hG hi hk) with ⟨j, h1, h2, h3, h4⟩ | ⟨h1, h2⟩
  · exact ⟨_, h4, G, i, k, r, q, T, rfl, .inl ⟨j, h1, h2, h3, rfl⟩⟩
  · exact ⟨_, h2, G, i, k, r, q, T, rfl, .inr ⟨h1, rfl⟩⟩
noncomputable def sLF8 {α : Type} : SgL_ref26_frames_8 α := fun s c0 c1 => lspec wF8 s (k2 c0 c1)
theorem lokF8 {α : Type} : LoopOk (α := α) stpF8 (fun (s : S_ref26_frames_8) (k : X_ref26_frames_8 → R α) => sLF8 s (fun x => k (.inl x)) (fun x => k (.inr x))) := by
  intro s k r h
  unfold sLF8 at h
  simp only [k2_eta] at h
  exact lspec_ok wF8 s k r h
noncomputable abbrev stpF3 (s : S_ref26_frames_3) : Option (S_ref26_frames_3 ⊕ X_ref26_frames_3) := b_ref26_frames_3 sIsF sIn sLF8 s (fun s => some (.inl s)) (fun x => some (.inr (.inl x))) (fun x => some (.inr (.inr x)))
theorem stepF3 (G : GRow) (i : Nat) (q : Int) (T : Row) (hG : RowsOk G) (hT : LenOk T.2.2.1) (hi : i < G.2.2.1) {j : Nat} (hj : j < (gL G i)) : stpF3 ⟨(i : Int), (G.2.2.2.2 i).1, ((j : Nat) : Int), G, q, T⟩ = cond (((!isFr (gF' G i j)) || (hasB (gF' G i) j (gF' G i j) || (hasB T.2.2.2.2 T.2.2.1 (gF' G i j) || prevB G i (gF' G i j))))) (some (.inr (.inl ⟨false, G, q, T⟩))) (some (.inl ⟨(i : Int), (G.2.2.2.2 i).1, (((j + 1) : Nat) : Int), G, q, T⟩)) := by
  have hl : LenOk (G.2.2.2.2 i).1.2.2.1 := hG.2 i hi
  have hj' : j < (G.2.2.2.2 i).1.2.2.1 := hj
  have e : decide (j < (G.2.2.2.2 i).1.2.2.1) = true := by simp; omega
  have e0 : decide (j ≤ (G.2.2.2.2 i).1.2.2.1) = true := by simp; omega
  have e1 : (decide ((0 : Nat) ≤ 0) && decide ((0 : Int) ≤ (j : Int))) = true := by simp
  have w : IntKind.i64.wrap ((j : Int) + 1) = ((j + 1 : Nat) : Int) := wrap_next hj' hl
  have hlj : LenOk (j - 0) := hl.le (by omega)
  obtain ⟨y, ⟨_, G', i', k', r', q', T', he, hq⟩, hK⟩ := lspec_pos wF8 (s := ⟨(i : Int), (G.2.2.2.2 i).1, (j : Int), 0, G, q, T⟩) ⟨G, i, j, (G.2.2.2.2 i).1, q, T, rfl, hG, by omega, hj'⟩
  simp only [S_ref26_frames_8.mk.injEq] at he
  obtain ⟨he1, rfl, he2, _, rfl, rfl, rfl⟩ := he
  have he1' : i = i' := by omega
  have he2' : j = k' := by omega
  subst he1' he2'
  have hy : y = cond (prevB G i (gF' G i j)) (.inl ⟨false, G, q, T⟩) (.inr ⟨(i : Int), (G.2.2.2.2 i).1, (j : Int), G, q, T⟩) := by
    unfold prevB
    rcases hq with ⟨a, h1, h2, _, rfl⟩ | ⟨h1, rfl⟩
    · have := any_true (p := fun j' => hasB (gF' G j') (gL G j') (gF' G i j)) h1 h2
      rw [this]; rfl
    · have := any_false (p := fun j' => hasB (gF' G j') (gL G j') (gF' G i j)) h1
      rw [this]; rfl
  subst hy
  unfold stpF3 b_ref26_frames_3 sIsF sLF8
  simp only [ltB_nat, bnd_nat, bnd_le, e, e0, e1, Int.toNat_natCast, w, sIn_pos hT, sIn_pos (T := ((G.2.2.2.2 i).1.1, (G.2.2.2.2 i).1.2.1, j - 0, (G.2.2.2.2 i).1.2.2.2.1 - 0, fun a => (G.2.2.2.2 i).1.2.2.2.2 (0 + a))) hlj, sIn_pos (T := ((G.2.2.2.2 i).1.1, Addr.add (G.2.2.2.2 i).1.2.1 (0 * 1), j - 0, (G.2.2.2.2 i).1.2.2.2.1 - 0, fun a => (G.2.2.2.2 i).1.2.2.2.2 (0 + a))) hlj, hasB_shift, hK, cond_true, Bool.cond_self]
  simp only [Nat.sub_zero]
  show _ = cond ((!isFr ((G.2.2.2.2 i).1.2.2.2.2 j)) || (hasB (G.2.2.2.2 i).1.2.2.2.2 j ((G.2.2.2.2 i).1.2.2.2.2 j) || (hasB T.2.2.2.2 T.2.2.1 ((G.2.2.2.2 i).1.2.2.2.2 j) || prevB G i ((G.2.2.2.2 i).1.2.2.2.2 j)))) _ _
  show cond (!isFr ((G.2.2.2.2 i).1.2.2.2.2 j)) _ _ = _
  cases isFr ((G.2.2.2.2 i).1.2.2.2.2 j) <;> cases hasB (G.2.2.2.2 i).1.2.2.2.2 j ((G.2.2.2.2 i).1.2.2.2.2 j) <;> cases hasB T.2.2.2.2 T.2.2.1 ((G.2.2.2.2 i).1.2.2.2.2 j) <;> first | rfl | skip
  have hp : prevB G i (gF' G i j) = prevB G i ((G.2.2.2.2 i).1.2.2.2.2 j) := rfl
  simp only [hp]
  cases prevB G i ((G.2.2.2.2 i).1.2.2.2.2 j) <;> first
    | rfl
    | (show some (Sum.inl (S_ref26_frames_3.mk (i : Int) (G.2.2.2.2 i).1 (IntKind.i64.wrap ((j : Int) + 1)) G q T)) = _; rw [w]; rfl)
theorem lastF3 (G : GRow) (i : Nat) (q : Int) (T : Row) (hG : RowsOk G) (hT : LenOk T.2.2.1) (hi : i < G.2.2.1) : stpF3 ⟨(i : Int), (G.2.2.2.2 i).1, ((((gL G i)) : Nat) : Int), G, q, T⟩ = some (.inr (.inr ⟨G, q, T⟩)) := by
  have e : decide ((G.2.2.2.2 i).1.2.2.1 < (G.2.2.2.2 i).1.2.2.1) = false := by simp
  unfold stpF3 b_ref26_frames_3 gL
  simp only [ltB_nat, e, cond_false]
def WF3 (s : S_ref26_frames_3) : Prop := ∃ (G : GRow) (i : Nat) (q : Int) (T : Row), s = ⟨(i : Int), (G.2.2.2.2 i).1, 0, G, q, T⟩ ∧ RowsOk G ∧ LenOk T.2.2.1 ∧ i < G.2.2.1
def QF3 (s : S_ref26_frames_3) (xx : X_ref26_frames_3) : Prop := ∃ (G : GRow) (i : Nat) (q : Int) (T : Row), s = ⟨(i : Int), (G.2.2.2.2 i).1, 0, G, q, T⟩ ∧ ((∃ j, j < (gL G i) ∧ ((!isFr (gF' G i j)) || (hasB (gF' G i) j (gF' G i j) || (hasB T.2.2.2.2 T.2.2.1 (gF' G i j) || prevB G i (gF' G i j)))) = true ∧ (∀ i0, i0 < j → ((!isFr (gF' G i i0)) || (hasB (gF' G i) i0 (gF' G i i0) || (hasB T.2.2.2.2 T.2.2.1 (gF' G i i0) || prevB G i (gF' G i i0)))) = false) ∧ xx = (.inl ⟨false, G, q, T⟩)) ∨ ((∀ i0, i0 < (gL G i) → ((!isFr (gF' G i i0)) || (hasB (gF' G i) i0 (gF' G i i0) || (hasB T.2.2.2.2 T.2.2.1 (gF' G i i0) || prevB G i (gF' G i i0)))) = false) ∧ xx = (.inr ⟨G, q, T⟩)))
theorem wF3 (s : S_ref26_frames_3) (h : WF3 s) : ∃ x, Ends1 stpF3 s x ∧ QF3 s x := by
  obtain ⟨G, i, q, T, rfl, hG, hT, hi⟩ := h
  rcases scan (stp := stpF3) (st := fun j => ⟨(i : Int), (G.2.2.2.2 i).1, ((j : Nat) : Int), G, q, T⟩) (n := (gL G i)) (bad := fun j => ((!isFr (gF' G i j)) || (hasB (gF' G i) j (gF' G i j) || (hasB T.2.2.2.2 T.2.2.1 (gF' G i j) || prevB G i (gF' G i j))))) (xb := fun j => (.inl ⟨false, G, q, T⟩)) (xe := (.inr ⟨G, q, T⟩)) (fun j hj => stepF3 G i q T hG hT hi hj) (lastF3 G i q T hG hT hi) with ⟨j, h1, h2, h3, h4⟩ | ⟨h1, h2⟩
  · exact ⟨_, h4, G, i, q, T, rfl, .inl ⟨j, h1, h2, h3, rfl⟩⟩
  · exact ⟨_, h2, G, i, q, T, rfl, .inr ⟨h1, rfl⟩⟩
noncomputable def sLF3 {α : Type} : SgL_ref26_frames_3 α := fun s c0 c1 => lspec wF3 s (k2 c0 c1)
theorem lokF3 {α : Type} : LoopOk (α := α) stpF3 (fun (s : S_ref26_frames_3) (k : X_ref26_frames_3 → R α) => sLF3 s (fun x => k (.inl x)) (fun x => k (.inr x))) := by
  intro s k r h
  unfold sLF3 at h
  simp only [k2_eta] at h
  exact lspec_ok wF3 s k r h
def fr26 (c : GConfig) (i : Nat) : Bool := !((List.range (gL c.Guests i)).any fun k => ((!isFr (gF' c.Guests i k)) || (hasB (gF' c.Guests i) k (gF' c.Guests i k) || (hasB c.Tables.2.2.2.2 c.Tables.2.2.1 (gF' c.Guests i k) || prevB c.Guests i (gF' c.Guests i k)))))
theorem fr26_eq {α : Type} {c : GConfig} (h : CfgOk c) {i : Nat} (hi : i < c.Guests.2.2.1) (k : Bool → R α) : p_ref26_frames sLF3 c (i : Int) k = k (fr26 c i) := by
  have e : decide (i < c.Guests.2.2.1) = true := by simp; omega
  obtain ⟨y, ⟨_, G', i', q', T', he, hq⟩, hK⟩ := lspec_pos wF3 (s := ⟨(i : Int), (c.Guests.2.2.2.2 i).1, 0, c.Guests, c.Quantum, c.Tables⟩) ⟨c.Guests, i, c.Quantum, c.Tables, rfl, h.1, h.2, hi⟩
  simp only [S_ref26_frames_3.mk.injEq] at he
  obtain ⟨he1, _, _, rfl, rfl, rfl⟩ := he
  have he1' : i = i' := by omega
  subst he1'
  unfold p_ref26_frames sLF3
  simp only [bnd_nat, e, Int.toNat_natCast, hK, cond_true]
  unfold fr26
  rcases hq with ⟨a, h1, h2, _, rfl⟩ | ⟨h1, rfl⟩
  · rw [any_true h1 h2]; rfl
  · rw [any_false h1]; rfl
noncomputable def sFr26 {α : Type} : Sg_ref26_frames α := fun c i k => @dite _ (CfgOk c ∧ ∃ n : Nat, i = (n : Int) ∧ n < c.Guests.2.2.1) (Classical.propDecidable _) (fun _ => k (fr26 c i.toNat)) (fun _ => none)
theorem sFr26_pos {α : Type} {c : GConfig} (h : CfgOk c) {i : Nat} (hi : i < c.Guests.2.2.1) (k : Bool → R α) : sFr26 c (i : Int) k = k (fr26 c i) := by
  unfold sFr26
  rw [dif_pos ⟨h, i, rfl, hi⟩, Int.toNat_natCast]
noncomputable abbrev stpK5 (s : S_ref26_Check_5) : Option (S_ref26_Check_5 ⊕ X_ref26_Check_5) := b_ref26_Check_5  s (fun s => some (.inl s)) (fun x => some (.inr (.inl x))) (fun x => some (.inr (.inr x)))
theorem stepK5 (G : GRow) (q : Int) (T : Row) (hG : LenOk G.2.2.1) {j : Nat} (hj : j < G.2.2.1) : stpK5 ⟨((G.2.2.1 : Nat) : Int), ((j : Nat) : Int), G, q, T⟩ = cond ((ltB ((gL G j : Nat) : Int) 1 || ltB 16 ((gL G j : Nat) : Int))) (some (.inr (.inl ⟨(j : Int), 240, G, q, T⟩))) (some (.inl ⟨((G.2.2.1 : Nat) : Int), (((j + 1) : Nat) : Int), G, q, T⟩)) := by
  have e : decide (j < G.2.2.1) = true := by simp; omega
  have e1 : ltB (j : Int) (G.2.2.1 : Int) = true := by rw [ltB_nat]; exact e
  unfold stpK5 b_ref26_Check_5 gL
  simp only [e1, bnd_nat, e, Int.toNat_natCast, wrap_next hj hG, cond_true]
  cases ltB (((G.2.2.2.2 j).1.2.2.1 : Nat) : Int) 1 <;> cases ltB 16 (((G.2.2.2.2 j).1.2.2.1 : Nat) : Int) <;> rfl
theorem lastK5 (G : GRow) (q : Int) (T : Row) (hG : LenOk G.2.2.1) : stpK5 ⟨((G.2.2.1 : Nat) : Int), (((G.2.2.1) : Nat) : Int), G, q, T⟩ = some (.inr (.inr ⟨((G.2.2.1 : Nat) : Int), G, q, T⟩)) := by
  have e : decide (G.2.2.1 < G.2.2.1) = false := by simp
  unfold stpK5 b_ref26_Check_5
  simp only [ltB_nat, e, cond_false]
def WK5 (s : S_ref26_Check_5) : Prop := ∃ (G : GRow) (q : Int) (T : Row), s = ⟨((G.2.2.1 : Nat) : Int), 0, G, q, T⟩ ∧ LenOk G.2.2.1
def QK5 (s : S_ref26_Check_5) (xx : X_ref26_Check_5) : Prop := ∃ (G : GRow) (q : Int) (T : Row), s = ⟨((G.2.2.1 : Nat) : Int), 0, G, q, T⟩ ∧ ((∃ j, j < G.2.2.1 ∧ (ltB ((gL G j : Nat) : Int) 1 || ltB 16 ((gL G j : Nat) : Int)) = true ∧ (∀ i0, i0 < j → (ltB ((gL G i0 : Nat) : Int) 1 || ltB 16 ((gL G i0 : Nat) : Int)) = false) ∧ xx = (.inl ⟨(j : Int), 240, G, q, T⟩)) ∨ ((∀ i0, i0 < G.2.2.1 → (ltB ((gL G i0 : Nat) : Int) 1 || ltB 16 ((gL G i0 : Nat) : Int)) = false) ∧ xx = (.inr ⟨((G.2.2.1 : Nat) : Int), G, q, T⟩)))
theorem wK5 (s : S_ref26_Check_5) (h : WK5 s) : ∃ x, Ends1 stpK5 s x ∧ QK5 s x := by
  obtain ⟨G, q, T, rfl, hG⟩ := h
  rcases scan (stp := stpK5) (st := fun j => ⟨((G.2.2.1 : Nat) : Int), ((j : Nat) : Int), G, q, T⟩) (n := G.2.2.1) (bad := fun j => (ltB ((gL G j : Nat) : Int) 1 || ltB 16 ((gL G j : Nat) : Int))) (xb := fun j => (.inl ⟨(j : Int), 240, G, q, T⟩)) (xe := (.inr ⟨((G.2.2.1 : Nat) : Int), G, q, T⟩)) (fun j hj => stepK5 G q T hG hj) (lastK5 G q T hG) with ⟨j, h1, h2, h3, h4⟩ | ⟨h1, h2⟩
  · exact ⟨_, h4, G, q, T, rfl, .inl ⟨j, h1, h2, h3, rfl⟩⟩
  · exact ⟨_, h2, G, q, T, rfl, .inr ⟨h1, rfl⟩⟩
noncomputable def sLK5 {α : Type} : SgL_ref26_Check_5 α := fun s c0 c1 => lspec wK5 s (k2 c0 c1)
theorem lokK5 {α : Type} : LoopOk (α := α) stpK5 (fun (s : S_ref26_Check_5) (k : X_ref26_Check_5 → R α) => sLK5 s (fun x => k (.inl x)) (fun x => k (.inr x))) := by
  intro s k r h
  unfold sLK5 at h
  simp only [k2_eta] at h
  exact lspec_ok wK5 s k r h
noncomputable abbrev stpK12 (s : S_ref26_Check_12) : Option (S_ref26_Check_12 ⊕ X_ref26_Check_12) := b_ref26_Check_12 sFr26 s (fun s => some (.inl s)) (fun x => some (.inr (.inl x))) (fun x => some (.inr (.inr x)))
theorem stepK12 (G : GRow) (q : Int) (T : Row) (hc : CfgOk ⟨G, q, T⟩) {j : Nat} (hj : j < G.2.2.1) : stpK12 ⟨((G.2.2.1 : Nat) : Int), ((j : Nat) : Int), G, q, T⟩ = cond ((!fr26 ⟨G, q, T⟩ j)) (some (.inr (.inl ⟨(j : Int), 241, G, q, T⟩))) (some (.inl ⟨((G.2.2.1 : Nat) : Int), (((j + 1) : Nat) : Int), G, q, T⟩)) := by
  have e : decide (j < G.2.2.1) = true := by simp; omega
  unfold stpK12 b_ref26_Check_12
  simp only [ltB_nat, e, sFr26_pos hc (i := j) hj, wrap_next hj hc.1.1, cond_true]
  try (cases fr26 ⟨G, q, T⟩ j <;> rfl)
theorem lastK12 (G : GRow) (q : Int) (T : Row) (hc : CfgOk ⟨G, q, T⟩) : stpK12 ⟨((G.2.2.1 : Nat) : Int), (((G.2.2.1) : Nat) : Int), G, q, T⟩ = some (.inr (.inr ⟨((G.2.2.1 : Nat) : Int), G, q, T⟩)) := by
  have e : decide (G.2.2.1 < G.2.2.1) = false := by simp
  unfold stpK12 b_ref26_Check_12
  simp only [ltB_nat, e, cond_false]
def WK12 (s : S_ref26_Check_12) : Prop := ∃ (G : GRow) (q : Int) (T : Row), s = ⟨((G.2.2.1 : Nat) : Int), 0, G, q, T⟩ ∧ CfgOk ⟨G, q, T⟩
def QK12 (s : S_ref26_Check_12) (xx : X_ref26_Check_12) : Prop := ∃ (G : GRow) (q : Int) (T : Row), s = ⟨((G.2.2.1 : Nat) : Int), 0, G, q, T⟩ ∧ ((∃ j, j < G.2.2.1 ∧ (!fr26 ⟨G, q, T⟩ j) = true ∧ (∀ i0, i0 < j → (!fr26 ⟨G, q, T⟩ i0) = false) ∧ xx = (.inl ⟨(j : Int), 241, G, q, T⟩)) ∨ ((∀ i0, i0 < G.2.2.1 → (!fr26 ⟨G, q, T⟩ i0) = false) ∧ xx = (.inr ⟨((G.2.2.1 : Nat) : Int), G, q, T⟩)))
theorem wK12 (s : S_ref26_Check_12) (h : WK12 s) : ∃ x, Ends1 stpK12 s x ∧ QK12 s x := by
  obtain ⟨G, q, T, rfl, hc⟩ := h
  rcases scan (stp := stpK12) (st := fun j => ⟨((G.2.2.1 : Nat) : Int), ((j : Nat) : Int), G, q, T⟩) (n := G.2.2.1) (bad := fun j => (!fr26 ⟨G, q, T⟩ j)) (xb := fun j => (.inl ⟨(j : Int), 241, G, q, T⟩)) (xe := (.inr ⟨((G.2.2.1 : Nat) : Int), G, q, T⟩)) (fun j hj => stepK12 G q T hc hj) (lastK12 G q T hc) with ⟨j, h1, h2, h3, h4⟩ | ⟨h1, h2⟩
  · exact ⟨_, h4, G, q, T, rfl, .inl ⟨j, h1, h2, h3, rfl⟩⟩
  · exact ⟨_, h2, G, q, T, rfl, .inr ⟨h1, rfl⟩⟩
noncomputable def sLK12 {α : Type} : SgL_ref26_Check_12 α := fun s c0 c1 => lspec wK12 s (k2 c0 c1)
theorem lokK12 {α : Type} : LoopOk (α := α) stpK12 (fun (s : S_ref26_Check_12) (k : X_ref26_Check_12 → R α) => sLK12 s (fun x => k (.inl x)) (fun x => k (.inr x))) := by
  intro s k r h
  unfold sLK12 at h
  simp only [k2_eta] at h
  exact lspec_ok wK12 s k r h
noncomputable abbrev stpK17 (s : S_ref26_Check_17) : Option (S_ref26_Check_17 ⊕ X_ref26_Check_17) := b_ref26_Check_17 sIsF sIn s (fun s => some (.inl s)) (fun x => some (.inr (.inl x))) (fun x => some (.inr (.inr x)))
theorem stepK17 (a : Int) (G : GRow) (q : Int) (T : Row) (hT : LenOk T.2.2.1) {j : Nat} (hj : j < T.2.2.1) : stpK17 ⟨a, ((j : Nat) : Int), G, q, T⟩ = cond (((!isFr (T.2.2.2.2 j)) || hasB T.2.2.2.2 j (T.2.2.2.2 j))) (some (.inr (.inl ⟨0, 241, G, q, T⟩))) (some (.inl ⟨a, (((j + 1) : Nat) : Int), G, q, T⟩)) := by
  have e : decide (j < T.2.2.1) = true := by simp; omega
  have e0 : decide (j ≤ T.2.2.1) = true := by simp; omega
  have e1 : (decide ((0 : Nat) ≤ 0) && decide ((0 : Int) ≤ (j : Int))) = true := by simp
  have hlj : LenOk (j - 0) := hT.le (by omega)
  unfold stpK17 b_ref26_Check_17 sIsF
  simp only [ltB_nat, bnd_nat, bnd_le, e, e0, e1, Int.toNat_natCast, wrap_next hj hT, sIn_pos (T := (T.1, T.2.1, j - 0, T.2.2.2.1 - 0, fun a => T.2.2.2.2 (0 + a))) hlj, sIn_pos (T := (T.1, Addr.add T.2.1 (0 * 1), j - 0, T.2.2.2.1 - 0, fun a => T.2.2.2.2 (0 + a))) hlj, hasB_shift, cond_true, Bool.cond_self]
  simp only [Nat.sub_zero]
  cases isFr (T.2.2.2.2 j) <;> cases hasB T.2.2.2.2 j (T.2.2.2.2 j) <;> rfl
theorem lastK17 (a : Int) (G : GRow) (q : Int) (T : Row) (hT : LenOk T.2.2.1) : stpK17 ⟨a, (((T.2.2.1) : Nat) : Int), G, q, T⟩ = some (.inr (.inr ⟨a, G, q, T⟩)) := by
  have e : decide (T.2.2.1 < T.2.2.1) = false := by simp
  unfold stpK17 b_ref26_Check_17
  simp only [ltB_nat, e, cond_false]
def WK17 (s : S_ref26_Check_17) : Prop := ∃ (a : Int) (G : GRow) (q : Int) (T : Row), s = ⟨a, 0, G, q, T⟩ ∧ LenOk T.2.2.1
def QK17 (s : S_ref26_Check_17) (xx : X_ref26_Check_17) : Prop := ∃ (a : Int) (G : GRow) (q : Int) (T : Row), s = ⟨a, 0, G, q, T⟩ ∧ ((∃ j, j < T.2.2.1 ∧ ((!isFr (T.2.2.2.2 j)) || hasB T.2.2.2.2 j (T.2.2.2.2 j)) = true ∧ (∀ i0, i0 < j → ((!isFr (T.2.2.2.2 i0)) || hasB T.2.2.2.2 i0 (T.2.2.2.2 i0)) = false) ∧ xx = (.inl ⟨0, 241, G, q, T⟩)) ∨ ((∀ i0, i0 < T.2.2.1 → ((!isFr (T.2.2.2.2 i0)) || hasB T.2.2.2.2 i0 (T.2.2.2.2 i0)) = false) ∧ xx = (.inr ⟨a, G, q, T⟩)))
theorem wK17 (s : S_ref26_Check_17) (h : WK17 s) : ∃ x, Ends1 stpK17 s x ∧ QK17 s x := by
  obtain ⟨a, G, q, T, rfl, hT⟩ := h
  rcases scan (stp := stpK17) (st := fun j => ⟨a, ((j : Nat) : Int), G, q, T⟩) (n := T.2.2.1) (bad := fun j => ((!isFr (T.2.2.2.2 j)) || hasB T.2.2.2.2 j (T.2.2.2.2 j))) (xb := fun j => (.inl ⟨0, 241, G, q, T⟩)) (xe := (.inr ⟨a, G, q, T⟩)) (fun j hj => stepK17 a G q T hT hj) (lastK17 a G q T hT) with ⟨j, h1, h2, h3, h4⟩ | ⟨h1, h2⟩
  · exact ⟨_, h4, a, G, q, T, rfl, .inl ⟨j, h1, h2, h3, rfl⟩⟩
  · exact ⟨_, h2, a, G, q, T, rfl, .inr ⟨h1, rfl⟩⟩
noncomputable def sLK17 {α : Type} : SgL_ref26_Check_17 α := fun s c0 c1 => lspec wK17 s (k2 c0 c1)
theorem lokK17 {α : Type} : LoopOk (α := α) stpK17 (fun (s : S_ref26_Check_17) (k : X_ref26_Check_17 → R α) => sLK17 s (fun x => k (.inl x)) (fun x => k (.inr x))) := by
  intro s k r h
  unfold sLK17 at h
  simp only [k2_eta] at h
  exact lspec_ok wK17 s k r h
def sWin26 {α : Type} : Sg_ref26_Window α := fun g k => k (IntKind.i64.wrap (256 * ((g.Frames.2.2.1 : Nat) : Int)))
theorem win26_eq {α : Type} (g : GGuest) (k : Int → R α) : p_ref26_Window g k = sWin26 g k := by
  unfold p_ref26_Window sWin26
  rw [Int.mul_comm]
noncomputable abbrev stpK22 (s : S_ref26_Check_22) : Option (S_ref26_Check_22 ⊕ X_ref26_Check_22) := b_ref26_Check_22 sWin26 s (fun s => some (.inl s)) (fun x => some (.inr (.inl x))) (fun x => some (.inr (.inr x)))
theorem stepK22 (G : GRow) (q : Int) (T : Row) (hG : LenOk G.2.2.1) {j : Nat} (hj : j < G.2.2.1) : stpK22 ⟨((G.2.2.1 : Nat) : Int), ((j : Nat) : Int), G, q, T⟩ = cond (imB G j) (some (.inr (.inl ⟨(j : Int), 242, G, q, T⟩))) (some (.inl ⟨((G.2.2.1 : Nat) : Int), (((j + 1) : Nat) : Int), G, q, T⟩)) := by
  have e : decide (j < G.2.2.1) = true := by simp; omega
  have e1 : ltB (j : Int) (G.2.2.1 : Int) = true := by rw [ltB_nat]; exact e
  unfold stpK22 b_ref26_Check_22 sWin26 imB gL
  simp only [e1, bnd_nat, e, Int.toNat_natCast, wrap_next hj hG, cond_true]
  cases ltB (IntKind.i64.wrap (256 * (((G.2.2.2.2 j).1.2.2.1 : Nat) : Int))) ((ByteArray.size (G.2.2.2.2 j).2.1 : Nat) : Int) <;>
    cases (Int.tmod (G.2.2.2.2 j).2.2.1 4 != 0) <;>
    cases leB (IntKind.u64.wrap (IntKind.i64.wrap (256 * (((G.2.2.2.2 j).1.2.2.1 : Nat) : Int)))) (G.2.2.2.2 j).2.2.1 <;>
    cases ltB 64 ((ByteArray.size (G.2.2.2.2 j).2.2.2.1 : Nat) : Int) <;> rfl
theorem lastK22 (G : GRow) (q : Int) (T : Row) (hG : LenOk G.2.2.1) : stpK22 ⟨((G.2.2.1 : Nat) : Int), (((G.2.2.1) : Nat) : Int), G, q, T⟩ = some (.inr (.inr ⟨G, q, T⟩)) := by
  have e : decide (G.2.2.1 < G.2.2.1) = false := by simp
  unfold stpK22 b_ref26_Check_22
  simp only [ltB_nat, e, cond_false]
def WK22 (s : S_ref26_Check_22) : Prop := ∃ (G : GRow) (q : Int) (T : Row), s = ⟨((G.2.2.1 : Nat) : Int), 0, G, q, T⟩ ∧ LenOk G.2.2.1
def QK22 (s : S_ref26_Check_22) (xx : X_ref26_Check_22) : Prop := ∃ (G : GRow) (q : Int) (T : Row), s = ⟨((G.2.2.1 : Nat) : Int), 0, G, q, T⟩ ∧ ((∃ j, j < G.2.2.1 ∧ imB G j = true ∧ (∀ i0, i0 < j → imB G i0 = false) ∧ xx = (.inl ⟨(j : Int), 242, G, q, T⟩)) ∨ ((∀ i0, i0 < G.2.2.1 → imB G i0 = false) ∧ xx = (.inr ⟨G, q, T⟩)))
theorem wK22 (s : S_ref26_Check_22) (h : WK22 s) : ∃ x, Ends1 stpK22 s x ∧ QK22 s x := by
  obtain ⟨G, q, T, rfl, hG⟩ := h
  rcases scan (stp := stpK22) (st := fun j => ⟨((G.2.2.1 : Nat) : Int), ((j : Nat) : Int), G, q, T⟩) (n := G.2.2.1) (bad := fun j => imB G j) (xb := fun j => (.inl ⟨(j : Int), 242, G, q, T⟩)) (xe := (.inr ⟨G, q, T⟩)) (fun j hj => stepK22 G q T hG hj) (lastK22 G q T hG) with ⟨j, h1, h2, h3, h4⟩ | ⟨h1, h2⟩
  · exact ⟨_, h4, G, q, T, rfl, .inl ⟨j, h1, h2, h3, rfl⟩⟩
  · exact ⟨_, h2, G, q, T, rfl, .inr ⟨h1, rfl⟩⟩
noncomputable def sLK22 {α : Type} : SgL_ref26_Check_22 α := fun s c0 c1 => lspec wK22 s (k2 c0 c1)
theorem lokK22 {α : Type} : LoopOk (α := α) stpK22 (fun (s : S_ref26_Check_22) (k : X_ref26_Check_22 → R α) => sLK22 s (fun x => k (.inl x)) (fun x => k (.inr x))) := by
  intro s k r h
  unfold sLK22 at h
  simp only [k2_eta] at h
  exact lspec_ok wK22 s k r h
noncomputable abbrev stpOw (s : S_slices_IndexFuncGuests_2) : Option (S_slices_IndexFuncGuests_2 ⊕ X_slices_IndexFuncGuests_2) := b_slices_IndexFuncGuests_2 sHas s (fun s => some (.inl s)) (fun x => some (.inr (.inl x))) (fun x => some (.inr (.inr x)))
theorem stepOw (G : GRow) (x : Int) (hG : RowsOk G) {j : Nat} (hj : j < G.2.2.1) : stpOw ⟨G, ((G.2.2.1 : Nat) : Int), ((j : Nat) : Int), x⟩ = cond (hasB (gF' G j) (gL G j) x) (some (.inr (.inl ⟨(j : Int), x⟩))) (some (.inl ⟨G, ((G.2.2.1 : Nat) : Int), (((j + 1) : Nat) : Int), x⟩)) := by
  have e : decide (j < G.2.2.1) = true := by simp; omega
  have hl : LenOk (G.2.2.2.2 j).1.2.2.1 := hG.2 j hj
  unfold stpOw b_slices_IndexFuncGuests_2
  simp only [ltB_nat, bnd_nat, e, Int.toNat_natCast, wrap_next hj hG.1, sHas_pos hl, cond_true]
  show cond (hasB (gF' G j) (gL G j) x) _ _ = _
  cases hasB (gF' G j) (gL G j) x <;> rfl
theorem lastOw (G : GRow) (x : Int) (hG : RowsOk G) : stpOw ⟨G, ((G.2.2.1 : Nat) : Int), (((G.2.2.1) : Nat) : Int), x⟩ = some (.inr (.inr ⟨x⟩)) := by
  have e : decide (G.2.2.1 < G.2.2.1) = false := by simp
  unfold stpOw b_slices_IndexFuncGuests_2
  simp only [ltB_nat, e, cond_false]
def WOw (s : S_slices_IndexFuncGuests_2) : Prop := ∃ (G : GRow) (x : Int), s = ⟨G, ((G.2.2.1 : Nat) : Int), 0, x⟩ ∧ RowsOk G
def QOw (s : S_slices_IndexFuncGuests_2) (xx : X_slices_IndexFuncGuests_2) : Prop := ∃ (G : GRow) (x : Int), s = ⟨G, ((G.2.2.1 : Nat) : Int), 0, x⟩ ∧ ((∃ j, j < G.2.2.1 ∧ hasB (gF' G j) (gL G j) x = true ∧ (∀ i0, i0 < j → hasB (gF' G i0) (gL G i0) x = false) ∧ xx = (.inl ⟨(j : Int), x⟩)) ∨ ((∀ i0, i0 < G.2.2.1 → hasB (gF' G i0) (gL G i0) x = false) ∧ xx = (.inr ⟨x⟩)))
theorem wOw (s : S_slices_IndexFuncGuests_2) (h : WOw s) : ∃ x, Ends1 stpOw s x ∧ QOw s x := by
  obtain ⟨G, x, rfl, hG⟩ := h
  rcases scan (stp := stpOw) (st := fun j => ⟨G, ((G.2.2.1 : Nat) : Int), ((j : Nat) : Int), x⟩) (n := G.2.2.1) (bad := fun j => hasB (gF' G j) (gL G j) x) (xb := fun j => (.inl ⟨(j : Int), x⟩)) (xe := (.inr ⟨x⟩)) (fun j hj => stepOw G x hG hj) (lastOw G x hG) with ⟨j, h1, h2, h3, h4⟩ | ⟨h1, h2⟩
  · exact ⟨_, h4, G, x, rfl, .inl ⟨j, h1, h2, h3, rfl⟩⟩
  · exact ⟨_, h2, G, x, rfl, .inr ⟨h1, rfl⟩⟩
noncomputable def sLOw {α : Type} : SgL_slices_IndexFuncGuests_2 α := fun s c0 c1 => lspec wOw s (k2 c0 c1)
theorem lokOw {α : Type} : LoopOk (α := α) stpOw (fun (s : S_slices_IndexFuncGuests_2) (k : X_slices_IndexFuncGuests_2 → R α) => sLOw s (fun x => k (.inl x)) (fun x => k (.inr x))) := by
  intro s k r h
  unfold sLOw at h
  simp only [k2_eta] at h
  exact lspec_ok wOw s k r h
end Go.Sh
