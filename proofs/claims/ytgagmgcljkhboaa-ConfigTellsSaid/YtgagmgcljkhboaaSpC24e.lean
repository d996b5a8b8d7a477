/-
  The law ConfigApart, told without the program.
-/
import Derived.Test.YtgagmgcljkhboaaSpC24d
set_option linter.unusedSimpArgs false
set_option linter.unusedVariables false
namespace Go.Sh
open Go

/-! ### few -/
abbrev stpF (s : S_law24_few_2) : Option (S_law24_few_2 ⊕ X_law24_few_2) := b_law24_few_2 s (fun s => some (.inl s)) (fun x => some (.inr (.inl x))) (fun x => some (.inr (.inr x)))
def WF (s : S_law24_few_2) : Prop := s.v0 = 0 ∧ LenOk s.v1.2.2.1
def QF (s : S_law24_few_2) (x : X_law24_few_2) : Prop := match x with
  | .inl _ => True
  | .inr y => y = ⟨s.v1, s.v2, s.v3⟩
theorem goF (G : GRow) (q : Int) (T : Row) (hG : LenOk G.2.2.1) : ∀ (m j : Nat), j + m = G.2.2.1 → ∃ y, Ends1 stpF ⟨(j : Int), G, q, T⟩ y ∧ QF ⟨0, G, q, T⟩ y
  | 0, j, h => by
    have hj : j = G.2.2.1 := by omega
    subst hj
    refine ⟨.inr ⟨G, q, T⟩, .stop ?_, rfl⟩
    have e : decide (G.2.2.1 < G.2.2.1) = false := by simp
    unfold stpF b_law24_few_2
    simp only [ltB_nat, e, cond_false]
  | m + 1, j, h => by
    have hlt : j < G.2.2.1 := by omega
    have e : decide (j < G.2.2.1) = true := by simp; omega
    have se : stpF ⟨(j : Int), G, q, T⟩ = cond (ltB 20 (((G.2.2.2.2 j).1.2.2.1 : Nat) : Int) || (ltB 5000 ((ByteArray.size (G.2.2.2.2 j).2.1 : Nat) : Int) || ltB 100 ((ByteArray.size (G.2.2.2.2 j).2.2.2.1 : Nat) : Int))) (some (.inr (.inl ⟨false, G, q, T⟩))) (some (.inl ⟨((j + 1 : Nat) : Int), G, q, T⟩)) := by
      unfold stpF b_law24_few_2
      have e1 : ltB (j : Int) (G.2.2.1 : Int) = true := by rw [ltB_nat]; exact e
      simp only [e1, bnd_nat, e, Int.toNat_natCast, wrap_next hlt hG, cond_true]
      cases ltB 20 (((G.2.2.2.2 j).1.2.2.1 : Nat) : Int) <;> cases ltB 5000 ((ByteArray.size (G.2.2.2.2 j).2.1 : Nat) : Int) <;> cases ltB 100 ((ByteArray.size (G.2.2.2.2 j).2.2.2.1 : Nat) : Int) <;> rfl
    cases hb : (ltB 20 (((G.2.2.2.2 j).1.2.2.1 : Nat) : Int) || (ltB 5000 ((ByteArray.size (G.2.2.2.2 j).2.1 : Nat) : Int) || ltB 100 ((ByteArray.size (G.2.2.2.2 j).2.2.2.1 : Nat) : Int)))
    · rw [hb] at se
      obtain ⟨y, h5, h6⟩ := goF G q T hG m (j + 1) (by omega)
      exact ⟨y, .next se h5, h6⟩
    · rw [hb] at se
      exact ⟨.inl ⟨false, G, q, T⟩, .stop se, trivial⟩
theorem wF (s : S_law24_few_2) (h : WF s) : ∃ x, Ends1 stpF s x ∧ QF s x := by
  obtain ⟨j, G, q, T⟩ := s
  obtain ⟨h1, h2⟩ := h
  simp only at h1 h2
  subst h1
  exact goF G q T h2 G.2.2.1 0 (by omega)
noncomputable def sLF {α : Type} : SgL_law24_few_2 α := fun s c0 c1 => lspec wF s (k2 c0 c1)
theorem lokF {α : Type} : LoopOk (α := α) stpF (fun (s : S_law24_few_2) (k : X_law24_few_2 → R α) => sLF s (fun x => k (.inl x)) (fun x => k (.inr x))) := by
  intro s k r h
  unfold sLF at h
  simp only [k2_eta] at h
  exact lspec_ok wF s k r h
theorem few_w (c : GConfig) (h : CfgOk c) : ∃ b : Bool, ∀ {α : Type} (k : Bool → R α), p_law24_few sLF c k = k b := by
  obtain ⟨x, ⟨_, hq⟩, hK⟩ := lspec_pos wF (s := ⟨0, c.Guests, c.Quantum, c.Tables⟩) ⟨rfl, h.1.1⟩
  rcases x with x | x
  · exact ⟨x.v0, fun k => by unfold p_law24_few sLF; rw [hK]; rfl⟩
  · refine ⟨leB ((x.v0.2.2.1 : Nat) : Int) 6 && leB ((x.v2.2.2.1 : Nat) : Int) 20, fun k => ?_⟩
    unfold p_law24_few sLF
    rw [hK]
    simp only [k2]
    cases leB ((x.v0.2.2.1 : Nat) : Int) 6 <;> rfl
noncomputable def fewB (c : GConfig) : Bool := @dite _ (CfgOk c) (Classical.propDecidable _) (fun h => Classical.choose (few_w c h)) (fun _ => false)
theorem few_eq {α : Type} {c : GConfig} (h : CfgOk c) (k : Bool → R α) : p_law24_few sLF c k = k (fewB c) := by
  unfold fewB
  rw [dif_pos h]
  exact Classical.choose_spec (few_w c h) k
/-! ### Whose a frame is -/
def ofN (f : Nat → Int) (v : Int) (o : Nat → Int) : Nat → (Nat → Int)
  | 0 => o
  | n + 1 => upd (ofN f v o n) (f n).toNat v
def Sim (o : Nat → Int) (tk : Nat → Bool) : Prop := ∀ x, (o x != 0) = tk x
theorem Sim.n {f : Nat → Int} {v : Int} {o : Nat → Int} {tk : Nat → Bool} (h : Sim o tk) (hv : v ≠ 0) : ∀ n, Sim (ofN f v o n) (tkN f tk n)
  | 0 => h
  | n + 1 => by
    intro x
    have ih := Sim.n (f := f) h hv n x
    simp only [ofN, tkN, upd]
    cases Nat.beq x (f n).toNat
    · exact ih
    · simpa using hv
abbrev stpA13 (s : S_law24_ConfigApart_13) : Option (S_law24_ConfigApart_13 ⊕ X_law24_ConfigApart_13) := b_law24_ConfigApart_13 s (fun s => some (.inl s)) (fun x => some (.inr (.inl x))) (fun x => some (.inr (.inr x)))
def WA13 (s : S_law24_ConfigApart_13) : Prop := s.v1 = 0 ∧ ∃ g : Nat, s.v0 = (g : Int) ∧ g < s.v2.2.2.1 ∧ LenOk s.v2.2.2.1 ∧ LenOk (gL s.v2 g) ∧ ∃ B tk, Sim s.v5 tk ∧ okN B (gF' s.v2 g) tk (gL s.v2 g)
def QA13 (s : S_law24_ConfigApart_13) (x : X_law24_ConfigApart_13) : Prop := x = .inr ⟨s.v0, s.v2, s.v3, s.v4, ofN (gF' s.v2 s.v0.toNat) (s.v0 + 1) s.v5 (gL s.v2 s.v0.toNat)⟩
theorem goA13 {g : Nat} {G : GRow} (q : Int) (T : Row) {o : Nat → Int} {B : Int → Bool} {tk : Nat → Bool} (hg : g < G.2.2.1) (hG : LenOk G.2.2.1) (hL : LenOk (gL G g)) (hs : Sim o tk) (hk : okN B (gF' G g) tk (gL G g)) : ∀ (m j : Nat), j + m = gL G g →
    Ends1 stpA13 ⟨(g : Int), (j : Int), G, q, T, ofN (gF' G g) ((g : Int) + 1) o j⟩ (.inr ⟨(g : Int), G, q, T, ofN (gF' G g) ((g : Int) + 1) o (gL G g)⟩)
  | 0, j, h => by
    have hj : j = gL G g := by omega
    subst hj
    refine .stop ?_
    have e : decide (gL G g < gL G g) = false := by simp
    have e2 : decide (g < G.2.2.1) = true := by simp; omega
    unfold gL at e
    unfold stpA13 b_law24_ConfigApart_13
    simp only [bnd_nat, e2, Int.toNat_natCast, gL, ltB_nat, e, cond_true, cond_false]
  | m + 1, j, h => by
    have hlt : j < gL G g := by omega
    have e : decide (j < gL G g) = true := by simp; omega
    have e2 : decide (g < G.2.2.1) = true := by simp; omega
    obtain ⟨_, b1, b2, b3⟩ := hk j hlt
    have c1 : ltB (gF' G g j) 0 = false := by simp [ltB]; omega
    have c2 : leB 128 (gF' G g j) = false := by simp [leB]; omega
    have c3 : (decide (0 ≤ gF' G g j) && decide (gF' G g j < 128)) = true := by simp; omega
    have c4 : decide ((gF' G g j).toNat < 128) = true := by simp; omega
    have c5 : (ofN (gF' G g) ((g : Int) + 1) o j (gF' G g j).toNat != 0) = false := by rw [hs.n (by omega) j]; exact b3
    have w1 : IntKind.i64.wrap ((g : Int) + 1) = (g : Int) + 1 := by unfold LenOk at hG; exact wrap_i64 (by omega) (by omega)
    have w2 := wrap_next hlt hL
    refine .next ?_ (goA13 q T hg hG hL hs hk m (j + 1) (by omega))
    unfold gL at e
    unfold gF' at c1 c2 c3 c4 c5
    unfold stpA13 b_law24_ConfigApart_13
    simp only [bnd_nat, e2, Int.toNat_natCast, ltB_nat, e, gF', c1, c2, c3, c4, c5, w1, w2, cond_true, cond_false]
    rfl
theorem wA13 (s : S_law24_ConfigApart_13) (h : WA13 s) : ∃ x, Ends1 stpA13 s x ∧ QA13 s x := by
  obtain ⟨a, j, G, q, T, o⟩ := s
  obtain ⟨h1, g, h2, h3, h4, h5, B, tk, h6, h7⟩ := h
  simp only at h1 h2 h3 h4 h5 h6 h7
  subst h1 h2
  exact ⟨_, goA13 q T h3 h4 h5 h6 h7 (gL G g) 0 (by omega), rfl⟩
noncomputable def sLA13 {α : Type} : SgL_law24_ConfigApart_13 α := fun s c0 c1 => lspec wA13 s (k2 c0 c1)
theorem lokA13 {α : Type} : LoopOk (α := α) stpA13 (fun (s : S_law24_ConfigApart_13) (k : X_law24_ConfigApart_13 → R α) => sLA13 s (fun x => k (.inl x)) (fun x => k (.inr x))) := by
  intro s k r h
  unfold sLA13 at h
  simp only [k2_eta] at h
  exact lspec_ok wA13 s k r h
/-! ### All guests -/
noncomputable abbrev stpA10 (s : S_law24_ConfigApart_10) : Option (S_law24_ConfigApart_10 ⊕ X_law24_ConfigApart_10) := b_law24_ConfigApart_10 sWin sLA13 s (fun s => some (.inl s)) (fun x => some (.inr (.inl x))) (fun x => some (.inr (.inr x)))
def WA10 (s : S_law24_ConfigApart_10) : Prop := s.v0 = 0 ∧ s.v4 = (fun _ => 0) ∧ RowsOk s.v1 ∧ (∃ T, okG T s.v1 s.v1.2.2.1) ∧ ∀ g, g < s.v1.2.2.1 → imB s.v1 g = false
def QA10 (s : S_law24_ConfigApart_10) (x : X_law24_ConfigApart_10) : Prop := ∃ o, x = .inr ⟨s.v1, s.v2, s.v3, o⟩ ∧ Sim o (tkG s.v1 s.v1.2.2.1)
theorem goA10 {G : GRow} (q : Int) (T : Row) (hG : RowsOk G) {T2 : Row} (hk : okG T2 G G.2.2.1) (hi : ∀ g, g < G.2.2.1 → imB G g = false) : ∀ (m j : Nat), j + m = G.2.2.1 → ∀ {o : Nat → Int}, Sim o (tkG G j) →
    ∃ o', Ends1 stpA10 ⟨(j : Int), G, q, T, o⟩ (.inr ⟨G, q, T, o'⟩) ∧ Sim o' (tkG G G.2.2.1)
  | 0, j, h, o, hs => by
    have hj : j = G.2.2.1 := by omega
    subst hj
    refine ⟨o, .stop ?_, hs⟩
    have e : decide (G.2.2.1 < G.2.2.1) = false := by simp
    unfold stpA10 b_law24_ConfigApart_10
    simp only [ltB_nat, e, cond_false]
  | m + 1, j, h, o, hs => by
    have hlt : j < G.2.2.1 := by omega
    have e : decide (j < G.2.2.1) = true := by simp; omega
    obtain ⟨x, ⟨_, hq⟩, hK⟩ := lspec_pos wA13 (s := ⟨(j : Int), 0, G, q, T, o⟩) ⟨rfl, j, rfl, hlt, hG.1, hG.2 j hlt, _, _, hs, hk j hlt⟩
    have hx : x = .inr ⟨(j : Int), G, q, T, ofN (gF' G j) ((j : Int) + 1) o (gL G j)⟩ := hq
    subst hx
    have hs2 : Sim (ofN (gF' G j) ((j : Int) + 1) o (gL G j)) (tkG G (j + 1)) := hs.n (by omega) _
    obtain ⟨o', h5, h6⟩ := goA10 q T hG hk hi m (j + 1) (by omega) hs2
    refine ⟨o', .next ?_ h5, h6⟩
    have hb := hi j hlt
    unfold imB gL at hb
    simp only [Bool.or_eq_false_iff] at hb
    obtain ⟨b1, b2, b3, b4⟩ := hb
    have e1 : ltB (j : Int) (G.2.2.1 : Int) = true := by rw [ltB_nat]; exact e
    unfold stpA10 b_law24_ConfigApart_10 sLA13 sWin
    simp only [e1, bnd_nat, e, Int.toNat_natCast, hK, k2, b1, b3, wrap_next hlt hG.1, cond_true, cond_false]
theorem wA10 (s : S_law24_ConfigApart_10) (h : WA10 s) : ∃ x, Ends1 stpA10 s x ∧ QA10 s x := by
  obtain ⟨j, G, q, T, o⟩ := s
  obtain ⟨h1, h2, h3, ⟨T2, h4⟩, h5⟩ := h
  simp only at h1 h2 h3 h4 h5
  subst h1 h2
  obtain ⟨o', h6, h7⟩ := goA10 q T h3 h4 h5 G.2.2.1 0 (by omega) (o := fun _ => 0) (fun x => rfl)
  exact ⟨_, h6, o', rfl, h7⟩
noncomputable def sLA10 {α : Type} : SgL_law24_ConfigApart_10 α := fun s c0 c1 => lspec wA10 s (k2 c0 c1)
theorem lokA10 {α : Type} : LoopOk (α := α) stpA10 (fun (s : S_law24_ConfigApart_10) (k : X_law24_ConfigApart_10 → R α) => sLA10 s (fun x => k (.inl x)) (fun x => k (.inr x))) := by
  intro s k r h
  unfold sLA10 at h
  simp only [k2_eta] at h
  exact lspec_ok wA10 s k r h
/-! ### Tables -/
abbrev stpA22 (s : S_law24_ConfigApart_22) : Option (S_law24_ConfigApart_22 ⊕ X_law24_ConfigApart_22) := b_law24_ConfigApart_22 s (fun s => some (.inl s)) (fun x => some (.inr (.inl x))) (fun x => some (.inr (.inr x)))
def WA22 (s : S_law24_ConfigApart_22) : Prop := s.v0 = 0 ∧ LenOk s.v3.2.2.1 ∧ ∃ tk, Sim s.v4 tk ∧ okT s.v3 tk s.v3.2.2.1
def QA22 (s : S_law24_ConfigApart_22) (x : X_law24_ConfigApart_22) : Prop := ∃ o, x = .inr ⟨s.v1, s.v2, s.v3, o⟩
theorem goA22 (G : GRow) (q : Int) {T : Row} (hT : LenOk T.2.2.1) {o : Nat → Int} {tk : Nat → Bool} (hs : Sim o tk) (hk : okT T tk T.2.2.1) : ∀ (m j : Nat), j + m = T.2.2.1 →
    Ends1 stpA22 ⟨(j : Int), G, q, T, ofN T.2.2.2.2 99 o j⟩ (.inr ⟨G, q, T, ofN T.2.2.2.2 99 o T.2.2.1⟩)
  | 0, j, h => by
    have hj : j = T.2.2.1 := by omega
    subst hj
    refine .stop ?_
    have e : decide (T.2.2.1 < T.2.2.1) = false := by simp
    unfold stpA22 b_law24_ConfigApart_22
    simp only [ltB_nat, e, cond_false]
  | m + 1, j, h => by
    have hlt : j < T.2.2.1 := by omega
    have e : decide (j < T.2.2.1) = true := by simp; omega
    obtain ⟨_, b1, b2, b3⟩ := hk j hlt
    have c1 : ltB (T.2.2.2.2 j) 0 = false := by simp [ltB]; omega
    have c2 : leB 128 (T.2.2.2.2 j) = false := by simp [leB]; omega
    have c3 : (decide (0 ≤ T.2.2.2.2 j) && decide (T.2.2.2.2 j < 128)) = true := by simp; omega
    have c4 : decide ((T.2.2.2.2 j).toNat < 128) = true := by simp; omega
    have c5 : (ofN T.2.2.2.2 99 o j (T.2.2.2.2 j).toNat != 0) = false := by rw [hs.n (by omega) j]; exact b3
    refine .next ?_ (goA22 G q hT hs hk m (j + 1) (by omega))
    have e1 : ltB (j : Int) (T.2.2.1 : Int) = true := by rw [ltB_nat]; exact e
    unfold stpA22 b_law24_ConfigApart_22
    simp only [e1, bnd_nat, e, Int.toNat_natCast, c1, c2, c3, c4, c5, wrap_next hlt hT, cond_true, cond_false]
    rfl
theorem wA22 (s : S_law24_ConfigApart_22) (h : WA22 s) : ∃ x, Ends1 stpA22 s x ∧ QA22 s x := by
  obtain ⟨j, G, q, T, o⟩ := s
  obtain ⟨h1, h2, tk, h3, h4⟩ := h
  simp only at h1 h2 h3 h4
  subst h1
  exact ⟨_, goA22 G q h2 h3 h4 T.2.2.1 0 (by omega), _, rfl⟩
noncomputable def sLA22 {α : Type} : SgL_law24_ConfigApart_22 α := fun s c0 c1 => lspec wA22 s (k2 c0 c1)
theorem lokA22 {α : Type} : LoopOk (α := α) stpA22 (fun (s : S_law24_ConfigApart_22) (k : X_law24_ConfigApart_22 → R α) => sLA22 s (fun x => k (.inl x)) (fun x => k (.inr x))) := by
  intro s k r h
  unfold sLA22 at h
  simp only [k2_eta] at h
  exact lspec_ok wA22 s k r h
/-! ### The law -/
theorem chk_ok {c : GConfig} (h : (chkS c).2 = 0) : manyB c = false ∧ quB c = false ∧ okG c.Tables c.Guests c.Guests.2.2.1 ∧ okT c.Tables (tkG c.Guests c.Guests.2.2.1) c.Tables.2.2.1 ∧ ∀ g, g < c.Guests.2.2.1 → imB c.Guests g = false := by
  revert h
  unfold chkS
  cases manyB c <;> simp only [cond_true, cond_false]
  case true => intro h; cases h
  cases firstN (lnBad c) c.Guests.2.2.1
  case some g => intro h; cases h
  cases quB c <;> simp only [cond_true, cond_false]
  case true => intro h; cases h
  cases hf : (frS c).2 <;> simp only [Bool.not_true, Bool.not_false, cond_true, cond_false]
  case false => intro h; cases h
  cases hi : firstN (fun g => imB c.Guests g = true) c.Guests.2.2.1
  case some g => intro h; cases h
  intro _
  unfold frS at hf
  cases hg : firstN (frBad c) c.Guests.2.2.1
  case some g => rw [hg] at hf; cases hf
  rw [hg] at hf
  simp only at hf
  refine ⟨trivial, trivial, fun g hl => Classical.not_not.1 (firstN_no hg g hl), ?_, fun g hl => by simpa using firstN_no hi g hl⟩
  by_cases hb : tbBad c
  · rw [if_pos hb] at hf; cases hf
  · exact Classical.not_not.1 hb
def sKnown24 {α : Type} : Sg_law24_known α := fun k => k true
noncomputable def sFew24 {α : Type} : Sg_law24_few α := fun c k => @dite _ (CfgOk c) (Classical.propDecidable _) (fun _ => k (fewB c)) (fun _ => none)
noncomputable def sCheck {α : Type} : Sg_config_Check α := fun c k => @dite _ (CfgOk c) (Classical.propDecidable _) (fun _ => k (chkS c).1 (chkS c).2) (fun _ => none)
theorem apart_eq {α : Type} {c : GConfig} (h : CfgOk c) (k : Bool → R α) : p_law24_ConfigApart sKnown24 sFew24 sCheck sLA10 sLA22 c k = k true := by
  unfold p_law24_ConfigApart sKnown24 sFew24 sCheck sLA10 sLA22
  simp only [dif_pos h, Bool.not_true, cond_false]
  cases fewB c
  · rfl
  simp only [Bool.not_true, cond_false]
  cases hz : ((chkS c).2 != 0)
  case true => rfl
  obtain ⟨h1, h2, h3, h4, h5⟩ := chk_ok (by simpa using hz)
  simp only [cond_false]
  obtain ⟨x, ⟨_, o, hx, hs⟩, hK⟩ := lspec_pos wA10 (s := ⟨0, c.Guests, c.Quantum, c.Tables, fun _ => 0⟩) ⟨rfl, rfl, h.1, ⟨_, h3⟩, h5⟩
  simp only at hx hs
  subst hx
  rw [hK]
  simp only [k2]
  obtain ⟨y, ⟨_, o2, hy⟩, hK2⟩ := lspec_pos wA22 (s := ⟨0, c.Guests, c.Quantum, c.Tables, o⟩) ⟨rfl, h.2, _, hs, h4⟩
  simp only at hy
  subst hy
  rw [hK2]
  simp only [k2]
  unfold manyB at h1
  unfold quB at h2
  simp only [Bool.or_eq_false_iff, Bool.not_eq_false', Bool.and_eq_true] at h1 h2
  have e : (((c.Tables.2.2.1 : Nat) : Int) == IntKind.i64.wrap (2 * ((c.Guests.2.2.1 : Nat) : Int))) = true := by simpa using h1.2
  rw [e, h2.1]
  rfl
noncomputable def sApart {α : Type} : Sg_law24_ConfigApart α := fun c k => @dite _ (CfgOk c) (Classical.propDecidable _) (fun _ => k true) (fun _ => none)
end Go.Sh
