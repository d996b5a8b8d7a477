/-
  Chapter 12's laws on printed functions: TwoTells.
-/
import Derived.Test.YtigomjcmpafeeaaSpT12
import Derived.Test.YtigomjcmpafeeaaSpBoth12
set_option linter.unusedSimpArgs false
set_option linter.unusedVariables false
namespace Go.Sh
open Go

/-! ### The document's translation, as a contract -/
open Classical in
noncomputable def tkR (f : Nat → Int) (s : GState) (at_ kind level : Int) (v exec : Bool) : Bool × Nat × (Nat → Int) :=
  if h : ByteF f ∧ CsrOk s.C ∧ W64 at_ ∧ K3 kind then Classical.choose (rTrans_w h.1 h.2.1 h.2.2.1 h.2.2.2 level v exec) else (true, 0, fun _ => 0)
theorem tkR_spec {f : Nat → Int} (hf : ByteF f) {s : GState} (hc : CsrOk s.C) {at_ : Int} (ha : W64 at_) {kind : Int} (hk : K3 kind) (level : Int) (v exec : Bool) :
    (tkR f s at_ kind level v exec).2.1 ≤ 10 ∧ ∀ {α : Type} (k : Int → GEntry → GFault → Bool → Bool → Nat → (Nat → Int) → R α), p_ref11_Translate sRAsk sRPage sRGF sRFirst sRmay sRGuest sRBad f s at_ kind level v exec k =
      k (transG f (askS s.C level v) at_ kind (if exec then 0 else kind) (level == 0) v).to (gE (transG f (askS s.C level v) at_ kind (if exec then 0 else kind) (level == 0) v).e) (gF (transG f (askS s.C level v) at_ kind (if exec then 0 else kind) (level == 0) v).f) (transG f (askS s.C level v) at_ kind (if exec then 0 else kind) (level == 0) v).ok (tkR f s at_ kind level v exec).1 (tkR f s at_ kind level v exec).2.1 (tkR f s at_ kind level v exec).2.2 := by
  unfold tkR
  rw [dif_pos ⟨hf, hc, ha, hk⟩]
  exact Classical.choose_spec (rTrans_w hf hc ha hk level v exec)
noncomputable def sRTrans {α : Type} : Sg_ref11_Translate α := fun f s at_ kind level v exec k => grd (ByteF f ∧ CsrOk s.C ∧ W64 at_ ∧ K3 kind)
  (k (transG f (askS s.C level v) at_ kind (if exec then 0 else kind) (level == 0) v).to (gE (transG f (askS s.C level v) at_ kind (if exec then 0 else kind) (level == 0) v).e) (gF (transG f (askS s.C level v) at_ kind (if exec then 0 else kind) (level == 0) v).f) (transG f (askS s.C level v) at_ kind (if exec then 0 else kind) (level == 0) v).ok (tkR f s at_ kind level v exec).1 (tkR f s at_ kind level v exec).2.1 (tkR f s at_ kind level v exec).2.2)
/-! ### The program's ones -/
def sKnown {α : Type} : Sg_law12_known α := fun k => k true
def sTrans {α : Type} : Sg_two_Translate α := fun f s at_ kind level v k => k (transA f (askS s.C level v) at_ kind (level == 0) v).to (gE (transA f (askS s.C level v) at_ kind (level == 0) v).e) (gF (transA f (askS s.C level v) at_ kind (level == 0) v).f) (transA f (askS s.C level v) at_ kind (level == 0) v).ok
def sGuest {α : Type} : Sg_two_Guest α := fun f s place kind k => k (secondS f (bitS s.C 21 63) (onR s.C 21) place kind).1 (secondS f (bitS s.C 21 63) (onR s.C 21) place kind).2.2
def sAsk {α : Type} : Sg_two_Ask α := fun s level v k => k (toG (askS s.C level v))
def oE (e : GEntry) : Entry := ⟨e.Valid, e.V, e.Page, e.Asid, e.Vmid, e.Frame, e.Bits, e.Host, e.Guest⟩
def sAllowed {α : Type} : Sg_two_Allowed α := fun s e at_ kind level v k => k (gF (allowS (askS s.C level v) (oE e) at_ kind (level == 0) v).1) (allowS (askS s.C level v) (oE e) at_ kind (level == 0) v).2
def sFew {α : Type} : Sg_law12_few α := fun l k => k (leB (l.2.2.1 : Int) 60)
/-! ### The two memories -/
def rowOk (l : Bool × Addr × Nat × Nat × (Nat → Int × Int × Unit)) : Prop := ∀ i, i < l.2.2.1 → W64 (pA l.2.2.2.2 i) ∧ W64 (pB l.2.2.2.2 i)
def sWriteM {α : Type} : Sg_mem_Memory_Write α := fun f a n v k => cond (decide (0 ≤ a)) (k (writeS f a n v) (checkS a n)) none
noncomputable def sLoop {α : Type} : SgL_law12_both_3 α := fun s k => grd (s.v1 = 0 ∧ s.v0.2.2.1 ≤ 60 ∧ rowOk s.v0) (k ⟨putW s.v2 (pA s.v0.2.2.2.2) (pB s.v0.2.2.2.2) s.v0.2.2.1, putW s.v3 (pA s.v0.2.2.2.2) (pB s.v0.2.2.2.2) s.v0.2.2.1⟩)
abbrev stpB (s : S_law12_both_3) : Option (S_law12_both_3 ⊕ X_law12_both_3) := b_law12_both_3 sRCodeB sWriteM sRWriteB s (fun s => some (.inl s)) (fun x => some (.inr x))
theorem round_both {l : Bool × Addr × Nat × Nat × (Nat → Int × Int × Unit)} (hl : l.2.2.1 ≤ 60) (hw : rowOk l) {j : Nat} (hj : j < l.2.2.1) (M G : Nat → Int) :
    stpB ⟨l, (j : Int), M, G⟩ = some (.inl ⟨l, ((j + 1 : Nat) : Int), writeS M (pA l.2.2.2.2 j) 8 (pB l.2.2.2.2 j), writeS G (pA l.2.2.2.2 j) 8 (pB l.2.2.2.2 j)⟩) := by
  obtain ⟨⟨a0, a1⟩, b0, b1⟩ := hw j hj
  have g1 : ltB (j : Int) (l.2.2.1 : Int) = true := by simp [ltB]; omega
  have g2 : (decide ((0 : Int) ≤ (j : Int)) && decide ((j : Int) < (l.2.2.1 : Int))) = true := by simp; omega
  have g3 : IntKind.i64.wrap ((j : Int) + 1) = ((j + 1 : Nat) : Int) := by rw [wrap_i64 (by omega) (by omega)]; omega
  have ga : (l.2.2.2.2 j).1 = pA l.2.2.2.2 j := rfl
  have gb : (l.2.2.2.2 j).2.1 = pB l.2.2.2.2 j := rfl
  unfold stpB b_law12_both_3 sRCodeB sWriteM sRWriteB
  simp only [g1, g2, g3, Int.toNat_natCast, ga, gb, decide_eq_true a0, decide_eq_true a1, Bool.true_and, decide_eq_true b0, decide_eq_true b1, cond_true]
  by_cases hc : checkS (pA l.2.2.2.2 j) 8 = 0
  · simp only [hc, decide_eq_true, cond_true, beq_self_eq_true]
  · have h2 : (checkS (pA l.2.2.2.2 j) 8 == 0) = false := by simpa using hc
    simp only [h2, cond_false, writeS_off hc]
theorem loop_both {l : Bool × Addr × Nat × Nat × (Nat → Int × Int × Unit)} (hl : l.2.2.1 ≤ 60) (hw : rowOk l) (M G : Nat → Int) : ∀ (m j : Nat), j + m = l.2.2.1 →
    lps stpB (m + 1) ⟨l, (j : Int), putW M (pA l.2.2.2.2) (pB l.2.2.2.2) j, putW G (pA l.2.2.2.2) (pB l.2.2.2.2) j⟩ = some ⟨putW M (pA l.2.2.2.2) (pB l.2.2.2.2) l.2.2.1, putW G (pA l.2.2.2.2) (pB l.2.2.2.2) l.2.2.1⟩
  | 0, j, h => by
    have g1 : ltB (j : Int) (l.2.2.1 : Int) = false := by simp [ltB]; omega
    have hj : j = l.2.2.1 := by omega
    have : stpB ⟨l, (j : Int), putW M (pA l.2.2.2.2) (pB l.2.2.2.2) j, putW G (pA l.2.2.2.2) (pB l.2.2.2.2) j⟩ = some (.inr ⟨putW M (pA l.2.2.2.2) (pB l.2.2.2.2) j, putW G (pA l.2.2.2.2) (pB l.2.2.2.2) j⟩) := by
      unfold stpB b_law12_both_3
      simp only [g1, cond_false]
    simp only [lps, this]
    rw [hj]
  | m + 1, j, h => by
    have h1 := round_both hl hw (j := j) (by omega) (putW M (pA l.2.2.2.2) (pB l.2.2.2.2) j) (putW G (pA l.2.2.2.2) (pB l.2.2.2.2) j)
    rw [lps, h1]
    exact loop_both hl hw M G m (j + 1) (by omega)
theorem loopOk_both {α : Type} : LoopOk (α := α) stpB (fun (s : S_law12_both_3) (k : X_law12_both_3 → R α) => sLoop s (fun x => k x)) := by
  intro s k r h
  obtain ⟨⟨h1, h2, h3⟩, h4⟩ := grd_some h
  obtain ⟨l, i, M, G⟩ := s
  simp only at h1 h2 h3 h4
  subst h1
  exact ⟨_, _, loop_both h2 h3 M G l.2.2.1 0 (by omega), h4⟩
noncomputable def sBoth {α : Type} : Sg_law12_both α := fun l k => grd (l.2.2.1 ≤ 60 ∧ rowOk l) (k (putW (fun _ => 0) (pA l.2.2.2.2) (pB l.2.2.2.2) l.2.2.1) (putW (fun _ => 0) (pA l.2.2.2.2) (pB l.2.2.2.2) l.2.2.1))
theorem both_eq {α : Type} {l : Bool × Addr × Nat × Nat × (Nat → Int × Int × Unit)} (hl : l.2.2.1 ≤ 60) (hw : rowOk l) (k : (Nat → Int) → (Nat → Int) → R α) : p_law12_both sLoop l k = k (putW (fun _ => 0) (pA l.2.2.2.2) (pB l.2.2.2.2) l.2.2.1) (putW (fun _ => 0) (pA l.2.2.2.2) (pB l.2.2.2.2) l.2.2.1) := by
  unfold p_law12_both sLoop
  rw [grd_pos ⟨rfl, hl, hw⟩]
/-! ### The state that is cleaned -/
theorem cond_ex {τ : Type} {Q : τ → Prop} {b : Bool} {A B : {α : Type} → (τ → R α) → R α} (h1 : ∃ w : τ, (∀ {α : Type} (k : τ → R α), A k = k w) ∧ Q w) (h2 : ∃ w : τ, (∀ {α : Type} (k : τ → R α), B k = k w) ∧ Q w) :
    ∃ w : τ, (∀ {α : Type} (k : τ → R α), cond b (A k) (B k) = k w) ∧ Q w := by
  cases b
  · exact h2
  · exact h1
theorem mask_w (i : Int) : ∃ w : Int, (∀ {α : Type} (k : Int → R α), p_ref8_Mask i k = k w) ∧ True := by
  unfold p_ref8_Mask
  dsimp only
  repeat' first
    | exact ⟨_, fun _ => rfl, trivial⟩
    | apply cond_ex
noncomputable def maskW (i : Int) : Int := Classical.choose (mask_w i)
theorem mask_eq (i : Int) {α : Type} (k : Int → R α) : p_ref8_Mask i k = k (maskW i) := (Classical.choose_spec (mask_w i)).1 k
theorem mpp_w {c : Int} (hc : W64 c) : ∃ w : Int, (∀ {α : Type} (k : Int → R α), p_ref8_Mpp c k = k w) ∧ W64 w := by
  unfold p_ref8_Mpp
  dsimp only
  apply cond_ex
  · exact ⟨_, fun _ => rfl, bitop_u64 _ _ _⟩
  · exact ⟨_, fun _ => rfl, hc⟩
open Classical in
noncomputable def mppW (c : Int) : Int := if h : W64 c then Classical.choose (mpp_w h) else 0
theorem mpp_eq {c : Int} (hc : W64 c) {α : Type} (k : Int → R α) : p_ref8_Mpp c k = k (mppW c) := by
  unfold mppW
  rw [dif_pos hc]
  exact (Classical.choose_spec (mpp_w hc)).1 k
theorem mppW_w (c : Int) : W64 (mppW c) := by
  unfold mppW
  split
  · rename_i h
    exact (Classical.choose_spec (mpp_w h)).2
  · exact ⟨by omega, by omega⟩
noncomputable def sMask {α : Type} : Sg_ref8_Mask α := fun i k => k (maskW i)
noncomputable def sMpp {α : Type} : Sg_ref8_Mpp α := fun c k => grd (W64 c) (k (mppW c))
def CsrUp (m : List Nat) (f : Nat → Int) : Prop := ∀ i, i ∈ m → W64 (f i)
theorem CsrUp.nil (f : Nat → Int) : CsrUp [] f := fun i h => by cases h
theorem CsrUp.up {m : List Nat} {f : Nat → Int} (h : CsrUp m f) {x : Int} (hx : W64 x) (j : Nat) : CsrUp (j :: m) (upd f j x) := by
  intro i hi
  unfold upd
  cases hb : Nat.beq i j
  · rw [List.mem_cons] at hi
    rcases hi with rfl | hi
    · rw [Nat.beq_refl] at hb; cases hb
    · exact h i hi
  · exact hx
theorem CsrUp.ok {m : List Nat} {f : Nat → Int} (h : CsrUp m f) (hm : (List.range 29).all (fun i => m.contains i) = true) : CsrOk f := by
  intro i hi
  rw [List.all_eq_true] at hm
  exact h i (by simpa using hm i (by simpa using hi))
set_option maxRecDepth 100000 in
theorem clean_w (s : GState) : ∃ w : GState, (∀ {α : Type} (k : GState → R α), p_ref18_Clean sMask sMpp s k = k w) ∧ CsrOk w.C := by
  unfold p_ref18_Clean sMask sMpp
  dsimp only
  simp only [grd_pos (bitop_u64 .and _ _ : W64 _)]
  repeat' first
    | (refine ⟨_, fun _ => rfl, CsrUp.ok (m := [0, 28, 27, 26, 25, 24, 23, 22, 21, 20, 19, 18, 17, 16, 15, 14, 13, 12, 11, 10, 9, 8, 7, 6, 5, 4, 3, 2, 1, 0]) ?_ (by kernel_rfl)⟩; refine CsrUp.up ?_ (mppW_w _) 0; repeat' (first | exact CsrUp.nil _ | refine CsrUp.up ?_ (bitop_u64 .and _ _) _))
    | apply cond_ex
noncomputable def cleanW (s : GState) : GState := Classical.choose (clean_w s)
noncomputable def sClean {α : Type} : Sg_ref18_Clean α := fun s k => k (cleanW s)
theorem cleanW_w (s : GState) : CsrOk (cleanW s).C := (Classical.choose_spec (clean_w s)).2
theorem clean_eq (s : GState) {α : Type} (k : GState → R α) : p_ref18_Clean sMask sMpp s k = k (cleanW s) := (Classical.choose_spec (clean_w s)).1 k
end Go.Sh
