/-
  The document's translation as a contract; the state that is cleaned.
-/
import Derived.Test.YtemkfjnmaljmeaaGreatSpR12d
import Derived.Test.YtemkfjnmaljmeaaGreatSpA17
set_option linter.unusedSimpArgs false
set_option linter.unusedVariables false
namespace Go.Sh
open Go
open Classical in
noncomputable def tkR (f : Nat → Int) (s : GState) (at_ kind level : Int) (v exec : Bool) : Bool × Nat × (Nat → Int) :=
  if h : ByteF f ∧ CsrOk s.C ∧ W64 at_ ∧ K3 kind then Classical.choose (rTrans_w h.1 h.2.1 h.2.2.1 h.2.2.2 level v exec) else (true, 0, fun _ => 0)
theorem tkR_spec {f : Nat → Int} (hf : ByteF f) {s : GState} (hc : CsrOk s.C) {at_ : Int} (ha : W64 at_) {kind : Int} (hk : K3 kind) (level : Int) (v exec : Bool) :
    ((tkR f s at_ kind level v exec).2.1 ≤ 10 ∧ ((tkR f s at_ kind level v exec).1 = false → 0 < (tkR f s at_ kind level v exec).2.1)) ∧ ∀ {α : Type} (k : Int → GEntry → GFault → Bool → Bool → Nat → (Nat → Int) → R α), p_zy sRAsk sRPage sRGF sRFirst sRmay sRGuest sRBad f s at_ kind level v exec k =
      k (transG f (askS s.C level v) at_ kind (if exec then 0 else kind) (level == 0) v).to (gE (transG f (askS s.C level v) at_ kind (if exec then 0 else kind) (level == 0) v).e) (gF (transG f (askS s.C level v) at_ kind (if exec then 0 else kind) (level == 0) v).f) (transG f (askS s.C level v) at_ kind (if exec then 0 else kind) (level == 0) v).ok (tkR f s at_ kind level v exec).1 (tkR f s at_ kind level v exec).2.1 (tkR f s at_ kind level v exec).2.2 := by
  unfold tkR
  rw [dif_pos ⟨hf, hc, ha, hk⟩]
  exact Classical.choose_spec (rTrans_w hf hc ha hk level v exec)
noncomputable def sRTrans {α : Type} : Sg_zy α := fun f s at_ kind level v exec k => grd (ByteF f ∧ CsrOk s.C ∧ W64 at_ ∧ K3 kind)
  (k (transG f (askS s.C level v) at_ kind (if exec then 0 else kind) (level == 0) v).to (gE (transG f (askS s.C level v) at_ kind (if exec then 0 else kind) (level == 0) v).e) (gF (transG f (askS s.C level v) at_ kind (if exec then 0 else kind) (level == 0) v).f) (transG f (askS s.C level v) at_ kind (if exec then 0 else kind) (level == 0) v).ok (tkR f s at_ kind level v exec).1 (tkR f s at_ kind level v exec).2.1 (tkR f s at_ kind level v exec).2.2)
def sTrans {α : Type} : Sg_zq α := fun f s at_ kind level v k => k (transA f (askS s.C level v) at_ kind (level == 0) v).to (gE (transA f (askS s.C level v) at_ kind (level == 0) v).e) (gF (transA f (askS s.C level v) at_ kind (level == 0) v).f) (transA f (askS s.C level v) at_ kind (level == 0) v).ok
theorem cond_ex {τ : Type} {Q : τ → Prop} {b : Bool} {A B : {α : Type} → (τ → R α) → R α} (h1 : ∃ w : τ, (∀ {α : Type} (k : τ → R α), A k = k w) ∧ Q w) (h2 : ∃ w : τ, (∀ {α : Type} (k : τ → R α), B k = k w) ∧ Q w) :
    ∃ w : τ, (∀ {α : Type} (k : τ → R α), cond b (A k) (B k) = k w) ∧ Q w := by
  cases b
  · exact h2
  · exact h1
theorem mask_w (i : Int) : ∃ w : Int, (∀ {α : Type} (k : Int → R α), p_z1 i k = k w) ∧ True := by
  unfold p_z1
  dsimp only
  repeat' first
    | exact ⟨_, fun _ => rfl, trivial⟩
    | apply cond_ex
noncomputable def maskW (i : Int) : Int := Classical.choose (mask_w i)
theorem mask_eq (i : Int) {α : Type} (k : Int → R α) : p_z1 i k = k (maskW i) := (Classical.choose_spec (mask_w i)).1 k
theorem mpp_w {c : Int} (hc : W64 c) : ∃ w : Int, (∀ {α : Type} (k : Int → R α), p_z17 c k = k w) ∧ W64 w := by
  unfold p_z17
  dsimp only
  apply cond_ex
  · exact ⟨_, fun _ => rfl, bitop_u64 _ _ _⟩
  · exact ⟨_, fun _ => rfl, hc⟩
open Classical in
noncomputable def mppW (c : Int) : Int := if h : W64 c then Classical.choose (mpp_w h) else 0
theorem mpp_eq {c : Int} (hc : W64 c) {α : Type} (k : Int → R α) : p_z17 c k = k (mppW c) := by
  unfold mppW
  rw [dif_pos hc]
  exact (Classical.choose_spec (mpp_w hc)).1 k
theorem mppW_w (c : Int) : W64 (mppW c) := by
  unfold mppW
  split
  · rename_i h
    exact (Classical.choose_spec (mpp_w h)).2
  · exact ⟨by omega, by omega⟩
noncomputable def sMask {α : Type} : Sg_z1 α := fun i k => k (maskW i)
noncomputable def sMpp {α : Type} : Sg_z17 α := fun c k => grd (W64 c) (k (mppW c))
def CsrUp (m : List Nat) (f : Nat → Int) : Prop := ∀ i, i ∈ m → W64 (f i)
theorem CsrUp.nil (f : Nat → Int) : CsrUp [] f := fun i h => by cases h
theorem CsrUp.up {m : List Nat} {f : Nat → Int} (h : CsrUp m f) {x : Int} (hx : W64 x) (j : Nat) : CsrUp (j :: m) (upd f j x) := by
  intro i hi
  unfold upd
  cases hb : Nat.beq i j
  · rw [List.mem_cons] at hi
    rcases hi with rfl | hi
    · rw [Nat.beq_refl] at hb; cases hb
    · exact h i hi
  · exact hx
theorem CsrUp.ok {m : List Nat} {f : Nat → Int} (h : CsrUp m f) (hm : (List.range 29).all (fun i => m.contains i) = true) : CsrOk f := by
  intro i hi
  rw [List.all_eq_true] at hm
  exact h i (by simpa using hm i (by simpa using hi))
set_option maxRecDepth 100000 in
theorem clean_w (s : GState) : ∃ w : GState, (∀ {α : Type} (k : GState → R α), p_z1h sMask sMpp s k = k w) ∧ CsrOk w.C := by
  unfold p_z1h sMask sMpp
  dsimp only
  simp only [grd_pos (bitop_u64 .and _ _ : W64 _)]
  repeat' first
    | (refine ⟨_, fun _ => rfl, CsrUp.ok (m := [0, 28, 27, 26, 25, 24, 23, 22, 21, 20, 19, 18, 17, 16, 15, 14, 13, 12, 11, 10, 9, 8, 7, 6, 5, 4, 3, 2, 1, 0]) ?_ (by kernel_rfl)⟩; refine CsrUp.up ?_ (mppW_w _) 0; repeat' (first | exact CsrUp.nil _ | refine CsrUp.up ?_ (bitop_u64 .and _ _) _))
    | apply cond_ex
noncomputable def cleanW (s : GState) : GState := Classical.choose (clean_w s)
noncomputable def sClean {α : Type} : Sg_z1h α := fun s k => k (cleanW s)
theorem cleanW_w (s : GState) : CsrOk (cleanW s).C := (Classical.choose_spec (clean_w s)).2
theorem clean_eq (s : GState) {α : Type} (k : GState → R α) : p_z1h sMask sMpp s k = k (cleanW s) := (Classical.choose_spec (clean_w s)).1 k
end Go.Sh
