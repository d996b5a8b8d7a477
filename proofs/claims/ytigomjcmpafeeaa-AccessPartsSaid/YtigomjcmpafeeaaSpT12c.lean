/-
  The law TwoTells, told without the program.
-/
import Derived.Test.YtigomjcmpafeeaaSpT12b
set_option linter.unusedSimpArgs false
set_option linter.unusedVariables false
namespace Go.Sh
open Go

theorem w64_le {a : Int} (h : 0 ≤ a ∧ a ≤ 18446744073709551615) : W64 a := ⟨h.1, by omega⟩
theorem kind3 {c : Int} (h0 : 0 ≤ c) : K3 (IntKind.i64.wrap (Int.tmod c 3)) := by
  have e : Int.tmod c 3 = c % 3 := Int.tmod_eq_emod_of_nonneg h0
  rw [e]
  have : c % 3 = 0 ∨ c % 3 = 1 ∨ c % 3 = 2 := by omega
  rcases this with h | h | h <;> rw [h]
  · exact .inl rfl
  · exact .inr (.inl rfl)
  · exact .inr (.inr rfl)
theorem ask_lv1 {c : Nat → Int} {level : Int} (h : level = 0 ∨ level = 1) : (toG (askS c level true)).Second = bitS c 21 63 ∧ (toG (askS c level true)).Host = onR c 21 := by
  rcases h with rfl | rfl <;> exact ⟨rfl, rfl⟩
theorem ask_lv3 (c : Nat → Int) (v : Bool) : toG (askS c 3 v) = ⟨false, false, false, false, 0, 0, 0, 0⟩ := rfl
set_option maxHeartbeats 4000000 in
theorem tells_eq {l : Bool × Addr × Nat × Nat × (Nat → Int × Int × Unit)} (hw : rowOk l) {s : GState} {at_ kind : Int} (ha : W64 at_) (hk : 0 ≤ kind) (user v : Bool) {α : Type} (k : Bool → R α) :
    p_law12_TwoTells sKnown sFew sBoth sClean sTrans sRTrans sRAsk sGuest sRGuest sAsk l s at_ kind user v k = k true := by
  unfold p_law12_TwoTells sKnown sFew
  cases hl : leB (l.2.2.1 : Int) 60
  · rfl
  have hl' : l.2.2.1 ≤ 60 := by simp [leB] at hl; omega
  have k3 := kind3 hk
  have hc := cleanW_w s
  simp only [sBoth, grd_pos (show l.2.2.1 ≤ 60 ∧ rowOk l from ⟨hl', hw⟩), sClean, Bool.not_true, cond_false]
  have hb : ByteF (putW (fun _ => 0) (pA l.2.2.2.2) (pB l.2.2.2.2) l.2.2.1) := putW_byte' zero_byte _ fun i hi => (hw i hi).2
  generalize putW (fun _ => 0) (pA l.2.2.2.2) (pB l.2.2.2.2) l.2.2.1 = M at hb ⊢
  generalize cleanW s = c at hc ⊢
  generalize IntKind.i64.wrap (Int.tmod kind 3) = kk at k3 ⊢
  have q0 := ask_lv1 (c := c.C) (level := 0) (.inl rfl)
  have q1 := ask_lv1 (c := c.C) (level := 1) (.inr rfl)
  simp only [sTrans, sRTrans, sRAsk, sGuest, sRGuest, sAsk, grd_pos hc, grd_pos (show ByteF M ∧ CsrOk c.C ∧ W64 at_ ∧ K3 kk from ⟨hb, hc, ha, k3⟩), grd_pos (show ByteF M ∧ W64 at_ ∧ K3 kk from ⟨hb, ha, k3⟩), q0.1, q0.2, q1.1, q1.2, ask_lv3, Bool.false_eq_true, if_false, transG_same]
  cases user <;> simp only [beq_self_eq_true, Bool.and_self, cond_true, cond_false, Bool.cond_self]
noncomputable def sTells {α : Type} : Sg_law12_TwoTells α := fun l _ at_ kind _ _ k => grd (rowOk l ∧ W64 at_ ∧ 0 ≤ kind) (k true)
end Go.Sh
