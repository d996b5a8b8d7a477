/-
  A second table of one leaf row, plainly: where a place lies.
-/
import Derived.Test.YtigomjcmpafeeaaSpTwoLaw
set_option linter.unusedSimpArgs false
set_option linter.unusedVariables false
namespace Go.Sh
open Go

theorem rmake_w64 (a b : Int) : W64 (rmakeS a b) := bitop_u64 _ _ _
/-- The memory: one entry of frame 1 that leads to frame 2; there n entries E. -/
abbrev ownM (E : Nat → Int) (n : Nat) : Nat → Int := putsM (writeS (fun _ => 0) 256 8 (rmakeS 2 1)) E n
theorem own_byte {E : Nat → Int} (hE : ∀ i, W64 (E i)) (n : Nat) : ByteF (ownM E n) := puts_byte (writeS_byte zero_byte _ _ (rmake_w64 _ _)) hE n
theorem own_root {E : Nat → Int} (hE : ∀ i, W64 (E i)) {n : Nat} {k : Int} (h0 : 0 ≤ k) (h1 : k < 16) : wrd (ownM E n) 1 k = (if k = 0 then 513 else 0, 0) := by
  rw [wrd_eq (by omega) (by omega) h0 h1]
  congr 1
  rw [puts_other hE (by omega) n (by omega)]
  have hm : rmakeS 2 1 = 513 := rmakeS_eq (by omega) (by omega) (by omega) (by omega)
  by_cases hk : k = 0
  · subst hk
    rw [if_pos rfl]
    have := read_write (f := fun _ => 0) zero_byte (a := 256) (v := rmakeS 2 1) (rmake_w64 _ _) (check8 (by omega) (by omega))
    rw [hm] at this ⊢
    exact this
  · rw [if_neg hk, read_other (rmake_w64 _ _) (by omega) (by omega) (by omega), read_zero]
theorem own_low {E : Nat → Int} (hE : ∀ i, W64 (E i)) {n : Nat} (hn : n ≤ 16) {k : Int} (h0 : 0 ≤ k) (h1 : k < 16) : wrd (ownM E n) 2 k = (if k < n then E k.toNat else 0, 0) := by
  rw [wrd_eq (by omega) (by omega) h0 h1]
  congr 1
  obtain ⟨i, rfl⟩ := Int.eq_ofNat_of_zero_le h0
  rw [show 2 * 256 + (i : Int) * 8 = 512 + 8 * (i : Int) by omega]
  by_cases hi : (i : Int) < n
  · rw [if_pos hi, Int.toNat_natCast]
    exact puts_read (writeS_byte zero_byte _ _ (rmake_w64 _ _)) hE n i (by omega) (by omega)
  · rw [if_neg hi, puts_other hE (by omega) n (by omega), read_other (rmake_w64 _ _) (by omega) (by omega) (by omega), read_zero]
theorem own_walk {E : Nat → Int} {fr : Nat → Int} {n : Nat} (hE : ∀ i, W64 (E i)) (hEn : ∀ i, i < n → E i = fr i * 256 + 223 ∧ 0 ≤ fr i ∧ fr i < 128) (hn : n ≤ 16) {at_ : Int} (ha : W64 at_) :
    walkS (ownM E n) 1 at_ = if at_ < 256 * n then (fr (at_ / 256).toNat * 256 + 223, 0) else (0, 1) := by
  unfold walkS
  rw [thr_eq ha]
  have ha0 := ha.1
  by_cases h0 : 65536 ≤ at_
  · rw [if_pos h0, if_neg (by omega)]
  · rw [if_neg h0, own_root hE (by omega) (by omega)]
    by_cases h1 : at_ / 4096 % 16 = 0
    · have i1 : isS 513 = true := by decide +kernel
      have i2 : leafS 513 = false := by decide +kernel
      have i3 : frameS 513 = 2 := by decide +kernel
      have hlt : at_ < 4096 := by omega
      rw [if_pos h1]
      simp only [ne_eq, not_true_eq_false, if_false, i1, i2, i3, if_true, Bool.true_eq_false, own_low hE hn (show 0 ≤ at_ / 256 % 16 by omega) (by omega)]
      by_cases h2 : at_ < 256 * n
      · have h3 : at_ / 256 % 16 < n := by omega
        have h4 : (at_ / 256 % 16).toNat = (at_ / 256).toNat := by omega
        obtain ⟨q1, q2, q3⟩ := hEn (at_ / 256).toNat (by omega)
        have hw : W64 (fr (at_ / 256).toNat * 256 + 223) := ⟨by omega, by omega⟩
        have e1 : (fr (at_ / 256).toNat * 256 + 223) % 256 = 223 := by omega
        have e2 : (fr (at_ / 256).toNat * 256 + 223) / 65536 = 0 := by omega
        have l1 : isLow 223 = true := by decide +kernel
        have l2 : leafLow 223 = true := by decide +kernel
        have j1 : isS (fr (at_ / 256).toNat * 256 + 223) = true := by rw [isS_low hw, e1, e2, l1]; rfl
        have j2 : leafS (fr (at_ / 256).toNat * 256 + 223) = true := by rw [leafS_low hw, j1, e1, l2]; rfl
        rw [if_pos h3, if_pos h2, h4, q1, j1, j2]
        simp
      · have h3 : ¬ at_ / 256 % 16 < n := by omega
        have i4 : isS 0 = false := by decide +kernel
        rw [if_neg h3, if_neg h2, i4]
        simp
    · have i4 : isS 0 = false := by decide +kernel
      rw [if_neg h1, if_neg (by omega), i4]
      simp
      omega
theorem may_223 {kind : Int} (h0 : 0 ≤ kind) (h1 : kind < 3) : mayS 223 kind true false false = true := by
  have : kind = 0 ∨ kind = 1 ∨ kind = 2 := by omega
  rcases this with rfl | rfl | rfl <;> decide +kernel
abbrev ownA : Asking := ⟨false, true, false, false, 0, 5, 0, 1⟩
theorem own_trans {E : Nat → Int} {fr : Nat → Int} {n : Nat} (hE : ∀ i, W64 (E i)) (hEn : ∀ i, i < n → E i = fr i * 256 + 223 ∧ 0 ≤ fr i ∧ fr i < 128) (hn : n ≤ 16) {at_ : Int} (ha : W64 at_) {kind : Int} (hk0 : 0 ≤ kind) (hk1 : kind < 3) (u : Bool) :
    transA (ownM E n) ownA at_ kind u true = if at_ < 256 * n then ⟨fr (at_ / 256).toNat * 256 + at_ % 256, ⟨true, true, at_ / 256, 0, 5, fr (at_ / 256).toNat, 255, 223, at_ / 256⟩, noFault, true⟩ else ⟨0, noEntry, guestS at_ kind true at_, false⟩ := by
  have ha0 := ha.1
  have hoff : offA ownA = false := rfl
  unfold transA
  rw [hoff]
  simp only [cond_false]
  by_cases h0 : 65536 ≤ at_
  · rw [leB_true.mpr h0, if_neg (by omega)]
    rfl
  · have h0' : leB 65536 at_ = false := leB_false.mpr h0
    have hf : firstS (ownM E n) false true false false 0 1 at_ kind true u = ⟨at_, 255, noFault, true⟩ := rfl
    rw [h0', hf]
    simp only [cond_false, Bool.not_true]
    have hw := own_walk hE hEn hn ha
    unfold secondS
    rw [hw]
    by_cases h1 : at_ < 256 * n
    · rw [if_pos h1, if_pos h1]
      obtain ⟨q1, q2, q3⟩ := hEn (at_ / 256).toNat (by omega)
      have hw : W64 (fr (at_ / 256).toNat * 256 + 223) := ⟨by omega, by omega⟩
      have e1 : leafBits (fr (at_ / 256).toNat * 256 + 223) = 223 := by rw [leafBits_eq hw]; omega
      have e2 : frameS (fr (at_ / 256).toNat * 256 + 223) = fr (at_ / 256).toNat := by rw [frameS_eq hw]; omega
      simp only [e1, e2, may_223 hk0 hk1, joinS_eq q2 (show fr (at_ / 256).toNat < 72057594037927936 by omega) ha, Bool.not_true, cond_false]
      have p1 : pageOf at_ = at_ / 256 := by
        unfold pageOf
        rw [gshr_u64 (by omega)]
        exact wrap_i64 (by show _ ≤ at_ / 256; omega) (by show at_ / 256 < _; omega)
      have p2 : pageOf (fr (at_ / 256).toNat * 256 + at_ % 256) = fr (at_ / 256).toNat := by
        unfold pageOf
        rw [gshr_u64 (by omega)]
        have : (2 : Int) ^ (8 : Int).toNat = 256 := rfl
        rw [this, wrap_i64 (by omega) (by omega)]
        omega
      have z : ((0 : Int) != 0) = false := rfl
      simp only [z, cond_false]
      rw [p1, p2]
    · rw [if_neg h1, if_neg h1]
      rfl
end Go.Sh
