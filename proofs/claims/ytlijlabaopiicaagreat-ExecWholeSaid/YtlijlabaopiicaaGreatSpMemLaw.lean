/-
  Memory, plainly: what is written is read; the rest stays. Parts of words as numbers.
-/
import Derived.Test.YtlijlabaopiicaaGreatSpMem
set_option linter.unusedSimpArgs false
set_option linter.unusedVariables false
namespace Go.Sh
open Go
def le (g : Nat → Int) : Nat → Int
  | 0 => 0
  | n + 1 => le g n + g n * 256 ^ n
theorem bytesAt_strOf {f : Nat → Int} {n i : Nat} (hi : i < n) (h0 : 0 ≤ f i) (h1 : f i < 256) : bytesAt (strOf f n) i = f i := by
  unfold bytesAt
  have hs := strOf_size f n
  rw [getElem?_pos (strOf f n) i (by omega)]
  simp [strOf, strOfNums, ByteArray.getElem_eq_getElem_data]
  omega
theorem writeS_at {f : Nat → Int} {a n v : Int} (hc : checkS a n = 0) (_hv : W64 v) (i : Nat) :
    writeS f a n v i = if a.toNat ≤ i ∧ i < a.toNat + n.toNat then v / 256 ^ (i - a.toNat) % 256 else f i := by
  obtain ⟨h1, _, _⟩ := checkS_zero hc
  unfold writeS
  rw [if_pos hc]
  unfold cpy
  by_cases hi : a.toNat ≤ i ∧ i < a.toNat + n.toNat
  · have e1 : Nat.ble a.toNat i = true := by simpa using hi.1
    have e2 : Nat.blt i (a.toNat + n.toNat) = true := by simpa using hi.2
    rw [e1, e2, if_pos hi]
    simp only [Bool.and_self, cond_true]
    have hk : i - a.toNat < (c8 n).toNat := by rw [c8_same (by omega) (by omega)]; omega
    have hk8 : i - a.toNat < 8 := by omega
    unfold bytesS
    have hw : IntKind.u8.wrap (gshr .u64 v (8 * ((i - a.toNat : Nat) : Int))) = v / 256 ^ (i - a.toNat) % 256 := by
      rw [wrap_u8_mod, gshr_u64 (by omega)]
      have : (8 * ((i - a.toNat : Nat) : Int)).toNat = 8 * (i - a.toNat) := by omega
      rw [this, Int.pow_mul]
      rfl
    rw [bytesAt_strOf hk (by rw [wrap_u8_mod]; omega) (by rw [wrap_u8_mod]; omega), hw]
  · rw [if_neg hi]
    cases e1 : Nat.ble a.toNat i
    · rfl
    · cases e2 : Nat.blt i (a.toNat + n.toNat)
      · rfl
      · exact absurd ⟨by simpa using e1, by simpa using e2⟩ hi
theorem writeS_off {f : Nat → Int} {a n v : Int} (hc : checkS a n ≠ 0) : writeS f a n v = f := by unfold writeS; rw [if_neg hc]
theorem maskS_eq {n : Int} (h0 : 0 ≤ n) (h1 : n ≤ 64) : maskS n = 2 ^ n.toNat - 1 := by
  obtain ⟨k, rfl⟩ := Int.eq_ofNat_of_zero_le h0
  unfold maskS
  by_cases h : (64 : Int) ≤ k
  · have : k = 64 := by omega
    subst this
    rfl
  · rw [if_neg h, gshl_u64 (by omega) (by omega), Int.toNat_natCast, Int.one_mul]
    have hp := pow_le (n := k) (by omega)
    have hp0 := pow_pos' k
    rw [Int.emod_eq_of_lt (by omega) (by omega), wrap_u64 (by omega) (by omega)]
theorem bitsS_eq {v lo n : Int} (hv : W64 v) (h0 : 0 ≤ lo) (h1 : lo ≤ 63) (h2 : 0 ≤ n) (h3 : n ≤ 64 - lo) : bitsS v lo n = v / 2 ^ lo.toNat % 2 ^ n.toNat := by
  have e1 : loS lo = lo := by rw [loS_eq, if_neg (by omega), if_neg (by omega)]
  have e2 : nS lo n = n := by rw [nS_eq, e1, if_neg (show ¬ n < 0 by omega), if_neg (by omega)]
  unfold bitsS
  rw [e1, e2, maskS_eq h2 (by omega), gshr_u64 (by omega)]
  have hp := pow_pos' lo.toNat
  have hd0 : 0 ≤ v / 2 ^ lo.toNat := Int.ediv_nonneg hv.1 (by omega)
  have hd1 : v / 2 ^ lo.toNat < 18446744073709551616 := by
    have := Int.ediv_le_self (2 ^ lo.toNat) hv.1
    have := hv.2
    omega
  exact and_mask hd0 hd1 (by omega)
end Go.Sh
