/-
  Memory, plainly: what is written is read; the rest stays. Parts of words as numbers.
-/
import Derived.Test.YtlijlabaopiicaaGreatSpMem
set_option linter.unusedSimpArgs false
set_option linter.unusedVariables false
namespace Go.Sh
open Go
theorem pow2_eq (k : Nat) : (2 : Int) ^ k = ((2 ^ k : Nat) : Int) := by simp
def le (g : Nat → Int) : Nat → Int
  | 0 => 0
  | n + 1 => le g n + g n * 256 ^ n
theorem maskS_eq {n : Int} (h0 : 0 ≤ n) (h1 : n ≤ 64) : maskS n = 2 ^ n.toNat - 1 := by
  obtain ⟨k, rfl⟩ := Int.eq_ofNat_of_zero_le h0
  unfold maskS
  by_cases h : (64 : Int) ≤ k
  · have : k = 64 := by omega
    subst this
    rfl
  · rw [if_neg h, gshl_u64 (by omega) (by omega), Int.toNat_natCast, Int.one_mul]
    have hp := pow_le (n := k) (by omega)
    have hp0 := pow_pos' k
    rw [Int.emod_eq_of_lt (by omega) (by omega), wrap_u64 (by omega) (by omega)]
theorem bitsS_eq {v lo n : Int} (hv : W64 v) (h0 : 0 ≤ lo) (h1 : lo ≤ 63) (h2 : 0 ≤ n) (h3 : n ≤ 64 - lo) : bitsS v lo n = v / 2 ^ lo.toNat % 2 ^ n.toNat := by
  have e1 : loS lo = lo := by rw [loS_eq, if_neg (by omega), if_neg (by omega)]
  have e2 : nS lo n = n := by rw [nS_eq, e1, if_neg (show ¬ n < 0 by omega), if_neg (by omega)]
  unfold bitsS
  rw [e1, e2, maskS_eq h2 (by omega), gshr_u64 (by omega)]
  have hp := pow_pos' lo.toNat
  have hd0 : 0 ≤ v / 2 ^ lo.toNat := Int.ediv_nonneg hv.1 (by omega)
  have hd1 : v / 2 ^ lo.toNat < 18446744073709551616 := by
    have := Int.ediv_le_self (2 ^ lo.toNat) hv.1
    have := hv.2
    omega
  exact and_mask hd0 hd1 (by omega)
end Go.Sh
