/-
  Walks, plainly: entries by their bytes.
-/
import Derived.Test.YtemkfjnmaljmeaaGreatSpTwo
import Derived.Test.YtemkfjnmaljmeaaGreatSpMemLaw
set_option linter.unusedSimpArgs false
set_option linter.unusedVariables false
namespace Go.Sh
open Go
theorem and_low {e m : Int} (he : W64 e) (h0 : 0 ≤ m) (h1 : m < 256) : bitop .and .u64 e m = bitop .and .u64 (e % 256) m := by
  rw [bitop_and he.1 he.2 h0 (by omega), bitop_and (by omega) (by omega) h0 (by omega)]
  obtain ⟨n, rfl⟩ := Int.eq_ofNat_of_zero_le he.1
  obtain ⟨k, rfl⟩ := Int.eq_ofNat_of_zero_le h0
  have hk : k < 2 ^ 8 := by omega
  have e1 : ((n : Int) % 256).toNat = n % 2 ^ 8 := by omega
  rw [e1, Int.toNat_natCast, Int.toNat_natCast]
  congr 1
  apply Nat.eq_of_testBit_eq
  intro i
  rw [Nat.testBit_and, Nat.testBit_and, Nat.testBit_mod_two_pow]
  by_cases hi : i < 8
  · simp [hi]
  · have : k.testBit i = false := Nat.testBit_lt_two_pow (Nat.lt_of_lt_of_le hk (Nat.pow_le_pow_right (by omega) (by omega)))
    simp [this]
def isLow (b : Int) : Bool := (bitop .and .u64 b 1 != 0) && (((bitop .and .u64 b 4 == 0) || (bitop .and .u64 b 2 != 0)) && (bitop .and .u64 b 32 == 0))
theorem isS_low {e : Int} (he : W64 e) : isS e = (isLow (e % 256) && (e / 65536 == 0)) := by
  unfold isS isLow
  rw [and_low he (m := 1) (by omega) (by omega), and_low he (m := 4) (by omega) (by omega), and_low he (m := 2) (by omega) (by omega), and_low he (m := 32) (by omega) (by omega), gshr_u64 (by omega)]
  have : (2 : Int) ^ (16 : Int).toNat = 65536 := rfl
  rw [this]
  cases (bitop .and .u64 (e % 256) 1 != 0) <;> cases ((bitop .and .u64 (e % 256) 4 == 0) || (bitop .and .u64 (e % 256) 2 != 0)) <;> rfl
theorem frameS_eq {e : Int} (he : W64 e) : frameS e = e / 256 % 256 := by
  unfold frameS
  rw [bitsS_eq he (by omega) (by omega) (by omega) (by omega)]
  have e1 : (2 : Int) ^ (8 : Int).toNat = 256 := rfl
  rw [e1]
  exact wrap_i64 (by omega) (by omega)
theorem leafBits_eq {e : Int} (he : W64 e) : leafBits e = e % 256 := by
  unfold leafBits
  rw [zextS_8 he]
  exact wrap_i64 (by omega) (by omega)
theorem joinS_eq {fr at_ : Int} (h0 : 0 ≤ fr) (h1 : fr < 72057594037927936) (ha : W64 at_) : joinS fr at_ = fr * 256 + at_ % 256 := by
  unfold joinS
  rw [wrap_u64 h0 (by omega), zextS_8 ha, gshl_u64 (by omega) (by omega)]
  have e1 : (2 : Int) ^ (8 : Int).toNat = 256 := rfl
  rw [e1, Int.emod_eq_of_lt (by omega) (by omega)]
  rw [bitop_or (by omega) (by omega) (by omega) (by omega)]
  obtain ⟨n, rfl⟩ := Int.eq_ofNat_of_zero_le h0
  obtain ⟨m, hm⟩ := Int.eq_ofNat_of_zero_le (show 0 ≤ at_ % 256 by omega)
  rw [hm]
  have hlt : m < 2 ^ 8 := by omega
  have e2 := Nat.two_pow_add_eq_or_of_lt hlt n
  have e3 : ((n : Int) * 256).toNat = 2 ^ 8 * n := by omega
  rw [e3, Int.toNat_natCast, ← e2]
  omega
theorem bits4 {v : Int} (hv : W64 v) : bitsS v 12 4 = v / 4096 % 16 ∧ bitsS v 8 4 = v / 256 % 16 := by
  constructor
  · rw [bitsS_eq hv (by omega) (by omega) (by omega) (by omega)]; rfl
  · rw [bitsS_eq hv (by omega) (by omega) (by omega) (by omega)]; rfl
theorem check8 {a : Int} (h : a % 8 = 0) (h1 : a < 32768) : checkS a 8 = 0 := by
  unfold checkS
  rw [if_neg (by omega), if_neg (by omega)]
end Go.Sh
