/-
  Arithmetic of words: sums of bits, shifts, signs.
-/
import Derived.Test.YtigomjcmpafeeaaSk19
set_option linter.unusedSimpArgs false
set_option linter.unusedVariables false
namespace Go.Sh
open Go

abbrev W64 (a : Int) : Prop := 0 ≤ a ∧ a < 18446744073709551616

theorem or_add_and (a : Nat) : ∀ b : Nat, (a ||| b) + (a &&& b) = a + b := by
  induction a using Nat.strongRecOn with
  | _ a ih =>
    intro b
    by_cases h0 : a = 0
    · subst h0; simp
    · have i := ih (a / 2) (by omega) (b / 2)
      have e1 : (a ||| b) / 2 = a / 2 ||| b / 2 := Nat.or_div_two
      have e2 : (a &&& b) / 2 = a / 2 &&& b / 2 := Nat.and_div_two
      have d1 := Nat.div_add_mod (a ||| b) 2
      have d2 := Nat.div_add_mod (a &&& b) 2
      have m : (a ||| b) % 2 + (a &&& b) % 2 = a % 2 + b % 2 := by
        have t1 : (a ||| b).testBit 0 = (a.testBit 0 || b.testBit 0) := Nat.testBit_or a b 0
        have t2 : (a &&& b).testBit 0 = (a.testBit 0 && b.testBit 0) := Nat.testBit_and a b 0
        simp only [Nat.testBit_zero] at t1 t2
        have q1 : (a ||| b) % 2 = 0 ∨ (a ||| b) % 2 = 1 := by omega
        have q2 : (a &&& b) % 2 = 0 ∨ (a &&& b) % 2 = 1 := by omega
        generalize (a ||| b) % 2 = x at *
        generalize (a &&& b) % 2 = y at *
        have ha : a % 2 = 0 ∨ a % 2 = 1 := by omega
        have hb : b % 2 = 0 ∨ b % 2 = 1 := by omega
        rcases ha with ha | ha <;> rcases hb with hb | hb <;> rcases q1 with q1 | q1 <;> rcases q2 with q2 | q2 <;>
          rw [ha, hb, q1] at t1 <;> rw [ha, hb, q2] at t2 <;> rw [ha, hb, q1, q2] <;> revert t1 t2 <;> decide
      rw [e1] at d1
      rw [e2] at d2
      omega

theorem gshl_u64 {x y : Int} (h0 : 0 ≤ y) (h1 : y ≤ 64) : gshl .u64 x y = x * 2 ^ y.toNat % 18446744073709551616 := by
  have e : gshl .u64 x y = IntKind.u64.wrap (x * 2 ^ (min y.toNat 64)) := rfl
  rw [e, wrap_u64_mod, Nat.min_eq_left (by omega)]
theorem pow_pos' (n : Nat) : (0 : Int) < 2 ^ n := by
  have : (2 : Int) ^ n = ((2 ^ n : Nat) : Int) := by simp
  have := Nat.one_le_two_pow (n := n)
  omega
theorem gshr_u64 {x y : Int} (h1 : y ≤ 64) : gshr .u64 x y = x / 2 ^ y.toNat := by
  have e : gshr .u64 x y = x.fdiv (2 ^ (min y.toNat 64)) := rfl
  rw [e, Nat.min_eq_left (by omega), Int.fdiv_eq_ediv_of_nonneg _ (Int.le_of_lt (pow_pos' _))]
theorem gshr_i64 {x y : Int} (h1 : y ≤ 64) : gshr .i64 x y = x / 2 ^ y.toNat := by
  have e : gshr .i64 x y = x.fdiv (2 ^ (min y.toNat 64)) := rfl
  rw [e, Nat.min_eq_left (by omega), Int.fdiv_eq_ediv_of_nonneg _ (Int.le_of_lt (pow_pos' _))]

theorem and63 {b : Int} (h : W64 b) : bitop .and .u64 b 63 = b % 64 := and_mask (k := 6) h.1 h.2 (by omega)
theorem and31 {b : Int} (h : W64 b) : bitop .and .u64 b 31 = b % 32 := and_mask (k := 5) h.1 h.2 (by omega)
theorem and32 {b : Int} (h : W64 b) : bitop .and .u64 b 4294967295 = b % 4294967296 := and_mask (k := 32) h.1 h.2 (by omega)
theorem and16 {b : Int} (h : W64 b) : bitop .and .u64 b 65535 = b % 65536 := and_mask (k := 16) h.1 h.2 (by omega)
theorem and8 {b : Int} (h : W64 b) : bitop .and .u64 b 255 = b % 256 := and_mask (k := 8) h.1 h.2 (by omega)

/-- A power of two below 2^64. -/
theorem pow_le {n : Nat} (h : n ≤ 63) : (2 : Int) ^ n ≤ 9223372036854775808 := by
  have e : (2 : Int) ^ n = ((2 ^ n : Nat) : Int) := by simp
  have : 2 ^ n ≤ 2 ^ 63 := Nat.pow_le_pow_right (by omega) h
  omega
theorem pow_split {n m k : Nat} (h : n + m = k) : (2 : Int) ^ n * 2 ^ m = 2 ^ k := by rw [← Int.pow_add, h]

def sx (n v : Int) : Int := if v % n ≥ n / 2 then v % n + (18446744073709551616 - n) else v % n
theorem sx_bd32 (v : Int) : W64 (sx 4294967296 v) := by unfold sx; split <;> constructor <;> omega
end Go.Sh
