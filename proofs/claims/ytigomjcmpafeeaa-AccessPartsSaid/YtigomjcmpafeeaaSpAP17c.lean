/-
  The law AccessParts, told without the program.
-/
import Derived.Test.YtigomjcmpafeeaaSpAP17b
set_option linter.unusedSimpArgs false
set_option linter.unusedVariables false
namespace Go.Sh
open Go
set_option linter.unusedSimpArgs false
theorem oct_nat {n : Nat} (h : n < 2 ^ 64) : n &&& 18446744073709551608 = n / 8 * 8 := by
  have e1 : 18446744073709551608 = (2 ^ 61 - 1) <<< 3 := by decide
  have e2 : n / 8 * 8 = (n >>> 3) <<< 3 := by rw [Nat.shiftLeft_eq, Nat.shiftRight_eq_div_pow]
  rw [e1, e2]
  apply Nat.eq_of_testBit_eq
  intro i
  rw [Nat.testBit_and, Nat.testBit_shiftLeft, Nat.testBit_shiftLeft, Nat.testBit_two_pow_sub_one, Nat.testBit_shiftRight]
  by_cases hi : 3 ≤ i
  · have e3 : 3 + (i - 3) = i := by omega
    rw [e3]
    by_cases h2 : i - 3 < 61
    · simp [hi, h2]
    · have : n.testBit i = false := Nat.testBit_lt_two_pow (Nat.lt_of_lt_of_le h (Nat.pow_le_pow_right (by omega) (by omega)))
      simp [this]
  · simp [hi]
theorem oct {a : Int} (ha : W64 a) : bitop .andNot .u64 a 7 = a / 8 * 8 := by
  rw [bitop_andNot ha.1 ha.2 (by omega) (by omega)]
  have e : 18446744073709551615 - (7 : Int).toNat = 18446744073709551608 := rfl
  rw [e, oct_nat (by have := ha.1; have := ha.2; omega)]
  have := ha.1
  omega
theorem tr3 (f : Nat → Int) (c : Nat → Int) {a : Int} (h : a < 65536) (kind : Int) (u v : Bool) : transA f (askS c 3 v) a kind u v = ⟨a, ⟨true, v, pageOf a, 0, 0, pageOf a, 255, 255, pageOf a⟩, noFault, true⟩ := by
  have e : ltB a 65536 = true := by simp [ltB]; omega
  have h0 : transA f (askS c 3 v) a kind u v = (bif ltB a 65536 then ⟨a, ⟨true, v, pageOf a, 0, 0, pageOf a, 255, 255, pageOf a⟩, noFault, true⟩ else ⟨a, ⟨true, v, 0, 0, 0, 0, 255, 255, 0⟩, noFault, true⟩) := rfl
  rw [h0, e]; rfl
theorem al_ok {a n : Int} (ha : 0 ≤ a) (hn : n = 1 ∨ n = 2 ∨ n = 4 ∨ n = 8) (hm : a % n = 0) (kind : Int) (v : Bool) : (alignS a n kind v).2 = true := by
  unfold alignS
  have w : IntKind.u64.wrap n = n := by rcases hn with rfl | rfl | rfl | rfl <;> rfl
  have hz : (a.tmod n != 0) = false := by rw [Int.tmod_eq_emod_of_nonneg ha, hm]; rfl
  rw [w, hz]
  rcases hn with rfl | rfl | rfl | rfl <;> rfl
theorem ck_ok {a n : Int} (hn : n = 1 ∨ n = 2 ∨ n = 4 ∨ n = 8) (hm : a % n = 0) (hl : a < 32768) : checkS a n = 0 := by
  unfold checkS
  rw [if_neg (by rcases hn with rfl | rfl | rfl | rfl <;> simp [hm]), if_neg (by omega)]
theorem ref_sext8 {α : Type} {y : Int} (hy : W64 y) (k : Int → R α) : p_ref1_Sext y 8 k = k (sextS (y % 256) 8) := by
  have h : bitop .and .u64 y 255 = y % 256 := zextS_8 hy
  have hb := byte_all (p := fun b => (bif gshr .u64 b 7 == 1 then bitop .or .u64 b (gshl .u64 18446744073709551615 8) else b) == sextS b 8) (by kernel_rfl) (b := y % 256) (by omega) (by omega)
  simp only [beq_iff_eq] at hb
  have e : p_ref1_Sext y 8 k = cond (gshr .u64 (bitop .and .u64 y 255) 7 == 1) (k (bitop .or .u64 (bitop .and .u64 y 255) (gshl .u64 18446744073709551615 8))) (k (bitop .and .u64 y 255)) := rfl
  rw [e, h, ← hb]
  cases (gshr .u64 (y % 256) 7 == 1) <;> rfl
theorem sext32 {b : Int} (h0 : 0 ≤ b) (h1 : b < 4294967296) : sextS b 32 = if b < 2147483648 then b else b + 18446744069414584320 := by
  have e : sextS b 32 = IntKind.u64.wrap (gshr .i64 (IntKind.i64.wrap (gshl .u64 b 32)) 32) := rfl
  have p32 : (2 : Int) ^ (32 : Int).toNat = 4294967296 := rfl
  have g1 : gshl .u64 b 32 = b * 4294967296 := by
    rw [gshl_u64 (by omega) (by omega), p32]
    omega
  rw [e, g1, wrap_i64_if]
  have hs : ∀ x : Int, gshr .i64 x 32 = x / 4294967296 := by
    intro x
    unfold gshr
    have : min (32 : Int).toNat IntKind.i64.bits = 32 := rfl
    rw [this]
    have p : (2 : Int) ^ 32 = 4294967296 := rfl
    rw [p, Int.fdiv_eq_ediv_of_nonneg _ (by omega)]
  rw [hs, wrap_u64_mod]
  split <;> split <;> omega
theorem ref_sext32 {α : Type} {y : Int} (hy : W64 y) (k : Int → R α) : p_ref1_Sext y 32 k = k (sextS (y % 4294967296) 32) := by
  have h : bitop .and .u64 y 4294967295 = y % 4294967296 := by
    have := zextS_eq hy (n := 32) (by omega) (by omega)
    exact this
  have e : p_ref1_Sext y 32 k = cond (gshr .u64 (bitop .and .u64 y 4294967295) 31 == 1) (k (bitop .or .u64 (bitop .and .u64 y 4294967295) (gshl .u64 18446744073709551615 32))) (k (bitop .and .u64 y 4294967295)) := rfl
  rw [e, h, sext32 (by omega) (by omega)]
  generalize hb : y % 4294967296 = b
  have b0 : 0 ≤ b := by omega
  have b1 : b < 4294967296 := by omega
  have p31 : (2 : Int) ^ (31 : Int).toNat = 2147483648 := rfl
  rw [gshr_u64 (by omega), p31]
  by_cases hlt : b < 2147483648
  · have : (b / 2147483648 == 1) = false := by simp; omega
    rw [this, if_pos hlt]; rfl
  · have : (b / 2147483648 == 1) = true := by simp; omega
    rw [this, if_neg hlt, cond_true]
    have g : gshl .u64 18446744073709551615 32 = 18446744069414584320 := rfl
    rw [g]
    congr 1
    rw [bitop_or (by omega) (by omega) (by omega) (by omega)]
    obtain ⟨n, rfl⟩ := Int.eq_ofNat_of_zero_le b0
    have hn : n < 2 ^ 32 := by omega
    have e2 := Nat.two_pow_add_eq_or_of_lt hn 4294967295
    have e3 : (18446744069414584320 : Int).toNat = 2 ^ 32 * 4294967295 := rfl
    rw [e3, Int.toNat_natCast, Nat.or_comm, ← e2]
    omega
theorem sext64 {v : Int} (hv : W64 v) : sextS v 64 = v := by
  have e : sextS v 64 = IntKind.u64.wrap (gshr .i64 (IntKind.i64.wrap (gshl .u64 v 0)) 0) := rfl
  have g1 : gshl .u64 v 0 = v := by
    rw [gshl_u64 (by omega) (by omega)]
    have : (2 : Int) ^ (0 : Int).toNat = 1 := rfl
    rw [this]
    have := hv.1; have := hv.2
    omega
  have hs : ∀ x : Int, gshr .i64 x 0 = x := by
    intro x
    unfold gshr
    have : min (0 : Int).toNat IntKind.i64.bits = 0 := rfl
    rw [this]
    have p : (2 : Int) ^ 0 = 1 := rfl
    rw [p, Int.fdiv_eq_ediv_of_nonneg _ (by omega), Int.ediv_one]
  rw [e, g1, hs, wrap_u64_mod, wrap_i64_if]
  have := hv.1; have := hv.2
  split <;> omega
end Go.Sh
