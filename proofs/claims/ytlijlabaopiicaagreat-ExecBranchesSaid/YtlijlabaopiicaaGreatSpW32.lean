/-
  Words of 32 bits: or as a sum, shifts, parts.
-/
import Derived.Test.YtlijlabaopiicaaGreatSkB
set_option linter.unusedSimpArgs false
set_option linter.unusedVariables false
namespace Go.Sh
open Go
abbrev W32 (a : Int) : Prop := 0 ≤ a ∧ a < 4294967296
theorem w32_wrap {n : Int} (h : W32 n) : IntKind.u32.wrap n = n := by
  rw [wrap_u32_mod]; obtain ⟨h1, h2⟩ := h; omega
theorem w32_of (n : Int) : W32 (IntKind.u32.wrap n) := by rw [wrap_u32_mod]; exact ⟨by omega, by omega⟩
theorem nat32 {x : Nat} (h : x < 4294967296) : (BitVec.ofInt IntKind.u32.bits (x : Int)).toNat = x := by
  have e : (BitVec.ofInt 32 (x : Int)).toNat = x := by
    rw [BitVec.toNat_ofInt]
    omega
  exact e
theorem or32 {x y : Nat} (hx : x < 4294967296) (hy : y < 4294967296) : bitop .or .u32 (x : Int) (y : Int) = ((x ||| y : Nat) : Int) := by
  unfold bitop
  have e : (BitVec.ofInt IntKind.u32.bits (x : Int) ||| BitVec.ofInt IntKind.u32.bits (y : Int)).toNat = x ||| y := by
    rw [BitVec.toNat_or, nat32 hx, nat32 hy]
  show IntKind.u32.wrap ((BitVec.ofInt IntKind.u32.bits (x : Int) ||| BitVec.ofInt IntKind.u32.bits (y : Int)).toNat : Int) = _
  rw [e]
  have h : x ||| y < 2 ^ 32 := Nat.or_lt_two_pow (by omega) (by omega)
  exact w32_wrap ⟨by omega, by omega⟩
theorem and32k {x : Nat} (hx : x < 4294967296) {k : Nat} (hk : k ≤ 32) {m : Int} (hm : m = ((2 ^ k - 1 : Nat) : Int)) : bitop .and .u32 (x : Int) m = ((x % 2 ^ k : Nat) : Int) := by
  subst hm
  have hp : 2 ^ k ≤ 2 ^ 32 := Nat.pow_le_pow_right (by omega) hk
  have h1 := Nat.one_le_two_pow (n := k)
  unfold bitop
  have e : (BitVec.ofInt IntKind.u32.bits (x : Int) &&& BitVec.ofInt IntKind.u32.bits ((2 ^ k - 1 : Nat) : Int)).toNat = x % 2 ^ k := by
    rw [BitVec.toNat_and, nat32 hx, nat32 (by omega), Nat.and_two_pow_sub_one_eq_mod]
  show IntKind.u32.wrap ((BitVec.ofInt IntKind.u32.bits (x : Int) &&& BitVec.ofInt IntKind.u32.bits ((2 ^ k - 1 : Nat) : Int)).toNat : Int) = _
  rw [e]
  have h : x % 2 ^ k < 2 ^ k := Nat.mod_lt _ (by omega)
  exact w32_wrap ⟨by omega, by omega⟩
theorem gshl_u32 {x y : Int} (h0 : 0 ≤ y) (h1 : y ≤ 32) : gshl .u32 x y = x * 2 ^ y.toNat % 4294967296 := by
  have e : gshl .u32 x y = IntKind.u32.wrap (x * 2 ^ (min y.toNat 32)) := rfl
  rw [e, wrap_u32_mod, Nat.min_eq_left (by omega)]
theorem gshr_u32 {x y : Int} (h1 : y ≤ 32) : gshr .u32 x y = x / 2 ^ y.toNat := by
  have e : gshr .u32 x y = x.fdiv (2 ^ (min y.toNat 32)) := rfl
  rw [e, Nat.min_eq_left (by omega), Int.fdiv_eq_ediv_of_nonneg _ (Int.le_of_lt (pow_pos' _))]
theorem or_up (k : Nat) {a b : Nat} (ha : a < 2 ^ k) (hb : b % 2 ^ k = 0) : a ||| b = a + b := by
  have e := Nat.two_pow_add_eq_or_of_lt ha (b / 2 ^ k)
  have h : 2 ^ k * (b / 2 ^ k) = b := by
    have := Nat.div_add_mod b (2 ^ k); omega
  rw [h] at e
  rw [Nat.or_comm, ← e, Nat.add_comm]
end Go.Sh
