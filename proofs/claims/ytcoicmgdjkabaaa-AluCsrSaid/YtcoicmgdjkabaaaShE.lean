/-
  The laws of the words that the unit computes, with no program in sight.
-/
import Derived.Test.YtcoicmgdjkabaaaShC
import Derived.Test.YtcoicmgdjkabaaaSh13
namespace Go.Proofs.Ytcoicmgdjkabaaa
open Go Go.Sh Go.Proofs

theorem do_22 (a b : Int) : doS 22 a b = IntKind.u64.wrap (a + b) := by kernel_rfl
theorem do_23 (a b : Int) : doS 23 a b = b2i (decide (IntKind.i64.wrap a < IntKind.i64.wrap b)) := by kernel_rfl
theorem do_24 (a b : Int) : doS 24 a b = b2i (decide (a < b)) := by kernel_rfl
theorem do_25 (a b : Int) : doS 25 a b = bitop .xor .u64 a b := by kernel_rfl
theorem do_26 (a b : Int) : doS 26 a b = bitop .or .u64 a b := by kernel_rfl
theorem do_27 (a b : Int) : doS 27 a b = bitop .and .u64 a b := by kernel_rfl
theorem do_28 (a b : Int) : doS 28 a b = gshl .u64 a (bitop .and .u64 b 63) := by kernel_rfl
theorem do_29 (a b : Int) : doS 29 a b = gshr .u64 a (bitop .and .u64 b 63) := by kernel_rfl
theorem do_30 (a b : Int) : doS 30 a b = IntKind.u64.wrap (gshr .i64 (IntKind.i64.wrap a) (bitop .and .u64 b 63)) := by kernel_rfl
theorem do_31 (a b : Int) : doS 31 a b = sextS (IntKind.u64.wrap (sextS a 32 + b)) 32 := by kernel_rfl
theorem do_32 (a b : Int) : doS 32 a b = sextS (gshl .u64 (sextS a 32) (bitop .and .u64 b 31)) 32 := by kernel_rfl
theorem do_33 (a b : Int) : doS 33 a b = sextS (gshr .u64 (bitop .and .u64 a 4294967295) (bitop .and .u64 b 31)) 32 := by kernel_rfl
theorem do_34 (a b : Int) : doS 34 a b = sextS (IntKind.u64.wrap (gshr .i64 (IntKind.i64.wrap (sextS a 32)) (bitop .and .u64 b 31))) 32 := by kernel_rfl
theorem do_35 (a b : Int) : doS 35 a b = IntKind.u64.wrap (a + b) := by kernel_rfl
theorem do_36 (a b : Int) : doS 36 a b = IntKind.u64.wrap (a - b) := by kernel_rfl
theorem do_37 (a b : Int) : doS 37 a b = gshl .u64 a (bitop .and .u64 b 63) := by kernel_rfl
theorem do_38 (a b : Int) : doS 38 a b = b2i (decide (IntKind.i64.wrap a < IntKind.i64.wrap b)) := by kernel_rfl
theorem do_39 (a b : Int) : doS 39 a b = b2i (decide (a < b)) := by kernel_rfl
theorem do_40 (a b : Int) : doS 40 a b = bitop .xor .u64 a b := by kernel_rfl
theorem do_41 (a b : Int) : doS 41 a b = gshr .u64 a (bitop .and .u64 b 63) := by kernel_rfl
theorem do_42 (a b : Int) : doS 42 a b = IntKind.u64.wrap (gshr .i64 (IntKind.i64.wrap a) (bitop .and .u64 b 63)) := by kernel_rfl
theorem do_43 (a b : Int) : doS 43 a b = bitop .or .u64 a b := by kernel_rfl
theorem do_44 (a b : Int) : doS 44 a b = bitop .and .u64 a b := by kernel_rfl
theorem do_45 (a b : Int) : doS 45 a b = sextS (IntKind.u64.wrap (sextS a 32 + b)) 32 := by kernel_rfl
theorem do_46 (a b : Int) : doS 46 a b = sextS (IntKind.u64.wrap (sextS a 32 - b)) 32 := by kernel_rfl
theorem do_47 (a b : Int) : doS 47 a b = sextS (gshl .u64 (sextS a 32) (bitop .and .u64 b 31)) 32 := by kernel_rfl
theorem do_48 (a b : Int) : doS 48 a b = sextS (gshr .u64 (bitop .and .u64 a 4294967295) (bitop .and .u64 b 31)) 32 := by kernel_rfl
theorem do_49 (a b : Int) : doS 49 a b = sextS (IntKind.u64.wrap (gshr .i64 (IntKind.i64.wrap (sextS a 32)) (bitop .and .u64 b 31))) 32 := by kernel_rfl

theorem sext32 {v : Int} (h : W64 v) : sextS v 32 = sx 4294967296 v := by
  have e : IntKind.i64.wrap (64 - clamp 32) = 32 := by kernel_rfl
  have hp : (2 : Int) ^ (32 : Int).toNat = 4294967296 := by kernel_rfl
  unfold sextS
  rw [e, gshl_u64 (by omega) (by omega), gshr_i64 (by omega), hp, wrap_i64_if, wrap_u64_mod]
  unfold sx
  split <;> split <;> omega
theorem sext8 {v : Int} (h : W64 v) : sextS v 8 = sx 256 v := by
  have e : IntKind.i64.wrap (64 - clamp 8) = 56 := by kernel_rfl
  have hp : (2 : Int) ^ (56 : Int).toNat = 72057594037927936 := by kernel_rfl
  unfold sextS
  rw [e, gshl_u64 (by omega) (by omega), gshr_i64 (by omega), hp, wrap_i64_if, wrap_u64_mod]
  unfold sx
  split <;> split <;> omega
theorem sext16 {v : Int} (h : W64 v) : sextS v 16 = sx 65536 v := by
  have e : IntKind.i64.wrap (64 - clamp 16) = 48 := by kernel_rfl
  have hp : (2 : Int) ^ (48 : Int).toNat = 281474976710656 := by kernel_rfl
  unfold sextS
  rw [e, gshl_u64 (by omega) (by omega), gshr_i64 (by omega), hp, wrap_i64_if, wrap_u64_mod]
  unfold sx
  split <;> split <;> omega
theorem sext64 {v : Int} (h : W64 v) : sextS v 64 = v := by
  have e : IntKind.i64.wrap (64 - clamp 64) = 0 := by kernel_rfl
  have hp : (2 : Int) ^ (0 : Int).toNat = 1 := by kernel_rfl
  unfold sextS
  rw [e, gshl_u64 (by omega) (by omega), gshr_i64 (by omega), hp, wrap_i64_if, wrap_u64_mod]
  have := h.1; have := h.2
  split <;> omega
theorem rsext32 {v : Int} (h : W64 v) : rsextS v 32 = sx 4294967296 v := by
  have e : rsextS v 32 = (if gshr .u64 (bitop .and .u64 v 4294967295) 31 = 1 then bitop .or .u64 (bitop .and .u64 v 4294967295) 18446744069414584320 else bitop .and .u64 v 4294967295) := by kernel_rfl
  have hp : (2 : Int) ^ (31 : Int).toNat = 2147483648 := by kernel_rfl
  have ho : bitop .or .u64 (v % 4294967296) 18446744069414584320 = v % 4294967296 + 18446744069414584320 := or_high (k := 32) (by omega) (by omega) (by omega)
  rw [e, gshr_u64 (by omega), and32 h, hp, ho]
  unfold sx
  split <;> split <;> omega
theorem rsext16 {v : Int} (h : W64 v) : rsextS v 16 = sx 65536 v := by
  have e : rsextS v 16 = (if gshr .u64 (bitop .and .u64 v 65535) 15 = 1 then bitop .or .u64 (bitop .and .u64 v 65535) 18446744073709486080 else bitop .and .u64 v 65535) := by kernel_rfl
  have hp : (2 : Int) ^ (15 : Int).toNat = 32768 := by kernel_rfl
  have ho : bitop .or .u64 (v % 65536) 18446744073709486080 = v % 65536 + 18446744073709486080 := or_high (k := 16) (by omega) (by omega) (by omega)
  rw [e, gshr_u64 (by omega), and16 h, hp, ho]
  unfold sx
  split <;> split <;> omega
theorem rsext8 {v : Int} (h : W64 v) : rsextS v 8 = sx 256 v := by
  have e : rsextS v 8 = (if gshr .u64 (bitop .and .u64 v 255) 7 = 1 then bitop .or .u64 (bitop .and .u64 v 255) 18446744073709551360 else bitop .and .u64 v 255) := by kernel_rfl
  have hp : (2 : Int) ^ (7 : Int).toNat = 128 := by kernel_rfl
  have ho : bitop .or .u64 (v % 256) 18446744073709551360 = v % 256 + 18446744073709551360 := or_high (k := 8) (by omega) (by omega) (by omega)
  rw [e, gshr_u64 (by omega), and8 h, hp, ho]
  unfold sx
  split <;> split <;> omega
theorem half32 (v : Int) : halfS v = sx 4294967296 v := by
  unfold halfS sx
  rw [wrap_u32_mod, wrap_i32_if, wrap_i64_if, wrap_u64_mod]
  (repeat' split) <;> omega

/-- The shift counts. -/
theorem count63 {b : Int} (h : W64 b) : bitop .and .u64 (bitop .and .u64 b 63) 63 = b % 64 := by
  rw [and63 h, and63 ⟨by omega, by omega⟩]; omega
theorem count31 {b : Int} (h : W64 b) : bitop .and .u64 (bitop .and .u64 b 31) 63 = b % 32 := by
  rw [and31 h, and63 ⟨by omega, by omega⟩]; omega
theorem w_u64 (x : Int) : W64 (IntKind.u64.wrap x) := wrap_u64_bd x
theorem w_bit (op : BinOp) (x y : Int) : W64 (bitop op .u64 x y) := bitop_u64 op x y
theorem w_shl (x y : Int) : W64 (gshl .u64 x y) := by
  have e : gshl .u64 x y = IntKind.u64.wrap (x * 2 ^ (min y.toNat 64)) := rfl
  rw [e]; exact w_u64 _
theorem div_bd {v M : Int} {n : Nat} (h : 0 ≤ v ∧ v < M) : 0 ≤ v / 2 ^ n ∧ v / 2 ^ n < M := by
  have hp := pow_pos' n
  have h0 := Int.ediv_nonneg h.1 (Int.le_of_lt hp)
  have h1 := Int.ediv_le_self (2 ^ n) h.1
  omega
theorem sdiv_bd {v M : Int} {n : Nat} (h : -M ≤ v ∧ v < M) : -M ≤ v / 2 ^ n ∧ v / 2 ^ n < M := by
  have hp := pow_pos' n
  constructor
  · rw [Int.le_ediv_iff_mul_le hp]
    have : M * 1 ≤ M * 2 ^ n := Int.mul_le_mul_of_nonneg_left (by omega) (by omega)
    have e : -M * 2 ^ n = -(M * 2 ^ n) := Int.neg_mul ..
    omega
  · rw [Int.ediv_lt_iff_lt_mul hp]
    have : M * 1 ≤ M * 2 ^ n := Int.mul_le_mul_of_nonneg_left (by omega) (by omega)
    omega
theorem w_shr {x y : Int} (h : W64 x) (h1 : y ≤ 64) : W64 (gshr .u64 x y) := by
  rw [gshr_u64 h1]; exact div_bd h

/-! Back -/
theorem back_1 {a : Int} (ha : W64 a) (b : Int) : doS 36 (doS 35 a b) b = a := by
  rw [do_36, do_35, wrap_u64_mod, wrap_u64_mod]
  have := ha.1; have := ha.2; omega
theorem back_2 {a b : Int} (ha : W64 a) (hb : W64 b) : doS 40 (doS 40 a b) b = a := by
  rw [do_40, do_40]
  have h := w_bit .xor a b
  rw [bitop_xor h.1 h.2 hb.1 hb.2, bitop_xor ha.1 ha.2 hb.1 hb.2, Int.toNat_natCast, Nat.xor_assoc, Nat.xor_self, Nat.xor_zero]
  have := ha.1; omega
theorem low_mask {n : Int} (h0 : 0 ≤ n) (h1 : n ≤ 63) : IntKind.u64.wrap (gshl .u64 1 n - 1) = 2 ^ n.toNat - 1 := by
  have hp := pow_pos' n.toNat
  have hl := pow_le (n := n.toNat) (by omega)
  rw [gshl_u64 h0 (by omega), Int.one_mul, Int.emod_eq_of_lt (by omega) (by omega), wrap_u64 (by omega) (by omega)]
theorem back_3 {a b : Int} (ha : W64 a) (hb : W64 b) : IntKind.u64.wrap (doS 37 (doS 41 a (bitop .and .u64 b 63)) (bitop .and .u64 b 63) + bitop .and .u64 a (IntKind.u64.wrap (gshl .u64 1 (bitop .and .u64 b 63) - 1))) = a := by
  rw [do_37, do_41, count63 hb, and63 hb, low_mask (by omega) (by omega), and_mask ha.1 ha.2 (by omega), gshr_u64 (by omega), gshl_u64 (by omega) (by omega), wrap_u64_mod]
  have h := Int.mul_ediv_add_emod a (2 ^ (b % 64).toNat)
  have h2 := Int.emod_nonneg a (Int.ne_of_gt (pow_pos' (b % 64).toNat))
  have h3 := Int.mul_nonneg (Int.ediv_nonneg ha.1 (Int.le_of_lt (pow_pos' (b % 64).toNat))) (Int.le_of_lt (pow_pos' (b % 64).toNat))
  rw [Int.mul_comm] at h
  have := ha.1; have := ha.2; omega
theorem back_4 {a b : Int} (ha : W64 a) (hb : W64 b) : IntKind.u64.wrap (doS 43 a b + doS 44 a b) = doS 35 a b := by
  rw [do_43, do_44, do_35, bitop_or ha.1 ha.2 hb.1 hb.2, bitop_and ha.1 ha.2 hb.1 hb.2]
  have h := or_add_and a.toNat b.toNat
  have := ha.1; have := hb.1
  congr 1; omega

/-! Steps -/
theorem shl_shl (a : Int) {x y : Int} (hx : 0 ≤ x ∧ x < 32) (hy : 0 ≤ y ∧ y < 32) : gshl .u64 (gshl .u64 a x) y = gshl .u64 a (x + y) := by
  rw [gshl_u64 hx.1 (by omega), gshl_u64 hy.1 (by omega), gshl_u64 (by omega) (by omega)]
  have e : (x + y).toNat = x.toNat + y.toNat := by omega
  rw [e, Int.pow_add, Int.mul_emod, Int.emod_emod_of_dvd _ (Int.dvd_refl _), ← Int.mul_emod, Int.mul_assoc]
theorem shr_shr (a : Int) {x y : Int} (hx : 0 ≤ x ∧ x < 32) (hy : 0 ≤ y ∧ y < 32) : gshr .u64 (gshr .u64 a x) y = gshr .u64 a (x + y) := by
  rw [gshr_u64 (by omega), gshr_u64 (by omega), gshr_u64 (by omega)]
  have e : (x + y).toNat = x.toNat + y.toNat := by omega
  rw [e, Int.pow_add, Int.ediv_ediv_of_nonneg (Int.le_of_lt (pow_pos' _))]
theorem count_lo {x : Int} (hx : 0 ≤ x ∧ x < 64) : bitop .and .u64 x 63 = x := by
  rw [and63 ⟨by omega, by omega⟩]; omega
theorem steps_1 (a : Int) {x y : Int} (hx : 0 ≤ x ∧ x < 32) (hy : 0 ≤ y ∧ y < 32) : doS 37 (doS 37 a x) y = doS 37 a (IntKind.u64.wrap (x + y)) := by
  rw [do_37, do_37, do_37, wrap_u64 (by omega) (by omega), count_lo (by omega), count_lo (by omega), count_lo (by omega), shl_shl a hx hy]
theorem steps_2 (a : Int) {x y : Int} (hx : 0 ≤ x ∧ x < 32) (hy : 0 ≤ y ∧ y < 32) : doS 41 (doS 41 a x) y = doS 41 a (IntKind.u64.wrap (x + y)) := by
  rw [do_41, do_41, do_41, wrap_u64 (by omega) (by omega), count_lo (by omega), count_lo (by omega), count_lo (by omega), shr_shr a hx hy]
theorem steps_3 (a : Int) {x y : Int} (hx : 0 ≤ x ∧ x < 32) (hy : 0 ≤ y ∧ y < 32) : doS 42 (doS 42 a x) y = doS 42 a (IntKind.u64.wrap (x + y)) := by
  rw [do_42, do_42, do_42, wrap_u64 (n := x + y) (by omega) (by omega), count_lo (by omega), count_lo (by omega), count_lo (by omega)]
  rw [gshr_i64 (by omega), gshr_i64 (by omega), gshr_i64 (by omega)]
  have hb : -9223372036854775808 ≤ IntKind.i64.wrap a ∧ IntKind.i64.wrap a < 9223372036854775808 := by rw [wrap_i64_if]; split <;> omega
  have hd := sdiv_bd (n := x.toNat) hb
  have e2 : IntKind.i64.wrap (IntKind.u64.wrap (IntKind.i64.wrap a / 2 ^ x.toNat)) = IntKind.i64.wrap a / 2 ^ x.toNat := by
    rw [wrap_u64_mod, wrap_i64_if]; split <;> omega
  have e : (x + y).toNat = x.toNat + y.toNat := by omega
  rw [e2, e, Int.pow_add, Int.ediv_ediv_of_nonneg (Int.le_of_lt (pow_pos' _))]
theorem steps_4 (a : Int) {x : Int} (hx : 0 ≤ x ∧ x < 32) : doS 37 a (IntKind.u64.wrap (64 + x)) = doS 37 a x := by
  rw [do_37, do_37, wrap_u64 (n := 64 + x) (by omega) (by omega), count_lo (x := x) (by omega), and63 (b := 64 + x) ⟨by omega, by omega⟩]
  congr 1; omega

/-! Halves -/
theorem sx_cong {u v : Int} (h : u % 4294967296 = v % 4294967296) : sx 4294967296 u = sx 4294967296 v := by unfold sx; rw [h]
theorem sx_mod (v : Int) : sx 4294967296 v % 4294967296 = v % 4294967296 := by unfold sx; split <;> omega
theorem halves_45 {a : Int} (ha : W64 a) (b : Int) : sextS (IntKind.u64.wrap (sextS a 32 + b)) 32 = sx 4294967296 (IntKind.u64.wrap (a + b)) := by
  rw [sext32 (w_u64 _), sext32 ha]
  refine sx_cong ?_
  have h := sx_mod a
  rw [wrap_u64_mod, wrap_u64_mod]; omega
theorem halves_46 {a : Int} (ha : W64 a) (b : Int) : sextS (IntKind.u64.wrap (sextS a 32 - b)) 32 = sx 4294967296 (IntKind.u64.wrap (a - b)) := by
  rw [sext32 (w_u64 _), sext32 ha]
  refine sx_cong ?_
  have h := sx_mod a
  rw [wrap_u64_mod, wrap_u64_mod]; omega
theorem halves_47 {a b : Int} (ha : W64 a) (hb : 0 ≤ b ∧ b < 32) : sextS (gshl .u64 (sextS a 32) b) 32 = sx 4294967296 (gshl .u64 a b) := by
  rw [sext32 (w_shl _ _), sext32 ha]
  refine sx_cong ?_
  have h := sx_mod a
  rw [gshl_u64 hb.1 (by omega), gshl_u64 hb.1 (by omega)]
  generalize (2 : Int) ^ b.toNat = p
  have e : sx 4294967296 a = a + 4294967296 * ((sx 4294967296 a - a) / 4294967296) := by omega
  have e2 : sx 4294967296 a * p = a * p + 4294967296 * (((sx 4294967296 a - a) / 4294967296) * p) := by
    rw [← Int.mul_assoc, ← Int.add_mul, ← e]
  rw [e2]
  generalize ((sx 4294967296 a - a) / 4294967296) * p = z
  generalize a * p = u
  omega
theorem sx_small {t : Int} (h : -2147483648 ≤ t ∧ t < 2147483648) : sx 4294967296 (IntKind.u64.wrap t) = IntKind.u64.wrap t := by
  rw [wrap_u64_mod]; unfold sx; split <;> omega
theorem i64_sx (a : Int) : -2147483648 ≤ IntKind.i64.wrap (sx 4294967296 a) ∧ IntKind.i64.wrap (sx 4294967296 a) < 2147483648 := by
  rw [wrap_i64_if]; unfold sx; (repeat' split) <;> omega
theorem halves_49 {a b : Int} (ha : W64 a) (hb : 0 ≤ b ∧ b < 32) : sextS (IntKind.u64.wrap (gshr .i64 (IntKind.i64.wrap (sextS a 32)) b)) 32 = IntKind.u64.wrap (gshr .i64 (IntKind.i64.wrap (sx 4294967296 a)) b) := by
  rw [sext32 (w_u64 _), sext32 ha, gshr_i64 (by omega)]
  exact sx_small (sdiv_bd (i64_sx a))

/-! Csr -/
theorem bv_w {a : Int} (h : W64 a) : ((BitVec.ofInt 64 a).toNat : Int) = a := by
  rw [ofInt_toNat h.1 h.2]; have := h.1; omega
theorem bit_bv (op : BinOp) (a b : Int) (f : BitVec 64 → BitVec 64 → BitVec 64) (h : ∀ x y, bitop op .u64 x y = IntKind.u64.wrap ((f (BitVec.ofInt 64 x) (BitVec.ofInt 64 y)).toNat : Int)) : BitVec.ofInt 64 (bitop op .u64 a b) = f (BitVec.ofInt 64 a) (BitVec.ofInt 64 b) := by
  have hlt := (f (BitVec.ofInt 64 a) (BitVec.ofInt 64 b)).isLt
  refine BitVec.eq_of_toNat_eq ?_
  rw [h, wrap_u64 (by omega) (by omega), ofInt_toNat (by omega) (by omega), Int.toNat_natCast]
theorem bv_or (a b : Int) : BitVec.ofInt 64 (bitop .or .u64 a b) = BitVec.ofInt 64 a ||| BitVec.ofInt 64 b := bit_bv .or a b (· ||| ·) fun _ _ => rfl
theorem bv_and (a b : Int) : BitVec.ofInt 64 (bitop .and .u64 a b) = BitVec.ofInt 64 a &&& BitVec.ofInt 64 b := bit_bv .and a b (· &&& ·) fun _ _ => rfl
theorem bv_andNot (a b : Int) : BitVec.ofInt 64 (bitop .andNot .u64 a b) = BitVec.ofInt 64 a &&& ~~~ BitVec.ofInt 64 b := bit_bv .andNot a b (· &&& ~~~ ·) fun _ _ => rfl
theorem of_bv {x y : Int} (hx : W64 x) (hy : W64 y) (h : BitVec.ofInt 64 x = BitVec.ofInt 64 y) : x = y := by rw [← bv_w hx, ← bv_w hy, h]
theorem csr_1 (a : Int) {b : Int} (hb : W64 b) : bitop .and .u64 (bitop .or .u64 a b) b = b := by
  refine of_bv (w_bit _ _ _) hb ?_
  rw [bv_and, bv_or]
  generalize BitVec.ofInt 64 a = x; generalize BitVec.ofInt 64 b = y
  ext i hi; simp; exact fun h => .inr h
theorem csr_2 (a b : Int) : bitop .andNot .u64 (bitop .or .u64 a b) b = bitop .andNot .u64 a b := by
  refine of_bv (w_bit _ _ _) (w_bit _ _ _) ?_
  rw [bv_andNot, bv_or, bv_andNot]
  generalize BitVec.ofInt 64 a = x; generalize BitVec.ofInt 64 b = y
  ext i hi; simp [hi]; cases x[i] <;> cases y[i] <;> rfl
theorem csr_3 (a b : Int) : bitop .and .u64 (bitop .andNot .u64 a b) b = 0 := by
  refine of_bv (w_bit _ _ _) ⟨by omega, by omega⟩ ?_
  rw [bv_and, bv_andNot]
  generalize BitVec.ofInt 64 a = x; generalize BitVec.ofInt 64 b = y
  ext i hi; simp [hi]
theorem csr_4 (a b : Int) : bitop .andNot .u64 (bitop .andNot .u64 a b) b = bitop .andNot .u64 a b := by
  refine of_bv (w_bit _ _ _) (w_bit _ _ _) ?_
  rw [bv_andNot, bv_andNot]
  generalize BitVec.ofInt 64 a = x; generalize BitVec.ofInt 64 b = y
  ext i hi; simp [hi]

/-! Tells -/
theorem ext_eq {a : Int} (op : Int) (ha : W64 a) : extS op a = rextS op a := by
  by_cases h : op = 11 ∨ op = 12 ∨ op = 13 ∨ op = 14 ∨ op = 15 ∨ op = 16 ∨ op = 17 ∨ op = 66 ∨ op = 67 ∨ op = 68
  · rcases h with rfl | rfl | rfl | rfl | rfl | rfl | rfl | rfl | rfl | rfl
    · show sextS a 8 = rsextS a 8; rw [sext8 ha, rsext8 ha]
    · show sextS a 16 = rsextS a 16; rw [sext16 ha, rsext16 ha]
    · show sextS a 32 = rsextS a 32; rw [sext32 ha, rsext32 ha]
    · show sextS a 64 = a; rw [sext64 ha]
    · kernel_rfl
    · kernel_rfl
    · kernel_rfl
    · show sextS a 32 = rsextS a 32; rw [sext32 ha, rsext32 ha]
    · show sextS a 64 = a; rw [sext64 ha]
    · kernel_rfl
  · have h1 : ¬ (op = 15 ∨ op = 16 ∨ op = 17 ∨ op = 68) := by omega
    have h2 : ¬ (op = 11 ∨ op = 12 ∨ op = 13 ∨ op = 14 ∨ op = 66 ∨ op = 67) := by omega
    have h3 : ¬ (op = 13 ∨ op = 66) := by omega
    have h4 : ¬ (op = 14 ∨ op = 67) := by omega
    have h5 : ¬ (op = 17 ∨ op = 68) := by omega
    unfold extS rextS
    rw [if_neg h1, if_neg h2, if_neg (show op ≠ 11 by omega), if_neg (show op ≠ 12 by omega), if_neg h3, if_neg h4, if_neg (show op ≠ 15 by omega), if_neg (show op ≠ 16 by omega), if_neg h5]
theorem cls_not {op : Int} (h : op < 22 ∨ 49 < op) : ¬ (cls op = 5 ∨ cls op = 6) := by
  unfold cls
  rcases h with h | h
  · by_cases h0 : op < 1 ∨ 70 ≤ op
    · rw [if_pos h0]; decide
    · by_cases h1 : op ≤ 4
      · rw [if_neg h0, if_pos h1]; decide
      · by_cases h2 : op ≤ 10
        · rw [if_neg h0, if_neg h1, if_pos h2]; decide
        · by_cases h3 : op ≤ 17
          · rw [if_neg h0, if_neg h1, if_neg h2, if_pos h3]; decide
          · rw [if_neg h0, if_neg h1, if_neg h2, if_neg h3, if_pos (by omega)]; decide
  · by_cases h0 : op < 1 ∨ 70 ≤ op
    · rw [if_pos h0]; decide
    · rw [if_neg h0, if_neg (by omega), if_neg (by omega), if_neg (by omega), if_neg (by omega), if_neg (by omega), if_neg (by omega)]
      (repeat' split) <;> decide
theorem do_none {op : Int} (a b : Int) (h : op < 22 ∨ 49 < op) : doS op a b = 0 := by
  unfold doS
  exact if_neg (cls_not h)
theorem rdo_none {op : Int} (a b : Int) (h : op < 22 ∨ 49 < op) : rdoS op a b = 0 := by
  unfold rdoS
  repeat rw [if_neg (by omega)]
theorem rdo_45 (a b : Int) : rdoS 45 a b = rsextS (IntKind.u64.wrap (a + b)) 32 := by kernel_rfl
theorem rdo_31 (a b : Int) : rdoS 31 a b = rsextS (IntKind.u64.wrap (a + b)) 32 := by kernel_rfl
theorem rdo_46 (a b : Int) : rdoS 46 a b = rsextS (IntKind.u64.wrap (a - b)) 32 := by kernel_rfl
theorem rdo_47 (a b : Int) : rdoS 47 a b = rsextS (gshl .u64 a (bitop .and .u64 b 31)) 32 := by kernel_rfl
theorem rdo_32 (a b : Int) : rdoS 32 a b = rsextS (gshl .u64 a (bitop .and .u64 b 31)) 32 := by kernel_rfl
theorem rdo_48 (a b : Int) : rdoS 48 a b = rsextS (gshr .u64 (bitop .and .u64 a 4294967295) (bitop .and .u64 b 31)) 32 := by kernel_rfl
theorem rdo_33 (a b : Int) : rdoS 33 a b = rsextS (gshr .u64 (bitop .and .u64 a 4294967295) (bitop .and .u64 b 31)) 32 := by kernel_rfl
theorem rdo_49 (a b : Int) : rdoS 49 a b = IntKind.u64.wrap (gshr .i64 (IntKind.i64.wrap (rsextS a 32)) (bitop .and .u64 b 31)) := by kernel_rfl
theorem rdo_34 (a b : Int) : rdoS 34 a b = IntKind.u64.wrap (gshr .i64 (IntKind.i64.wrap (rsextS a 32)) (bitop .and .u64 b 31)) := by kernel_rfl
theorem c31b {b : Int} (hb : W64 b) : 0 ≤ bitop .and .u64 b 31 ∧ bitop .and .u64 b 31 < 32 := by rw [and31 hb]; omega
theorem rdo_22 (a b : Int) : rdoS 22 a b = IntKind.u64.wrap (a + b) := by kernel_rfl
theorem rdo_23 (a b : Int) : rdoS 23 a b = b2i (decide (IntKind.i64.wrap a < IntKind.i64.wrap b)) := by kernel_rfl
theorem rdo_24 (a b : Int) : rdoS 24 a b = b2i (decide (a < b)) := by kernel_rfl
theorem rdo_25 (a b : Int) : rdoS 25 a b = bitop .xor .u64 a b := by kernel_rfl
theorem rdo_26 (a b : Int) : rdoS 26 a b = bitop .or .u64 a b := by kernel_rfl
theorem rdo_27 (a b : Int) : rdoS 27 a b = bitop .and .u64 a b := by kernel_rfl
theorem rdo_28 (a b : Int) : rdoS 28 a b = gshl .u64 a (bitop .and .u64 b 63) := by kernel_rfl
theorem rdo_29 (a b : Int) : rdoS 29 a b = gshr .u64 a (bitop .and .u64 b 63) := by kernel_rfl
theorem rdo_30 (a b : Int) : rdoS 30 a b = IntKind.u64.wrap (gshr .i64 (IntKind.i64.wrap a) (bitop .and .u64 b 63)) := by kernel_rfl
theorem rdo_35 (a b : Int) : rdoS 35 a b = IntKind.u64.wrap (a + b) := by kernel_rfl
theorem rdo_36 (a b : Int) : rdoS 36 a b = IntKind.u64.wrap (a - b) := by kernel_rfl
theorem rdo_37 (a b : Int) : rdoS 37 a b = gshl .u64 a (bitop .and .u64 b 63) := by kernel_rfl
theorem rdo_38 (a b : Int) : rdoS 38 a b = b2i (decide (IntKind.i64.wrap a < IntKind.i64.wrap b)) := by kernel_rfl
theorem rdo_39 (a b : Int) : rdoS 39 a b = b2i (decide (a < b)) := by kernel_rfl
theorem rdo_40 (a b : Int) : rdoS 40 a b = bitop .xor .u64 a b := by kernel_rfl
theorem rdo_41 (a b : Int) : rdoS 41 a b = gshr .u64 a (bitop .and .u64 b 63) := by kernel_rfl
theorem rdo_42 (a b : Int) : rdoS 42 a b = IntKind.u64.wrap (gshr .i64 (IntKind.i64.wrap a) (bitop .and .u64 b 63)) := by kernel_rfl
theorem rdo_43 (a b : Int) : rdoS 43 a b = bitop .or .u64 a b := by kernel_rfl
theorem rdo_44 (a b : Int) : rdoS 44 a b = bitop .and .u64 a b := by kernel_rfl
theorem do_eq {a b : Int} (op : Int) (ha : W64 a) (hb : W64 b) : doS op a b = rdoS op a b := by
  by_cases h : op < 22 ∨ 49 < op
  · rw [do_none a b h, rdo_none a b h]
  · have h : op = 22 ∨ op = 23 ∨ op = 24 ∨ op = 25 ∨ op = 26 ∨ op = 27 ∨ op = 28 ∨ op = 29 ∨ op = 30 ∨ op = 31 ∨ op = 32 ∨ op = 33 ∨ op = 34 ∨ op = 35 ∨ op = 36 ∨ op = 37 ∨ op = 38 ∨ op = 39 ∨ op = 40 ∨ op = 41 ∨ op = 42 ∨ op = 43 ∨ op = 44 ∨ op = 45 ∨ op = 46 ∨ op = 47 ∨ op = 48 ∨ op = 49 := by omega
    have h31 := c31b hb
    have hr : W64 (gshr .u64 (bitop .and .u64 a 4294967295) (bitop .and .u64 b 31)) := w_shr (w_bit _ _ _) (by omega)
    rcases h with rfl | rfl | rfl | rfl | rfl | rfl | rfl | rfl | rfl | rfl | rfl | rfl | rfl | rfl | rfl | rfl | rfl | rfl | rfl | rfl | rfl | rfl | rfl | rfl | rfl | rfl | rfl | rfl
    · rw [do_22, rdo_22]
    · rw [do_23, rdo_23]
    · rw [do_24, rdo_24]
    · rw [do_25, rdo_25]
    · rw [do_26, rdo_26]
    · rw [do_27, rdo_27]
    · rw [do_28, rdo_28]
    · rw [do_29, rdo_29]
    · rw [do_30, rdo_30]
    · rw [do_31, rdo_31, halves_45 ha, rsext32 (w_u64 _)]
    · rw [do_32, rdo_32, halves_47 ha h31, rsext32 (w_shl _ _)]
    · rw [do_33, rdo_33, sext32 hr, rsext32 hr]
    · rw [do_34, rdo_34, halves_49 ha h31, rsext32 ha]
    · rw [do_35, rdo_35]
    · rw [do_36, rdo_36]
    · rw [do_37, rdo_37]
    · rw [do_38, rdo_38]
    · rw [do_39, rdo_39]
    · rw [do_40, rdo_40]
    · rw [do_41, rdo_41]
    · rw [do_42, rdo_42]
    · rw [do_43, rdo_43]
    · rw [do_44, rdo_44]
    · rw [do_45, rdo_45, halves_45 ha, rsext32 (w_u64 _)]
    · rw [do_46, rdo_46, halves_46 ha, rsext32 (w_u64 _)]
    · rw [do_47, rdo_47, halves_47 ha h31, rsext32 (w_shl _ _)]
    · rw [do_48, rdo_48, sext32 hr, rsext32 hr]
    · rw [do_49, rdo_49, halves_49 ha h31, rsext32 ha]
end Go.Proofs.Ytcoicmgdjkabaaa
