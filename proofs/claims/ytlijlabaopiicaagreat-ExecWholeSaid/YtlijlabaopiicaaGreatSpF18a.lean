/-
  Parts of instructions' words, and what may be an instruction.
-/
import Derived.Test.YtlijlabaopiicaaGreatSpS18w
import Derived.Test.YtlijlabaopiicaaGreatSpMemLaw
import Derived.Test.YtlijlabaopiicaaGreatSpW32
namespace Go.Sh
open Go
set_option linter.unusedSimpArgs false
set_option linter.unusedVariables false
theorem leB_t {x y : Int} (h : x ≤ y) : leB x y = true := by rw [leB_true]; exact h
theorem leB_f {x y : Int} (h : y < x) : leB x y = false := by unfold leB; exact decide_eq_false (by omega)
theorem GN_eq {α : Type} (b : GBus) (k : R α) : GN b k = k := by simp only [GN, gN_self]
theorem mask_of {α : Type} {n : Int} (h : 0 ≤ n) (k : Int → R α) : s_word_mask n k = k (maskS n) := by
  show cond (leB 64 n) (k 18446744073709551615) (cond (decide (n < 0)) none (k (IntKind.u64.wrap (gshl .u64 1 n - 1)))) = _
  rw [decide_eq_false (show ¬ n < 0 by omega)]
  unfold maskS
  by_cases h : 64 ≤ n
  · rw [if_pos h, leB_t h]; rfl
  · rw [if_neg h, leB_f (by omega)]; rfl
theorem bits_eq {α : Type} (v lo n : Int) (k : Int → R α) : s_word_Bits v lo n k = k (bitsS v lo n) := by
  have h1 := loS_bd lo
  have h2 := nS_bd lo n
  show cond (decide (loS lo < 0)) none (s_word_mask (nS lo n) fun r => k (bitop .and .u64 (gshr .u64 v (loS lo)) r)) = _
  rw [decide_eq_false (show ¬ loS lo < 0 by omega), mask_of h2.1]
  rfl
theorem set_eq {α : Type} (v lo n x : Int) (k : Int → R α) : s_word_Set v lo n x k = k (setS v lo n x) := by
  have h1 := loS_bd lo
  have h2 := nS_bd lo n
  show s_word_mask (nS lo n) (fun r3 => cond (decide (loS lo < 0)) none (s_word_mask (nS lo n) fun r6 => cond (decide (loS lo < 0)) none (k (bitop .or .u64 (bitop .andNot .u64 v (gshl .u64 r3 (loS lo))) (gshl .u64 (bitop .and .u64 x r6) (loS lo)))))) = _
  rw [mask_of h2.1, decide_eq_false (show ¬ loS lo < 0 by omega), mask_of h2.1]
  rfl
theorem sext_eq {α : Type} (v b : Int) (k : Int → R α) : s_word_Sext v b k = k (sextS v b) := by
  have h := clamp_bd b
  have e : IntKind.i64.wrap (64 - clamp b) = 64 - clamp b := wrap_i64 (by omega) (by omega)
  show cond (decide (IntKind.i64.wrap (64 - clamp b) < 0)) none (cond (decide (IntKind.i64.wrap (64 - clamp b) < 0)) none (k (sextS v b))) = _
  rw [e, decide_eq_false (show ¬ 64 - clamp b < 0 by omega)]
  rfl
theorem zext_eq {α : Type} (v b : Int) (k : Int → R α) : s_word_Zext v b k = k (zextS v b) := by
  have h := clamp_bd b
  show s_word_mask (clamp b) (fun r => k (bitop .and .u64 v r)) = _
  rw [mask_of (by omega)]
  rfl
theorem w32_u64 {w : Int} (h : W32 w) : IntKind.u64.wrap w = w := wrap_u64 h.1 (by have := h.2; omega)
theorem bits32 {w : Int} (h : W32 w) (lo n : Int) (h0 : 0 ≤ lo) (h1 : lo ≤ 31) (h2 : 0 ≤ n) (h3 : n ≤ 32) : bitsS (IntKind.u64.wrap w) lo n = w / 2 ^ lo.toNat % 2 ^ n.toNat := by
  rw [w32_u64 h]
  exact bitsS_eq ⟨h.1, by have := h.2; omega⟩ h0 (by omega) h2 (by omega)
theorem small_i64 {x : Int} (h0 : 0 ≤ x) (h1 : x < 4294967296) : IntKind.i64.wrap x = x := wrap_i64 (by omega) (by omega)
theorem of_eq {α : Type} {w : Int} (h : W32 w) (k : GDecode_parts → R α) : s_decode_of w k = k ⟨w, w / 128 % 32, w / 4096 % 8, w / 32768 % 32, w / 1048576 % 32, w / 33554432 % 128⟩ := by
  have b1 : bitsS (IntKind.u64.wrap w) 7 5 = w / 128 % 32 := bits32 h 7 5 (by omega) (by omega) (by omega) (by omega)
  have b2 : bitsS (IntKind.u64.wrap w) 12 3 = w / 4096 % 8 := bits32 h 12 3 (by omega) (by omega) (by omega) (by omega)
  have b3 : bitsS (IntKind.u64.wrap w) 15 5 = w / 32768 % 32 := bits32 h 15 5 (by omega) (by omega) (by omega) (by omega)
  have b4 : bitsS (IntKind.u64.wrap w) 20 5 = w / 1048576 % 32 := bits32 h 20 5 (by omega) (by omega) (by omega) (by omega)
  have b5 : bitsS (IntKind.u64.wrap w) 25 7 = w / 33554432 % 128 := bits32 h 25 7 (by omega) (by omega) (by omega) (by omega)
  unfold s_decode_of p_z2w
  simp only [bits_eq, b1, b2, b3, b4, b5]
  rw [small_i64 (x := w / 128 % 32) (by omega) (by omega), small_i64 (x := w / 4096 % 8) (by omega) (by omega), small_i64 (x := w / 32768 % 32) (by omega) (by omega), small_i64 (x := w / 1048576 % 32) (by omega) (by omega), small_i64 (x := w / 33554432 % 128) (by omega) (by omega)]
theorem bv32 (b : BitVec 32) : BitVec.ofInt 32 (IntKind.u32.wrap (b.toNat : Int)) = b := by
  rw [w32_wrap ⟨by omega, by have := b.isLt; omega⟩]
  apply BitVec.eq_of_toNat_eq
  rw [BitVec.toNat_ofInt]
  have := b.isLt
  omega
theorem or_c (x y : Int) : bitop .or .u32 x y = bitop .or .u32 y x := by
  have e : ∀ x y : Int, bitop .or .u32 x y = IntKind.u32.wrap ((BitVec.ofInt 32 x ||| BitVec.ofInt 32 y).toNat : Int) := fun _ _ => rfl
  rw [e, e, BitVec.or_comm]
theorem or_a (x y z : Int) : bitop .or .u32 (bitop .or .u32 x y) z = bitop .or .u32 x (bitop .or .u32 y z) := by
  have e : ∀ x y : Int, bitop .or .u32 x y = IntKind.u32.wrap ((BitVec.ofInt 32 x ||| BitVec.ofInt 32 y).toNat : Int) := fun _ _ => rfl
  rw [e x y, e y z, e, e, bv32, bv32, BitVec.or_assoc]
instance : Std.Associative (bitop .or .u32) := ⟨or_a⟩
instance : Std.Commutative (bitop .or .u32) := ⟨or_c⟩
end Go.Sh
