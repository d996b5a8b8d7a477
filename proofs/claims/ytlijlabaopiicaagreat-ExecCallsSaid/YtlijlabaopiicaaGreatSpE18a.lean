/-
  Parts of instructions' words, and what may be an instruction.
-/
import Derived.Test.YtlijlabaopiicaaGreatSpS18
import Derived.Test.YtlijlabaopiicaaGreatSpMemLaw
import Derived.Test.YtlijlabaopiicaaGreatSpW32
namespace Go.Sh
open Go
set_option linter.unusedSimpArgs false
set_option linter.unusedVariables false
theorem leB_t {x y : Int} (h : x ≤ y) : leB x y = true := by rw [leB_true]; exact h
theorem leB_f {x y : Int} (h : y < x) : leB x y = false := by unfold leB; exact decide_eq_false (by omega)
theorem GN_eq {α : Type} (b : GBus) (k : R α) : GN b k = k := by simp only [GN, gN_self]
theorem mask_of {α : Type} {n : Int} (h : 0 ≤ n) (k : Int → R α) : s_word_mask n k = k (maskS n) := by
  show cond (leB 64 n) (k 18446744073709551615) (cond (decide (n < 0)) none (k (IntKind.u64.wrap (gshl .u64 1 n - 1)))) = _
  rw [decide_eq_false (show ¬ n < 0 by omega)]
  unfold maskS
  by_cases h : 64 ≤ n
  · rw [if_pos h, leB_t h]; rfl
  · rw [if_neg h, leB_f (by omega)]; rfl
theorem bits_eq {α : Type} (v lo n : Int) (k : Int → R α) : s_word_Bits v lo n k = k (bitsS v lo n) := by
  have h1 := loS_bd lo
  have h2 := nS_bd lo n
  show cond (decide (loS lo < 0)) none (s_word_mask (nS lo n) fun r => k (bitop .and .u64 (gshr .u64 v (loS lo)) r)) = _
  rw [decide_eq_false (show ¬ loS lo < 0 by omega), mask_of h2.1]
  rfl
theorem set_eq {α : Type} (v lo n x : Int) (k : Int → R α) : s_word_Set v lo n x k = k (setS v lo n x) := by
  have h1 := loS_bd lo
  have h2 := nS_bd lo n
  show s_word_mask (nS lo n) (fun r3 => cond (decide (loS lo < 0)) none (s_word_mask (nS lo n) fun r6 => cond (decide (loS lo < 0)) none (k (bitop .or .u64 (bitop .andNot .u64 v (gshl .u64 r3 (loS lo))) (gshl .u64 (bitop .and .u64 x r6) (loS lo)))))) = _
  rw [mask_of h2.1, decide_eq_false (show ¬ loS lo < 0 by omega), mask_of h2.1]
  rfl
theorem bv32 (b : BitVec 32) : BitVec.ofInt 32 (IntKind.u32.wrap (b.toNat : Int)) = b := by
  rw [w32_wrap ⟨by omega, by have := b.isLt; omega⟩]
  apply BitVec.eq_of_toNat_eq
  rw [BitVec.toNat_ofInt]
  have := b.isLt
  omega
theorem or_c (x y : Int) : bitop .or .u32 x y = bitop .or .u32 y x := by
  have e : ∀ x y : Int, bitop .or .u32 x y = IntKind.u32.wrap ((BitVec.ofInt 32 x ||| BitVec.ofInt 32 y).toNat : Int) := fun _ _ => rfl
  rw [e, e, BitVec.or_comm]
theorem or_a (x y z : Int) : bitop .or .u32 (bitop .or .u32 x y) z = bitop .or .u32 x (bitop .or .u32 y z) := by
  have e : ∀ x y : Int, bitop .or .u32 x y = IntKind.u32.wrap ((BitVec.ofInt 32 x ||| BitVec.ofInt 32 y).toNat : Int) := fun _ _ => rfl
  rw [e x y, e y z, e, e, bv32, bv32, BitVec.or_assoc]
instance : Std.Associative (bitop .or .u32) := ⟨or_a⟩
instance : Std.Commutative (bitop .or .u32) := ⟨or_c⟩
end Go.Sh
