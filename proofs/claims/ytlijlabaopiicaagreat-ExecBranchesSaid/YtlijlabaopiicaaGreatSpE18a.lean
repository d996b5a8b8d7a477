/-
  Parts of instructions' words, and what may be an instruction.
-/
import Derived.Test.YtlijlabaopiicaaGreatSpS18
import Derived.Test.YtlijlabaopiicaaGreatSpMemLaw
import Derived.Test.YtlijlabaopiicaaGreatSpW32
namespace Go.Sh
open Go
set_option linter.unusedSimpArgs false
set_option linter.unusedVariables false
theorem leB_t {x y : Int} (h : x ≤ y) : leB x y = true := by rw [leB_true]; exact h
theorem leB_f {x y : Int} (h : y < x) : leB x y = false := by unfold leB; exact decide_eq_false (by omega)
theorem ltB_t {x y : Int} (h : x < y) : ltB x y = true := by rw [ltB_true]; exact h
theorem ltB_f {x y : Int} (h : y ≤ x) : ltB x y = false := by unfold ltB; exact decide_eq_false (by omega)
theorem GN_eq {α : Type} (b : GBus) (k : R α) : GN b k = k := by simp only [GN, gN_self]
theorem mask_of {α : Type} {n : Int} (h : 0 ≤ n) (k : Int → R α) : s_word_mask n k = k (maskS n) := by
  show cond (leB 64 n) (k 18446744073709551615) (cond (decide (n < 0)) none (k (IntKind.u64.wrap (gshl .u64 1 n - 1)))) = _
  rw [decide_eq_false (show ¬ n < 0 by omega)]
  unfold maskS
  by_cases h : 64 ≤ n
  · rw [if_pos h, leB_t h]; rfl
  · rw [if_neg h, leB_f (by omega)]; rfl
theorem bits_eq {α : Type} (v lo n : Int) (k : Int → R α) : s_word_Bits v lo n k = k (bitsS v lo n) := by
  have h1 := loS_bd lo
  have h2 := nS_bd lo n
  show cond (decide (loS lo < 0)) none (s_word_mask (nS lo n) fun r => k (bitop .and .u64 (gshr .u64 v (loS lo)) r)) = _
  rw [decide_eq_false (show ¬ loS lo < 0 by omega), mask_of h2.1]
  rfl
theorem set_eq {α : Type} (v lo n x : Int) (k : Int → R α) : s_word_Set v lo n x k = k (setS v lo n x) := by
  have h1 := loS_bd lo
  have h2 := nS_bd lo n
  show s_word_mask (nS lo n) (fun r3 => cond (decide (loS lo < 0)) none (s_word_mask (nS lo n) fun r6 => cond (decide (loS lo < 0)) none (k (bitop .or .u64 (bitop .andNot .u64 v (gshl .u64 r3 (loS lo))) (gshl .u64 (bitop .and .u64 x r6) (loS lo)))))) = _
  rw [mask_of h2.1, decide_eq_false (show ¬ loS lo < 0 by omega), mask_of h2.1]
  rfl
theorem sext_eq {α : Type} (v b : Int) (k : Int → R α) : s_word_Sext v b k = k (sextS v b) := by
  have h := clamp_bd b
  have e : IntKind.i64.wrap (64 - clamp b) = 64 - clamp b := wrap_i64 (by omega) (by omega)
  show cond (decide (IntKind.i64.wrap (64 - clamp b) < 0)) none (cond (decide (IntKind.i64.wrap (64 - clamp b) < 0)) none (k (sextS v b))) = _
  rw [e, decide_eq_false (show ¬ 64 - clamp b < 0 by omega)]
  rfl
theorem w32_u64 {w : Int} (h : W32 w) : IntKind.u64.wrap w = w := wrap_u64 h.1 (by have := h.2; omega)
theorem bits32 {w : Int} (h : W32 w) (lo n : Int) (h0 : 0 ≤ lo) (h1 : lo ≤ 31) (h2 : 0 ≤ n) (h3 : n ≤ 32) : bitsS (IntKind.u64.wrap w) lo n = w / 2 ^ lo.toNat % 2 ^ n.toNat := by
  rw [w32_u64 h]
  exact bitsS_eq ⟨h.1, by have := h.2; omega⟩ h0 (by omega) h2 (by omega)
theorem small_i64 {x : Int} (h0 : 0 ≤ x) (h1 : x < 4294967296) : IntKind.i64.wrap x = x := wrap_i64 (by omega) (by omega)
theorem of_eq {α : Type} {w : Int} (h : W32 w) (k : GDecode_parts → R α) : s_decode_of w k = k ⟨w, w / 128 % 32, w / 4096 % 8, w / 32768 % 32, w / 1048576 % 32, w / 33554432 % 128⟩ := by
  have b1 : bitsS (IntKind.u64.wrap w) 7 5 = w / 128 % 32 := bits32 h 7 5 (by omega) (by omega) (by omega) (by omega)
  have b2 : bitsS (IntKind.u64.wrap w) 12 3 = w / 4096 % 8 := bits32 h 12 3 (by omega) (by omega) (by omega) (by omega)
  have b3 : bitsS (IntKind.u64.wrap w) 15 5 = w / 32768 % 32 := bits32 h 15 5 (by omega) (by omega) (by omega) (by omega)
  have b4 : bitsS (IntKind.u64.wrap w) 20 5 = w / 1048576 % 32 := bits32 h 20 5 (by omega) (by omega) (by omega) (by omega)
  have b5 : bitsS (IntKind.u64.wrap w) 25 7 = w / 33554432 % 128 := bits32 h 25 7 (by omega) (by omega) (by omega) (by omega)
  unfold s_decode_of p_z1w
  simp only [bits_eq, b1, b2, b3, b4, b5]
  rw [small_i64 (x := w / 128 % 32) (by omega) (by omega), small_i64 (x := w / 4096 % 8) (by omega) (by omega), small_i64 (x := w / 32768 % 32) (by omega) (by omega), small_i64 (x := w / 1048576 % 32) (by omega) (by omega), small_i64 (x := w / 33554432 % 128) (by omega) (by omega)]
theorem opcode_eq {α : Type} {w : Int} (h : W32 w) (k : Int → R α) : s_decode_Opcode w k = k (w % 128) := by
  have b1 : bitsS (IntKind.u64.wrap w) 0 7 = w / 1 % 128 := bits32 h 0 7 (by omega) (by omega) (by omega) (by omega)
  unfold s_decode_Opcode p_zb
  simp only [bits_eq, b1]
  rw [small_i64 (by omega) (by omega), Int.ediv_one]
def sgn (m x : Int) : Int := if x < m then x else x - 2 * m
theorem sgn13 {x : Int} (h0 : 0 ≤ x) (h1 : x < 8192) : IntKind.i64.wrap (sextS x 13) = sgn 4096 x := by
  have e : sextS x 13 = IntKind.u64.wrap (gshr .i64 (IntKind.i64.wrap (gshl .u64 x 51)) 51) := rfl
  rw [e, gshl_u64 (by omega) (by omega), gshr_i64 (by omega)]
  have p : (2 : Int) ^ (51 : Int).toNat = 2251799813685248 := rfl
  rw [p, wrap_u64_mod, wrap_i64_if, wrap_i64_if]
  unfold sgn
  repeat' split
  all_goals omega
theorem orsh {x y : Int} (n : Nat) (h0 : 0 ≤ x) (h1 : x < 4294967296) (hn : n ≤ 20) (hy : 0 ≤ y) (hy2 : y < ((2 ^ n : Nat) : Int)) : bitop .or .u64 (gshl .u64 x (n : Int)) y = x * ((2 ^ n : Nat) : Int) + y := by
  have hp : 2 ^ n ≤ 2 ^ 20 := Nat.pow_le_pow_right (by omega) hn
  have hp1 : 1 ≤ 2 ^ n := Nat.one_le_two_pow
  rw [gshl_u64 (by omega) (by omega), Int.toNat_natCast, pow2_eq]
  obtain ⟨a, rfl⟩ := Int.eq_ofNat_of_zero_le h0
  obtain ⟨m, rfl⟩ := Int.eq_ofNat_of_zero_le hy
  have hlt : m < 2 ^ n := by omega
  have hb : a * 2 ^ n < 18446744073709551616 := by
    have h2 : a * 2 ^ n ≤ 4294967295 * 2 ^ n := Nat.mul_le_mul_right _ (by omega)
    omega
  have e0 : (a : Int) * ((2 ^ n : Nat) : Int) = ((a * 2 ^ n : Nat) : Int) := (Int.natCast_mul _ _).symm
  rw [e0, Int.emod_eq_of_lt (by omega) (by omega), bitop_or (by omega) (by omega) (by omega) (by omega)]
  have e2 := Nat.two_pow_add_eq_or_of_lt hlt a
  rw [Int.toNat_natCast, Int.toNat_natCast, Nat.mul_comm a, ← e2]
  omega
theorem or0 {x : Int} (h0 : 0 ≤ x) (h1 : x < 4294967296) : bitop .or .u64 0 x = x := by
  obtain ⟨a, rfl⟩ := Int.eq_ofNat_of_zero_le h0
  rw [bitop_or (by omega) (by omega) (by omega) (by omega), Int.toNat_natCast]
  have : ((0 : Int).toNat ||| a) = a := by simp
  rw [this]
theorem shl1 {x : Int} (h0 : 0 ≤ x) (h1 : x < 4294967296) : gshl .u64 x 1 = 2 * x := by
  rw [gshl_u64 (by omega) (by omega)]
  have p : (2 : Int) ^ (1 : Int).toNat = 2 := rfl
  rw [p]; omega
theorem field_ok {α : Type} {has : Bool} {n e : Int} (h : n = 0 ∨ (has = true ∧ 0 < n ∧ n < e)) (k : Bool → R α) : s_insn_field has n e k = k true := by
  unfold s_insn_field p_z16
  rcases h with rfl | ⟨rfl, h1, h2⟩
  · rfl
  · have e1 : (n == 0) = false := by simp; omega
    simp only [e1, ltB_t h1, ltB_t h2, cond_true, cond_false]
theorem is_ok {α : Type} {i : GInsn} {f : GInsn_Fields} {c : Int} (hc : ∀ {β : Type} (k : Int → R β), s_insn_Class i.Op k = k c) (hc0 : (c == 0) = false) (hf : ∀ {β : Type} (k : GInsn_Fields → R β), s_insn_Of i.Op k = k f)
    (h : (f.Step = 0 ∧ i.Imm = 0) ∨ (0 < f.Step ∧ f.Low ≤ i.Imm ∧ i.Imm ≤ f.High ∧ Int.tmod i.Imm f.Step = 0))
    (h1 : i.Rd = 0 ∨ (f.Rd = true ∧ 0 < i.Rd ∧ i.Rd < 32)) (h2 : i.Rs1 = 0 ∨ (f.Rs1 = true ∧ 0 < i.Rs1 ∧ i.Rs1 < 32)) (h3 : i.Rs2 = 0 ∨ (f.Rs2 = true ∧ 0 < i.Rs2 ∧ i.Rs2 < 32)) (h4 : i.CSR = 0 ∨ (f.CSR = true ∧ 0 < i.CSR ∧ i.CSR < 4096)) (k : Bool → R α) : s_insn_Is i k = k true := by
  have q1 : q_insn_Is_1 s_insn_field i k f = k true := by
    unfold q_insn_Is_1
    simp only [field_ok h1, field_ok h2, field_ok h3, field_ok h4, cond_true]
  unfold s_insn_Is p_zg
  simp only [hc, hc0, hf, cond_false]
  unfold q_insn_Is_2
  rcases h with ⟨e1, e2⟩ | ⟨e1, e2, e3, e4⟩
  · have a1 : (f.Step == 0) = true := by simp [e1]
    have a2 : (i.Imm != 0) = false := by simp [e2]
    simp only [a1, a2, ltB_f (show f.Step ≤ 0 by omega), cond_true, cond_false, q1]
  · have a1 : (f.Step == 0) = false := by simp; omega
    have a2 : (Int.tmod i.Imm f.Step != 0) = false := by simp [e4]
    simp only [a1, a2, ltB_t e1, ltB_f e2, ltB_f e3, decide_eq_false (show ¬ f.Step = 0 by omega), cond_true, cond_false, q1]
theorem reg_ok {α : Type} {has : Bool} {n : Int} (h : n = 0 ∨ (has = true ∧ 0 < n ∧ n < 32)) (k : Bool → R α) : s_ref3_reg n has k = k true := by
  unfold s_ref3_reg p_zu
  rcases h with rfl | ⟨rfl, h1, h2⟩
  · rfl
  · have e1 : (n == 0) = false := by simp; omega
    simp only [e1, ltB_t h1, ltB_t h2, cond_true, cond_false]
theorem within_ok {α : Type} {x lo hi st : Int} (h1 : lo ≤ x) (h2 : x ≤ hi) (h3 : st ≠ 0) (h4 : Int.tmod x st = 0) (k : Bool → R α) : s_ref3_within x lo hi st k = k true := by
  unfold s_ref3_within p_zi
  have a2 : (Int.tmod x st == 0) = true := by simp [h4]
  simp only [leB_t h1, leB_t h2, decide_eq_false h3, a2, cond_true, cond_false]
theorem bv32 (b : BitVec 32) : BitVec.ofInt 32 (IntKind.u32.wrap (b.toNat : Int)) = b := by
  rw [w32_wrap ⟨by omega, by have := b.isLt; omega⟩]
  apply BitVec.eq_of_toNat_eq
  rw [BitVec.toNat_ofInt]
  have := b.isLt
  omega
theorem or_c (x y : Int) : bitop .or .u32 x y = bitop .or .u32 y x := by
  have e : ∀ x y : Int, bitop .or .u32 x y = IntKind.u32.wrap ((BitVec.ofInt 32 x ||| BitVec.ofInt 32 y).toNat : Int) := fun _ _ => rfl
  rw [e, e, BitVec.or_comm]
theorem or_a (x y z : Int) : bitop .or .u32 (bitop .or .u32 x y) z = bitop .or .u32 x (bitop .or .u32 y z) := by
  have e : ∀ x y : Int, bitop .or .u32 x y = IntKind.u32.wrap ((BitVec.ofInt 32 x ||| BitVec.ofInt 32 y).toNat : Int) := fun _ _ => rfl
  rw [e x y, e y z, e, e, bv32, bv32, BitVec.or_assoc]
instance : Std.Associative (bitop .or .u32) := ⟨or_a⟩
instance : Std.Commutative (bitop .or .u32) := ⟨or_c⟩
theorem orS (n : Nat) {x y : Int} (h0 : 0 ≤ x) (h1 : x < ((2 ^ n : Nat) : Int)) (hn : n ≤ 32) (hy : W32 y) (hm : y % ((2 ^ n : Nat) : Int) = 0) : bitop .or .u32 x y = x + y := by
  obtain ⟨a, rfl⟩ := Int.eq_ofNat_of_zero_le h0
  obtain ⟨m, rfl⟩ := Int.eq_ofNat_of_zero_le hy.1
  have hp : 2 ^ n ≤ 2 ^ 32 := Nat.pow_le_pow_right (by omega) hn
  have := hy.2
  rw [or32 (by omega) (by omega), or_up n (by omega) (by omega)]
  omega
end Go.Sh
