/-
  Words of instructions: written (by the document) and read (by the program).
-/
import Derived.Test.YtlijlabaopiicaaGreatSpE18a
namespace Go.Sh
open Go
set_option linter.unusedSimpArgs false
set_option linter.unusedVariables false
theorem is3_ok {α : Type} {i : GInsn} {p1 p2 p3 p4 p5 : Bool} (hq : ∀ {β : Type} (k : Bool → R β), s_ref3_Is i k = q_ref3_Is_1 s_ref3_Parts s_ref3_reg s_ref3_number i k) (hp : ∀ {β : Type} (k : Bool → Bool → Bool → Bool → Bool → R β), s_ref3_Parts i.Op k = k p1 p2 p3 p4 p5)
    (h1 : i.Rd = 0 ∨ (p1 = true ∧ 0 < i.Rd ∧ i.Rd < 32)) (h2 : i.Rs1 = 0 ∨ (p2 = true ∧ 0 < i.Rs1 ∧ i.Rs1 < 32)) (h3 : i.Rs2 = 0 ∨ (p3 = true ∧ 0 < i.Rs2 ∧ i.Rs2 < 32)) (h4 : i.CSR = 0 ∨ (p4 = true ∧ 0 < i.CSR ∧ i.CSR ≤ 4095))
    (h5 : (p5 = false ∧ i.Imm = 0) ∨ (p5 = true ∧ ∀ {β : Type} (k : Bool → R β), s_ref3_number i k = k true)) (k : Bool → R α) : s_ref3_Is i k = k true := by
  rw [hq]
  unfold q_ref3_Is_1
  simp only [hp, reg_ok h1, reg_ok h2, reg_ok h3, Bool.not_true, cond_false]
  rcases h4 with e | ⟨rfl, e1, e2⟩
  · have a : (i.CSR != 0) = false := by simp [e]
    simp only [a, cond_false]
    rcases h5 with ⟨rfl, e5⟩ | ⟨rfl, e5⟩
    · have b : (i.Imm == 0) = true := by simp [e5]
      simp only [b, Bool.not_false, cond_true]
    · simp only [e5, Bool.not_true, cond_false]
  · have a : (i.CSR != 0) = true := by simp; omega
    simp only [a, ltB_f (show (0 : Int) ≤ i.CSR by omega), ltB_f e2, Bool.not_true, cond_true, cond_false]
    rcases h5 with ⟨rfl, e5⟩ | ⟨rfl, e5⟩
    · have b : (i.Imm == 0) = true := by simp [e5]
      simp only [b, Bool.not_false, cond_true]
    · simp only [e5, Bool.not_true, cond_false]
theorem shl32 {x : Int} (n : Nat) (h0 : 0 ≤ x) (hn : n ≤ 32) (h1 : x * ((2 ^ n : Nat) : Int) < 4294967296) : gshl .u32 x (n : Int) = x * ((2 ^ n : Nat) : Int) := by
  have hp := Nat.one_le_two_pow (n := n)
  rw [gshl_u32 (by omega) (by omega), Int.toNat_natCast, pow2_eq, Int.emod_eq_of_lt (Int.mul_nonneg h0 (by omega)) h1]
theorem and32i {x : Int} (k : Nat) (h : W32 x) (hk : k ≤ 32) {m : Int} (hm : m = ((2 ^ k - 1 : Nat) : Int)) : bitop .and .u32 x m = x % ((2 ^ k : Nat) : Int) := by
  obtain ⟨a, rfl⟩ := Int.eq_ofNat_of_zero_le h.1
  rw [and32k (by have := h.2; omega) hk hm]
  omega
theorem fld32 {u : Int} (hu : W32 u) (lo n : Nat) (hlo : lo ≤ 31) (hn : n ≤ 32) {m : Int} (hm : m = ((2 ^ n - 1 : Nat) : Int)) : bitop .and .u32 (gshr .u32 u (lo : Int)) m = u / ((2 ^ lo : Nat) : Int) % ((2 ^ n : Nat) : Int) := by
  have hp := Nat.one_le_two_pow (n := lo)
  rw [gshr_u32 (by omega), Int.toNat_natCast, pow2_eq]
  have h0 : 0 ≤ u / ((2 ^ lo : Nat) : Int) := Int.ediv_nonneg hu.1 (by omega)
  have h1 : u / ((2 ^ lo : Nat) : Int) ≤ u := Int.ediv_le_self _ hu.1
  exact and32i n ⟨h0, by have := hu.2; omega⟩ hn hm
theorem r32 {x : Int} (h : 0 ≤ x ∧ x < 32) : x = 0 ∨ (true = true ∧ 0 < x ∧ x < 32) := by
  by_cases e : x = 0
  · exact .inl e
  · exact .inr ⟨rfl, by omega, h.2⟩
theorem dec_parts {α : Type} {w : Int} (h : W32 w) {i : GInsn} (k : GInsn → Int → R α)
    (hi : ∀ k' : GInsn → Bool → R α, s_decode_parts_insn ⟨w, w / 128 % 32, w / 4096 % 8, w / 32768 % 32, w / 1048576 % 32, w / 33554432 % 128⟩ k' = k' i true) (his : ∀ k' : Bool → R α, s_insn_Is i k' = k' true) : s_decode_Decode w k = k i 0 := by
  unfold s_decode_Decode p_z1g
  rw [of_eq h, hi]
  simp only [Bool.not_true, cond_false, his]
end Go.Sh
