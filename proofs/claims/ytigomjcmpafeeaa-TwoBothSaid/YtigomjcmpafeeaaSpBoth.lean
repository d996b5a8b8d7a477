/-
  What the functions of Both come to, told without the program.
-/
import Derived.Test.YtigomjcmpafeeaaSpOwn
import Derived.Test.YtigomjcmpafeeaaSpBothLaw
set_option linter.unusedSimpArgs false
set_option linter.unusedVariables false
namespace Go.Sh
open Go
set_option linter.unusedSimpArgs false
/-- The loop: a word for each frame. -/
def bothL {α : Type} (n : Nat) : LF α := fun env σ k => match getE env 15, getE env 13, getE env 14, getE env 11, getE env 12, getE env 3, getE env 4 with
  | some (.int .i64 i), some (.int .i64 g), some (.int .i64 h), some p, some v1, some v2, some v3 => withMem σ p fun b b1 g0 g1 M =>
    bif (i == 0) && (Nat.beq b 1 && Nat.beq b1 0) then k (.exit 0) [(15, .int .i64 n), (13, .int .i64 g), (14, .int .i64 h), (11, .ptr 1 []), (12, v1), (3, v2), (4, v3)] ⟨σ.next, [(0, byO g1 (putsM M (bothE g h) n))] ++ σ.blocks⟩ else none
  | _, _, _, _, _, _, _ => none
/-- The law's function answers true. -/
def twoBothF {α : Type} : FP α := fun args k => match args with
  | [.int .u8 page, .int .u8 guest, .int .u8 host, .int .u8 at_, .int .u8 kind] => if 0 ≤ page ∧ 0 ≤ guest ∧ 0 ≤ host ∧ (0 ≤ at_ ∧ at_ < 256) ∧ 0 ≤ kind then k (.bool true) else none
  | _ => none
theorem both_ask : askS (upd (upd (fun _ => 0) (Int.toNat 21) 9223372036855234561) (Int.toNat 28) 9223372036855365632) 1 true = bothA := by kernel_rfl
theorem xor_mark {a : Int} (h0 : 0 ≤ a) (h1 : a < 4096) : bitop .xor .u64 a 32768 = a + 32768 := by
  obtain ⟨n, rfl⟩ := Int.eq_ofNat_of_zero_le h0
  have hlt : n < 2 ^ 15 := by omega
  have e := Nat.two_pow_add_eq_or_of_lt hlt 1
  have x : n ^^^ 2 ^ 15 = 2 ^ 15 * 1 ||| n := by
    apply Nat.eq_of_testBit_eq
    intro i
    rw [Nat.testBit_xor, Nat.testBit_or, Nat.mul_one, Nat.testBit_two_pow]
    by_cases hi : 15 = i
    · subst hi
      have : n.testBit 15 = false := Nat.testBit_lt_two_pow hlt
      simp [this]
    · simp [hi]
  rw [bitop_xor (by omega) (by omega) (by omega) (by omega), Int.toNat_natCast]
  have : (32768 : Int).toNat = 2 ^ 15 := rfl
  rw [this, x, ← e]
  omega
end Go.Sh
