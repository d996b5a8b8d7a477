/-
  Small laws for what an evaluation leaves: literal words, rows, wraps.
-/
import Derived.Test.YtigomjcmpafeeaaSk17
set_option linter.unusedSimpArgs false
set_option linter.unusedVariables false
namespace Go.Sh
open Go

theorem nbeq (a b : Nat) : Nat.beq a b = decide (a = b) := by
  cases h : Nat.beq a b
  · exact (decide_eq_false fun e => by subst e; rw [Nat.beq_refl] at h; cases h).symm
  · exact (decide_eq_true (Nat.eq_of_beq_eq_true h)).symm
theorem upd_if {β : Type} (f : Nat → β) (i : Nat) (x : β) (j : Nat) : upd f i x j = if j = i then x else f j := by
  unfold upd; rw [nbeq]; by_cases h : j = i <;> simp [h]

theorem wrap_i64 {n : Int} (h0 : -9223372036854775808 ≤ n) (h1 : n < 9223372036854775808) : IntKind.i64.wrap n = n := by
  have e : IntKind.i64.wrap n = (if IntKind.i64.signed && decide (n % 18446744073709551616 ≥ 9223372036854775808) then n % 18446744073709551616 - 18446744073709551616 else n % 18446744073709551616) := rfl
  rw [e]
  have hs : IntKind.i64.signed = true := rfl
  simp only [hs, Bool.true_and, decide_eq_true_eq]
  split <;> omega
theorem wrap_u64 {n : Int} (h0 : 0 ≤ n) (h1 : n < 18446744073709551616) : IntKind.u64.wrap n = n := by
  have e : IntKind.u64.wrap n = (if IntKind.u64.signed && decide (n % 18446744073709551616 ≥ 9223372036854775808) then n % 18446744073709551616 - 18446744073709551616 else n % 18446744073709551616) := rfl
  rw [e]
  have hs : IntKind.u64.signed = false := rfl
  simp only [hs, Bool.false_and, Bool.false_eq_true, if_false]
  omega
theorem wrap_u64_mod (n : Int) : IntKind.u64.wrap n = n % 18446744073709551616 := by
  have e : IntKind.u64.wrap n = (if IntKind.u64.signed && decide (n % 18446744073709551616 ≥ 9223372036854775808) then n % 18446744073709551616 - 18446744073709551616 else n % 18446744073709551616) := rfl
  rw [e]
  have hs : IntKind.u64.signed = false := rfl
  simp only [hs, Bool.false_and, Bool.false_eq_true, if_false]
theorem wrap_u32_mod (n : Int) : IntKind.u32.wrap n = n % 4294967296 := by
  have e : IntKind.u32.wrap n = (if IntKind.u32.signed && decide (n % 4294967296 ≥ 2147483648) then n % 4294967296 - 4294967296 else n % 4294967296) := rfl
  rw [e]
  have hs : IntKind.u32.signed = false := rfl
  simp only [hs, Bool.false_and, Bool.false_eq_true, if_false]
theorem wrap_u8_mod (n : Int) : IntKind.u8.wrap n = n % 256 := by
  have e : IntKind.u8.wrap n = (if IntKind.u8.signed && decide (n % 256 ≥ 128) then n % 256 - 256 else n % 256) := rfl
  rw [e]
  have hs : IntKind.u8.signed = false := rfl
  simp only [hs, Bool.false_and, Bool.false_eq_true, if_false]
theorem wrap_i64_if (n : Int) : IntKind.i64.wrap n = if n % 18446744073709551616 ≥ 9223372036854775808 then n % 18446744073709551616 - 18446744073709551616 else n % 18446744073709551616 := by
  have e : IntKind.i64.wrap n = (if IntKind.i64.signed && decide (n % 18446744073709551616 ≥ 9223372036854775808) then n % 18446744073709551616 - 18446744073709551616 else n % 18446744073709551616) := rfl
  rw [e]
  have hs : IntKind.i64.signed = true := rfl
  simp only [hs, Bool.true_and, decide_eq_true_eq]
theorem wrap_i32_if (n : Int) : IntKind.i32.wrap n = if n % 4294967296 ≥ 2147483648 then n % 4294967296 - 4294967296 else n % 4294967296 := by
  have e : IntKind.i32.wrap n = (if IntKind.i32.signed && decide (n % 4294967296 ≥ 2147483648) then n % 4294967296 - 4294967296 else n % 4294967296) := rfl
  rw [e]
  have hs : IntKind.i32.signed = true := rfl
  simp only [hs, Bool.true_and, decide_eq_true_eq]

theorem bitop_u64 (op : BinOp) (x y : Int) : 0 ≤ bitop op .u64 x y ∧ bitop op .u64 x y < 18446744073709551616 := by
  unfold bitop; rw [wrap_u64_mod]; omega
theorem wrap_u64_bd (x : Int) : 0 ≤ IntKind.u64.wrap x ∧ IntKind.u64.wrap x < 18446744073709551616 := by
  rw [wrap_u64_mod]; omega

/-- A run at closed words, for the kernel: ends with the integer v. -/
def endsB (x : R Ans) (kd : IntKind) (v : Int) : Bool :=
  match x with
  | some (.int kd' n, _) => decide (kd' = kd) && decide (n = v)
  | _ => false
theorem endsB_spec {x : R Ans} {kd : IntKind} {v : Int} (h : endsB x kd v = true) : EndsV x (.int kd v) := by
  unfold endsB at h
  split at h
  · simp only [Bool.and_eq_true, decide_eq_true_eq] at h
    obtain ⟨rfl, rfl⟩ := h
    exact ⟨_, rfl⟩
  · cases h
theorem of_all {n : Nat} {p : Nat → Bool} (h : (List.range n).all p = true) {i : Int} (h0 : 0 ≤ i) (h1 : i < n) : ∃ j : Nat, i = (j : Int) ∧ p j = true :=
  ⟨i.toNat, by omega, List.all_eq_true.1 h _ (List.mem_range.2 (by omega))⟩
end Go.Sh
