/-
  A part of the proof: ShF.
-/
import Derived.Test.YtcoicmgdjkabaaaShD
import Derived.Test.YtcoicmgdjkabaaaShE
namespace Go.Proofs.Ytcoicmgdjkabaaa
open Go Go.Sh Go.Proofs

theorem nope {b : Bool} (h : b = true) (h2 : b = false) : False := by rw [h] at h2; cases h2
theorem beq_of {a b : Int} (h : a = b) : (a == b) = true := by subst h; simp
theorem bbeq_of {a b : Bool} (h : a = b) : (a == b) = true := by subst h; cases a <;> rfl
def law2F {α : Type} : FP α := fun args _ k => match args with
  | [.int .u64 a, .int .u64 b] => cond (decide (W64 a) && decide (W64 b)) (k (.bool true)) none
  | _ => none
def lawopF {α : Type} : FP α := fun args _ k => match args with
  | [.int .i64 _, .int .u64 a, .int .u64 b] => cond (decide (W64 a) && decide (W64 b)) (k (.bool true)) none
  | _ => none
def U8 (a : Int) : Prop := 0 ≤ a ∧ a < 256
instance (a : Int) : Decidable (U8 a) := inferInstanceAs (Decidable (_ ∧ _))
def lawstF {α : Type} : FP α := fun args _ k => match args with
  | [.int .u64 a, .int .u8 m, .int .u8 n] => cond (decide (W64 a) && decide (U8 m) && decide (U8 n)) (k (.bool true)) none
  | _ => none
theorem tmod32 {m : Int} (h : U8 m) : 0 ≤ IntKind.u64.wrap (m.tmod 32) ∧ IntKind.u64.wrap (m.tmod 32) < 32 := by
  have := h.1; have := h.2
  rw [Int.tmod_eq_emod_of_nonneg h.1, wrap_u64_mod]; omega
set_option maxRecDepth 100000 in
theorem c3 {α : Type} {I : Imm} : OrcOk (α := α) Try.prog I 3 (.pure lawopF) := by
  refine orc_plain te_ok O9_ok 1 Try.func3 (by kernel_rfl) (by kernel_rfl) ?_
  intro args h k r hk
  unfold lawopF at hk
  split at hk <;> try (simp at hk; done)
  rename_i op a b
  cases hg : (decide (W64 a) && decide (W64 b)) <;> rw [hg] at hk <;> simp only [cond_true, cond_false] at hk <;> try (simp at hk; done)
  refine ⟨_, hk, by simp [Wf], by simp [Wf], ?_⟩
  clear hk
  simp only [Bool.and_eq_true, decide_eq_true_eq] at hg
  have e0 : (doS op a b == rdoS op a b) = true := beq_of (do_eq op hg.1 hg.2)
  have e1 : (takS op a b == takS op a b) = true := bbeq_of rfl
  have e2 : (csrS op a b == csrS op a b) = true := beq_of (rfl)
  have e3 : (extS op a == rextS op a) = true := beq_of (ext_eq op hg.1)
  repeat' ((conv => arg 1; whnf); split)
  all_goals (try (conv => arg 1; whnf))
  all_goals first | (exfalso; first | exact nope e0 (by with_reducible assumption) | exact nope e1 (by with_reducible assumption) | exact nope e2 (by with_reducible assumption) | exact nope e3 (by with_reducible assumption) | (simp at *; omega)) | exact ends_bool e3
set_option maxRecDepth 100000 in
theorem c4 {α : Type} {I : Imm} : OrcOk (α := α) Try.prog I 4 (.pure law2F) := by
  refine orc_plain te_ok O9_ok 1 Try.func4 (by kernel_rfl) (by kernel_rfl) ?_
  intro args h k r hk
  unfold law2F at hk
  split at hk <;> try (simp at hk; done)
  rename_i a b
  cases hg : (decide (W64 a) && decide (W64 b)) <;> rw [hg] at hk <;> simp only [cond_true, cond_false] at hk <;> try (simp at hk; done)
  refine ⟨_, hk, by simp [Wf], by simp [Wf], ?_⟩
  clear hk
  simp only [Bool.and_eq_true, decide_eq_true_eq] at hg
  have hn := bitop_u64 .and b 63
  have e0 : (doS 36 (doS 35 a b) b == a) = true := beq_of (back_1 hg.1 b)
  have e1 : (doS 40 (doS 40 a b) b == a) = true := beq_of (back_2 hg.1 hg.2)
  have e2 : (IntKind.u64.wrap (doS 37 (doS 41 a (bitop BinOp.and IntKind.u64 b 63)) (bitop BinOp.and IntKind.u64 b 63) + bitop BinOp.and IntKind.u64 a (IntKind.u64.wrap (gshl IntKind.u64 1 (bitop BinOp.and IntKind.u64 b 63) - 1))) == a) = true := beq_of (back_3 hg.1 hg.2)
  have e3 : (IntKind.u64.wrap (doS 43 a b + doS 44 a b) == doS 35 a b) = true := beq_of (back_4 hg.1 hg.2)
  have e4 : (doS 22 a b == doS 35 a b) = true := beq_of ((do_22 a b).trans (do_35 a b).symm)
  have e5 : (doS 37 a b == gshl IntKind.u64 a (bitop BinOp.and IntKind.u64 b 63)) = true := beq_of (do_37 a b)
  have e6 : (doS 42 a b == IntKind.u64.wrap (gshr IntKind.i64 (IntKind.i64.wrap a) (bitop BinOp.and IntKind.u64 b 63))) = true := beq_of (do_42 a b)
  repeat' ((conv => arg 1; whnf); split)
  all_goals (try (conv => arg 1; whnf))
  all_goals first | (exfalso; first | exact nope e0 (by with_reducible assumption) | exact nope e1 (by with_reducible assumption) | exact nope e2 (by with_reducible assumption) | exact nope e3 (by with_reducible assumption) | exact nope e4 (by with_reducible assumption) | exact nope e5 (by with_reducible assumption) | exact nope e6 (by with_reducible assumption) | (simp at *; omega)) | exact ends_bool e6
set_option maxRecDepth 100000 in
theorem c6 {α : Type} {I : Imm} : OrcOk (α := α) Try.prog I 6 (.pure law2F) := by
  refine orc_plain te_ok O9_ok 1 Try.func6 (by kernel_rfl) (by kernel_rfl) ?_
  intro args h k r hk
  unfold law2F at hk
  split at hk <;> try (simp at hk; done)
  rename_i a b
  cases hg : (decide (W64 a) && decide (W64 b)) <;> rw [hg] at hk <;> simp only [cond_true, cond_false] at hk <;> try (simp at hk; done)
  refine ⟨_, hk, by simp [Wf], by simp [Wf], ?_⟩
  clear hk
  simp only [Bool.and_eq_true, decide_eq_true_eq] at hg
  have e0 : (doS 45 a b == halfS (doS 35 a b)) = true := beq_of (by rw [do_45, do_35, half32, halves_45 hg.1])
  have e1 : (doS 46 a b == halfS (doS 36 a b)) = true := beq_of (by rw [do_46, do_36, half32, halves_46 hg.1])
  have e2 : (doS 47 a b == halfS (doS 37 a (bitop BinOp.and IntKind.u64 b 31))) = true := beq_of (by rw [do_47, do_37, half32, halves_47 hg.1 (c31b hg.2), count31 hg.2, and31 hg.2])
  have e3 : (doS 48 a b == halfS (doS 41 (bitop BinOp.and IntKind.u64 a 4294967295) (bitop BinOp.and IntKind.u64 b 31))) = true := beq_of (by rw [do_48, do_41, half32, count31 hg.2, and31 hg.2, sext32 (w_shr (w_bit _ _ _) (by omega))])
  have e4 : (doS 49 a b == doS 42 (halfS a) (bitop BinOp.and IntKind.u64 b 31)) = true := beq_of (by rw [do_49, do_42, half32, halves_49 hg.1 (c31b hg.2), count31 hg.2, and31 hg.2])
  have e5 : (doS 31 a b == halfS (doS 35 a b)) = true := beq_of (by rw [do_31, do_35, half32, halves_45 hg.1])
  have e6 : (extS 13 a == halfS a) = true := beq_of ((show extS 13 a = sextS a 32 by kernel_rfl).trans ((sext32 hg.1).trans (half32 a).symm))
  have e7 : (extS 17 a == bitop BinOp.and IntKind.u64 a 4294967295) = true := beq_of (by kernel_rfl)
  repeat' ((conv => arg 1; whnf); split)
  all_goals (try (conv => arg 1; whnf))
  all_goals first | (exfalso; first | exact nope e0 (by with_reducible assumption) | exact nope e1 (by with_reducible assumption) | exact nope e2 (by with_reducible assumption) | exact nope e3 (by with_reducible assumption) | exact nope e4 (by with_reducible assumption) | exact nope e5 (by with_reducible assumption) | exact nope e6 (by with_reducible assumption) | exact nope e7 (by with_reducible assumption) | (simp at *; omega)) | exact ends_bool e7
set_option maxRecDepth 100000 in
theorem c7 {α : Type} {I : Imm} : OrcOk (α := α) Try.prog I 7 (.pure law2F) := by
  refine orc_plain te_ok O9_ok 1 Try.func7 (by kernel_rfl) (by kernel_rfl) ?_
  intro args h k r hk
  unfold law2F at hk
  split at hk <;> try (simp at hk; done)
  rename_i a b
  cases hg : (decide (W64 a) && decide (W64 b)) <;> rw [hg] at hk <;> simp only [cond_true, cond_false] at hk <;> try (simp at hk; done)
  refine ⟨_, hk, by simp [Wf], by simp [Wf], ?_⟩
  clear hk
  simp only [Bool.and_eq_true, decide_eq_true_eq] at hg
  have e0 : (bitop BinOp.and IntKind.u64 (csrS 55 a b) b == b) = true := beq_of (csr_1 a hg.2)
  have e1 : (bitop BinOp.andNot IntKind.u64 (csrS 55 a b) b == bitop BinOp.andNot IntKind.u64 a b) = true := beq_of (csr_2 a b)
  have e2 : (bitop BinOp.and IntKind.u64 (csrS 56 a b) b == 0) = true := beq_of (csr_3 a b)
  have e3 : (bitop BinOp.andNot IntKind.u64 (csrS 56 a b) b == bitop BinOp.andNot IntKind.u64 a b) = true := beq_of (csr_4 a b)
  have e4 : (csrS 54 a b == b) = true := beq_of (rfl)
  have e5 : (csrS 58 a b == csrS 55 a b) = true := beq_of (rfl)
  have e6 : (csrS 59 a b == csrS 56 a b) = true := beq_of (rfl)
  have e7 : (csrS 35 a b == a) = true := beq_of (rfl)
  repeat' ((conv => arg 1; whnf); split)
  all_goals (try (conv => arg 1; whnf))
  all_goals first | (exfalso; first | exact nope e0 (by with_reducible assumption) | exact nope e1 (by with_reducible assumption) | exact nope e2 (by with_reducible assumption) | exact nope e3 (by with_reducible assumption) | exact nope e4 (by with_reducible assumption) | exact nope e5 (by with_reducible assumption) | exact nope e6 (by with_reducible assumption) | exact nope e7 (by with_reducible assumption) | (simp at *; omega)) | exact ends_bool e7
set_option maxRecDepth 100000 in
theorem c8 {α : Type} {I : Imm} : OrcOk (α := α) Try.prog I 8 (.pure lawstF) := by
  refine orc_plain te_ok O9_ok 1 Try.func8 (by kernel_rfl) (by kernel_rfl) ?_
  intro args h k r hk
  unfold lawstF at hk
  split at hk <;> try (simp at hk; done)
  rename_i a m n
  cases hg : (decide (W64 a) && decide (U8 m) && decide (U8 n)) <;> rw [hg] at hk <;> simp only [cond_true, cond_false] at hk <;> try (simp at hk; done)
  refine ⟨_, hk, by simp [Wf], by simp [Wf], ?_⟩
  clear hk
  simp only [Bool.and_eq_true, decide_eq_true_eq] at hg
  have hx := tmod32 hg.1.2
  have hy := tmod32 hg.2
  have e0 : (doS 37 (doS 37 a (IntKind.u64.wrap (m.tmod 32))) (IntKind.u64.wrap (n.tmod 32)) == doS 37 a (IntKind.u64.wrap (IntKind.u64.wrap (m.tmod 32) + IntKind.u64.wrap (n.tmod 32)))) = true := beq_of (steps_1 a hx hy)
  have e1 : (doS 41 (doS 41 a (IntKind.u64.wrap (m.tmod 32))) (IntKind.u64.wrap (n.tmod 32)) == doS 41 a (IntKind.u64.wrap (IntKind.u64.wrap (m.tmod 32) + IntKind.u64.wrap (n.tmod 32)))) = true := beq_of (steps_2 a hx hy)
  have e2 : (doS 42 (doS 42 a (IntKind.u64.wrap (m.tmod 32))) (IntKind.u64.wrap (n.tmod 32)) == doS 42 a (IntKind.u64.wrap (IntKind.u64.wrap (m.tmod 32) + IntKind.u64.wrap (n.tmod 32)))) = true := beq_of (steps_3 a hx hy)
  have e3 : (doS 37 a (IntKind.u64.wrap (64 + IntKind.u64.wrap (m.tmod 32))) == doS 37 a (IntKind.u64.wrap (m.tmod 32))) = true := beq_of (steps_4 a hx)
  repeat' ((conv => arg 1; whnf); split)
  all_goals (try (conv => arg 1; whnf))
  all_goals first | (exfalso; first | exact nope e0 (by with_reducible assumption) | exact nope e1 (by with_reducible assumption) | exact nope e2 (by with_reducible assumption) | exact nope e3 (by with_reducible assumption) | (simp at *; omega)) | exact ends_bool e3
end Go.Proofs.Ytcoicmgdjkabaaa
