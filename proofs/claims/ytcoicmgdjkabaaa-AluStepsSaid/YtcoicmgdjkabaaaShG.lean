/-
  A part of the proof: ShG.
-/
import Derived.Test.YtcoicmgdjkabaaaShF
namespace Go.Proofs.Ytcoicmgdjkabaaa
open Go Go.Sh Go.Proofs
theorem b2i_one (x : Bool) : (b2i x == 1) = x := by cases x <;> kernel_rfl
theorem tak_5 (a b : Int) : takS 5 a b = (a == b) := by kernel_rfl
theorem tak_6 (a b : Int) : takS 6 a b = (a != b) := by kernel_rfl
theorem tak_7 (a b : Int) : takS 7 a b = decide (IntKind.i64.wrap a < IntKind.i64.wrap b) := by kernel_rfl
theorem tak_8 (a b : Int) : takS 8 a b = !decide (IntKind.i64.wrap a < IntKind.i64.wrap b) := by kernel_rfl
theorem tak_9 (a b : Int) : takS 9 a b = decide (a < b) := by kernel_rfl
theorem tak_10 (a b : Int) : takS 10 a b = decide (b ≤ a) := by kernel_rfl
theorem wrap_1 (a : Int) (h : a = 1) : (IntKind.u64.wrap a == 1) = true := by subst h; kernel_rfl
theorem sum_two (p q : Prop) [Decidable p] [Decidable q] (c : Int) (h : (p ∧ ¬ q ∧ c = 0) ∨ (¬ p ∧ q ∧ c = 0) ∨ (¬ p ∧ ¬ q ∧ c = 1)) : (IntKind.u64.wrap (IntKind.u64.wrap (b2i (decide p) + b2i (decide q)) + c) == 1) = true := by
  rcases h with ⟨h1, h2, rfl⟩ | ⟨h1, h2, rfl⟩ | ⟨h1, h2, rfl⟩ <;> simp only [h1, h2, decide_true, decide_false] <;> kernel_rfl
theorem i64_inj {a b : Int} (ha : W64 a) (hb : W64 b) (h : IntKind.i64.wrap a = IntKind.i64.wrap b) : a = b := by
  rw [wrap_i64_if, wrap_i64_if] at h
  have := ha.1; have := ha.2; have := hb.1; have := hb.2
  split at h <;> split at h <;> omega
theorem ord_38 {a b : Int} (ha : W64 a) (hb : W64 b) (c : Int) (h : a ≠ b ∧ c = 0 ∨ a = b ∧ c = 1) : (IntKind.u64.wrap (IntKind.u64.wrap (doS 38 a b + doS 38 b a) + c) == 1) = true := by
  rw [do_38, do_38]
  refine sum_two _ _ _ ?_
  rcases h with ⟨h, rfl⟩ | ⟨rfl, rfl⟩
  · have := mt (i64_inj ha hb) h
    omega
  · omega
theorem ord_39 {a b : Int} (c : Int) (h : a ≠ b ∧ c = 0 ∨ a = b ∧ c = 1) : (IntKind.u64.wrap (IntKind.u64.wrap (doS 39 a b + doS 39 b a) + c) == 1) = true := by
  rw [do_39, do_39]
  exact sum_two _ _ _ (by omega)
set_option maxRecDepth 100000 in
theorem c5 {α : Type} {I : Imm} : OrcOk (α := α) Try.prog I 5 (.pure law2F) := by
  refine orc_plain te_ok O9_ok 1 Try.func5 (by kernel_rfl) (by kernel_rfl) ?_
  intro args h k r hk
  unfold law2F at hk
  split at hk <;> try (simp at hk; done)
  rename_i a b
  cases hg : (decide (W64 a) && decide (W64 b)) <;> rw [hg] at hk <;> simp only [cond_true, cond_false] at hk <;> try (simp at hk; done)
  refine ⟨_, hk, by simp [Wf], by simp [Wf], ?_⟩
  clear hk
  simp only [Bool.and_eq_true, decide_eq_true_eq] at hg
  have e1 : (a == b) = true → (IntKind.u64.wrap (IntKind.u64.wrap (doS 38 a b + doS 38 b a) + 1) == 1) = true := fun h => ord_38 hg.1 hg.2 1 (.inr ⟨by simpa using h, rfl⟩)
  have e2 : (a == b) = true → (IntKind.u64.wrap (IntKind.u64.wrap (doS 39 a b + doS 39 b a) + 1) == 1) = true := fun h => ord_39 1 (.inr ⟨by simpa using h, rfl⟩)
  have e3 : (a == b) = true → (takS 5 a b == ((1 : Int) == 1)) = true := fun h => by rw [tak_5, h]; rfl
  have e4 : (a == b) = true → (!(takS 6 a b == ((1 : Int) == 1))) = true := fun h => by rw [tak_6, bne, h]; rfl
  have e5 : (a == b) = false → (IntKind.u64.wrap (IntKind.u64.wrap (doS 38 a b + doS 38 b a) + 0) == 1) = true := fun h => ord_38 hg.1 hg.2 0 (.inl ⟨by simpa using h, rfl⟩)
  have e6 : (a == b) = false → (IntKind.u64.wrap (IntKind.u64.wrap (doS 39 a b + doS 39 b a) + 0) == 1) = true := fun h => ord_39 0 (.inl ⟨by simpa using h, rfl⟩)
  have e7 : (a == b) = false → (takS 5 a b == ((0 : Int) == 1)) = true := fun h => by rw [tak_5, h]; rfl
  have e8 : (a == b) = false → (!(takS 6 a b == ((0 : Int) == 1))) = true := fun h => by rw [tak_6, bne, h]; rfl
  have f1 : (takS 7 a b == (doS 38 a b == 1)) = true := by rw [tak_7, do_38, b2i_one]; exact bbeq_of rfl
  have f2 : (!(takS 8 a b == (doS 38 a b == 1))) = true := by rw [tak_8, do_38, b2i_one]; cases decide (IntKind.i64.wrap a < IntKind.i64.wrap b) <;> rfl
  have f3 : (takS 9 a b == (doS 39 a b == 1)) = true := by rw [tak_9, do_39, b2i_one]; exact bbeq_of rfl
  have f4 : (!(takS 10 a b == (doS 39 a b == 1))) = true := by
    rw [tak_10, do_39, b2i_one]
    by_cases h : a < b
    · simp only [h, decide_true, show ¬ b ≤ a by omega, decide_false]; rfl
    · simp only [h, decide_false, show b ≤ a by omega, decide_true]; rfl
  have f5 : (doS 38 a b == doS 23 a b) = true := beq_of ((do_38 a b).trans (do_23 a b).symm)
  have f6 : (doS 39 a b == doS 24 a b) = true := beq_of ((do_39 a b).trans (do_24 a b).symm)
  repeat' ((conv => arg 1; whnf); split)
  all_goals (try (conv => arg 1; whnf))
  all_goals first | (exfalso; first | exact nope f1 (by with_reducible assumption) | exact nope f2 (by with_reducible assumption) | exact nope f3 (by with_reducible assumption) | exact nope f4 (by with_reducible assumption) | exact nope f5 (by with_reducible assumption) | exact nope f6 (by with_reducible assumption) | exact nope (e1 (by with_reducible assumption)) (by with_reducible assumption) | exact nope (e2 (by with_reducible assumption)) (by with_reducible assumption) | exact nope (e3 (by with_reducible assumption)) (by with_reducible assumption) | exact nope (e4 (by with_reducible assumption)) (by with_reducible assumption) | exact nope (e5 (by with_reducible assumption)) (by with_reducible assumption) | exact nope (e6 (by with_reducible assumption)) (by with_reducible assumption) | exact nope (e7 (by with_reducible assumption)) (by with_reducible assumption) | exact nope (e8 (by with_reducible assumption)) (by with_reducible assumption)) | exact ends_bool f6
def lawbF {α : Type} : FP α := fun args _ k => match args with
  | [.int .u64 a, .int .u64 b, .int .u8 i] => cond (decide (W64 a) && decide (W64 b) && decide (U8 i)) (k (.bool true)) none
  | _ => none
theorem tmod64 {m : Int} (h : U8 m) : 0 ≤ IntKind.u64.wrap (m.tmod 64) ∧ IntKind.u64.wrap (m.tmod 64) < 64 := by
  have := h.1; have := h.2
  rw [Int.tmod_eq_emod_of_nonneg h.1, wrap_u64_mod]; omega
/-- One bit of a word. -/
theorem bit_at {v k : Int} (h : W64 v) (h0 : 0 ≤ k) (h1 : k < 64) : bitop .and .u64 (gshr .u64 v k) 1 = b2i (v.toNat.testBit k.toNat) := by
  have hw := w_shr (y := k) h (by omega)
  have hm : bitop .and .u64 (gshr .u64 v k) 1 = gshr .u64 v k % 2 := and_mask (k := 1) hw.1 hw.2 (by omega)
  rw [hm, gshr_u64 (by omega), Nat.testBit_eq_decide_div_mod_eq]
  obtain ⟨n, rfl⟩ := Int.eq_ofNat_of_zero_le h.1
  have hp : (2 : Int) ^ k.toNat = ((2 ^ k.toNat : Nat) : Int) := by simp
  rw [hp, Int.toNat_natCast, ← Int.natCast_ediv]
  generalize n / 2 ^ k.toNat = m
  unfold b2i
  have : m % 2 = 0 ∨ m % 2 = 1 := by omega
  rcases this with h | h
  · rw [h]; simp; omega
  · rw [h]; simp; omega
theorem bits_1 {a b k : Int} (ha : W64 a) (hb : W64 b) (h0 : 0 ≤ k) (h1 : k < 64) : bitop .and .u64 (gshr .u64 (doS 44 a b) k) 1 = IntKind.u64.wrap (bitop .and .u64 (gshr .u64 a k) 1 * bitop .and .u64 (gshr .u64 b k) 1) := by
  rw [do_44, bit_at (w_bit _ _ _) h0 h1, bit_at ha h0 h1, bit_at hb h0 h1, bitop_and ha.1 ha.2 hb.1 hb.2, Int.toNat_natCast, Nat.testBit_and]
  cases a.toNat.testBit k.toNat <;> cases b.toNat.testBit k.toNat <;> kernel_rfl
theorem bits_2 {a b k : Int} (ha : W64 a) (hb : W64 b) (h0 : 0 ≤ k) (h1 : k < 64) : bitop .and .u64 (gshr .u64 (doS 43 a b) k) 1 = IntKind.u64.wrap (IntKind.u64.wrap (bitop .and .u64 (gshr .u64 a k) 1 + bitop .and .u64 (gshr .u64 b k) 1) - IntKind.u64.wrap (bitop .and .u64 (gshr .u64 a k) 1 * bitop .and .u64 (gshr .u64 b k) 1)) := by
  rw [do_43, bit_at (w_bit _ _ _) h0 h1, bit_at ha h0 h1, bit_at hb h0 h1, bitop_or ha.1 ha.2 hb.1 hb.2, Int.toNat_natCast, Nat.testBit_or]
  cases a.toNat.testBit k.toNat <;> cases b.toNat.testBit k.toNat <;> kernel_rfl
theorem bits_3 {a b k : Int} (ha : W64 a) (hb : W64 b) (h0 : 0 ≤ k) (h1 : k < 64) : bitop .and .u64 (gshr .u64 (doS 40 a b) k) 1 = (IntKind.u64.wrap (bitop .and .u64 (gshr .u64 a k) 1 + bitop .and .u64 (gshr .u64 b k) 1)).tmod 2 := by
  rw [do_40, bit_at (w_bit _ _ _) h0 h1, bit_at ha h0 h1, bit_at hb h0 h1, bitop_xor ha.1 ha.2 hb.1 hb.2, Int.toNat_natCast, Nat.testBit_xor]
  cases a.toNat.testBit k.toNat <;> cases b.toNat.testBit k.toNat <;> kernel_rfl
set_option maxRecDepth 100000 in
theorem c9 {α : Type} {I : Imm} : OrcOk (α := α) Try.prog I 9 (.pure lawbF) := by
  refine orc_plain te_ok O9_ok 1 Try.func9 (by kernel_rfl) (by kernel_rfl) ?_
  intro args h k r hk
  unfold lawbF at hk
  split at hk <;> try (simp at hk; done)
  rename_i a b i
  cases hg : (decide (W64 a) && decide (W64 b) && decide (U8 i)) <;> rw [hg] at hk <;> simp only [cond_true, cond_false] at hk <;> try (simp at hk; done)
  refine ⟨_, hk, by simp [Wf], by simp [Wf], ?_⟩
  clear hk
  simp only [Bool.and_eq_true, decide_eq_true_eq] at hg
  have hx := tmod64 hg.2
  have e0 : (bitop .and .u64 (gshr .u64 (doS 44 a b) (IntKind.u64.wrap (i.tmod 64))) 1 == IntKind.u64.wrap (bitop .and .u64 (gshr .u64 a (IntKind.u64.wrap (i.tmod 64))) 1 * bitop .and .u64 (gshr .u64 b (IntKind.u64.wrap (i.tmod 64))) 1)) = true := beq_of (bits_1 hg.1.1 hg.1.2 hx.1 hx.2)
  have e1 : (bitop .and .u64 (gshr .u64 (doS 43 a b) (IntKind.u64.wrap (i.tmod 64))) 1 == IntKind.u64.wrap (IntKind.u64.wrap (bitop .and .u64 (gshr .u64 a (IntKind.u64.wrap (i.tmod 64))) 1 + bitop .and .u64 (gshr .u64 b (IntKind.u64.wrap (i.tmod 64))) 1) - IntKind.u64.wrap (bitop .and .u64 (gshr .u64 a (IntKind.u64.wrap (i.tmod 64))) 1 * bitop .and .u64 (gshr .u64 b (IntKind.u64.wrap (i.tmod 64))) 1))) = true := beq_of (bits_2 hg.1.1 hg.1.2 hx.1 hx.2)
  have e2 : (bitop .and .u64 (gshr .u64 (doS 40 a b) (IntKind.u64.wrap (i.tmod 64))) 1 == (IntKind.u64.wrap (bitop .and .u64 (gshr .u64 a (IntKind.u64.wrap (i.tmod 64))) 1 + bitop .and .u64 (gshr .u64 b (IntKind.u64.wrap (i.tmod 64))) 1)).tmod 2) = true := beq_of (bits_3 hg.1.1 hg.1.2 hx.1 hx.2)
  have e3 : (doS 27 a b == doS 44 a b) = true := beq_of ((do_27 a b).trans (do_44 a b).symm)
  have e4 : (doS 26 a b == doS 43 a b) = true := beq_of ((do_26 a b).trans (do_43 a b).symm)
  have e5 : (doS 25 a b == doS 40 a b) = true := beq_of ((do_25 a b).trans (do_40 a b).symm)
  have e6 : decide ((IntKind.u64.wrap (i.tmod 64)) < 0) = false := decide_eq_false (by omega)
  repeat' ((conv => arg 1; whnf); split)
  all_goals (try (conv => arg 1; whnf))
  all_goals first | (exfalso; first | exact nope e0 (by with_reducible assumption) | exact nope e1 (by with_reducible assumption) | exact nope e2 (by with_reducible assumption) | exact nope e3 (by with_reducible assumption) | exact nope e4 (by with_reducible assumption) | exact nope e5 (by with_reducible assumption) | exact nope (by with_reducible assumption) e6) | exact ends_bool e5
end Go.Proofs.Ytcoicmgdjkabaaa
