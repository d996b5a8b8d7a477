/-
  The law AccessParts: what its callees come to.
-/
import Derived.Test.YtigomjcmpafeeaaSpAP17
import Derived.Test.YtigomjcmpafeeaaSpM17b
set_option linter.unusedSimpArgs false
set_option linter.unusedVariables false
namespace Go.Sh
open Go
set_option linter.unusedSimpArgs false
noncomputable def sAlY {α : Type} : Sg_access_Aligned_yes α := fun a n kind v k => grd ((alignS a n kind v).2 = true) (k (gF (alignS a n kind v).1))
noncomputable def sTrY {α : Type} : Sg_two_Translate_yes α := fun f s at_ kind level v k => grd ((transA f (askS s.C level v) at_ kind (level == 0) v).ok = true) (k (transA f (askS s.C level v) at_ kind (level == 0) v).to (gE (transA f (askS s.C level v) at_ kind (level == 0) v).e) (gF (transA f (askS s.C level v) at_ kind (level == 0) v).f))
def sMR {α : Type} : Sg_mem_Memory_Read α := fun f a n k => cond (decide (0 ≤ a)) (k (readS f a n) (checkS a n)) none
noncomputable def sConNil {α : Type} : Sg_bus_Bus_console_nil α := fun _ _ _ a _ k => grd (0 ≤ a ∧ a < 61440) k
theorem con_eq {α : Type} {a : Int} (h : 0 ≤ a ∧ a < 61440) (f : Nat → Int) (tm al n : Int) (k : R α) : p_bus_Bus_console_nil f tm al a n k = k := by
  unfold p_bus_Bus_console_nil
  have e : ltB a 61696 = true := by simp [ltB]; omega
  simp only [e, cond_true, Bool.cond_self]
noncomputable def sBR {α : Type} : Sg_bus_Bus_Read_ok α := fun f _ _ a n k => grd ((0 ≤ a ∧ a < 32768) ∧ checkS a n = 0) (k (readS f a n))
noncomputable def sBW {α : Type} : Sg_bus_Bus_Write_ok α := fun f _ _ a n v k => grd ((0 ≤ a ∧ a < 32768) ∧ checkS a n = 0) (k (writeS f a n v))
theorem bread_eq {α : Type} {a n : Int} (h : 0 ≤ a ∧ a < 32768) (hc : checkS a n = 0) (f : Nat → Int) (tm al : Int) (k : Int → R α) : p_bus_Bus_Read_ok sConNil sMR f tm al a n k = k (readS f a n) := by
  unfold p_bus_Bus_Read_ok sConNil sMR
  have e1 : (a == 61440) = false := by simp; omega
  have e2 : (a == 61448) = false := by simp; omega
  simp only [e1, e2, hc, grd_pos trivial, grd_pos (show 0 ≤ a ∧ a < 61440 by omega), decide_eq_true h.1, cond_true, cond_false, beq_self_eq_true]
theorem bwrite_eq {α : Type} {a n : Int} (h : 0 ≤ a ∧ a < 32768) (hc : checkS a n = 0) (f : Nat → Int) (tm al v : Int) (k : (Nat → Int) → R α) : p_bus_Bus_Write_ok sConNil sWriteM f tm al a n v k = k (writeS f a n v) := by
  unfold p_bus_Bus_Write_ok sConNil sWriteM
  have e2 : (a == 61448) = false := by simp; omega
  simp only [e2, hc, grd_pos trivial, grd_pos (show 0 ≤ a ∧ a < 61440 by omega), decide_eq_true h.1, cond_true, cond_false, beq_self_eq_true]
/-- The instructions of the law. -/
def partI (i : GInsn) : Prop := i = ⟨21, 0, 1, 2, 0, 0⟩ ∨ i = ⟨14, 3, 1, 0, 0, 0⟩ ∨ (∃ k : Int, (k = 0 ∨ k = 1 ∨ k = 2 ∨ k = 3 ∨ k = 4 ∨ k = 5 ∨ k = 6 ∨ k = 7) ∧ i = ⟨11, 3, 1, 0, k, 0⟩) ∨ (∃ k : Int, (k = 0 ∨ k = 2 ∨ k = 4 ∨ k = 6) ∧ i = ⟨16, 3, 1, 0, k, 0⟩) ∨ (∃ k : Int, (k = 0 ∨ k = 4) ∧ i = ⟨13, 3, 1, 0, k, 0⟩)
noncomputable def sIsY {α : Type} : Sg_insn_Is_yes α := fun i k => grd (partI i) k
def sSx {α : Type} : Sg_word_Sext α := fun v b k => k (sextS v b)
def sZx {α : Type} : Sg_word_Zext α := fun v b k => k (zextS v b)
/-! ### Parts of a word that was written -/
theorem read_part {a v : Int} {k n : Nat} (ha : 0 ≤ a) (hv : W64 v) (h8 : checkS a 8 = 0) (hc : checkS (a + (k : Int)) (n : Int) = 0) (hk : k + n ≤ 8) :
    readS (writeS (fun _ => 0) a 8 v) (a + (k : Int)) (n : Int) = le (fun i => v / 256 ^ (k + i) % 256) n := by
  rw [readS_le (writeS_byte zero_byte a 8 hv) hc, Int.toNat_natCast]
  refine le_congr fun i hi => ?_
  rw [writeS_at h8 hv]
  have e1 : (a + (k : Int)).toNat = a.toNat + k := by omega
  have e8 : (8 : Int).toNat = 8 := rfl
  rw [e1, if_pos ⟨by omega, by rw [e8]; omega⟩]
  have e2 : a.toNat + k + i - a.toNat = k + i := by omega
  rw [e2]
end Go.Sh
