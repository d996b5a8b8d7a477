/-
  Traps, told: into the machine's, a supervisor's, a guest's, and back.
-/
import Derived.Test.YtlijlabaopiicaaGreatSpF18a
namespace Go.Sh
open Go
set_option linter.unusedSimpArgs false
set_option linter.unusedVariables false
abbrev noF : GFault := GFault.mk 0 0 0 false
noncomputable def gX {α : Type} (p : Prop) (x : R α) : R α := @ite _ p (Classical.propDecidable p) x none
theorem gX_some {α : Type} {p : Prop} {x : R α} {r : α} (h : gX p x = some r) : p ∧ x = some r := by
  unfold gX at h
  split at h
  · exact ⟨by assumption, h⟩
  · cases h
theorem gX_pos {α : Type} {p : Prop} (h : p) (x : R α) : gX p x = x := by unfold gX; exact if_pos h
theorem upd_at {β : Type} (f : Nat → β) (i : Nat) (x : β) : upd f i x i = x := by simp [upd]
theorem upd_ne {β : Type} (f : Nat → β) {i j : Nat} (x : β) (h : j ≠ i) : upd f i x j = f j := by
  unfold upd
  rw [beq_ne h]
  rfl
theorem beqS {x y : Int} (h : x = y) : (x == y) = true := by subst h; simp
def putC (c : Nat → Int) (i : Nat) (b : Int) (on : Bool) : Nat → Int := upd c i (setS (c i) b 1 (bif on then 1 else 0))
abbrev withC (s : GState) (c : Nat → Int) : GState := ⟨s.X, s.PC, s.Level, s.V, c, s.Done⟩
theorem put_eq {α : Type} (s : GState) {i : Int} (h1 : (decide (0 ≤ i) && decide (i < 29)) = true) (h2 : decide (i.toNat < 29) = true) (b : Int) (on : Bool) (k : GState → R α) : s_csr_Put s i b on k = k (withC s (putC s.C i.toNat b on)) := by
  unfold s_csr_Put p_za
  cases on <;> simp only [set_eq, h1, h2, cond_true, cond_false] <;> rfl
theorem bit_eq {α : Type} (s : GState) {i : Int} (h1 : (decide (0 ≤ i) && decide (i < 29)) = true) (h2 : decide (i.toNat < 29) = true) (b : Int) (k : Bool → R α) : s_csr_Bit s i b k = k (bitS s.C i b) := by
  unfold s_csr_Bit p_z3
  simp only [bits_eq, h1, h2, cond_true]
  rfl
def enterC (c : Nat → Int) (i : Int) (now was : Int) : Nat → Int := putC (putC c i.toNat was (bitS c i now)) i.toNat now false
def backC (c : Nat → Int) (i : Int) (now was : Int) : Nat → Int := putC (putC c i.toNat now (bitS c i was)) i.toNat was true
theorem kept_enter {α : Type} (s : GState) {i : Int} (h1 : (decide (0 ≤ i) && decide (i < 29)) = true) (h2 : decide (i.toNat < 29) = true) (now was : Int) (k : GState → R α) : s_trap_kept_enter ⟨i, now, was⟩ s k = k (withC s (enterC s.C i now was)) := by
  unfold s_trap_kept_enter p_z1i
  simp only [bit_eq _ h1 h2, put_eq _ h1 h2]
  rfl
theorem kept_back {α : Type} (s : GState) {i : Int} (h1 : (decide (0 ≤ i) && decide (i < 29)) = true) (h2 : decide (i.toNat < 29) = true) (now was : Int) (k : GState → R α) : s_trap_kept_back ⟨i, now, was⟩ s k = k (withC s (backC s.C i now was)) := by
  unfold s_trap_kept_back p_z1h
  simp only [bit_eq _ h1 h2, put_eq _ h1 h2]
  rfl
def toldM (s : GState) (f : GFault) : Nat → Int := upd (upd (upd (upd s.C 6 s.PC) 7 f.Cause) 8 f.Value) 9 f.Place
theorem told_m {α : Type} (s : GState) (f : GFault) (k : GState → R α) : s_trap_told_enter ⟨6, 7, 8, 9, 4⟩ s f k = k ⟨s.X, toldM s f 4, s.Level, s.V, toldM s f, s.Done⟩ := rfl
end Go.Sh
