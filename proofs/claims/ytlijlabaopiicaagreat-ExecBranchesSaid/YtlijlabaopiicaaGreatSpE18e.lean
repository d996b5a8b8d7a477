/-
  Traps, told: into the machine's, and back; the law ExecCalls.
-/
import Derived.Test.YtlijlabaopiicaaGreatSpE18d
namespace Go.Sh
open Go
set_option linter.unusedSimpArgs false
set_option linter.unusedVariables false
def putC (c : Nat → Int) (i : Nat) (b : Int) (on : Bool) : Nat → Int := upd c i (setS (c i) b 1 (bif on then 1 else 0))
abbrev withC (s : GState) (c : Nat → Int) : GState := ⟨s.X, s.PC, s.Level, s.V, c, s.Done⟩
theorem put_eq {α : Type} (s : GState) {i : Int} (h1 : (decide (0 ≤ i) && decide (i < 29)) = true) (h2 : decide (i.toNat < 29) = true) (b : Int) (on : Bool) (k : GState → R α) : s_csr_Put s i b on k = k (withC s (putC s.C i.toNat b on)) := by
  unfold s_csr_Put p_z8
  cases on <;> simp only [set_eq, h1, h2, cond_true, cond_false] <;> rfl
theorem bit_eq {α : Type} (s : GState) {i : Int} (h1 : (decide (0 ≤ i) && decide (i < 29)) = true) (h2 : decide (i.toNat < 29) = true) (b : Int) (k : Bool → R α) : s_csr_Bit s i b k = k (bitS s.C i b) := by
  unfold s_csr_Bit p_z4
  simp only [bits_eq, h1, h2, cond_true]
  rfl
def enterC (c : Nat → Int) (i : Int) (now was : Int) : Nat → Int := putC (putC c i.toNat was (bitS c i now)) i.toNat now false
theorem kept_enter {α : Type} (s : GState) {i : Int} (h1 : (decide (0 ≤ i) && decide (i < 29)) = true) (h2 : decide (i.toNat < 29) = true) (now was : Int) (k : GState → R α) : s_trap_kept_enter ⟨i, now, was⟩ s k = k (withC s (enterC s.C i now was)) := by
  unfold s_trap_kept_enter p_zy
  simp only [bit_eq _ h1 h2, put_eq _ h1 h2]
  rfl
def toldM (s : GState) (f : GFault) : Nat → Int := upd (upd (upd (upd s.C 6 s.PC) 7 f.Cause) 8 f.Value) 9 f.Place
def entMC (s : GState) (f : GFault) : Nat → Int :=
  enterC (putC (putC (upd (toldM s f) 0 (setS (toldM s f 0) 11 2 (IntKind.u64.wrap s.Level))) 0 39 s.V) 0 38 f.GVA) 0 3 7
def entM (s : GState) (f : GFault) : GState := ⟨s.X, toldM s f 4, 3, false, entMC s f, s.Done⟩
theorem told_m {α : Type} (s : GState) (f : GFault) (k : GState → R α) : s_trap_told_enter ⟨6, 7, 8, 9, 4⟩ s f k = k ⟨s.X, toldM s f 4, s.Level, s.V, toldM s f, s.Done⟩ := rfl
theorem enter_m' {α : Type} {Ft : Sg_z1k α} {Fs : Sg_zf α} {Fp : Sg_z8 α} {Fk : Sg_zy α} {Fl : Sg_z1r α} (s : GState) (f : GFault)
    (h1 : ∀ k' : GState → R α, Ft ⟨6, 7, 8, 9, 4⟩ s f k' = k' ⟨s.X, toldM s f 4, s.Level, s.V, toldM s f, s.Done⟩) (h2 : ∀ v lo n x (k' : Int → R α), Fs v lo n x k' = k' (setS v lo n x)) (h3 : ∀ u b on (k' : GState → R α), Fp u 0 b on k' = k' (withC u (putC u.C 0 b on)))
    (h4 : ∀ u (k' : GState → R α), Fk ⟨0, 3, 7⟩ u k' = k' (withC u (enterC u.C 0 3 7))) (k : GState → R α) : p_z1l Ft Fs Fp Fk Fl s f 3 false k = k (entM s f) := by
  unfold p_z1l
  have e : (((3 : Int) == 3) && ((false == false) && true)) = true := rfl
  simp only [e, cond_true, h1, h2, h3, h4]
  rfl
theorem enter_m {α : Type} (s : GState) (f : GFault) (k : GState → R α) : s_trap_Enter s f 3 false k = k (entM s f) :=
  enter_m' s f (told_m s f) set_eq (fun u b on k' => put_eq u rfl rfl b on k') (fun u k' => kept_enter u rfl rfl 3 7 k') k
theorem fault_m' {α : Type} {Fe : Sg_z1q α} {Ft : Sg_z1l α} (s : GState) (f : GFault) (w : Int) (h1 : ∀ k' : Int → Bool → R α, Fe s f.Cause k' = k' 3 false) (h2 : ∀ k' : GState → R α, Ft s f 3 false k' = k' (entM s f)) (k : GState → GRetire → R α) :
    p_z1b Fe Ft s f w k = k (entM s f) ⟨s.PC, w, 0, 0, true, f, 3, false, false⟩ := by
  unfold p_z1b
  simp only [h1, h2]
theorem exc_m {α : Type} {s : GState} (h : s.Level = 3) (c : Int) (k : Int → Bool → R α) : s_route_Exception s c k = k 3 false := by
  unfold s_route_Exception p_z1q
  rw [h]; rfl
theorem fault_m {α : Type} (s : GState) (f : GFault) (w : Int) (h1 : ∀ k' : Int → Bool → R α, s_route_Exception s f.Cause k' = k' 3 false) (k : GState → GRetire → R α) :
    s_exec_Fault s f w k = k (entM s f) ⟨s.PC, w, 0, 0, true, f, 3, false, false⟩ := fault_m' s f w h1 (enter_m s f) k
end Go.Sh
