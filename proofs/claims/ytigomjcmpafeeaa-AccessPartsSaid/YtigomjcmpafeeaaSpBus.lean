/-
  A bus whose consoles are fresh, on the shadow heap.
-/
import Derived.Test.YtigomjcmpafeeaaSpT12c
set_option linter.unusedSimpArgs false
set_option linter.unusedVariables false
namespace Go.Sh
open Go

/-- Consoles as they are made. -/
def freshP : SV := .arr 3 4 (fun _ => .agg [.nils, .nils, .int .i64 0])
abbrev busO (m : Nat) (g : Option Nat) (tm al : Int) : SObj := .cells g (.agg [.ptr m [], .agg [.agg [], .agg [], .int .u64 tm], .int .u64 al, freshP])
noncomputable def withBus {α : Type} (σ : Heap) (p : SV) (k : Nat → Option Nat → (Nat → Int) → Int → Int → R α) : R α := match p with
  | .ptr b [] => match σ.get b with
    | some (.cells _ (.agg [.ptr m [], .agg [.agg [], .agg [], .int .u64 tm], .int .u64 al, ps])) => grd (ps = freshP) (withMem σ (.ptr m []) fun m b1 _ g1 f => bif !Nat.beq b m && !Nat.beq b b1 then k b1 g1 f tm al else none)
    | _ => none
  | _ => none
theorem withBus_spec {α : Type} {σ : Heap} {p : SV} {k : Nat → Option Nat → (Nat → Int) → Int → Int → R α} {r : α} (h : withBus σ p k = some r) :
    ∃ b g m tm al b1 g0 g1 f, p = .ptr b [] ∧ σ.get b = some (busO m g tm al) ∧ σ.get m = some (memO b1 g0) ∧ σ.get b1 = some (byO g1 f) ∧ m ≠ b1 ∧ b ≠ m ∧ b ≠ b1 ∧ k b1 g1 f tm al = some r := by
  unfold withBus at h
  split at h <;> try (cases h; done)
  split at h <;> try (cases h; done)
  rename_i b _ g m tm al ps hb
  obtain ⟨hp, h1⟩ := grd_some h
  subst hp
  obtain ⟨m', b1, g0, g1, f, hm, h2, h3, h4, h5⟩ := withMem_spec h1
  cases hm
  obtain ⟨h6, h7⟩ := bif_some h5
  simp only [Bool.and_eq_true, Bool.not_eq_true', nbeq, decide_eq_false_iff_not] at h6
  exact ⟨b, g, m, tm, al, b1, g0, g1, f, rfl, hb, h2, h3, h4, h6.1, h6.2, h7⟩
theorem withBus_eq {α : Type} {σ : Heap} {b m b1 : Nat} {g g0 g1 : Option Nat} {tm al : Int} {f : Nat → Int} (h0 : σ.get b = some (busO m g tm al)) (h1 : σ.get m = some (memO b1 g0)) (h2 : σ.get b1 = some (byO g1 f)) (hne : m ≠ b1) (h3 : b ≠ m) (h4 : b ≠ b1) (k : Nat → Option Nat → (Nat → Int) → Int → Int → R α) :
    withBus σ (.ptr b []) k = k b1 g1 f tm al := by
  have e1 : Nat.beq b m = false := beq_ne h3
  have e2 : Nat.beq b b1 = false := beq_ne h4
  unfold withBus
  simp only [h0]
  rw [grd_pos trivial, withMem_eq h1 h2 hne]
  simp only [e1, e2, Bool.not_false, Bool.and_self, cond_true]
end Go.Sh
