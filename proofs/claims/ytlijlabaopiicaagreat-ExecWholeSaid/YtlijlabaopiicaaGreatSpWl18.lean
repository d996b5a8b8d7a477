/-
  The law ExecWhole, plainly.
-/
import Derived.Test.YtlijlabaopiicaaGreatSpBt18
import Derived.Test.YtlijlabaopiicaaGreatSpWL18
namespace Go.Sh
open Go
set_option linter.unusedSimpArgs false
set_option linter.unusedVariables false
theorem known18_eq {α : Type} (k : Bool → R α) : s_law18_known k = k true := by kernel_rfl
abbrev stpW (s : S_zj) : Option (S_zj ⊕ X_zj) := b_zj s (fun s => some (.inl s)) (fun x => some (.inr (.inl x))) (fun x => some (.inr (.inr x)))
def outW (s : S_zj) : X_z30 := ⟨s.v1, s.v2, s.v3, s.v4, s.v5, s.v6, s.v7, s.v8, s.v9, s.v10, s.v11, s.v12, s.v13, s.v14, s.v15, s.v16, s.v17, s.v18, s.v19, s.v20, s.v21, s.v22, s.v23, s.v24⟩
def atW (s : S_zj) (j : Int) : S_zj := ⟨j, s.v1, s.v2, s.v3, s.v4, s.v5, s.v6, s.v7, s.v8, s.v9, s.v10, s.v11, s.v12, s.v13, s.v14, s.v15, s.v16, s.v17, s.v18, s.v19, s.v20, s.v21, s.v22, s.v23, s.v24⟩
abbrev OkW (s : S_zj) : Prop := ∀ j : Nat, 1 ≤ j → j < 32 → s.v7 j = if (j : Int) = s.v15 then s.v16 else s.v1 j
theorem round_w {s : S_zj} (h : OkW s) {j : Nat} (h1 : 1 ≤ j) (h2 : j < 32) : stpW (atW s (j : Int)) = some (.inl (atW s ((j + 1 : Nat) : Int))) := by
  have g0 : ltB (j : Int) 32 = true := by rw [ltB_true]; omega
  have ga : decide ((0 : Int) ≤ (j : Int)) = true := decide_eq_true (by omega)
  have gb : decide ((j : Int) < 32) = true := decide_eq_true (by omega)
  have g2 : decide (j < 32) = true := decide_eq_true h2
  have g3 : IntKind.i64.wrap ((j : Int) + 1) = ((j + 1 : Nat) : Int) := by rw [wrap_i64 (by omega) (by omega)]; omega
  have hj := h j h1 h2
  unfold stpW b_zj atW
  dsimp only
  simp only [g0, ga, gb, Bool.and_self, g2, g3, Int.toNat_natCast, cond_true]
  by_cases e : (j : Int) = s.v15
  · rw [if_pos e] at hj
    have e1 : ((j : Int) == s.v15) = true := by simpa using e
    have e2 : (s.v7 j != s.v16) = false := by simp [hj]
    simp only [e1, e2, cond_true, cond_false]
  · rw [if_neg e] at hj
    have e1 : ((j : Int) == s.v15) = false := by simpa using e
    have e2 : (s.v7 j != s.v1 j) = false := by simp [hj]
    simp only [e1, e2, cond_true, cond_false]
theorem loop_w {s : S_zj} (h : OkW s) : ∀ (m j : Nat), 1 ≤ j → j + m = 32 → lps stpW (m + 1) (atW s (j : Int)) = some (.inr (outW s))
  | 0, j, _, e => by
    have hj : j = 32 := by omega
    subst hj
    have : stpW (atW s ((32 : Nat) : Int)) = some (.inr (.inr (outW s))) := rfl
    simp only [lps, this]
  | m + 1, j, h1, e => by
    have h2 := round_w h h1 (by omega)
    rw [lps, h2]
    exact loop_w h m (j + 1) (by omega) (by omega)
noncomputable def sLoopW {α : Type} : SgL_zj α := fun s k0 k1 => gX (s.v0 = 1 ∧ OkW s) (k1 (outW s))
theorem loopOk_w {α : Type} : LoopOk (α := α) stpW (fun (s : S_zj) (k : X_zj → R α) => sLoopW s (fun x => k (.inl x)) (fun x => k (.inr x))) := by
  intro s k r h
  obtain ⟨⟨h1, h2⟩, h3⟩ := gX_some h
  have e : s = atW s ((1 : Nat) : Int) := by
    obtain ⟨v0, v1, v2, v3, v4, v5, v6, v7, v8, v9, v10, v11, v12, v13, v14, v15, v16, v17, v18, v19, v20, v21, v22, v23, v24⟩ := s
    simp only at h1
    subst h1
    rfl
  refine ⟨32, .inr (outW s), ?_, h3⟩
  have := loop_w h2 31 1 (by omega) (by omega)
  rw [← e] at this
  exact this
theorem all_same (n : Nat) (f : Nat → Int) : ((List.range n).all fun i => f i == f i) = true := by simp
theorem T_z18 {α : Type} {x0 : Int} {x1 : Bool} (k : Bool → R α) : ∃ r, s_ref3_reg x0 x1 k = k r ∧ True := by
  show W1 k (fun _ => True) _
  unfold s_ref3_reg p_z18
  try dsimp only
  repeat' first
    | (with_reducible refine cond_i ?_ ?_ <;> intro _)
    | (with_reducible refine ret1 ?_; exact trivial)
end Go.Sh
