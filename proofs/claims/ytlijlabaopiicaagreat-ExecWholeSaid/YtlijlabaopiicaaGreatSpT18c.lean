/-
  The law ExecWhole, plainly: words that are written, and the law (printed by wip/pr/gen_t18c.py).
-/
import Derived.Test.YtlijlabaopiicaaGreatSpWl18
namespace Go.Sh
open Go
set_option linter.unusedSimpArgs false
set_option linter.unusedVariables false
def W5 {α A B C D E : Type} (k : A → B → C → D → E → R α) (Q : A → B → C → D → E → Prop) (x : R α) : Prop := ∃ r s t u v, x = k r s t u v ∧ Q r s t u v
theorem ret5 {α A B C D E : Type} {k : A → B → C → D → E → R α} {Q : A → B → C → D → E → Prop} {r : A} {s : B} {t : C} {u : D} {v : E} (h : Q r s t u v) : W5 k Q (k r s t u v) := ⟨r, s, t, u, v, rfl, h⟩
theorem call5 {α : Type} {P : R α → Prop} {A B C D E : Type} {g : (A → B → C → D → E → R α) → R α} {Q : A → B → C → D → E → Prop} {body : A → B → C → D → E → R α} (H : ∀ k', ∃ r s t u v, g k' = k' r s t u v ∧ Q r s t u v) (h : ∀ r s t u v, Q r s t u v → P (body r s t u v)) : P (g body) := by
  obtain ⟨r, s, t, u, v, e, q⟩ := H body
  rw [e]; exact h r s t u v q
theorem T_z1e {α : Type} {x0 : Int}  (k : Bool → Bool → Bool → Bool → Bool → R α) : ∃ r0 r1 r2 r3 r4, s_ref3_Parts x0 k = k r0 r1 r2 r3 r4 ∧ (True) := by
  show W5 k (fun r0 r1 r2 r3 r4 => True) _
  unfold s_ref3_Parts p_z1e
  try dsimp only
  repeat' first
    | (with_reducible refine guard_i ?_ ?_)
    | (with_reducible refine guardn_i ?_ ?_)
    | (with_reducible refine cond_i ?_ ?_ <;> intro _)
    | (with_reducible refine ret5 ?_; exact trivial)
    | rfl
    | assumption
theorem T_zm {α : Type} {x0 x1 x2 x3 : Int} (h : decide (x3 = 0) = false) (k : Bool → R α) : ∃ r, s_ref3_within x0 x1 x2 x3 k = k r ∧ True := by
  show W1 k (fun _ => True) _
  unfold s_ref3_within p_zm
  try dsimp only
  repeat' first
    | (with_reducible refine guardn_i h ?_)
    | (with_reducible refine cond_i ?_ ?_ <;> intro _)
    | (with_reducible refine ret1 ?_; exact trivial)
theorem T_z1a {α : Type} {x0 : GInsn}  (k : Bool → R α) : ∃ r0, s_ref3_number x0 k = k r0 ∧ (True) := by
  show W1 k (fun r0 => True) _
  unfold s_ref3_number p_z1a q_ref3_number_3 q_ref3_number_2 q_ref3_number_1
  try dsimp only
  repeat' first
    | (with_reducible refine guard_i ?_ ?_)
    | (with_reducible refine guardn_i ?_ ?_)
    | (with_reducible refine cond_i ?_ ?_ <;> intro _)
    | (with_reducible refine call1 (fun k => T_zm (by decide) k) ?_; intro _ _)
    | (with_reducible refine ret1 ?_; exact trivial)
    | rfl
    | assumption
theorem T_zbq {α : Type} {i : GInsn} (k : Bool → R α) : ∃ r, q_ref3_Is_1 s_ref3_Parts s_ref3_reg s_ref3_number i k = k r ∧ True := by
  show W1 k (fun _ => True) _
  unfold q_ref3_Is_1
  try dsimp only
  repeat' first
    | (with_reducible refine cond_i ?_ ?_ <;> intro _)
    | (with_reducible refine call5 (fun k => T_z1e k) ?_; intro _ _ _ _ _ _)
    | (with_reducible refine call1 (fun k => T_z18 k) ?_; intro _ _)
    | (with_reducible refine call1 (fun k => T_z1a k) ?_; intro _ _)
    | (with_reducible refine ret1 ?_; exact trivial)
theorem T_z1t {α : Type} {i : GInsn} (k : Bool → R α) : ∃ r, s_ref3_Is i k = k r ∧ (r = true → 1 ≤ i.Op ∧ i.Op < 70) := by
  show W1 k (fun r => r = true → 1 ≤ i.Op ∧ i.Op < 70) _
  unfold s_ref3_Is p_z1t
  try dsimp only
  with_reducible refine cond_i ?_ ?_ <;> intro h1
  · (with_reducible refine ret1 ?_); exact (fun h => by cases h)
  with_reducible refine cond_i ?_ ?_ <;> intro h2
  · (with_reducible refine ret1 ?_); exact (fun h => by cases h)
  have hh := And.intro (ltB_ff h1) (leB_ff h2)
  have key : ∃ r, q_ref3_Is_1 s_ref3_Parts s_ref3_reg s_ref3_number i k = k r ∧ (r = true → 1 ≤ i.Op ∧ i.Op < 70) := by
    obtain ⟨r, e, _⟩ := T_zbq (i := i) k
    exact ⟨r, e, fun _ => hh⟩
  repeat' first
    | exact key
    | (with_reducible refine cond_i ?_ ?_ <;> intro _)
theorem T_z1r {α : Type} {x0 : Int}  (k : Int → R α) : ∃ r0, s_ref3_fixed x0 k = k r0 ∧ (W32 r0) := by
  show W1 k (fun r0 => W32 r0) _
  unfold s_ref3_fixed p_z1r
  try dsimp only
  repeat' first
    | (with_reducible refine guard_i ?_ ?_)
    | (with_reducible refine guardn_i ?_ ?_)
    | (with_reducible refine cond_i ?_ ?_ <;> intro _)
    | (with_reducible refine ret1 ?_; exact ⟨by decide, by decide⟩)
    | rfl
    | assumption
theorem T_z7 {α : Type} {i : Int} (h : 1 ≤ i ∧ i < 70) (k : Int → Int → Int → R α) : ∃ a b c, s_ref3_Code i k = k a b c ∧ True := by
  obtain ⟨n, rfl⟩ := Int.eq_ofNat_of_zero_le (show 0 ≤ i by omega)
  have hn : 1 ≤ n ∧ n < 70 := by omega
  have : n = 1 ∨ n = 2 ∨ n = 3 ∨ n = 4 ∨ n = 5 ∨ n = 6 ∨ n = 7 ∨ n = 8 ∨ n = 9 ∨ n = 10 ∨ n = 11 ∨ n = 12 ∨ n = 13 ∨ n = 14 ∨ n = 15 ∨ n = 16 ∨ n = 17 ∨ n = 18 ∨ n = 19 ∨ n = 20 ∨ n = 21 ∨ n = 22 ∨ n = 23 ∨ n = 24 ∨ n = 25 ∨ n = 26 ∨ n = 27 ∨ n = 28 ∨ n = 29 ∨ n = 30 ∨ n = 31 ∨ n = 32 ∨ n = 33 ∨ n = 34 ∨ n = 35 ∨ n = 36 ∨ n = 37 ∨ n = 38 ∨ n = 39 ∨ n = 40 ∨ n = 41 ∨ n = 42 ∨ n = 43 ∨ n = 44 ∨ n = 45 ∨ n = 46 ∨ n = 47 ∨ n = 48 ∨ n = 49 ∨ n = 50 ∨ n = 51 ∨ n = 52 ∨ n = 53 ∨ n = 54 ∨ n = 55 ∨ n = 56 ∨ n = 57 ∨ n = 58 ∨ n = 59 ∨ n = 60 ∨ n = 61 ∨ n = 62 ∨ n = 63 ∨ n = 64 ∨ n = 65 ∨ n = 66 ∨ n = 67 ∨ n = 68 ∨ n = 69 := by omega
  rcases this with rfl | rfl | rfl | rfl | rfl | rfl | rfl | rfl | rfl | rfl | rfl | rfl | rfl | rfl | rfl | rfl | rfl | rfl | rfl | rfl | rfl | rfl | rfl | rfl | rfl | rfl | rfl | rfl | rfl | rfl | rfl | rfl | rfl | rfl | rfl | rfl | rfl | rfl | rfl | rfl | rfl | rfl | rfl | rfl | rfl | rfl | rfl | rfl | rfl | rfl | rfl | rfl | rfl | rfl | rfl | rfl | rfl | rfl | rfl | rfl | rfl | rfl | rfl | rfl | rfl | rfl | rfl | rfl | rfl <;> exact ⟨_, _, _, rfl, trivial⟩
theorem T_z2g {α : Type} {i : GInsn} (k : Int → Bool → R α) : ∃ w ok, s_ref3_Encode i k = k w ok ∧ W32 w := by
  show W2 k (fun w _ => W32 w) _
  unfold s_ref3_Encode p_z2g q_ref3_Encode_8 q_ref3_Encode_7 q_ref3_Encode_6 q_ref3_Encode_5 q_ref3_Encode_4 q_ref3_Encode_3 q_ref3_Encode_2 q_ref3_Encode_1
  try dsimp only
  with_reducible refine call1 (fun k => T_z1t k) ?_; intro t ht
  with_reducible refine cond_i ?_ ?_ <;> intro h1
  · (with_reducible refine ret2 ?_); exact ⟨by decide, by decide⟩
  have hop := ht (by simpa using h1)
  repeat' first
    | (with_reducible refine cond_i ?_ ?_ <;> intro _)
    | (with_reducible refine call1 (fun k => T_z1r k) ?_; intro _ hfx)
    | (with_reducible refine call3 (fun k => T_z7 hop k) ?_; intro _ _ _ _)
    | (with_reducible refine ret2 ?_; exact (w32_bit _ _ _))
    | (with_reducible refine ret2 ?_; exact (by assumption))
def IsT {α : Type} (k : Bool → R α) (x : R α) : Prop := x = k true
abbrev WholeOk (l : Bool × Addr × Nat × Nat × (Nat → Int × Int × Unit)) : Prop := rowOk l
noncomputable def sWhole18 {α : Type} : Sg_z2z α := fun l _ _ k => gX (WholeOk l) (k true)
theorem whole_eq {α : Type} {x0 : Bool × Addr × Nat × Nat × (Nat → Int × Int × Unit)} {x1 : GState} {x2 : GInsn} (h : WholeOk x0) (k : Bool → R α) : p_z2z s_law18_known s_law18_few sBoth18 s_ref18_Clean s_ref3_Encode s_exec_Do sLoopW x0 x1 x2 k = k true := by
  show IsT k _
  unfold p_z2z
  rw [known18_eq]
  have hf : ∀ k' : Bool → R α, s_law18_few x0 k' = k' (leB ((x0.2.2.1 : Nat) : Int) 60) := fun _ => rfl
  rw [hf]
  simp only [Bool.not_true, cond_false, GN_eq]
  with_reducible refine cond_i ?_ ?_ <;> intro h1
  · exact rfl
  have hl : x0.2.2.1 ≤ 60 := by
    have : leB ((x0.2.2.1 : Nat) : Int) 60 = true := by simpa using h1
    have := leB_tt this
    omega
  unfold sBoth18
  rw [grd_pos ⟨hl, h⟩]
  with_reducible refine call1 (fun k => T_z2u k) ?_; intro t ht
  with_reducible refine call2 (fun k => T_z2g k) ?_; intro w ok hw
  have hb : Few (NB (busI (memL x0))) := few_nB (few_busI _)
  with_reducible refine call3 (fun k => T_z5 hw hb ht k) ?_; intro b' u r H
  have e1 : (r.PC != t.PC) = false := by simp [H.pc]
  have e2 : (r.Word != w) = false := by simp [H.word]
  have e3 : (u.X 0 != 0) = false := by simp [H.x0]
  simp only [e1, e2, e3, cond_false]
  have z (x : Int) : (x == x) = true := beqS rfl
  with_reducible refine cond_i ?_ ?_ <;> intro h2
  · obtain ⟨a1, a2, a3, a4⟩ := H.trap h2
    have f1 : ((List.range 32).all fun i => u.X i == t.X i) = true := by rw [a1]; exact all_same 32 t.X
    simp only [f1, a2, a3, a4, z, cond_true]
    rfl
  · obtain ⟨a1, a2, a3, a4, a5, a6⟩ := H.done h2
    unfold sLoopW
    rw [gX_pos ⟨rfl, fun j g1 g2 => a1 j g1 g2⟩]
    have f1 : ((r.F.Cause == 0) && ((r.F.Value == 0) && ((r.F.Place == 0) && ((r.F.GVA == false) && true)))) = true := by rw [a3]; rfl
    have f2 : (u.Done == IntKind.u64.wrap (t.Done + 1)) = true := beqS a2
    have f3 : (r.Level == 0) = true := beqS a4
    have f4 : (Int.tmod u.PC 4 == 0) = true := beqS a6
    simp only [outW, f1, f2, f3, f4, a5, Bool.not_false, cond_true]
    rfl
end Go.Sh
