/-
  A part of the proof: ShB.
-/
import Derived.Test.YtcoicmgdjkabaaaShA
namespace Go.Proofs.Ytcoicmgdjkabaaa
open Go Go.Sh Go.Proofs

def cls (op : Int) : Int := if op < 1 ∨ 70 ≤ op then 0 else if op ≤ 4 then 1 else if op ≤ 10 then 2 else if op ≤ 17 then 3 else if op ≤ 21 then 4 else if op ≤ 34 then 5 else if op ≤ 49 then 6 else if op ≤ 51 then 7 else if op ≤ 53 then 8 else if op ≤ 59 then 9 else if op ≤ 62 then 10 else if op ≤ 65 then 11 else 12
def clsF {α : Type} : FP α := fun args _ k => match args with
  | [.int .i64 op] => k (.int .i64 (cls op))
  | _ => none
theorem cls_all : (List.range 70).all (fun i => endsB (bodyK te [] 13 Try.f20 [.int .i64 i] emp ans) .i64 (cls i)) = true := by kernel_rfl
set_option maxRecDepth 100000 in
theorem c20 {α : Type} {I : Imm} : OrcOk (α := α) Try.prog I 20 (.pure clsF) := by
  refine orc_plain te_ok .nil 13 Try.func20 (by kernel_rfl) (by kernel_rfl) ?_
  intro args h k r hk
  unfold clsF at hk
  split at hk <;> try (simp at hk; done)
  rename_i op
  refine ⟨_, hk, by simp [Wf], by simp [Wf], ?_⟩
  clear hk
  by_cases hop : 0 ≤ op ∧ op < 70
  · obtain ⟨j, rfl, hj⟩ := of_all cls_all hop.1 hop.2
    exact endsB_spec hj
  conv => arg 1; whnf
  split
  · conv => arg 1; whnf
    exact ends_int (by simp at *; simp [cls]; omega)
  conv => arg 1; whnf
  split
  · conv => arg 1; whnf
    exact ends_int (by simp at *; simp [cls]; omega)
  · simp at *; omega

def nar (op : Int) : Bool := decide (31 ≤ op ∧ op ≤ 34 ∨ 45 ≤ op ∧ op ≤ 49)
def narF {α : Type} : FP α := fun args _ k => match args with
  | [.int .i64 op] => k (.bool (nar op))
  | _ => none
set_option maxRecDepth 100000 in
theorem c21 {α : Type} {I : Imm} : OrcOk (α := α) Try.prog I 21 (.pure narF) := by
  refine orc_plain te_ok .nil 1 Try.func21 (by kernel_rfl) (by kernel_rfl) ?_
  intro args h k r hk
  unfold narF at hk
  split at hk <;> try (simp at hk; done)
  rename_i op
  refine ⟨_, hk, by simp [Wf], by simp [Wf], ?_⟩
  clear hk
  repeat' ((conv => arg 1; whnf); split)
  all_goals (try (conv => arg 1; whnf))
  all_goals first | refine ends_bool ?_ | (exfalso; simp at *; omega)
  all_goals (rw [Bool.eq_iff_iff]; simp [nar] at *; try omega)

def siz (op : Int) : Int := if op = 11 ∨ op = 15 ∨ op = 18 then 1 else if op = 12 ∨ op = 16 ∨ op = 19 then 2 else if op = 13 ∨ op = 17 ∨ op = 20 ∨ op = 66 ∨ op = 68 then 4 else if op = 14 ∨ op = 21 ∨ op = 67 ∨ op = 69 then 8 else 0
def sizF {α : Type} : FP α := fun args _ k => match args with
  | [.int .i64 op] => k (.int .i64 (siz op))
  | _ => none
set_option maxRecDepth 100000 in
theorem c30 {α : Type} {I : Imm} : OrcOk (α := α) Try.prog I 30 (.pure sizF) := by
  refine orc_plain te_ok .nil 1 Try.func30 (by kernel_rfl) (by kernel_rfl) ?_
  intro args h k r hk
  unfold sizF at hk
  split at hk <;> try (simp at hk; done)
  rename_i op
  refine ⟨_, hk, by simp [Wf], by simp [Wf], ?_⟩
  clear hk
  repeat' ((conv => arg 1; whnf); split)
  all_goals (try (conv => arg 1; whnf))
  all_goals first | refine ends_int ?_ | (exfalso; simp at *; omega)
  all_goals (simp at *; simp [siz, *])

/-! words -/
def clamp (b : Int) : Int := pickmx false (pickmx true b 1) 64
theorem clamp_eq (b : Int) : clamp b = if b < 1 then 1 else if 64 < b then 64 else b := by
  have h1 : clamp b = if 64 < (if b < 1 then 1 else b) then 64 else (if b < 1 then 1 else b) := rfl
  rw [h1]
  by_cases h : b < 1 <;> simp [h]
theorem clamp_bd (b : Int) : 1 ≤ clamp b ∧ clamp b ≤ 64 := by rw [clamp_eq]; (repeat' split) <;> omega
def maskS (b : Int) : Int := if 64 ≤ b then 18446744073709551615 else IntKind.u64.wrap (gshl .u64 1 b - 1)
def maskF {α : Type} : FP α := fun args _ k => match args with
  | [.int .i64 b] => cond (decide (b < 0)) none (k (.int .u64 (maskS b)))
  | _ => none
set_option maxRecDepth 100000 in
theorem c32 {α : Type} {I : Imm} : OrcOk (α := α) Try.prog I 32 (.pure maskF) := by
  refine orc_plain te_ok .nil 1 Try.func32 (by kernel_rfl) (by kernel_rfl) ?_
  intro args h k r hk
  unfold maskF at hk
  split at hk <;> try (simp at hk; done)
  rename_i b
  cases hg : decide (b < 0) <;> rw [hg] at hk <;> simp only [cond_true, cond_false] at hk <;> try (simp at hk; done)
  refine ⟨_, hk, by simp [Wf], by simp [Wf], ?_⟩
  clear hk
  repeat' ((conv => arg 1; whnf); split)
  all_goals (try (conv => arg 1; whnf))
  all_goals first | refine ends_int ?_ | (exfalso; simp at *; omega)
  all_goals (simp [maskS] at *; try omega)
def O1 {α : Type} : ORC α := [(32, .pure maskF)]
theorem O1_ok {α : Type} {I : Imm} : OOk (α := α) Try.prog I O1 := .cons c32 .nil
def zextS (v b : Int) : Int := bitop .and .u64 v (maskS (clamp b))
def zextF {α : Type} : FP α := fun args _ k => match args with
  | [.int .u64 v, .int .i64 b] => k (.int .u64 (zextS v b))
  | _ => none
set_option maxRecDepth 100000 in
theorem c24 {α : Type} {I : Imm} : OrcOk (α := α) Try.prog I 24 (.pure zextF) := by
  refine orc_plain te_ok O1_ok 1 Try.func24 (by kernel_rfl) (by kernel_rfl) ?_
  intro args h k r hk
  unfold zextF at hk
  split at hk <;> try (simp at hk; done)
  rename_i v b
  refine ⟨_, hk, by simp [Wf], by simp [Wf], ?_⟩
  clear hk
  have hc : 1 ≤ pickmx false (pickmx true b 1) 64 ∧ pickmx false (pickmx true b 1) 64 ≤ 64 := clamp_bd b
  repeat' ((conv => arg 1; whnf); split)
  all_goals (try (conv => arg 1; whnf))
  all_goals first | refine ends_int ?_ | (exfalso; simp at *; omega)
  all_goals rfl
def sextS (v b : Int) : Int := IntKind.u64.wrap (gshr .i64 (IntKind.i64.wrap (gshl .u64 v (IntKind.i64.wrap (64 - clamp b)))) (IntKind.i64.wrap (64 - clamp b)))
def sextF {α : Type} : FP α := fun args _ k => match args with
  | [.int .u64 v, .int .i64 b] => k (.int .u64 (sextS v b))
  | _ => none
set_option maxRecDepth 100000 in
theorem c25 {α : Type} {I : Imm} : OrcOk (α := α) Try.prog I 25 (.pure sextF) := by
  refine orc_plain te_ok .nil 1 Try.func25 (by kernel_rfl) (by kernel_rfl) ?_
  intro args h k r hk
  unfold sextF at hk
  split at hk <;> try (simp at hk; done)
  rename_i v b
  refine ⟨_, hk, by simp [Wf], by simp [Wf], ?_⟩
  clear hk
  have hc : 1 ≤ pickmx false (pickmx true b 1) 64 ∧ pickmx false (pickmx true b 1) 64 ≤ 64 := clamp_bd b
  have hw : IntKind.i64.wrap (64 - pickmx false (pickmx true b 1) 64) = 64 - pickmx false (pickmx true b 1) 64 := wrap_i64 (by omega) (by omega)
  repeat' ((conv => arg 1; whnf); split)
  all_goals (try (conv => arg 1; whnf))
  all_goals first | refine ends_int ?_ | (exfalso; simp [hw] at *; omega)
  all_goals rfl

/-- Two words to a bool. -/
def highF {α : Type} : FP α := fun args _ k => match args with
  | [.int .u64 a, .int .u64 b] => k (.bool (decide (IntKind.i64.wrap a < IntKind.i64.wrap b)))
  | _ => none
set_option maxRecDepth 100000 in
theorem c29 {α : Type} {I : Imm} : OrcOk (α := α) Try.prog I 29 (.pure highF) := by
  refine orc_plain te_ok .nil 1 Try.func29 (by kernel_rfl) (by kernel_rfl) ?_
  intro args h k r hk
  unfold highF at hk
  split at hk <;> try (simp at hk; done)
  rename_i a b
  refine ⟨_, hk, by simp [Wf], by simp [Wf], ?_⟩
  clear hk
  repeat' ((conv => arg 1; whnf); split)
  all_goals (try (conv => arg 1; whnf))
  all_goals first | refine ends_bool ?_ | (exfalso; simp at *; omega)
  all_goals rfl
set_option maxRecDepth 100000 in
theorem c27 {α : Type} {I : Imm} : OrcOk (α := α) Try.prog I 27 (.pure highF) := by
  refine orc_plain te_ok .nil 1 Try.func27 (by kernel_rfl) (by kernel_rfl) ?_
  intro args h k r hk
  unfold highF at hk
  split at hk <;> try (simp at hk; done)
  rename_i a b
  refine ⟨_, hk, by simp [Wf], by simp [Wf], ?_⟩
  clear hk
  repeat' ((conv => arg 1; whnf); split)
  all_goals (try (conv => arg 1; whnf))
  all_goals first | refine ends_bool ?_ | (exfalso; simp at *; omega)
  all_goals rfl
def b2i (b : Bool) : Int := if b then 1 else 0
def oneF {α : Type} : FP α := fun args _ k => match args with
  | [.bool b] => k (.int .u64 (b2i b))
  | _ => none
set_option maxRecDepth 100000 in
theorem c31 {α : Type} {I : Imm} : OrcOk (α := α) Try.prog I 31 (.pure oneF) := by
  refine orc_plain te_ok .nil 1 Try.func31 (by kernel_rfl) (by kernel_rfl) ?_
  intro args h k r hk
  unfold oneF at hk
  split at hk <;> try (simp at hk; done)
  rename_i b
  refine ⟨_, hk, by simp [Wf], by simp [Wf], ?_⟩
  clear hk
  repeat' ((conv => arg 1; whnf); split)
  all_goals (try (conv => arg 1; whnf))
  all_goals first | refine ends_int ?_ | (exfalso; simp at *; omega)
  all_goals rfl
set_option maxRecDepth 100000 in
theorem c26 {α : Type} {I : Imm} : OrcOk (α := α) Try.prog I 26 (.pure oneF) := by
  refine orc_plain te_ok .nil 1 Try.func26 (by kernel_rfl) (by kernel_rfl) ?_
  intro args h k r hk
  unfold oneF at hk
  split at hk <;> try (simp at hk; done)
  rename_i b
  refine ⟨_, hk, by simp [Wf], by simp [Wf], ?_⟩
  clear hk
  repeat' ((conv => arg 1; whnf); split)
  all_goals (try (conv => arg 1; whnf))
  all_goals first | refine ends_int ?_ | (exfalso; simp at *; omega)
  all_goals rfl
end Go.Proofs.Ytcoicmgdjkabaaa
