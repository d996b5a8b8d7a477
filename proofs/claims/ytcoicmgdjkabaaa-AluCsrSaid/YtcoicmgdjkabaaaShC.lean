/-
  A part of the proof: ShC.
-/
import Derived.Test.YtcoicmgdjkabaaaShB
namespace Go.Proofs.Ytcoicmgdjkabaaa
open Go Go.Sh Go.Proofs

def doesS (op a b bits : Int) : Int :=
  if op = 35 then IntKind.u64.wrap (a + b) else if op = 36 then IntKind.u64.wrap (a - b)
  else if op = 37 then gshl .u64 a (bitop .and .u64 b (IntKind.u64.wrap (IntKind.i64.wrap (bits - 1))))
  else if op = 38 then b2i (decide (IntKind.i64.wrap a < IntKind.i64.wrap b)) else if op = 39 then b2i (decide (a < b)) else if op = 40 then bitop .xor .u64 a b
  else if op = 41 then gshr .u64 a (bitop .and .u64 b (IntKind.u64.wrap (IntKind.i64.wrap (bits - 1))))
  else if op = 42 then IntKind.u64.wrap (gshr .i64 (IntKind.i64.wrap a) (bitop .and .u64 b (IntKind.u64.wrap (IntKind.i64.wrap (bits - 1)))))
  else if op = 43 then bitop .or .u64 a b else bitop .and .u64 a b
def doesF {α : Type} : FP α := fun args _ k => match args with
  | [.int .i64 op, .int .u64 a, .int .u64 b, .int .i64 bits] => k (.int .u64 (doesS op a b bits))
  | _ => none
def O2 {α : Type} : ORC α := [(29, .pure highF), (31, .pure oneF)]
theorem O2_ok {α : Type} {I : Imm} : OOk (α := α) Try.prog I O2 := .cons c29 (.cons c31 .nil)
set_option maxRecDepth 100000 in
theorem c22 {α : Type} {I : Imm} : OrcOk (α := α) Try.prog I 22 (.pure doesF) := by
  refine orc_plain te_ok O2_ok 1 Try.func22 (by kernel_rfl) (by kernel_rfl) ?_
  intro args h k r hk
  unfold doesF at hk
  split at hk <;> try (simp at hk; done)
  rename_i op a b bits
  refine ⟨_, hk, by simp [Wf], by simp [Wf], ?_⟩
  clear hk
  have hby := bitop_u64 .and b (IntKind.u64.wrap (IntKind.i64.wrap (bits - 1)))
  repeat' ((conv => arg 1; whnf); split)
  all_goals (try (conv => arg 1; whnf))
  all_goals first | refine ends_int ?_ | (exfalso; simp at *; omega)
  all_goals (simp at *; simp [doesS, *])

def plainS (op : Int) : Int := if 35 ≤ op ∧ op ≤ 44 then op else [35, 38, 39, 40, 43, 44, 37, 41, 42, 35, 37, 41, 42, 0, 0, 0, 0, 0, 0, 0, 0, 0, 0, 35, 36, 37, 41, 42].getD (op - 22).toNat 0 * (if 22 ≤ op then 1 else 0)
def plainF {α : Type} : FP α := fun args _ k => match args with
  | [.int .i64 op] => cond (decide (0 ≤ op) && decide (op < 70)) (k (.int .i64 (plainS op))) none
  | _ => none
def O3 {α : Type} : ORC α := [(20, .pure clsF)]
theorem O3_ok {α : Type} {I : Imm} : OOk (α := α) Try.prog I O3 := .cons c20 .nil
theorem plain_all : (List.range 70).all (fun i => endsB (bodyK te O3 1 Try.f23 [.int .i64 i] emp ans) .i64 (plainS i)) = true := by kernel_rfl
set_option maxRecDepth 100000 in
theorem c23 {α : Type} {I : Imm} : OrcOk (α := α) Try.prog I 23 (.pure plainF) := by
  refine orc_plain te_ok O3_ok 1 Try.func23 (by kernel_rfl) (by kernel_rfl) ?_
  intro args h k r hk
  unfold plainF at hk
  split at hk <;> try (simp at hk; done)
  rename_i op
  cases hg : (decide (0 ≤ op) && decide (op < 70)) <;> rw [hg] at hk <;> simp only [cond_true, cond_false] at hk <;> try (simp at hk; done)
  refine ⟨_, hk, by simp [Wf], by simp [Wf], ?_⟩
  clear hk
  simp only [Bool.and_eq_true, decide_eq_true_eq] at hg
  obtain ⟨j, rfl, hj⟩ := of_all plain_all hg.1 hg.2
  exact endsB_spec hj

theorem cls_pos {op : Int} (h : cls op ≠ 0) : 1 ≤ op ∧ op < 70 := by
  unfold cls at h; split at h
  · exact absurd rfl h
  · omega
def doS (op a b : Int) : Int :=
  if cls op = 5 ∨ cls op = 6 then (if nar op then sextS (doesS (plainS op) (if op = 33 ∨ op = 48 then zextS a 32 else sextS a 32) b 32) 32 else doesS (plainS op) a b 64) else 0
def doF {α : Type} : FP α := fun args _ k => match args with
  | [.int .i64 op, .int .u64 a, .int .u64 b] => k (.int .u64 (doS op a b))
  | _ => none
def O4 {α : Type} : ORC α := [(20, .pure clsF), (21, .pure narF), (22, .pure doesF), (23, .pure plainF), (24, .pure zextF), (25, .pure sextF)]
theorem O4_ok {α : Type} {I : Imm} : OOk (α := α) Try.prog I O4 := .cons c20 (.cons c21 (.cons c22 (.cons c23 (.cons c24 (.cons c25 .nil)))))
set_option maxRecDepth 100000 in
theorem c11 {α : Type} {I : Imm} : OrcOk (α := α) Try.prog I 11 (.pure doF) := by
  refine orc_plain te_ok O4_ok 1 Try.func11 (by kernel_rfl) (by kernel_rfl) ?_
  intro args h k r hk
  unfold doF at hk
  split at hk <;> try (simp at hk; done)
  rename_i op a b
  refine ⟨_, hk, by simp [Wf], by simp [Wf], ?_⟩
  clear hk
  repeat' ((conv => arg 1; whnf); split)
  all_goals (try (conv => arg 1; whnf))
  all_goals first | refine ends_int ?_ | (exfalso; simp at *; have := cls_pos (op := op) (by omega); omega)
  all_goals simp at *
  all_goals first | (simp [doS, *]; done) | (subst_vars; simp [doS, cls, nar])

def takS (op a b : Int) : Bool :=
  if op = 5 then a == b else if op = 6 then a != b else if op = 7 then decide (IntKind.i64.wrap a < IntKind.i64.wrap b) else if op = 8 then !decide (IntKind.i64.wrap a < IntKind.i64.wrap b)
  else if op = 9 then decide (a < b) else if op = 10 then decide (b ≤ a) else false
def takF {α : Type} : FP α := fun args _ k => match args with
  | [.int .i64 op, .int .u64 a, .int .u64 b] => k (.bool (takS op a b))
  | _ => none
def O5 {α : Type} : ORC α := [(29, .pure highF), (27, .pure highF)]
theorem O5_ok {α : Type} {I : Imm} : OOk (α := α) Try.prog I O5 := .cons c29 (.cons c27 .nil)
set_option maxRecDepth 100000 in
theorem c13 {α : Type} {I : Imm} : OrcOk (α := α) Try.prog I 13 (.pure takF) := by
  refine orc_plain te_ok O5_ok 1 Try.func13 (by kernel_rfl) (by kernel_rfl) ?_
  intro args h k r hk
  unfold takF at hk
  split at hk <;> try (simp at hk; done)
  rename_i op a b
  refine ⟨_, hk, by simp [Wf], by simp [Wf], ?_⟩
  clear hk
  repeat' ((conv => arg 1; whnf); split)
  all_goals (try (conv => arg 1; whnf))
  all_goals first | refine ends_bool ?_ | (exfalso; simp at *; omega)
  all_goals (simp at *; simp [takS, *])
set_option maxRecDepth 100000 in
theorem c14 {α : Type} {I : Imm} : OrcOk (α := α) Try.prog I 14 (.pure takF) := by
  refine orc_plain te_ok O5_ok 1 Try.func14 (by kernel_rfl) (by kernel_rfl) ?_
  intro args h k r hk
  unfold takF at hk
  split at hk <;> try (simp at hk; done)
  rename_i op a b
  refine ⟨_, hk, by simp [Wf], by simp [Wf], ?_⟩
  clear hk
  repeat' ((conv => arg 1; whnf); split)
  all_goals (try (conv => arg 1; whnf))
  all_goals first | refine ends_bool ?_ | (exfalso; simp at *; omega)
  all_goals (simp at *; simp [takS, *])

def csrS (op old v : Int) : Int :=
  if op = 54 ∨ op = 57 then v else if op = 55 ∨ op = 58 then bitop .or .u64 old v else if op = 56 ∨ op = 59 then bitop .andNot .u64 old v else old
def csrF {α : Type} : FP α := fun args _ k => match args with
  | [.int .i64 op, .int .u64 a, .int .u64 b] => k (.int .u64 (csrS op a b))
  | _ => none
set_option maxRecDepth 100000 in
theorem c15 {α : Type} {I : Imm} : OrcOk (α := α) Try.prog I 15 (.pure csrF) := by
  refine orc_plain te_ok .nil 1 Try.func15 (by kernel_rfl) (by kernel_rfl) ?_
  intro args h k r hk
  unfold csrF at hk
  split at hk <;> try (simp at hk; done)
  rename_i op a b
  refine ⟨_, hk, by simp [Wf], by simp [Wf], ?_⟩
  clear hk
  repeat' ((conv => arg 1; whnf); split)
  all_goals (try (conv => arg 1; whnf))
  all_goals first | refine ends_int ?_ | (exfalso; simp at *; omega)
  all_goals (simp at *; simp [csrS, *])
set_option maxRecDepth 100000 in
theorem c16 {α : Type} {I : Imm} : OrcOk (α := α) Try.prog I 16 (.pure csrF) := by
  refine orc_plain te_ok .nil 1 Try.func16 (by kernel_rfl) (by kernel_rfl) ?_
  intro args h k r hk
  unfold csrF at hk
  split at hk <;> try (simp at hk; done)
  rename_i op a b
  refine ⟨_, hk, by simp [Wf], by simp [Wf], ?_⟩
  clear hk
  repeat' ((conv => arg 1; whnf); split)
  all_goals (try (conv => arg 1; whnf))
  all_goals first | refine ends_int ?_ | (exfalso; simp at *; omega)
  all_goals (simp at *; simp [csrS, *])

def extS (op v : Int) : Int :=
  if op = 15 ∨ op = 16 ∨ op = 17 ∨ op = 68 then zextS v (IntKind.i64.wrap (8 * siz op)) else if op = 11 ∨ op = 12 ∨ op = 13 ∨ op = 14 ∨ op = 66 ∨ op = 67 then sextS v (IntKind.i64.wrap (8 * siz op)) else 0
def extF {α : Type} : FP α := fun args _ k => match args with
  | [.int .i64 op, .int .u64 v] => k (.int .u64 (extS op v))
  | _ => none
def O6 {α : Type} : ORC α := [(30, .pure sizF), (24, .pure zextF), (25, .pure sextF)]
theorem O6_ok {α : Type} {I : Imm} : OOk (α := α) Try.prog I O6 := .cons c30 (.cons c24 (.cons c25 .nil))
set_option maxRecDepth 100000 in
theorem c17 {α : Type} {I : Imm} : OrcOk (α := α) Try.prog I 17 (.pure extF) := by
  refine orc_plain te_ok O6_ok 1 Try.func17 (by kernel_rfl) (by kernel_rfl) ?_
  intro args h k r hk
  unfold extF at hk
  split at hk <;> try (simp at hk; done)
  rename_i op v
  refine ⟨_, hk, by simp [Wf], by simp [Wf], ?_⟩
  clear hk
  repeat' ((conv => arg 1; whnf); split)
  all_goals (try (conv => arg 1; whnf))
  all_goals first | refine ends_int ?_ | (exfalso; simp at *; omega)
  all_goals (simp at *; simp [extS, *])

/-! the document's -/
def rsextS (v b : Int) : Int :=
  let n := IntKind.u64.wrap (pickmx true 1 (pickmx false b 64))
  if n = 64 then v
  else
    let x := bitop .and .u64 v (IntKind.u64.wrap (gshl .u64 1 n - 1))
    if gshr .u64 x (IntKind.u64.wrap (n - 1)) = 1 then bitop .or .u64 x (gshl .u64 18446744073709551615 n) else x
def rsextF {α : Type} : FP α := fun args _ k => match args with
  | [.int .u64 v, .int .i64 b] => k (.int .u64 (rsextS v b))
  | _ => none
set_option maxRecDepth 100000 in
theorem c28 {α : Type} {I : Imm} : OrcOk (α := α) Try.prog I 28 (.pure rsextF) := by
  refine orc_plain te_ok .nil 1 Try.func28 (by kernel_rfl) (by kernel_rfl) ?_
  intro args h k r hk
  unfold rsextF at hk
  split at hk <;> try (simp at hk; done)
  rename_i v b
  refine ⟨_, hk, by simp [Wf], by simp [Wf], ?_⟩
  clear hk
  have hn := wrap_u64_bd (pickmx true 1 (pickmx false b 64))
  have hn1 := wrap_u64_bd (IntKind.u64.wrap (pickmx true 1 (pickmx false b 64)) - 1)
  repeat' ((conv => arg 1; whnf); split)
  all_goals (try (conv => arg 1; whnf))
  all_goals first | refine ends_int ?_ | (exfalso; simp at *; omega)
  all_goals (simp at *; simp [rsextS, *])

def rdoS (op a b : Int) : Int :=
  if op = 22 ∨ op = 35 then IntKind.u64.wrap (a + b) else if op = 36 then IntKind.u64.wrap (a - b) else if op = 23 ∨ op = 38 then b2i (decide (IntKind.i64.wrap a < IntKind.i64.wrap b))
  else if op = 24 ∨ op = 39 then b2i (decide (a < b)) else if op = 25 ∨ op = 40 then bitop .xor .u64 a b else if op = 26 ∨ op = 43 then bitop .or .u64 a b else if op = 27 ∨ op = 44 then bitop .and .u64 a b
  else if op = 28 ∨ op = 37 then gshl .u64 a (bitop .and .u64 b 63) else if op = 29 ∨ op = 41 then gshr .u64 a (bitop .and .u64 b 63)
  else if op = 30 ∨ op = 42 then IntKind.u64.wrap (gshr .i64 (IntKind.i64.wrap a) (bitop .and .u64 b 63)) else if op = 31 ∨ op = 45 then rsextS (IntKind.u64.wrap (a + b)) 32
  else if op = 46 then rsextS (IntKind.u64.wrap (a - b)) 32 else if op = 32 ∨ op = 47 then rsextS (gshl .u64 a (bitop .and .u64 b 31)) 32
  else if op = 33 ∨ op = 48 then rsextS (gshr .u64 (bitop .and .u64 a 4294967295) (bitop .and .u64 b 31)) 32
  else if op = 34 ∨ op = 49 then IntKind.u64.wrap (gshr .i64 (IntKind.i64.wrap (rsextS a 32)) (bitop .and .u64 b 31)) else 0
def rdoF {α : Type} : FP α := fun args _ k => match args with
  | [.int .i64 op, .int .u64 a, .int .u64 b] => k (.int .u64 (rdoS op a b))
  | _ => none
def O7 {α : Type} : ORC α := [(26, .pure oneF), (27, .pure highF), (28, .pure rsextF)]
theorem O7_ok {α : Type} {I : Imm} : OOk (α := α) Try.prog I O7 := .cons c26 (.cons c27 (.cons c28 .nil))
set_option maxHeartbeats 4000000 in
set_option maxRecDepth 100000 in
theorem c12 {α : Type} {I : Imm} : OrcOk (α := α) Try.prog I 12 (.pure rdoF) := by
  refine orc_plain te_ok O7_ok 1 Try.func12 (by kernel_rfl) (by kernel_rfl) ?_
  intro args h k r hk
  unfold rdoF at hk
  split at hk <;> try (simp at hk; done)
  rename_i op a b
  refine ⟨_, hk, by simp [Wf], by simp [Wf], ?_⟩
  clear hk
  have h1 := bitop_u64 .and b 63
  have h2 := bitop_u64 .and b 31
  repeat' ((conv => arg 1; whnf); split)
  all_goals (try (conv => arg 1; whnf))
  all_goals first | refine ends_int ?_ | (exfalso; simp at *; omega)
  all_goals (simp at *; simp [rdoS, *])

def rextS (op v : Int) : Int :=
  if op = 11 then rsextS v 8 else if op = 12 then rsextS v 16 else if op = 13 ∨ op = 66 then rsextS v 32 else if op = 14 ∨ op = 67 then v
  else if op = 15 then bitop .and .u64 v 255 else if op = 16 then bitop .and .u64 v 65535 else if op = 17 ∨ op = 68 then bitop .and .u64 v 4294967295 else 0
def rextF {α : Type} : FP α := fun args _ k => match args with
  | [.int .i64 op, .int .u64 v] => k (.int .u64 (rextS op v))
  | _ => none
set_option maxRecDepth 100000 in
theorem c18 {α : Type} {I : Imm} : OrcOk (α := α) Try.prog I 18 (.pure rextF) := by
  refine orc_plain te_ok O7_ok 1 Try.func18 (by kernel_rfl) (by kernel_rfl) ?_
  intro args h k r hk
  unfold rextF at hk
  split at hk <;> try (simp at hk; done)
  rename_i op v
  refine ⟨_, hk, by simp [Wf], by simp [Wf], ?_⟩
  clear hk
  repeat' ((conv => arg 1; whnf); split)
  all_goals (try (conv => arg 1; whnf))
  all_goals first | refine ends_int ?_ | (exfalso; simp at *; omega)
  all_goals (simp at *; simp [rextS, *])

def halfS (v : Int) : Int := IntKind.u64.wrap (IntKind.i64.wrap (IntKind.i32.wrap (IntKind.u32.wrap v)))
def halfF {α : Type} : FP α := fun args _ k => match args with
  | [.int .u64 v] => k (.int .u64 (halfS v))
  | _ => none
set_option maxRecDepth 100000 in
theorem c19 {α : Type} {I : Imm} : OrcOk (α := α) Try.prog I 19 (.pure halfF) := by
  refine orc_plain te_ok .nil 1 Try.func19 (by kernel_rfl) (by kernel_rfl) ?_
  intro args h k r hk
  unfold halfF at hk
  split at hk <;> try (simp at hk; done)
  rename_i v
  refine ⟨_, hk, by simp [Wf], by simp [Wf], ?_⟩
  clear hk
  repeat' ((conv => arg 1; whnf); split)
  all_goals (try (conv => arg 1; whnf))
  all_goals first | refine ends_int ?_ | (exfalso; simp at *; omega)
  all_goals rfl
end Go.Proofs.Ytcoicmgdjkabaaa
