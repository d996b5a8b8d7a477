/-
  Contracts: Word.
-/
import Derived.Test.YtigomjcmpafeeaaSk22
import Derived.Test.YtigomjcmpafeeaaProg
namespace Go.Proofs.Ytigomjcmpafeeaa
open Go Go.Sh Go.Proofs
set_option linter.unusedSimpArgs false
theorem u64w_1 : IntKind.u64.wrap 1 = 1 := rfl
theorem u64w_2 : IntKind.u64.wrap 2 = 2 := rfl
theorem u64w_4 : IntKind.u64.wrap 4 = 4 := rfl
theorem u64w_8 : IntKind.u64.wrap 8 = 8 := rfl
theorem strOf_size (f : Nat → Int) (n : Nat) : (strOf f n).size = n := by simp [strOf, strOfNums, ByteArray.size]
def clamp (b : Int) : Int := pickmx false (pickmx true b 1) 64
theorem clamp_eq (b : Int) : clamp b = if b < 1 then 1 else if 64 < b then 64 else b := by
  have h1 : clamp b = if 64 < (if b < 1 then 1 else b) then 64 else (if b < 1 then 1 else b) := rfl
  rw [h1]
  by_cases h : b < 1 <;> simp [h]
theorem clamp_bd (b : Int) : 1 ≤ clamp b ∧ clamp b ≤ 64 := by rw [clamp_eq]; (repeat' split) <;> omega
def maskS (b : Int) : Int := if 64 ≤ b then 18446744073709551615 else IntKind.u64.wrap (gshl .u64 1 b - 1)
def maskF {α : Type} : FP α := fun args k => match args with
  | [.int .i64 b] => cond (decide (b < 0)) none (k (.int .u64 (maskS b)))
  | _ => none
theorem te_3 : TyOk Try.prog 3 ⟨.int .i64 0, 1, 8, .sc (.int .i64), none⟩ := ⟨fun _ => by kernel_rfl, ⟨rfl, rfl, fun _ _ => by simp [Wf, Wfs]⟩, ⟨Try.underlying3, rfl⟩, fun _ h => by cases h⟩
theorem te_33 : TyOk Try.prog 33 ⟨.int .u64 0, 1, 8, .sc (.int .u64), none⟩ := ⟨fun _ => by kernel_rfl, ⟨rfl, rfl, fun _ _ => by simp [Wf, Wfs]⟩, ⟨Try.underlying33, rfl⟩, fun _ h => by cases h⟩
abbrev T_word_mask : TE := [(3, ⟨.int .i64 0, 1, 8, .sc (.int .i64), none⟩), (33, ⟨.int .u64 0, 1, 8, .sc (.int .u64), none⟩)]
theorem T_word_mask_ok : Prg Try.prog T_word_mask := ⟨(.cons te_3 (.cons te_33 (TEok.nil _))), by kernel_rfl⟩
noncomputable abbrev O_word_mask {α : Type} : ORC α := []
theorem O_word_mask_ok {α : Type} {I : Imm} : OOk (α := α) Try.prog I O_word_mask := OOk.nil
set_option maxHeartbeats 4000000 in
set_option maxRecDepth 100000 in
theorem c_word_mask {α : Type} {I : Imm} : OrcOk (α := α) Try.prog I 113 (.pure maskF) := by
  refine orc_pure T_word_mask_ok (O := O_word_mask) O_word_mask_ok (L := []) ⟨1, []⟩ Try.func113 (by kernel_rfl) (by kernel_rfl) (by kernel_rfl) FLOk.nil ?_
  intro args k r hk
  unfold maskF at hk
  split at hk <;> try (simp at hk; done)
  rename_i b
  cases hg : decide (b < 0) <;> rw [hg] at hk <;> simp only [cond_true, cond_false] at hk <;> try (simp at hk; done)
  refine ⟨_, hk, by simp [Ids, Idss], by simp [Ids, Idss], ?_⟩
  clear hk
  repeat' ((conv => arg 1; whnf); split)
  all_goals (try (conv => arg 1; whnf))
  all_goals first | refine ends_int ?_ | (exfalso; simp [ltB_true, ltB_false, leB_true, leB_false] at *; omega)
  all_goals (simp [maskS, ltB_true, ltB_false, leB_true, leB_false] at *; try omega)
def zextS (v b : Int) : Int := bitop .and .u64 v (maskS (clamp b))
def zextF {α : Type} : FP α := fun args k => match args with
  | [.int .u64 v, .int .i64 b] => k (.int .u64 (zextS v b))
  | _ => none
abbrev T_word_Zext : TE := [(3, ⟨.int .i64 0, 1, 8, .sc (.int .i64), none⟩), (33, ⟨.int .u64 0, 1, 8, .sc (.int .u64), none⟩)]
theorem T_word_Zext_ok : Prg Try.prog T_word_Zext := ⟨(.cons te_3 (.cons te_33 (TEok.nil _))), by kernel_rfl⟩
noncomputable abbrev O_word_Zext {α : Type} : ORC α := [(113, .pure maskF)]
theorem O_word_Zext_ok {α : Type} {I : Imm} : OOk (α := α) Try.prog I O_word_Zext := OOk.cons c_word_mask (OOk.nil)
set_option maxHeartbeats 4000000 in
set_option maxRecDepth 100000 in
theorem c_word_Zext {α : Type} {I : Imm} : OrcOk (α := α) Try.prog I 89 (.pure zextF) := by
  refine orc_pure T_word_Zext_ok (O := O_word_Zext) O_word_Zext_ok (L := []) ⟨1, []⟩ Try.func89 (by kernel_rfl) (by kernel_rfl) (by kernel_rfl) FLOk.nil ?_
  intro args k r hk
  unfold zextF at hk
  split at hk <;> try (simp at hk; done)
  rename_i v b
  refine ⟨_, hk, by simp [Ids, Idss], by simp [Ids, Idss], ?_⟩
  clear hk
  have hc : 1 ≤ pickmx false (pickmx true b 1) 64 ∧ pickmx false (pickmx true b 1) 64 ≤ 64 := clamp_bd b
  repeat' ((conv => arg 1; whnf); split)
  all_goals (try (conv => arg 1; whnf))
  all_goals first | refine ends_int ?_ | (exfalso; simp [ltB_true, ltB_false, leB_true, leB_false] at *; omega)
  all_goals rfl
def sextS (v b : Int) : Int := IntKind.u64.wrap (gshr .i64 (IntKind.i64.wrap (gshl .u64 v (IntKind.i64.wrap (64 - clamp b)))) (IntKind.i64.wrap (64 - clamp b)))
def sextF {α : Type} : FP α := fun args k => match args with
  | [.int .u64 v, .int .i64 b] => k (.int .u64 (sextS v b))
  | _ => none
theorem te_2 : TyOk Try.prog 2 ⟨.int .i64 0, 1, 8, .sc (.int .i64), none⟩ := ⟨fun _ => by kernel_rfl, ⟨rfl, rfl, fun _ _ => by simp [Wf, Wfs]⟩, ⟨Try.underlying2, rfl⟩, fun _ h => by cases h⟩
abbrev T_word_Sext : TE := [(2, ⟨.int .i64 0, 1, 8, .sc (.int .i64), none⟩), (3, ⟨.int .i64 0, 1, 8, .sc (.int .i64), none⟩), (33, ⟨.int .u64 0, 1, 8, .sc (.int .u64), none⟩)]
theorem T_word_Sext_ok : Prg Try.prog T_word_Sext := ⟨(.cons te_2 (.cons te_3 (.cons te_33 (TEok.nil _)))), by kernel_rfl⟩
noncomputable abbrev O_word_Sext {α : Type} : ORC α := []
theorem O_word_Sext_ok {α : Type} {I : Imm} : OOk (α := α) Try.prog I O_word_Sext := OOk.nil
set_option maxHeartbeats 4000000 in
set_option maxRecDepth 100000 in
theorem c_word_Sext {α : Type} {I : Imm} : OrcOk (α := α) Try.prog I 111 (.pure sextF) := by
  refine orc_pure T_word_Sext_ok (O := O_word_Sext) O_word_Sext_ok (L := []) ⟨1, []⟩ Try.func111 (by kernel_rfl) (by kernel_rfl) (by kernel_rfl) FLOk.nil ?_
  intro args k r hk
  unfold sextF at hk
  split at hk <;> try (simp at hk; done)
  rename_i v b
  refine ⟨_, hk, by simp [Ids, Idss], by simp [Ids, Idss], ?_⟩
  clear hk
  have hc : 1 ≤ pickmx false (pickmx true b 1) 64 ∧ pickmx false (pickmx true b 1) 64 ≤ 64 := clamp_bd b
  have hw : IntKind.i64.wrap (64 - pickmx false (pickmx true b 1) 64) = 64 - pickmx false (pickmx true b 1) 64 := wrap_i64 (by omega) (by omega)
  repeat' ((conv => arg 1; whnf); split)
  all_goals (try (conv => arg 1; whnf))
  all_goals first | refine ends_int ?_ | (exfalso; simp [hw, ltB_true, ltB_false, leB_true, leB_false] at *; omega)
  all_goals rfl
def loS (lo : Int) : Int := pickmx false (pickmx true lo 0) 63
def nS (lo n : Int) : Int := pickmx false (pickmx true n 0) (IntKind.i64.wrap (64 - loS lo))
theorem loS_eq (b : Int) : loS b = if b < 0 then 0 else if 63 < b then 63 else b := by
  have h1 : loS b = if 63 < (if b < 0 then 0 else b) then 63 else (if b < 0 then 0 else b) := rfl
  rw [h1]
  by_cases h : b < 0 <;> simp [h]
theorem loS_bd (b : Int) : 0 ≤ loS b ∧ loS b ≤ 63 := by rw [loS_eq]; (repeat' split) <;> omega
theorem nS_eq (lo n : Int) : nS lo n = if 64 - loS lo < (if n < 0 then 0 else n) then 64 - loS lo else (if n < 0 then 0 else n) := by
  have hb := loS_bd lo
  have e : IntKind.i64.wrap (64 - loS lo) = 64 - loS lo := wrap_i64 (by omega) (by omega)
  have h1 : nS lo n = if IntKind.i64.wrap (64 - loS lo) < (if n < 0 then 0 else n) then IntKind.i64.wrap (64 - loS lo) else (if n < 0 then 0 else n) := rfl
  rw [h1, e]
theorem nS_bd (lo n : Int) : 0 ≤ nS lo n ∧ nS lo n ≤ 64 := by have := loS_bd lo; rw [nS_eq]; (repeat' split) <;> omega
def partF {α : Type} : FP α := fun args k => match args with
  | [.int .i64 lo, .int .i64 n] => k (.tuple [.int .i64 (loS lo), .int .i64 (nS lo n)])
  | _ => none
abbrev T_word_part : TE := [(3, ⟨.int .i64 0, 1, 8, .sc (.int .i64), none⟩)]
theorem T_word_part_ok : Prg Try.prog T_word_part := ⟨(.cons te_3 (TEok.nil _)), by kernel_rfl⟩
noncomputable abbrev O_word_part {α : Type} : ORC α := []
theorem O_word_part_ok {α : Type} {I : Imm} : OOk (α := α) Try.prog I O_word_part := OOk.nil
set_option maxHeartbeats 4000000 in
set_option maxRecDepth 100000 in
theorem c_word_part {α : Type} {I : Imm} : OrcOk (α := α) Try.prog I 112 (.pure partF) := by
  refine orc_pure T_word_part_ok (O := O_word_part) O_word_part_ok (L := []) ⟨1, []⟩ Try.func112 (by kernel_rfl) (by kernel_rfl) (by kernel_rfl) FLOk.nil ?_
  intro args k r hk
  unfold partF at hk
  split at hk <;> try (simp at hk; done)
  rename_i lo n
  refine ⟨_, hk, by simp [Ids, Idss], by simp [Ids, Idss], ?_⟩
  clear hk
  all_goals (try (conv => arg 1; whnf))
  exact ends_any rfl
def bitsS (v lo n : Int) : Int := bitop .and .u64 (gshr .u64 v (loS lo)) (maskS (nS lo n))
def bitsF {α : Type} : FP α := fun args k => match args with
  | [.int .u64 v, .int .i64 lo, .int .i64 n] => k (.int .u64 (bitsS v lo n))
  | _ => none
abbrev T_word_Bits : TE := [(33, ⟨.int .u64 0, 1, 8, .sc (.int .u64), none⟩)]
theorem T_word_Bits_ok : Prg Try.prog T_word_Bits := ⟨(.cons te_33 (TEok.nil _)), by kernel_rfl⟩
noncomputable abbrev O_word_Bits {α : Type} : ORC α := [(112, .pure partF), (113, .pure maskF)]
theorem O_word_Bits_ok {α : Type} {I : Imm} : OOk (α := α) Try.prog I O_word_Bits := OOk.cons c_word_part (OOk.cons c_word_mask (OOk.nil))
set_option maxHeartbeats 4000000 in
set_option maxRecDepth 100000 in
theorem c_word_Bits {α : Type} {I : Imm} : OrcOk (α := α) Try.prog I 96 (.pure bitsF) := by
  refine orc_pure T_word_Bits_ok (O := O_word_Bits) O_word_Bits_ok (L := []) ⟨1, []⟩ Try.func96 (by kernel_rfl) (by kernel_rfl) (by kernel_rfl) FLOk.nil ?_
  intro args k r hk
  unfold bitsF at hk
  split at hk <;> try (simp at hk; done)
  rename_i v lo n
  refine ⟨_, hk, by simp [Ids, Idss], by simp [Ids, Idss], ?_⟩
  clear hk
  have h1 := loS_bd lo
  have h2 := nS_bd lo n
  repeat' ((conv => arg 1; whnf); split)
  all_goals (try (conv => arg 1; whnf))
  all_goals first | refine ends_int ?_ | (exfalso; simp [ltB_true, ltB_false, leB_true, leB_false] at *; omega)
  all_goals rfl
def setS (v lo n x : Int) : Int := bitop .or .u64 (bitop .andNot .u64 v (gshl .u64 (maskS (nS lo n)) (loS lo))) (gshl .u64 (bitop .and .u64 x (maskS (nS lo n))) (loS lo))
def setF {α : Type} : FP α := fun args k => match args with
  | [.int .u64 v, .int .i64 lo, .int .i64 n, .int .u64 x] => k (.int .u64 (setS v lo n x))
  | _ => none
abbrev T_word_Set : TE := [(33, ⟨.int .u64 0, 1, 8, .sc (.int .u64), none⟩)]
theorem T_word_Set_ok : Prg Try.prog T_word_Set := ⟨(.cons te_33 (TEok.nil _)), by kernel_rfl⟩
noncomputable abbrev O_word_Set {α : Type} : ORC α := [(112, .pure partF), (113, .pure maskF)]
theorem O_word_Set_ok {α : Type} {I : Imm} : OOk (α := α) Try.prog I O_word_Set := OOk.cons c_word_part (OOk.cons c_word_mask (OOk.nil))
set_option maxHeartbeats 4000000 in
set_option maxRecDepth 100000 in
theorem c_word_Set {α : Type} {I : Imm} : OrcOk (α := α) Try.prog I 86 (.pure setF) := by
  refine orc_pure T_word_Set_ok (O := O_word_Set) O_word_Set_ok (L := []) ⟨1, []⟩ Try.func86 (by kernel_rfl) (by kernel_rfl) (by kernel_rfl) FLOk.nil ?_
  intro args k r hk
  unfold setF at hk
  split at hk <;> try (simp at hk; done)
  rename_i v lo n x
  refine ⟨_, hk, by simp [Ids, Idss], by simp [Ids, Idss], ?_⟩
  clear hk
  have h1 := loS_bd lo
  have h2 := nS_bd lo n
  repeat' ((conv => arg 1; whnf); split)
  all_goals (try (conv => arg 1; whnf))
  all_goals first | refine ends_int ?_ | (exfalso; simp [ltB_true, ltB_false, leB_true, leB_false] at *; omega)
  all_goals rfl
def bitS (c : Nat → Int) (i : Int) (b : Int) : Bool := bitsS (c i.toNat) b 1 == 1
def bitF {α : Type} : FP α := fun args k => match args with
  | [.agg [.ints .u64 32 _, .int .u64 _, .int .i64 _, .bool _, .ints .u64 29 c, .int .u64 _], .int .i64 i, .int .i64 b] => cond (decide (0 ≤ i) && decide (i < 29)) (k (.bool (bitS c i b))) none
  | _ => none
theorem te_40 : TyOk Try.prog 40 ⟨.ints .u64 29 (fun _ => 0), 29, 232, .ar 29 33 1 false, some (.ar 29 1 (.it .u64))⟩ := ⟨fun _ => by kernel_rfl, ⟨rfl, rfl, fun _ _ => by simp [Wf, Wfs]⟩, ⟨Try.underlying40, by kernel_rfl, by kernel_rfl⟩, fun _ h => by cases h; exact ⟨by kernel_rfl, by kernel_rfl⟩⟩
theorem te_42 : TyOk Try.prog 42 ⟨.agg [.ints .u64 32 (fun _ => 0), .int .u64 0, .int .i64 0, .bool false, .ints .u64 29 (fun _ => 0), .int .u64 0], 65, 520, .st [(0, 32, true), (32, 1, false), (33, 1, false), (34, 1, false), (35, 29, true), (64, 1, false)], some (.st [(0, 32, true, .ar 32 1 (.it .u64)), (32, 1, false, .it .u64), (33, 1, false, .it .i64), (34, 1, false, .bl), (35, 29, true, .ar 29 1 (.it .u64)), (64, 1, false, .it .u64)])⟩ := ⟨fun _ => by kernel_rfl, ⟨rfl, rfl, fun _ _ => by simp [Wf, Wfs]⟩, ⟨_, Try.underlying42, by kernel_rfl⟩, fun _ h => by cases h; exact ⟨by kernel_rfl, by kernel_rfl⟩⟩
abbrev T_csr_Bit : TE := [(33, ⟨.int .u64 0, 1, 8, .sc (.int .u64), none⟩), (40, ⟨.ints .u64 29 (fun _ => 0), 29, 232, .ar 29 33 1 false, some (.ar 29 1 (.it .u64))⟩), (42, ⟨.agg [.ints .u64 32 (fun _ => 0), .int .u64 0, .int .i64 0, .bool false, .ints .u64 29 (fun _ => 0), .int .u64 0], 65, 520, .st [(0, 32, true), (32, 1, false), (33, 1, false), (34, 1, false), (35, 29, true), (64, 1, false)], some (.st [(0, 32, true, .ar 32 1 (.it .u64)), (32, 1, false, .it .u64), (33, 1, false, .it .i64), (34, 1, false, .bl), (35, 29, true, .ar 29 1 (.it .u64)), (64, 1, false, .it .u64)])⟩)]
theorem T_csr_Bit_ok : Prg Try.prog T_csr_Bit := ⟨(.cons te_33 (.cons te_40 (.cons te_42 (TEok.nil _)))), by kernel_rfl⟩
noncomputable abbrev O_csr_Bit {α : Type} : ORC α := [(96, .pure bitsF)]
theorem O_csr_Bit_ok {α : Type} {I : Imm} : OOk (α := α) Try.prog I O_csr_Bit := OOk.cons c_word_Bits (OOk.nil)
set_option maxHeartbeats 4000000 in
set_option maxRecDepth 100000 in
theorem c_csr_Bit {α : Type} {I : Imm} : OrcOk (α := α) Try.prog I 56 (.pure bitF) := by
  refine orc_pure T_csr_Bit_ok (O := O_csr_Bit) O_csr_Bit_ok (L := []) ⟨1, []⟩ Try.func56 (by kernel_rfl) (by kernel_rfl) (by kernel_rfl) FLOk.nil ?_
  intro args k r hk
  unfold bitF at hk
  split at hk <;> try (simp at hk; done)
  rename_i x pc lv vv c dn i b
  cases hg : (decide (0 ≤ i) && decide (i < 29)) <;> rw [hg] at hk <;> simp only [cond_true, cond_false] at hk <;> try (simp at hk; done)
  refine ⟨_, hk, by simp [Ids, Idss], by simp [Ids, Idss], ?_⟩
  clear hk
  simp only [Bool.and_eq_true, decide_eq_true_eq] at hg
  repeat' ((conv => arg 1; whnf); split)
  all_goals (try (conv => arg 1; whnf))
  all_goals first | refine ends_bool ?_ | (exfalso; simp [ltB_true, ltB_false, leB_true, leB_false] at *; omega)
  all_goals rfl
end Go.Proofs.Ytigomjcmpafeeaa
