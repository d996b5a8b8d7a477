/-
  Contracts: Mem.
-/
import Derived.Test.YtigomjcmpafeeaaFnWord
import Derived.Test.YtigomjcmpafeeaaSk23
namespace Go.Proofs.Ytigomjcmpafeeaa
open Go Go.Sh Go.Proofs
set_option linter.unusedSimpArgs false
/-- Eight bytes, put together. -/
def orChain (g : Nat → Int) : Int :=
  bitop .or .u64 (bitop .or .u64 (bitop .or .u64 (bitop .or .u64 (bitop .or .u64 (bitop .or .u64 (bitop .or .u64 (bitop .or .u64 0 (gshl .u64 (IntKind.u64.wrap (g 0)) 0)) (gshl .u64 (IntKind.u64.wrap (g 1)) 8)) (gshl .u64 (IntKind.u64.wrap (g 2)) 16)) (gshl .u64 (IntKind.u64.wrap (g 3)) 24)) (gshl .u64 (IntKind.u64.wrap (g 4)) 32)) (gshl .u64 (IntKind.u64.wrap (g 5)) 40)) (gshl .u64 (IntKind.u64.wrap (g 6)) 48)) (gshl .u64 (IntKind.u64.wrap (g 7)) 56)
def c8 (n : Int) : Int := pickmx false (pickmx true n 0) 8
theorem c8_eq (n : Int) : c8 n = if n < 0 then 0 else if 8 < n then 8 else n := by
  have h1 : c8 n = if 8 < (if n < 0 then 0 else n) then 8 else (if n < 0 then 0 else n) := rfl
  rw [h1]
  by_cases h : n < 0 <;> simp [h]
theorem c8_bd (n : Int) : 0 ≤ c8 n ∧ c8 n ≤ 8 := by rw [c8_eq]; (repeat' split) <;> omega
def getS (s : ByteArray) (n : Int) : Int := orChain (cpy (fun _ => 0) (bytesAt (s.extract 0 s.size)) 0 (Nat.min (s.extract 0 s.size).size (c8 n).toNat))
def getF {α : Type} : FP α := fun args k => match args with
  | [.str s, .int .i64 at_, .int .i64 n] => cond (decide (at_ = 0) && (decide (0 < s.size) && decide ((s.size : Int) ≤ 9223372036854775807))) (k (.int .u64 (getS s n))) none
  | _ => none
theorem te_5 : TyOk Try.prog 5 ⟨.int .u8 0, 1, 1, .sc (.int .u8), none⟩ := ⟨fun _ => by kernel_rfl, ⟨rfl, rfl, fun _ _ => by simp [Wf, Wfs]⟩, ⟨Try.underlying5, rfl⟩, fun _ h => by cases h⟩
theorem te_9 : TyOk Try.prog 9 ⟨.str .empty, 1, 16, .sc (.string), none⟩ := ⟨fun _ => by kernel_rfl, ⟨rfl, rfl, fun _ _ => by simp [Wf, Wfs]⟩, ⟨Try.underlying9, rfl⟩, fun _ h => by cases h⟩
theorem te_37 : TyOk Try.prog 37 ⟨.nils, 1, 24, .sc (.slice 5), none⟩ := ⟨fun _ => by kernel_rfl, ⟨rfl, rfl, fun _ _ => by simp [Wf, Wfs]⟩, ⟨Try.underlying37, rfl⟩, fun _ h => by cases h⟩
theorem te_172 : TyOk Try.prog 172 ⟨.ints .u8 8 (fun _ => 0), 8, 8, .ar 8 5 1 false, some (.ar 8 1 (.it .u8))⟩ := ⟨fun _ => by kernel_rfl, ⟨rfl, rfl, fun _ _ => by simp [Wf, Wfs]⟩, ⟨Try.underlying172, by kernel_rfl, by kernel_rfl⟩, fun _ h => by cases h; exact ⟨by kernel_rfl, by kernel_rfl⟩⟩
abbrev T_word_Get : TE := [(3, ⟨.int .i64 0, 1, 8, .sc (.int .i64), none⟩), (5, ⟨.int .u8 0, 1, 1, .sc (.int .u8), none⟩), (9, ⟨.str .empty, 1, 16, .sc (.string), none⟩), (33, ⟨.int .u64 0, 1, 8, .sc (.int .u64), none⟩), (37, ⟨.nils, 1, 24, .sc (.slice 5), none⟩), (172, ⟨.ints .u8 8 (fun _ => 0), 8, 8, .ar 8 5 1 false, some (.ar 8 1 (.it .u8))⟩)]
theorem T_word_Get_ok : Prg Try.prog T_word_Get := ⟨(.cons te_3 (.cons te_5 (.cons te_9 (.cons te_33 (.cons te_37 (.cons te_172 (TEok.nil _))))))), by kernel_rfl⟩
noncomputable abbrev O_word_Get {α : Type} : ORC α := []
theorem O_word_Get_ok {α : Type} {I : Imm} : OOk (α := α) Try.prog I O_word_Get := OOk.nil
set_option maxHeartbeats 4000000 in
set_option maxRecDepth 100000 in
theorem c_word_Get {α : Type} {I : Imm} : OrcOk (α := α) Try.prog I 130 (.pure getF) := by
  refine orc_pure T_word_Get_ok (O := O_word_Get) O_word_Get_ok (L := []) ⟨9, []⟩ Try.func130 (by kernel_rfl) (by kernel_rfl) (by kernel_rfl) FLOk.nil ?_
  intro args k r hk
  unfold getF at hk
  split at hk <;> try (simp at hk; done)
  rename_i s at_ n
  cases hg : (decide (at_ = 0) && (decide (0 < s.size) && decide ((s.size : Int) ≤ 9223372036854775807))) <;> rw [hg] at hk <;> simp only [cond_true, cond_false] at hk <;> try (simp at hk; done)
  refine ⟨_, hk, by simp [Ids, Idss], by simp [Ids, Idss], ?_⟩
  clear hk
  simp only [Bool.and_eq_true, decide_eq_true_eq] at hg
  obtain ⟨rfl, h0, h1⟩ := hg
  have hc : 0 ≤ pickmx false (pickmx true n 0) 8 ∧ pickmx false (pickmx true n 0) 8 ≤ 8 := c8_bd n
  repeat' ((conv => arg 1; whnf); split)
  all_goals (try (conv => arg 1; whnf))
  all_goals try (exfalso; (try simp only [ltB_true, ltB_false, leB_true, leB_false, decide_eq_true_eq, decide_eq_false_iff_not, Bool.and_eq_true, Bool.and_eq_false_iff, Bool.or_eq_true, Bool.or_eq_false_iff, Bool.not_eq_true', Bool.not_eq_false', bne_iff_ne, ne_eq, bne_eq_false_iff_eq, beq_iff_eq, beq_eq_false_iff_ne, Decidable.not_not, eq_self, decide_true, Bool.true_and, true_and, not_true_eq_false, false_or, Nat.beq_refl, Bool.true_eq_false, Int.toNat_zero, nbeq, and_true, strOf_size] at *) <;> omega)
  all_goals exact ends_int (by kernel_rfl)
def bytesS (v n : Int) : ByteArray := strOf (fun i => IntKind.u8.wrap (gshr .u64 v (8 * (i : Int)))) (c8 n).toNat
def bytesF {α : Type} : FP α := fun args k => match args with
  | [.int .u64 v, .int .i64 n] => k (.str (bytesS v n))
  | _ => none
theorem strOf_congr {f g : Nat → Int} {n : Nat} (h : ∀ i, i < n → f i = g i) : strOf f n = strOf g n := by
  unfold strOf; congr 1; apply List.map_congr_left; intro i hi; exact h i (List.mem_range.1 hi)
abbrev T_word_Bytes : TE := [(3, ⟨.int .i64 0, 1, 8, .sc (.int .i64), none⟩), (5, ⟨.int .u8 0, 1, 1, .sc (.int .u8), none⟩), (9, ⟨.str .empty, 1, 16, .sc (.string), none⟩), (33, ⟨.int .u64 0, 1, 8, .sc (.int .u64), none⟩), (37, ⟨.nils, 1, 24, .sc (.slice 5), none⟩), (172, ⟨.ints .u8 8 (fun _ => 0), 8, 8, .ar 8 5 1 false, some (.ar 8 1 (.it .u8))⟩)]
theorem T_word_Bytes_ok : Prg Try.prog T_word_Bytes := ⟨(.cons te_3 (.cons te_5 (.cons te_9 (.cons te_33 (.cons te_37 (.cons te_172 (TEok.nil _))))))), by kernel_rfl⟩
noncomputable abbrev O_word_Bytes {α : Type} : ORC α := []
theorem O_word_Bytes_ok {α : Type} {I : Imm} : OOk (α := α) Try.prog I O_word_Bytes := OOk.nil
set_option maxHeartbeats 4000000 in
set_option maxRecDepth 100000 in
theorem c_word_Bytes {α : Type} {I : Imm} : OrcOk (α := α) Try.prog I 72 (.pure bytesF) := by
  refine orc_pure T_word_Bytes_ok (O := O_word_Bytes) O_word_Bytes_ok (L := []) ⟨9, []⟩ Try.func72 (by kernel_rfl) (by kernel_rfl) (by kernel_rfl) FLOk.nil ?_
  intro args k r hk
  unfold bytesF at hk
  split at hk <;> try (simp at hk; done)
  rename_i v n
  refine ⟨_, hk, by simp [Ids, Idss], by simp [Ids, Idss], ?_⟩
  clear hk
  have hc : 0 ≤ pickmx false (pickmx true n 0) 8 ∧ pickmx false (pickmx true n 0) 8 ≤ 8 := c8_bd n
  repeat' ((conv => arg 1; whnf); split)
  all_goals (try (conv => arg 1; whnf))
  all_goals try (exfalso; (try simp only [ltB_true, ltB_false, leB_true, leB_false, decide_eq_true_eq, decide_eq_false_iff_not, Bool.and_eq_true, Bool.and_eq_false_iff, Bool.or_eq_true, Bool.or_eq_false_iff, Bool.not_eq_true', Bool.not_eq_false', bne_iff_ne, ne_eq, bne_eq_false_iff_eq, beq_iff_eq, beq_eq_false_iff_ne, Decidable.not_not, eq_self, decide_true, Bool.true_and, true_and, not_true_eq_false, false_or, Nat.beq_refl, Bool.true_eq_false, Int.toNat_zero, nbeq, and_true, strOf_size] at *) <;> omega)
  all_goals clear k r
  refine ends_any (congrArg SV.str (strOf_congr (n := (c8 n).toNat) (fun i hi => ?_)))
  have hi8 : i < 8 := by (have := c8_bd n; omega)
  match i, hi8 with | 0, _ => rfl | 1, _ => rfl | 2, _ => rfl | 3, _ => rfl | 4, _ => rfl | 5, _ => rfl | 6, _ => rfl | 7, _ => rfl
def checkS (at_ n : Int) : Int := if (n ≠ 1 ∧ n ≠ 2 ∧ n ≠ 4 ∧ n ≠ 8) ∨ at_ % n ≠ 0 then 61 else if 32768 ≤ at_ then 60 else 0
def checkF {α : Type} : FP α := fun args k => match args with
  | [.int .u64 at_, .int .i64 n] => cond (decide (0 ≤ at_)) (k (.int .i64 (checkS at_ n))) none
  | _ => none
abbrev T_mem_check : TE := [(3, ⟨.int .i64 0, 1, 8, .sc (.int .i64), none⟩), (33, ⟨.int .u64 0, 1, 8, .sc (.int .u64), none⟩)]
theorem T_mem_check_ok : Prg Try.prog T_mem_check := ⟨(.cons te_3 (.cons te_33 (TEok.nil _))), by kernel_rfl⟩
noncomputable abbrev O_mem_check {α : Type} : ORC α := []
theorem O_mem_check_ok {α : Type} {I : Imm} : OOk (α := α) Try.prog I O_mem_check := OOk.nil
set_option maxHeartbeats 4000000 in
set_option maxRecDepth 100000 in
theorem c_mem_check {α : Type} {I : Imm} : OrcOk (α := α) Try.prog I 71 (.pure checkF) := by
  refine orc_pure T_mem_check_ok (O := O_mem_check) O_mem_check_ok (L := []) ⟨1, []⟩ Try.func71 (by kernel_rfl) (by kernel_rfl) (by kernel_rfl) FLOk.nil ?_
  intro args k r hk
  unfold checkF at hk
  split at hk <;> try (simp at hk; done)
  rename_i at_ n
  cases hg : decide (0 ≤ at_) <;> rw [hg] at hk <;> simp only [cond_true, cond_false] at hk <;> try (simp at hk; done)
  refine ⟨_, hk, by simp [Ids, Idss], by simp [Ids, Idss], ?_⟩
  clear hk
  simp only [decide_eq_true_eq] at hg
  repeat' ((conv => arg 1; whnf); split)
  all_goals (try (conv => arg 1; whnf))
  all_goals simp only [ltB_true, ltB_false, leB_true, leB_false, decide_eq_true_eq, decide_eq_false_iff_not, bne_iff_ne, ne_eq, bne_eq_false_iff_eq] at *
  all_goals try subst_vars
  all_goals try simp only [u64w_1, u64w_2, u64w_4, u64w_8, Int.tmod_eq_emod_of_nonneg hg] at *
  all_goals first | (exfalso; omega) | (refine ends_int ?_; unfold checkS; (repeat' split) <;> omega)
theorem checkS_zero {at_ n : Int} (hc : checkS at_ n = 0) : (n = 1 ∨ n = 2 ∨ n = 4 ∨ n = 8) ∧ at_ % n = 0 ∧ at_ < 32768 := by
  unfold checkS at hc
  split at hc
  · simp at hc
  · split at hc
    · simp at hc
    · omega
theorem check_facts {at_ n : Int} (h0 : 0 ≤ at_) (hc : checkS at_ n = 0) : 1 ≤ n ∧ n ≤ 8 ∧ at_ + n ≤ 32768 ∧ IntKind.u64.wrap n = n ∧ IntKind.u64.wrap (at_ + IntKind.u64.wrap n) = at_ + n := by
  obtain ⟨h1, h2, h3⟩ := checkS_zero hc
  have h4 : 1 ≤ n ∧ n ≤ 8 ∧ at_ + n ≤ 32768 := by rcases h1 with rfl | rfl | rfl | rfl <;> omega
  have e : IntKind.u64.wrap n = n := wrap_u64 (by omega) (by omega)
  exact ⟨h4.1, h4.2.1, h4.2.2, e, by rw [e]; exact wrap_u64 (by omega) (by omega)⟩
/-- What is read. -/
def readS (f : Nat → Int) (at_ n : Int) : Int := if checkS at_ n = 0 then getS (strOf (fun i => f (at_.toNat + i)) n.toNat) n else 0
def readF {α : Type} : FF α := fun args σ k => match args with
  | [p, .int .u64 at_, .int .i64 n] => withMem σ p fun _ _ _ _ f => cond (decide (0 ≤ at_)) (k (.tuple [.int .u64 (readS f at_ n), .int .i64 (checkS at_ n)]) σ) none
  | _ => none
theorem te_29 : TyOk Try.prog 29 ⟨.int .i64 0, 1, 8, .sc (.int .i64), none⟩ := ⟨fun _ => by kernel_rfl, ⟨rfl, rfl, fun _ _ => by simp [Wf, Wfs]⟩, ⟨Try.underlying29, rfl⟩, fun _ h => by cases h⟩
theorem te_102 : TyOk Try.prog 102 ⟨.agg [.nils], 1, 24, .st [(0, 1, false)], none⟩ := ⟨fun _ => by kernel_rfl, ⟨rfl, rfl, fun _ _ => by simp [Wf, Wfs]⟩, ⟨_, Try.underlying102, by kernel_rfl⟩, fun _ h => by cases h⟩
abbrev T_mem_Memory_Read : TE := [(3, ⟨.int .i64 0, 1, 8, .sc (.int .i64), none⟩), (5, ⟨.int .u8 0, 1, 1, .sc (.int .u8), none⟩), (9, ⟨.str .empty, 1, 16, .sc (.string), none⟩), (29, ⟨.int .i64 0, 1, 8, .sc (.int .i64), none⟩), (33, ⟨.int .u64 0, 1, 8, .sc (.int .u64), none⟩), (37, ⟨.nils, 1, 24, .sc (.slice 5), none⟩), (102, ⟨.agg [.nils], 1, 24, .st [(0, 1, false)], none⟩)]
theorem T_mem_Memory_Read_ok : Prg Try.prog T_mem_Memory_Read := ⟨(.cons te_3 (.cons te_5 (.cons te_9 (.cons te_29 (.cons te_33 (.cons te_37 (.cons te_102 (TEok.nil _)))))))), by kernel_rfl⟩
noncomputable abbrev O_mem_Memory_Read {α : Type} : ORC α := [(71, .pure checkF), (130, .pure getF)]
theorem O_mem_Memory_Read_ok {α : Type} {I : Imm} : OOk (α := α) Try.prog I O_mem_Memory_Read := OOk.cons c_mem_check (OOk.cons c_word_Get (OOk.nil))
set_option maxHeartbeats 4000000 in
set_option maxRecDepth 100000 in
theorem c_mem_Memory_Read {α : Type} {I : Imm} : OrcOk (α := α) Try.prog I 124 (.full readF) := by
  refine orc_canon T_mem_Memory_Read_ok (O := O_mem_Memory_Read) O_mem_Memory_Read_ok (L := []) ⟨1, []⟩ Try.func124 (by kernel_rfl) (by kernel_rfl) (by kernel_rfl) FLOk.nil ?_
  intro args σ k r hk
  unfold readF at hk
  split at hk <;> try (simp at hk; done)
  rename_i p at_ n
  obtain ⟨b, b1, g0, g1, f, rfl, h0, h1, hne, hk'⟩ := withMem_spec hk
  clear hk; have hk := hk'; clear hk'
  cases hg0 : decide (0 ≤ at_) <;> rw [hg0] at hk <;> simp only [cond_true, cond_false] at hk <;> try (simp at hk; done)
  refine ⟨[b, b1], [memO 1 g0, byO g1 f], [.ptr 0 [], .int .u64 at_, .int .i64 n], lay_mk rfl (nodup2 hne) rfl ⟨h0, h1, trivial⟩ (by simp [AllL, Ids, Idss]) (by simp [AllL, OIds, Ids, Idss]), ?_⟩
  simp only [decide_eq_true_eq] at hg0
  refine ends_keep (v := .tuple [.int .u64 (readS f at_ n), .int .i64 (checkS at_ n)]) (bl := []) ?_ (by simp [Ids, Idss]) trivial hk
  clear hk
  by_cases hc : checkS at_ n = 0
  · obtain ⟨q1, q2, q3, q4, q5⟩ := check_facts hg0 hc
    repeat' ((conv => arg 1; whnf); split <;> try (exfalso; (try simp only [ltB_true, ltB_false, leB_true, leB_false, decide_eq_true_eq, decide_eq_false_iff_not, Bool.and_eq_true, Bool.and_eq_false_iff, Bool.or_eq_true, Bool.or_eq_false_iff, Bool.not_eq_true', Bool.not_eq_false', bne_iff_ne, ne_eq, bne_eq_false_iff_eq, beq_iff_eq, beq_eq_false_iff_ne, Decidable.not_not, eq_self, decide_true, Bool.true_and, true_and, not_true_eq_false, false_or, Nat.beq_refl, Bool.true_eq_false, Int.toNat_zero, nbeq, and_true, strOf_size] at *) <;> omega))
    all_goals (try (conv => arg 1; whnf))
    refine ⟨_, _, rfl, ?_, trivial, .inr rfl, .inr rfl, trivial⟩
    have e : (IntKind.u64.wrap (at_ + IntKind.u64.wrap n)).toNat - at_.toNat = n.toNat := by rw [q5]; omega
    simp only [readS, hc, if_true, e, Nat.zero_add]
  · repeat' ((conv => arg 1; whnf); split <;> try (exfalso; (try simp only [ltB_true, ltB_false, leB_true, leB_false, decide_eq_true_eq, decide_eq_false_iff_not, Bool.and_eq_true, Bool.and_eq_false_iff, Bool.or_eq_true, Bool.or_eq_false_iff, Bool.not_eq_true', Bool.not_eq_false', bne_iff_ne, ne_eq, bne_eq_false_iff_eq, beq_iff_eq, beq_eq_false_iff_ne, Decidable.not_not, eq_self, decide_true, Bool.true_and, true_and, not_true_eq_false, false_or, Nat.beq_refl, Bool.true_eq_false, Int.toNat_zero, nbeq, and_true, strOf_size] at *) <;> omega))
    all_goals (try (conv => arg 1; whnf))
    exact ⟨_, _, rfl, by simp [readS, hc], trivial, .inr rfl, .inr rfl, trivial⟩
/-- What is written: the bytes behind it. -/
def writeS (f : Nat → Int) (at_ n v : Int) : Nat → Int := if checkS at_ n = 0 then cpy f (bytesAt (bytesS v n)) at_.toNat n.toNat else f
def writeF {α : Type} : FF α := fun args σ k => match args with
  | [p, .int .u64 at_, .int .i64 n, .int .u64 v] => withMem σ p fun b b1 g0 g1 f => cond (decide (0 ≤ at_)) (k (.int .i64 (checkS at_ n)) ⟨σ.next, [(b1, byO g1 (writeS f at_ n v))] ++ σ.blocks⟩) none
  | _ => none
theorem bytesS_size (v n : Int) : (bytesS v n).size = (c8 n).toNat := strOf_size _ _
theorem c8_same {n : Int} (h0 : 1 ≤ n) (h1 : n ≤ 8) : c8 n = n := by rw [c8_eq, if_neg (by omega), if_neg (by omega)]
abbrev T_mem_Memory_Write : TE := [(5, ⟨.int .u8 0, 1, 1, .sc (.int .u8), none⟩), (9, ⟨.str .empty, 1, 16, .sc (.string), none⟩), (29, ⟨.int .i64 0, 1, 8, .sc (.int .i64), none⟩), (37, ⟨.nils, 1, 24, .sc (.slice 5), none⟩), (102, ⟨.agg [.nils], 1, 24, .st [(0, 1, false)], none⟩)]
theorem T_mem_Memory_Write_ok : Prg Try.prog T_mem_Memory_Write := ⟨(.cons te_5 (.cons te_9 (.cons te_29 (.cons te_37 (.cons te_102 (TEok.nil _)))))), by kernel_rfl⟩
noncomputable abbrev O_mem_Memory_Write {α : Type} : ORC α := [(71, .pure checkF), (72, .pure bytesF)]
theorem O_mem_Memory_Write_ok {α : Type} {I : Imm} : OOk (α := α) Try.prog I O_mem_Memory_Write := OOk.cons c_mem_check (OOk.cons c_word_Bytes (OOk.nil))
set_option maxHeartbeats 4000000 in
set_option maxRecDepth 100000 in
theorem c_mem_Memory_Write {α : Type} {I : Imm} : OrcOk (α := α) Try.prog I 31 (.full writeF) := by
  refine orc_canon T_mem_Memory_Write_ok (O := O_mem_Memory_Write) O_mem_Memory_Write_ok (L := []) ⟨1, []⟩ Try.func31 (by kernel_rfl) (by kernel_rfl) (by kernel_rfl) FLOk.nil ?_
  intro args σ k r hk
  unfold writeF at hk
  split at hk <;> try (simp at hk; done)
  rename_i p at_ n v
  obtain ⟨b, b1, g0, g1, f, rfl, h0, h1, hne, hk'⟩ := withMem_spec hk
  clear hk; have hk := hk'; clear hk'
  cases hg0 : decide (0 ≤ at_) <;> rw [hg0] at hk <;> simp only [cond_true, cond_false] at hk <;> try (simp at hk; done)
  refine ⟨[b, b1], [memO 1 g0, byO g1 f], [.ptr 0 [], .int .u64 at_, .int .i64 n, .int .u64 v], lay_mk rfl (nodup2 hne) rfl ⟨h0, h1, trivial⟩ (by simp [AllL, Ids, Idss]) (by simp [AllL, OIds, Ids, Idss]), ?_⟩
  simp only [decide_eq_true_eq] at hg0
  refine ends_keep (v := .int .i64 (checkS at_ n)) (bl := [(1, byO g1 (writeS f at_ n v))]) ?_ (by simp [Ids, Idss]) (by simp [AllL, OIds, Ids]) hk
  clear hk
  by_cases hc : checkS at_ n = 0
  · obtain ⟨q1, q2, q3, q4, q5⟩ := check_facts hg0 hc
    repeat' ((conv => arg 1; whnf); split <;> try (exfalso; (try simp only [ltB_true, ltB_false, leB_true, leB_false, decide_eq_true_eq, decide_eq_false_iff_not, Bool.and_eq_true, Bool.and_eq_false_iff, Bool.or_eq_true, Bool.or_eq_false_iff, Bool.not_eq_true', Bool.not_eq_false', bne_iff_ne, ne_eq, bne_eq_false_iff_eq, beq_iff_eq, beq_eq_false_iff_ne, Decidable.not_not, eq_self, decide_true, Bool.true_and, true_and, not_true_eq_false, false_or, Nat.beq_refl, Bool.true_eq_false, Int.toNat_zero, nbeq, and_true, strOf_size] at *) <;> omega))
    all_goals (try (conv => arg 1; whnf))
    refine ⟨_, _, rfl, ?_, ⟨?_, trivial⟩, .inr rfl, .inl rfl, trivial⟩
    · rw [hc]
    · refine congrArg some (congrArg (SObj.cells g1) (congrArg (SV.ints .u8 32768) ?_))
      have e : Nat.min (bytesS v n).size ((32768 : Int).toNat - at_.toNat) = n.toNat := by
        rw [bytesS_size, c8_same q1 q2]
        exact Nat.min_eq_left (by omega)
      simp only [writeS, hc, if_true]
      rw [← e, Nat.zero_add]
      rfl
  · repeat' ((conv => arg 1; whnf); split <;> try (exfalso; (try simp only [ltB_true, ltB_false, leB_true, leB_false, decide_eq_true_eq, decide_eq_false_iff_not, Bool.and_eq_true, Bool.and_eq_false_iff, Bool.or_eq_true, Bool.or_eq_false_iff, Bool.not_eq_true', Bool.not_eq_false', bne_iff_ne, ne_eq, bne_eq_false_iff_eq, beq_iff_eq, beq_eq_false_iff_ne, Decidable.not_not, eq_self, decide_true, Bool.true_and, true_and, not_true_eq_false, false_or, Nat.beq_refl, Bool.true_eq_false, Int.toNat_zero, nbeq, and_true, strOf_size] at *) <;> omega))
    all_goals (try (conv => arg 1; whnf))
    refine ⟨_, _, rfl, rfl, ⟨?_, trivial⟩, .inr rfl, .inl rfl, trivial⟩
    simp only [writeS, hc, if_false]
    rfl
/-- A new memory. -/
def newF {α : Type} : FF α := fun args σ k => match args with
  | [] => k (.ptr (σ.next + 1) []) ⟨σ.next + 2, [(σ.next + 1, memO σ.next none), (σ.next, byO none fun _ => 0)] ++ σ.blocks⟩
  | _ => none
abbrev T_mem_New : TE := [(5, ⟨.int .u8 0, 1, 1, .sc (.int .u8), none⟩), (37, ⟨.nils, 1, 24, .sc (.slice 5), none⟩), (102, ⟨.agg [.nils], 1, 24, .st [(0, 1, false)], none⟩)]
theorem T_mem_New_ok : Prg Try.prog T_mem_New := ⟨(.cons te_5 (.cons te_37 (.cons te_102 (TEok.nil _)))), by kernel_rfl⟩
noncomputable abbrev O_mem_New {α : Type} : ORC α := []
theorem O_mem_New_ok {α : Type} {I : Imm} : OOk (α := α) Try.prog I O_mem_New := OOk.nil
set_option maxHeartbeats 4000000 in
set_option maxRecDepth 100000 in
theorem c_mem_New {α : Type} {I : Imm} : OrcOk (α := α) Try.prog I 20 (.full newF) := by
  refine orc_canon T_mem_New_ok (O := O_mem_New) O_mem_New_ok (L := []) ⟨1, []⟩ Try.func20 (by kernel_rfl) (by kernel_rfl) (by kernel_rfl) FLOk.nil ?_
  intro args σ k r hk
  unfold newF at hk
  split at hk <;> try (simp at hk; done)
  refine ⟨[], [], [], lay_mk rfl (by simp) rfl trivial trivial trivial, ?_⟩
  refine ends_new (v := .ptr 1 []) (nw := [0, 1]) (bl := [(1, memO 0 none), (0, byO none fun _ => 0)]) ?_ (by simp) (by simp [Ids]) (by simp [AllL, OIds, Ids, Idss]) hk
  conv => arg 1; whnf
  exact ⟨_, _, rfl, rfl, ⟨⟨Nat.zero_le _, by decide⟩, ⟨Nat.zero_le _, by decide⟩, trivial⟩, ⟨rfl, rfl, trivial⟩, trivial⟩
theorem te_168 : TyOk Try.prog 168 ⟨.agg [.nils], 1, 24, .st [(0, 1, false)], none⟩ := ⟨fun _ => by kernel_rfl, ⟨rfl, rfl, fun _ _ => by simp [Wf, Wfs]⟩, ⟨_, Try.underlying168, by kernel_rfl⟩, fun _ h => by cases h⟩
abbrev T_sallyportref1_New : TE := [(5, ⟨.int .u8 0, 1, 1, .sc (.int .u8), none⟩), (37, ⟨.nils, 1, 24, .sc (.slice 5), none⟩), (168, ⟨.agg [.nils], 1, 24, .st [(0, 1, false)], none⟩)]
theorem T_sallyportref1_New_ok : Prg Try.prog T_sallyportref1_New := ⟨(.cons te_5 (.cons te_37 (.cons te_168 (TEok.nil _)))), by kernel_rfl⟩
noncomputable abbrev O_sallyportref1_New {α : Type} : ORC α := []
theorem O_sallyportref1_New_ok {α : Type} {I : Imm} : OOk (α := α) Try.prog I O_sallyportref1_New := OOk.nil
set_option maxHeartbeats 4000000 in
set_option maxRecDepth 100000 in
theorem c_sallyportref1_New {α : Type} {I : Imm} : OrcOk (α := α) Try.prog I 57 (.full newF) := by
  refine orc_canon T_sallyportref1_New_ok (O := O_sallyportref1_New) O_sallyportref1_New_ok (L := []) ⟨1, []⟩ Try.func57 (by kernel_rfl) (by kernel_rfl) (by kernel_rfl) FLOk.nil ?_
  intro args σ k r hk
  unfold newF at hk
  split at hk <;> try (simp at hk; done)
  refine ⟨[], [], [], lay_mk rfl (by simp) rfl trivial trivial trivial, ?_⟩
  refine ends_new (v := .ptr 1 []) (nw := [0, 1]) (bl := [(1, memO 0 none), (0, byO none fun _ => 0)]) ?_ (by simp) (by simp [Ids]) (by simp [AllL, OIds, Ids, Idss]) hk
  conv => arg 1; whnf
  exact ⟨_, _, rfl, rfl, ⟨⟨Nat.zero_le _, by decide⟩, ⟨Nat.zero_le _, by decide⟩, trivial⟩, ⟨rfl, rfl, trivial⟩, trivial⟩
end Go.Proofs.Ytigomjcmpafeeaa
