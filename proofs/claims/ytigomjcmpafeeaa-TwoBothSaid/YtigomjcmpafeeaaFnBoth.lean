/-
  Contracts: Both.
-/
import Derived.Test.YtigomjcmpafeeaaFnOwn
import Derived.Test.YtigomjcmpafeeaaSpBoth
set_option linter.unusedSimpArgs false
set_option linter.unusedVariables false
namespace Go.Proofs.Ytigomjcmpafeeaa
open Go Go.Sh Go.Proofs
set_option linter.unusedSimpArgs false
abbrev T_sallyportlaw12_TwoBoth : TE := [(3, ⟨.int .i64 0, 1, 8, .sc (.int .i64), none⟩), (5, ⟨.int .u8 0, 1, 1, .sc (.int .u8), none⟩), (33, ⟨.int .u64 0, 1, 8, .sc (.int .u64), none⟩), (40, ⟨.ints .u64 29 (fun _ => 0), 29, 232, .ar 29 33 1 false, some (.ar 29 1 (.it .u64))⟩), (42, ⟨.agg [.ints .u64 32 (fun _ => 0), .int .u64 0, .int .i64 0, .bool false, .ints .u64 29 (fun _ => 0), .int .u64 0], 65, 520, .st [(0, 32, true), (32, 1, false), (33, 1, false), (34, 1, false), (35, 29, true), (64, 1, false)], some (.st [(0, 32, true, .ar 32 1 (.it .u64)), (32, 1, false, .it .u64), (33, 1, false, .it .i64), (34, 1, false, .bl), (35, 29, true, .ar 29 1 (.it .u64)), (64, 1, false, .it .u64)])⟩), (44, ⟨.agg [.bool false, .bool false, .int .i64 0, .int .i64 0, .int .i64 0, .int .i64 0, .int .i64 0, .int .i64 0, .int .i64 0], 9, 64, .st [(0, 1, false), (1, 1, false), (2, 1, false), (3, 1, false), (4, 1, false), (5, 1, false), (6, 1, false), (7, 1, false), (8, 1, false)], some (.st [(0, 1, false, .bl), (1, 1, false, .bl), (2, 1, false, .it .i64), (3, 1, false, .it .i64), (4, 1, false, .it .i64), (5, 1, false, .it .i64), (6, 1, false, .it .i64), (7, 1, false, .it .i64), (8, 1, false, .it .i64)])⟩), (46, ⟨.agg [.int .u64 0, .int .u64 0, .int .u64 0, .bool false], 4, 32, .st [(0, 1, false), (1, 1, false), (2, 1, false), (3, 1, false)], some (.st [(0, 1, false, .it .u64), (1, 1, false, .it .u64), (2, 1, false, .it .u64), (3, 1, false, .bl)])⟩)]
theorem T_sallyportlaw12_TwoBoth_ok : Prg Try.prog T_sallyportlaw12_TwoBoth := ⟨(.cons te_3 (.cons te_5 (.cons te_33 (.cons te_40 (.cons te_42 (.cons te_44 (.cons te_46 (TEok.nil _)))))))), by kernel_rfl⟩
noncomputable abbrev O_sallyportlaw12_TwoBoth {α : Type} : ORC α := [(18, .pure trueF), (20, .full newF), (32, .pure rmakeF), (31, .full writeF), (19, .full transF)]
theorem O_sallyportlaw12_TwoBoth_ok {α : Type} {I : Imm} : OOk (α := α) Try.prog I O_sallyportlaw12_TwoBoth := OOk.cons c_sallyportlaw12_known (OOk.cons c_mem_New (OOk.cons c_sallyportref11_Make (OOk.cons c_mem_Memory_Write (OOk.cons c_two_Translate (OOk.nil)))))
set_option maxHeartbeats 4000000 in
set_option maxRecDepth 100000 in
theorem l_both {α : Type} {I : Imm} {n : Nat} (hn : n = 16) : SoundC Try.prog I Try.f8.ntmps (.loop (loopNo Try.f8 0)) (bothL (α := α) n) := by
  subst hn
  refine loop_of (A := seval T_sallyportlaw12_TwoBoth O_sallyportlaw12_TwoBoth [] Try.f8.ntmps ⟨1, []⟩ (loopNo Try.f8 0)) (seval_spec T_sallyportlaw12_TwoBoth_ok.te T_sallyportlaw12_TwoBoth_ok.mix O_sallyportlaw12_TwoBoth_ok (loopNo Try.f8 0) (by kernel_rfl) LOk.nil) [15, 13, 14, 11, 12, 3, 4] [0, 1] ?_
  intro env σ k r hk
  unfold bothL at hk
  split at hk <;> try (simp at hk; done)
  rename_i i g h p v1 v2 v3 h15 h13 h14 h11 h12 h3 h4
  obtain ⟨b, b1, g0, g1, M, rfl, hm0, hm1, hne, hk'⟩ := withMem_spec hk
  clear hk
  obtain ⟨hc, hk⟩ := bif_some hk'
  simp only [Bool.and_eq_true, beq_iff_eq, Nat.beq_eq] at hc
  obtain ⟨rfl, rfl, rfl⟩ := hc
  have key := loops_count (B := lround [15, 13, 14, 11, 12, 3, 4] [0, 1] (seval T_sallyportlaw12_TwoBoth O_sallyportlaw12_TwoBoth [] Try.f8.ntmps ⟨1, []⟩ (loopNo Try.f8 0))) (n := 16)
    (Inv := fun j e s => getE e 15 = some (.int .i64 j) ∧ getE e 13 = some (.int .i64 g) ∧ getE e 14 = some (.int .i64 h) ∧ getE e 11 = some (.ptr 1 []) ∧ getE e 12 = some v1 ∧ getE e 3 = some v2 ∧ getE e 4 = some v3 ∧ s.get 0 = some (byO g1 (putsM M (bothE g h) j)) ∧ s.get 1 = some (memO 0 g0) ∧ s.next = σ.next ∧ ∀ b o, Nat.beq 0 b = false → σ.get b = some o → s.get b = some o)
    (Q := fun x e s => x = .exit 0 ∧ getE e 15 = some (.int .i64 16) ∧ getE e 13 = some (.int .i64 g) ∧ getE e 14 = some (.int .i64 h) ∧ getE e 11 = some (.ptr 1 []) ∧ getE e 12 = some v1 ∧ getE e 3 = some v2 ∧ getE e 4 = some v3 ∧ s.get 0 = some (byO g1 (putsM M (bothE g h) 16)) ∧ s.get 1 = some (memO 0 g0) ∧ s.next = σ.next ∧ ∀ b o, Nat.beq 0 b = false → σ.get b = some o → s.get b = some o) ?_ ?_ 16 0 env σ (by omega) ⟨h15, h13, h14, h11, h12, h3, h4, hm1, hm0, rfl, fun _ _ _ h => h⟩
  · obtain ⟨x, env1, σ1, hL, hx, q15, q13, q14, q11, q12, q3, q4, s0, s1, sn, so⟩ := key
    have hk2 := hk
    rw [← hx] at hk2
    refine ⟨x, env1, σ1, _, _, hL, ?_, hk2⟩
    exact less_mk ⟨q15, q13, q14, q11, q12, q3, q4, trivial⟩ sn ⟨s0, trivial⟩ (fun b o hb hbo => so b o (inK_one hb) hbo) ⟨⟨_, hm1⟩, trivial⟩
  · intro j e s hj hI
    obtain ⟨q15, q13, q14, q11, q12, q3, q4, s0, s1, sn, so⟩ := hI
    have e1 : restr [15, 13, 14, 11, 12, 3, 4] e = [(15, .int .i64 j), (13, .int .i64 g), (14, .int .i64 h), (11, .ptr 1 []), (12, v1), (3, v2), (4, v3)] := by simp only [restr, q15, q13, q14, q11, q12, q3, q4]
    obtain ⟨nx, bl⟩ := s
    have e2 : keepH [0, 1] ⟨nx, bl⟩ = ⟨nx, (0, byO g1 (putsM M (bothE g h) j)) :: (1, memO 0 g0) :: bl⟩ := by simp only [keepH, keepB, s0, s1]; rfl
    have hw1 : IntKind.i64.wrap (8 * (j : Int)) = 8 * (j : Int) := wrap_i64 (by omega) (by omega)
    have hw2 : IntKind.i64.wrap (512 + 8 * (j : Int)) = 512 + 8 * (j : Int) := wrap_i64 (by omega) (by omega)
    have hw3 : IntKind.u64.wrap (512 + 8 * (j : Int)) = 512 + 8 * (j : Int) := wrap_u64 (by omega) (by omega)
    have hw4 : IntKind.u64.wrap (IntKind.i64.wrap (512 + IntKind.i64.wrap (8 * (j : Int)))) = 512 + 8 * (j : Int) := by rw [hw1, hw2, hw3]
    have hw5 : IntKind.i64.wrap ((j : Int) + 1) = ((j + 1 : Nat) : Int) := by rw [wrap_i64 (by omega) (by omega)]; omega
    have hw6 : IntKind.i64.wrap (32 + (j : Int)) = 32 + (j : Int) := wrap_i64 (by omega) (by omega)
    unfold lround
    rw [e1, e2]
    repeat' ((conv => arg 1; whnf); split <;> try (exfalso; (try simp only [ltB_true, ltB_false, leB_true, leB_false, decide_eq_true_eq, decide_eq_false_iff_not, Bool.and_eq_true, Bool.and_eq_false_iff, Bool.or_eq_true, Bool.or_eq_false_iff, Bool.not_eq_true', Bool.not_eq_false', bne_iff_ne, ne_eq, bne_eq_false_iff_eq, beq_iff_eq, beq_eq_false_iff_ne, Decidable.not_not, eq_self, decide_true, Bool.true_and, true_and, not_true_eq_false, false_or, Nat.beq_refl, Bool.true_eq_false, Int.toNat_zero, nbeq, and_true, strOf_size] at *) <;> omega))
    all_goals (try (conv => arg 1; whnf))
    
    all_goals refine ⟨_, _, _, rfl, rfl, ?_, rfl, rfl, rfl, rfl, rfl, rfl, ?_, rfl, sn, fun b o hb hbo => ?_⟩
    all_goals first
      | exact congrArg some (congrArg (SV.int .i64) hw5)
      | (refine congrArg some (congrArg (SObj.cells g1) (congrArg (SV.ints .u8 32768) ?_))
         show writeS _ _ _ _ = putsM M (bothE g h) (j + 1)
         rw [hw4]
         show writeS _ _ _ _ = writeS _ _ _ (bothE g h j)
         unfold bothE
         try rw [hw6]
         simp only [*, Bool.and_true, Bool.and_false, Bool.true_and, Bool.false_and, cond_true, cond_false]
         done)
      | (have h5 := so b o hb hbo
         rw [← keepH_get [0, 1], e2] at h5
         refine Eq.trans ?_ h5
         change (bif Nat.beq 0 b then _ else _) = _
         rw [hb]
         rfl)
  · intro e s hI
    obtain ⟨q15, q13, q14, q11, q12, q3, q4, s0, s1, sn, so⟩ := hI
    have e1 : restr [15, 13, 14, 11, 12, 3, 4] e = [(15, .int .i64 (16 : Nat)), (13, .int .i64 g), (14, .int .i64 h), (11, .ptr 1 []), (12, v1), (3, v2), (4, v3)] := by simp only [restr, q15, q13, q14, q11, q12, q3, q4]
    obtain ⟨nx, bl⟩ := s
    have e2 : keepH [0, 1] ⟨nx, bl⟩ = ⟨nx, (0, byO g1 (putsM M (bothE g h) 16)) :: (1, memO 0 g0) :: bl⟩ := by simp only [keepH, keepB, s0, s1]; rfl
    unfold lround
    rw [e1, e2]
    repeat' ((conv => arg 1; whnf); split <;> try (exfalso; (try simp only [ltB_true, ltB_false, leB_true, leB_false, decide_eq_true_eq, decide_eq_false_iff_not, Bool.and_eq_true, Bool.and_eq_false_iff, Bool.or_eq_true, Bool.or_eq_false_iff, Bool.not_eq_true', Bool.not_eq_false', bne_iff_ne, ne_eq, bne_eq_false_iff_eq, beq_iff_eq, beq_eq_false_iff_ne, Decidable.not_not, eq_self, decide_true, Bool.true_and, true_and, not_true_eq_false, false_or, Nat.beq_refl, Bool.true_eq_false, Int.toNat_zero, nbeq, and_true, strOf_size] at *) <;> omega))
    all_goals (try (conv => arg 1; whnf))
    
    refine ⟨_, _, _, rfl, by simp, rfl, rfl, rfl, rfl, rfl, rfl, rfl, rfl, rfl, rfl, sn, fun b o hb hbo => ?_⟩
    have h5 := so b o hb hbo
    rw [← keepH_get [0, 1], e2] at h5
    exact h5
set_option maxHeartbeats 4000000 in
set_option maxRecDepth 100000 in
theorem c_sallyportlaw12_TwoBoth {α : Type} {I : Imm} : OrcOk (α := α) Try.prog I 8 (.pure twoBothF) := by
  obtain ⟨n, hn⟩ : ∃ n : Nat, n = 16 := ⟨16, rfl⟩
  refine orc_pure T_sallyportlaw12_TwoBoth_ok (O := O_sallyportlaw12_TwoBoth) O_sallyportlaw12_TwoBoth_ok (L := [(7, bothL n)]) ⟨1, []⟩ Try.func8 (by kernel_rfl) (by kernel_rfl) (by kernel_rfl) (flok_one (by kernel_rfl) (by kernel_rfl) (l_both hn)) ?_
  intro args k r hk
  unfold twoBothF at hk
  split at hk <;> try (simp at hk; done)
  rename_i page guest host at_ kind
  split at hk <;> try (simp at hk; done)
  rename_i hg
  obtain ⟨p0, g0, h0, ⟨a0, a1⟩, k0⟩ := hg
  refine ⟨_, hk, by simp [Ids, Idss], by simp [Ids, Idss], ?_⟩
  clear hk
  have hP : IntKind.i64.wrap (page.tmod 16) = page % 16 := by rw [Int.tmod_eq_emod_of_nonneg p0]; exact wrap_i64 (by omega) (by omega)
  have hG : IntKind.i64.wrap (guest.tmod 16) = guest % 16 := by rw [Int.tmod_eq_emod_of_nonneg g0]; exact wrap_i64 (by omega) (by omega)
  have hH : IntKind.i64.wrap (host.tmod 128) = host % 128 := by rw [Int.tmod_eq_emod_of_nonneg h0]; exact wrap_i64 (by omega) (by omega)
  have hK : IntKind.i64.wrap (kind.tmod 3) = kind % 3 := by rw [Int.tmod_eq_emod_of_nonneg k0]; exact wrap_i64 (by omega) (by omega)
  have hW : IntKind.u64.wrap at_ = at_ := wrap_u64 (by omega) (by omega)
  have hA : IntKind.u64.wrap (IntKind.u64.wrap (IntKind.i64.wrap (page % 16 * 256)) + at_) = page % 16 * 256 + at_ := by
    rw [wrap_i64 (by omega) (by omega), wrap_u64 (n := page % 16 * 256) (by omega) (by omega)]; exact wrap_u64 (by omega) (by omega)
  have hB : IntKind.u64.wrap (IntKind.u64.wrap (IntKind.i64.wrap (host % 128 * 256)) + at_) = host % 128 * 256 + at_ := by
    rw [wrap_i64 (by omega) (by omega), wrap_u64 (n := host % 128 * 256) (by omega) (by omega)]; exact wrap_u64 (by omega) (by omega)
  have hC : IntKind.u64.wrap (IntKind.i64.wrap (8448 + IntKind.i64.wrap (8 * (page % 16)))) = 8448 + 8 * (page % 16) := by
    rw [wrap_i64 (n := 8 * (page % 16)) (by omega) (by omega), wrap_i64 (by omega) (by omega)]; exact wrap_u64 (by omega) (by omega)
  have hX : bitop .xor .u64 (page % 16 * 256 + at_) 32768 = page % 16 * 256 + at_ + 32768 := xor_mark (by omega) (by omega)
  have hu : ((1 : Int) == 0) = false := rfl
  by_cases hg2 : guest % 16 < 2
  case pos =>
    repeat' ((conv => arg 1; whnf); split <;> try (exfalso; (try simp only [ltB_true, ltB_false, leB_true, leB_false, decide_eq_true_eq, decide_eq_false_iff_not, Bool.and_eq_true, Bool.and_eq_false_iff, Bool.or_eq_true, Bool.or_eq_false_iff, Bool.not_eq_true', Bool.not_eq_false', bne_iff_ne, ne_eq, bne_eq_false_iff_eq, beq_iff_eq, beq_eq_false_iff_ne, Decidable.not_not, eq_self, decide_true, Bool.true_and, true_and, not_true_eq_false, false_or, Nat.beq_refl, Bool.true_eq_false, Int.toNat_zero, nbeq, and_true, strOf_size] at *) <;> omega))
    all_goals (try (conv => arg 1; whnf))
    
    all_goals clear k r
    all_goals subst hn
    all_goals simp only [both_ask, hP, hG, hH, hK, hW, hA, hB, hC, hX] at *
    all_goals first | exact ends_bool rfl | (exfalso; simp [leB, ltB, emp, pageS] at *; done) | (exfalso; simp [leB, ltB, emp, pageS] at *; omega) | (refine ends_bool ?_; simp only [pageS, beq_self_eq_true]; done)
  case neg =>
    clear k r hP hA hC hX
    ((conv => arg 1; whnf); split <;> try (exfalso; (try simp only [ltB_true, ltB_false, leB_true, leB_false, decide_eq_true_eq, decide_eq_false_iff_not, Bool.and_eq_true, Bool.and_eq_false_iff, Bool.or_eq_true, Bool.or_eq_false_iff, Bool.not_eq_true', Bool.not_eq_false', bne_iff_ne, ne_eq, bne_eq_false_iff_eq, beq_iff_eq, beq_eq_false_iff_ne, Decidable.not_not, eq_self, decide_true, Bool.true_and, true_and, not_true_eq_false, false_or, Nat.beq_refl, Bool.true_eq_false, Int.toNat_zero, nbeq, and_true, strOf_size] at *) <;> omega))
    all_goals try ((conv => arg 1; whnf); split <;> try (exfalso; (try simp only [ltB_true, ltB_false, leB_true, leB_false, decide_eq_true_eq, decide_eq_false_iff_not, Bool.and_eq_true, Bool.and_eq_false_iff, Bool.or_eq_true, Bool.or_eq_false_iff, Bool.not_eq_true', Bool.not_eq_false', bne_iff_ne, ne_eq, bne_eq_false_iff_eq, beq_iff_eq, beq_eq_false_iff_ne, Decidable.not_not, eq_self, decide_true, Bool.true_and, true_and, not_true_eq_false, false_or, Nat.beq_refl, Bool.true_eq_false, Int.toNat_zero, nbeq, and_true, strOf_size] at *) <;> omega))
    all_goals try ((conv => arg 1; whnf); split <;> try (exfalso; (try simp only [ltB_true, ltB_false, leB_true, leB_false, decide_eq_true_eq, decide_eq_false_iff_not, Bool.and_eq_true, Bool.and_eq_false_iff, Bool.or_eq_true, Bool.or_eq_false_iff, Bool.not_eq_true', Bool.not_eq_false', bne_iff_ne, ne_eq, bne_eq_false_iff_eq, beq_iff_eq, beq_eq_false_iff_ne, Decidable.not_not, eq_self, decide_true, Bool.true_and, true_and, not_true_eq_false, false_or, Nat.beq_refl, Bool.true_eq_false, Int.toNat_zero, nbeq, and_true, strOf_size] at *) <;> omega))
    all_goals try ((conv => arg 1; whnf); split <;> try (exfalso; (try simp only [ltB_true, ltB_false, leB_true, leB_false, decide_eq_true_eq, decide_eq_false_iff_not, Bool.and_eq_true, Bool.and_eq_false_iff, Bool.or_eq_true, Bool.or_eq_false_iff, Bool.not_eq_true', Bool.not_eq_false', bne_iff_ne, ne_eq, bne_eq_false_iff_eq, beq_iff_eq, beq_eq_false_iff_ne, Decidable.not_not, eq_self, decide_true, Bool.true_and, true_and, not_true_eq_false, false_or, Nat.beq_refl, Bool.true_eq_false, Int.toNat_zero, nbeq, and_true, strOf_size] at *) <;> omega))
    all_goals first | exact ends_bool rfl | skip
    generalize hP : IntKind.i64.wrap (page.tmod 16) = P
    rw [Int.tmod_eq_emod_of_nonneg p0, wrap_i64 (by omega) (by omega)] at hP
    have P0 : 0 ≤ P := by omega
    have P1 : P < 16 := by omega
    clear hP p0
    have hA : IntKind.u64.wrap (IntKind.u64.wrap (IntKind.i64.wrap (P * 256)) + at_) = P * 256 + at_ := by
      rw [wrap_i64 (by omega) (by omega), wrap_u64 (n := P * 256) (by omega) (by omega)]; exact wrap_u64 (by omega) (by omega)
    have hC : IntKind.u64.wrap (IntKind.i64.wrap (8448 + IntKind.i64.wrap (8 * P))) = 8448 + 8 * P := by
      rw [wrap_i64 (n := 8 * P) (by omega) (by omega), wrap_i64 (by omega) (by omega)]; exact wrap_u64 (by omega) (by omega)
    have hX : bitop .xor .u64 (P * 256 + at_) 32768 = P * 256 + at_ + 32768 := xor_mark (by omega) (by omega)
    obtain ⟨t1, t2⟩ := both_all (p := P) (g := guest % 16) (h := host % 128) (by omega) (by omega) (by omega) (by omega) (by omega) (by omega) (b := at_) (kind := kind % 3) a0 a1 (by omega) (by omega)
    have h16 : P = 0 ∨ P = 1 ∨ P = 2 ∨ P = 3 ∨ P = 4 ∨ P = 5 ∨ P = 6 ∨ P = 7 ∨ P = 8 ∨ P = 9 ∨ P = 10 ∨ P = 11 ∨ P = 12 ∨ P = 13 ∨ P = 14 ∨ P = 15 := by omega
    clear P0 P1
    rcases h16 with h16 | h16 | h16 | h16 | h16 | h16 | h16 | h16 | h16 | h16 | h16 | h16 | h16 | h16 | h16 | h16 <;> subst h16
    all_goals (
      repeat' ((conv => arg 1; whnf); split <;> try (exfalso; (try simp only [ltB_true, ltB_false, leB_true, leB_false, decide_eq_true_eq, decide_eq_false_iff_not, Bool.and_eq_true, Bool.and_eq_false_iff, Bool.or_eq_true, Bool.or_eq_false_iff, Bool.not_eq_true', Bool.not_eq_false', bne_iff_ne, ne_eq, bne_eq_false_iff_eq, beq_iff_eq, beq_eq_false_iff_ne, Decidable.not_not, eq_self, decide_true, Bool.true_and, true_and, not_true_eq_false, false_or, Nat.beq_refl, Bool.true_eq_false, Int.toNat_zero, nbeq, and_true, strOf_size] at *) <;> omega))
      all_goals (try (conv => arg 1; whnf)))
    all_goals subst hn
    all_goals simp only [both_ask, hG, hH, hK, hW, hA, hB, hC, hX, hu, t1, t2] at *
    all_goals first | exact ends_bool rfl | (exfalso; simp [leB, ltB, emp, pageS] at *; done) | (exfalso; simp [leB, ltB, emp, pageS] at *; omega) | (refine ends_bool ?_; simp only [pageS, beq_self_eq_true]; done)
end Go.Proofs.Ytigomjcmpafeeaa
