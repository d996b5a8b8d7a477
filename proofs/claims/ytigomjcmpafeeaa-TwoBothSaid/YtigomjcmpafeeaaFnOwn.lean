/-
  Contracts: Own.
-/
import Derived.Test.YtigomjcmpafeeaaFnKnown12
import Derived.Test.YtigomjcmpafeeaaSpOwn
set_option linter.unusedSimpArgs false
set_option linter.unusedVariables false
namespace Go.Proofs.Ytigomjcmpafeeaa
open Go Go.Sh Go.Proofs
set_option linter.unusedSimpArgs false
abbrev T_sallyportref11_Make : TE := [(3, ⟨.int .i64 0, 1, 8, .sc (.int .i64), none⟩), (33, ⟨.int .u64 0, 1, 8, .sc (.int .u64), none⟩)]
theorem T_sallyportref11_Make_ok : Prg Try.prog T_sallyportref11_Make := ⟨(.cons te_3 (.cons te_33 (TEok.nil _))), by kernel_rfl⟩
noncomputable abbrev O_sallyportref11_Make {α : Type} : ORC α := []
theorem O_sallyportref11_Make_ok {α : Type} {I : Imm} : OOk (α := α) Try.prog I O_sallyportref11_Make := OOk.nil
set_option maxHeartbeats 4000000 in
set_option maxRecDepth 100000 in
theorem c_sallyportref11_Make {α : Type} {I : Imm} : OrcOk (α := α) Try.prog I 32 (.pure rmakeF) := by
  refine orc_pure T_sallyportref11_Make_ok (O := O_sallyportref11_Make) O_sallyportref11_Make_ok (L := []) ⟨1, []⟩ Try.func32 (by kernel_rfl) (by kernel_rfl) (by kernel_rfl) FLOk.nil ?_
  intro args k r hk
  unfold rmakeF at hk
  split at hk <;> try (simp at hk; done)
  rename_i frame b
  refine ⟨_, hk, by simp [Ids, Idss], by simp [Ids, Idss], ?_⟩
  clear hk
  repeat' ((conv => arg 1; whnf); split <;> try (exfalso; (try simp only [ltB_true, ltB_false, leB_true, leB_false, decide_eq_true_eq, decide_eq_false_iff_not, Bool.and_eq_true, Bool.and_eq_false_iff, Bool.or_eq_true, Bool.or_eq_false_iff, Bool.not_eq_true', Bool.not_eq_false', bne_iff_ne, ne_eq, bne_eq_false_iff_eq, beq_iff_eq, beq_eq_false_iff_ne, Decidable.not_not, eq_self, decide_true, Bool.true_and, true_and, not_true_eq_false, false_or, Nat.beq_refl, Bool.true_eq_false, Int.toNat_zero, nbeq, and_true, strOf_size] at *) <;> omega))
  all_goals (try (conv => arg 1; whnf))
  exact ends_int rfl
abbrev T_sallyportlaw12_TwoOwn : TE := [(3, ⟨.int .i64 0, 1, 8, .sc (.int .i64), none⟩), (4, ⟨.bool false, 1, 1, .sc (.bool), none⟩), (5, ⟨.int .u8 0, 1, 1, .sc (.int .u8), none⟩), (33, ⟨.int .u64 0, 1, 8, .sc (.int .u64), none⟩), (37, ⟨.nils, 1, 24, .sc (.slice 5), none⟩), (40, ⟨.ints .u64 29 (fun _ => 0), 29, 232, .ar 29 33 1 false, some (.ar 29 1 (.it .u64))⟩), (42, ⟨.agg [.ints .u64 32 (fun _ => 0), .int .u64 0, .int .i64 0, .bool false, .ints .u64 29 (fun _ => 0), .int .u64 0], 65, 520, .st [(0, 32, true), (32, 1, false), (33, 1, false), (34, 1, false), (35, 29, true), (64, 1, false)], some (.st [(0, 32, true, .ar 32 1 (.it .u64)), (32, 1, false, .it .u64), (33, 1, false, .it .i64), (34, 1, false, .bl), (35, 29, true, .ar 29 1 (.it .u64)), (64, 1, false, .it .u64)])⟩), (44, ⟨.agg [.bool false, .bool false, .int .i64 0, .int .i64 0, .int .i64 0, .int .i64 0, .int .i64 0, .int .i64 0, .int .i64 0], 9, 64, .st [(0, 1, false), (1, 1, false), (2, 1, false), (3, 1, false), (4, 1, false), (5, 1, false), (6, 1, false), (7, 1, false), (8, 1, false)], some (.st [(0, 1, false, .bl), (1, 1, false, .bl), (2, 1, false, .it .i64), (3, 1, false, .it .i64), (4, 1, false, .it .i64), (5, 1, false, .it .i64), (6, 1, false, .it .i64), (7, 1, false, .it .i64), (8, 1, false, .it .i64)])⟩), (46, ⟨.agg [.int .u64 0, .int .u64 0, .int .u64 0, .bool false], 4, 32, .st [(0, 1, false), (1, 1, false), (2, 1, false), (3, 1, false)], some (.st [(0, 1, false, .it .u64), (1, 1, false, .it .u64), (2, 1, false, .it .u64), (3, 1, false, .bl)])⟩)]
theorem T_sallyportlaw12_TwoOwn_ok : Prg Try.prog T_sallyportlaw12_TwoOwn := ⟨(.cons te_3 (.cons te_4 (.cons te_5 (.cons te_33 (.cons te_37 (.cons te_40 (.cons te_42 (.cons te_44 (.cons te_46 (TEok.nil _)))))))))), by kernel_rfl⟩
noncomputable abbrev O_sallyportlaw12_TwoOwn {α : Type} : ORC α := [(18, .pure trueF), (20, .full newF), (32, .pure rmakeF), (31, .full writeF), (19, .full transF)]
theorem O_sallyportlaw12_TwoOwn_ok {α : Type} {I : Imm} : OOk (α := α) Try.prog I O_sallyportlaw12_TwoOwn := OOk.cons c_sallyportlaw12_known (OOk.cons c_mem_New (OOk.cons c_sallyportref11_Make (OOk.cons c_mem_Memory_Write (OOk.cons c_two_Translate (OOk.nil)))))
set_option maxHeartbeats 4000000 in
set_option maxRecDepth 100000 in
theorem l_own {α : Type} {I : Imm} : SoundC Try.prog I Try.f7.ntmps (.loop (loopNo Try.f7 0)) (ownL (α := α)) := by
  refine loop_of (A := seval T_sallyportlaw12_TwoOwn O_sallyportlaw12_TwoOwn [] Try.f7.ntmps ⟨1, []⟩ (loopNo Try.f7 0)) (seval_spec T_sallyportlaw12_TwoOwn_ok.te T_sallyportlaw12_TwoOwn_ok.mix O_sallyportlaw12_TwoOwn_ok (loopNo Try.f7 0) (by kernel_rfl) LOk.nil) [10, 0, 9, 1, 2, 3] [0, 1] ?_
  intro env σ k r hk
  unfold ownL at hk
  split at hk <;> try (simp at hk; done)
  rename_i i nl a len cap f p v1 v2 v3 h10 h0 h9 h1 h2 h3
  obtain ⟨b, b1, g0, g1, M, rfl, hm0, hm1, hne, hk'⟩ := withMem_spec hk
  clear hk
  obtain ⟨hc, hk⟩ := bif_some hk'
  simp only [Bool.and_eq_true, beq_iff_eq, leB_true, Nat.beq_eq] at hc
  obtain ⟨⟨rfl, hlen⟩, rfl, rfl⟩ := hc
  have key := loops_count (B := lround [10, 0, 9, 1, 2, 3] [0, 1] (seval T_sallyportlaw12_TwoOwn O_sallyportlaw12_TwoOwn [] Try.f7.ntmps ⟨1, []⟩ (loopNo Try.f7 0))) (n := len)
    (Inv := fun j e s => getE e 10 = some (.int .i64 j) ∧ getE e 0 = some (.vslc (.int .u8) nl a len cap f) ∧ getE e 9 = some (.ptr 1 []) ∧ getE e 1 = some v1 ∧ getE e 2 = some v2 ∧ getE e 3 = some v3 ∧
      s.get 0 = some (byO g1 (putsM M (ownE f) j)) ∧ s.get 1 = some (memO 0 g0) ∧ s.next = σ.next ∧ ∀ b o, Nat.beq 0 b = false → σ.get b = some o → s.get b = some o)
    (Q := fun x e s => x = .exit 0 ∧ getE e 10 = some (.int .i64 len) ∧ getE e 0 = some (.vslc (.int .u8) nl a len cap f) ∧ getE e 9 = some (.ptr 1 []) ∧ getE e 1 = some v1 ∧ getE e 2 = some v2 ∧ getE e 3 = some v3 ∧
      s.get 0 = some (byO g1 (putsM M (ownE f) len)) ∧ s.get 1 = some (memO 0 g0) ∧ s.next = σ.next ∧ ∀ b o, Nat.beq 0 b = false → σ.get b = some o → s.get b = some o) ?_ ?_ len 0 env σ (by omega) ⟨h10, h0, h9, h1, h2, h3, hm1, hm0, rfl, fun _ _ _ h => h⟩
  · obtain ⟨x, env1, σ1, hL, hx, q10, q0, q9, q1, q2, q3, s0, s1, sn, so⟩ := key
    have hk2 := hk
    rw [← hx] at hk2
    refine ⟨x, env1, σ1, _, _, hL, ?_, hk2⟩
    exact less_mk ⟨q10, q0, q9, q1, q2, q3, trivial⟩ sn ⟨s0, trivial⟩ (fun b o hb hbo => so b o (inK_one hb) hbo) ⟨⟨_, hm1⟩, trivial⟩
  · intro j e s hj hI
    obtain ⟨q10, q0, q9, q1, q2, q3, s0, s1, sn, so⟩ := hI
    have e1 : restr [10, 0, 9, 1, 2, 3] e = [(10, .int .i64 j), (0, .vslc (.int .u8) nl a len cap f), (9, .ptr 1 []), (1, v1), (2, v2), (3, v3)] := by simp only [restr, q10, q0, q9, q1, q2, q3]
    obtain ⟨nx, bl⟩ := s
    have e2 : keepH [0, 1] ⟨nx, bl⟩ = ⟨nx, (0, byO g1 (putsM M (ownE f) j)) :: (1, memO 0 g0) :: bl⟩ := by simp only [keepH, keepB, s0, s1]; rfl
    have hw1 : IntKind.i64.wrap (8 * (j : Int)) = 8 * (j : Int) := wrap_i64 (by omega) (by omega)
    have hw2 : IntKind.i64.wrap (512 + 8 * (j : Int)) = 512 + 8 * (j : Int) := wrap_i64 (by omega) (by omega)
    have hw3 : IntKind.u64.wrap (512 + 8 * (j : Int)) = 512 + 8 * (j : Int) := wrap_u64 (by omega) (by omega)
    have hw4 : IntKind.u64.wrap (IntKind.i64.wrap (512 + IntKind.i64.wrap (8 * (j : Int)))) = 512 + 8 * (j : Int) := by rw [hw1, hw2, hw3]
    have hw5 : IntKind.i64.wrap ((j : Int) + 1) = ((j + 1 : Nat) : Int) := by rw [wrap_i64 (by omega) (by omega)]; omega
    unfold lround
    rw [e1, e2]
    repeat' ((conv => arg 1; whnf); split <;> try (exfalso; (try simp only [ltB_true, ltB_false, leB_true, leB_false, decide_eq_true_eq, decide_eq_false_iff_not, Bool.and_eq_true, Bool.and_eq_false_iff, Bool.or_eq_true, Bool.or_eq_false_iff, Bool.not_eq_true', Bool.not_eq_false', bne_iff_ne, ne_eq, bne_eq_false_iff_eq, beq_iff_eq, beq_eq_false_iff_ne, Decidable.not_not, eq_self, decide_true, Bool.true_and, true_and, not_true_eq_false, false_or, Nat.beq_refl, Bool.true_eq_false, Int.toNat_zero, nbeq, and_true, strOf_size] at *) <;> omega))
    all_goals (try (conv => arg 1; whnf))
    
    refine ⟨_, _, _, rfl, rfl, ?_, rfl, rfl, rfl, rfl, rfl, ?_, rfl, sn, fun b o hb hbo => ?_⟩
    · exact congrArg some (congrArg (SV.int .i64) hw5)
    · refine congrArg some (congrArg (SObj.cells g1) (congrArg (SV.ints .u8 32768) ?_))
      show writeS _ _ _ _ = putsM M (ownE f) (j + 1)
      rw [hw4]
      rfl
    · have h5 := so b o hb hbo
      rw [← keepH_get [0, 1], e2] at h5
      refine Eq.trans ?_ h5
      change (bif Nat.beq 0 b then _ else _) = _
      rw [hb]
      rfl
  · intro e s hI
    obtain ⟨q10, q0, q9, q1, q2, q3, s0, s1, sn, so⟩ := hI
    have e1 : restr [10, 0, 9, 1, 2, 3] e = [(10, .int .i64 len), (0, .vslc (.int .u8) nl a len cap f), (9, .ptr 1 []), (1, v1), (2, v2), (3, v3)] := by simp only [restr, q10, q0, q9, q1, q2, q3]
    obtain ⟨nx, bl⟩ := s
    have e2 : keepH [0, 1] ⟨nx, bl⟩ = ⟨nx, (0, byO g1 (putsM M (ownE f) len)) :: (1, memO 0 g0) :: bl⟩ := by simp only [keepH, keepB, s0, s1]; rfl
    unfold lround
    rw [e1, e2]
    repeat' ((conv => arg 1; whnf); split <;> try (exfalso; (try simp only [ltB_true, ltB_false, leB_true, leB_false, decide_eq_true_eq, decide_eq_false_iff_not, Bool.and_eq_true, Bool.and_eq_false_iff, Bool.or_eq_true, Bool.or_eq_false_iff, Bool.not_eq_true', Bool.not_eq_false', bne_iff_ne, ne_eq, bne_eq_false_iff_eq, beq_iff_eq, beq_eq_false_iff_ne, Decidable.not_not, eq_self, decide_true, Bool.true_and, true_and, not_true_eq_false, false_or, Nat.beq_refl, Bool.true_eq_false, Int.toNat_zero, nbeq, and_true, strOf_size] at *) <;> omega))
    all_goals (try (conv => arg 1; whnf))
    
    refine ⟨_, _, _, rfl, by simp, rfl, rfl, rfl, rfl, rfl, rfl, rfl, rfl, rfl, sn, fun b o hb hbo => ?_⟩
    have h5 := so b o hb hbo
    rw [← keepH_get [0, 1], e2] at h5
    exact h5
set_option maxHeartbeats 4000000 in
set_option maxRecDepth 100000 in
theorem c_sallyportlaw12_TwoOwn {α : Type} {I : Imm} : OrcOk (α := α) Try.prog I 7 (.pure twoOwnF) := by
  refine orc_pure T_sallyportlaw12_TwoOwn_ok (O := O_sallyportlaw12_TwoOwn) O_sallyportlaw12_TwoOwn_ok (L := [(8, ownL)]) ⟨1, []⟩ Try.func7 (by kernel_rfl) (by kernel_rfl) (by kernel_rfl) (flok_one (by kernel_rfl) (by kernel_rfl) l_own) ?_
  intro args k r hk
  unfold twoOwnF at hk
  split at hk <;> try (simp at hk; done)
  rename_i nl a len cap f at_ kind user
  revert hk; revert f; intro (f : Nat → Int) hk
  split at hk <;> try (simp at hk; done)
  rename_i hg
  obtain ⟨ha, hk0, hf⟩ := hg
  have hf : ∀ i, i < len → 0 ≤ f i ∧ f i < 256 := hf
  refine ⟨_, hk, by simp [Ids, Idss], by simp [Ids, Idss], ?_⟩
  clear hk
  have ha0 := ha.1
  by_cases hlen : len ≤ 16
  case neg =>
    repeat' ((conv => arg 1; whnf); split <;> try (exfalso; (try simp only [ltB_true, ltB_false, leB_true, leB_false, decide_eq_true_eq, decide_eq_false_iff_not, Bool.and_eq_true, Bool.and_eq_false_iff, Bool.or_eq_true, Bool.or_eq_false_iff, Bool.not_eq_true', Bool.not_eq_false', bne_iff_ne, ne_eq, bne_eq_false_iff_eq, beq_iff_eq, beq_eq_false_iff_ne, Decidable.not_not, eq_self, decide_true, Bool.true_and, true_and, not_true_eq_false, false_or, Nat.beq_refl, Bool.true_eq_false, Int.toNat_zero, nbeq, and_true, strOf_size] at *) <;> omega))
    all_goals (try (conv => arg 1; whnf))
    
    all_goals exact ends_bool rfl
  have hk3 : IntKind.i64.wrap (kind.tmod 3) = kind % 3 := by rw [Int.tmod_eq_emod_of_nonneg hk0]; exact wrap_i64 (by omega) (by omega)
  have hT := fun u => own_trans (E := ownE f) (fr := fun i => f i % 128) (n := len) (fun i => rmake_w64 _ _) (fun i hi => ⟨ownE_eq (hf i hi).1 (hf i hi).2, by show 0 ≤ f i % 128; omega, by show f i % 128 < 128; omega⟩) hlen ha (kind := kind % 3) (by omega) (by omega) u
  have hl : IntKind.u64.wrap (IntKind.i64.wrap (256 * (len : Int))) = 256 * (len : Int) := by rw [wrap_i64 (by omega) (by omega), wrap_u64 (by omega) (by omega)]
  have hd : IntKind.u64.wrap (at_.tdiv 256) = at_ / 256 := by rw [Int.tdiv_eq_ediv_of_nonneg ha.1]; exact wrap_u64 (by omega) (by have := ha.2; omega)
  have hm : at_.tmod 256 = at_ % 256 := Int.tmod_eq_emod_of_nonneg ha.1
  by_cases hlt : at_ < 256 * len
  case pos =>
    simp only [if_pos hlt] at hT
    have hb := hf (at_ / 256).toNat (by omega)
    have hg : IntKind.i64.wrap (Int.tmod (f (at_ / 256).toNat) 128) = f (at_ / 256).toNat % 128 := by rw [Int.tmod_eq_emod_of_nonneg hb.1]; exact wrap_i64 (by omega) (by omega)
    have hp : IntKind.u64.wrap (IntKind.u64.wrap (IntKind.i64.wrap (f (at_ / 256).toNat % 128 * 256)) + at_ % 256) = f (at_ / 256).toNat % 128 * 256 + at_ % 256 := by
      rw [wrap_i64 (by omega) (by omega), wrap_u64 (n := f (at_ / 256).toNat % 128 * 256) (by omega) (by omega)]; exact wrap_u64 (by omega) (by omega)
    have hq : IntKind.i64.wrap (at_ / 256) = at_ / 256 := wrap_i64 (by omega) (by omega)
    repeat' ((conv => arg 1; whnf); split <;> try (exfalso; (try simp only [ltB_true, ltB_false, leB_true, leB_false, decide_eq_true_eq, decide_eq_false_iff_not, Bool.and_eq_true, Bool.and_eq_false_iff, Bool.or_eq_true, Bool.or_eq_false_iff, Bool.not_eq_true', Bool.not_eq_false', bne_iff_ne, ne_eq, bne_eq_false_iff_eq, beq_iff_eq, beq_eq_false_iff_ne, Decidable.not_not, eq_self, decide_true, Bool.true_and, true_and, not_true_eq_false, false_or, Nat.beq_refl, Bool.true_eq_false, Int.toNat_zero, nbeq, and_true, strOf_size] at *) <;> omega))
    all_goals (try (conv => arg 1; whnf))
    
    all_goals clear k r
    all_goals simp only [own_ask0, own_ask1, hk3, hd, hm, hg, hp, hq, hT] at *
    all_goals first | exact ends_bool rfl | (exfalso; simp [leB, emp] at *; done) | (exfalso; simp [leB, emp] at *; omega)
  case neg =>
    simp only [if_neg hlt] at hT
    have hc : IntKind.u64.wrap (at_.tdiv 4) = at_ / 4 := by rw [Int.tdiv_eq_ediv_of_nonneg ha.1]; exact wrap_u64 (by omega) (by have := ha.2; omega)
    have h3 : c3 20 21 23 (kind % 3) = 20 ∨ c3 20 21 23 (kind % 3) = 21 ∨ c3 20 21 23 (kind % 3) = 23 := by unfold c3; cases decide (kind % 3 ≤ 0) <;> cases decide (kind % 3 ≤ 1) <;> simp
    repeat' ((conv => arg 1; whnf); split <;> try (exfalso; (try simp only [ltB_true, ltB_false, leB_true, leB_false, decide_eq_true_eq, decide_eq_false_iff_not, Bool.and_eq_true, Bool.and_eq_false_iff, Bool.or_eq_true, Bool.or_eq_false_iff, Bool.not_eq_true', Bool.not_eq_false', bne_iff_ne, ne_eq, bne_eq_false_iff_eq, beq_iff_eq, beq_eq_false_iff_ne, Decidable.not_not, eq_self, decide_true, Bool.true_and, true_and, not_true_eq_false, false_or, Nat.beq_refl, Bool.true_eq_false, Int.toNat_zero, nbeq, and_true, strOf_size] at *) <;> omega))
    all_goals (try (conv => arg 1; whnf))
    
    all_goals clear k r
    all_goals simp only [own_ask0, own_ask1, hk3, hd, hm, hT, guestS, hc] at *
    all_goals first | exact ends_bool rfl | (refine ends_bool ?_; rcases h3 with h | h | h <;> rw [h] <;> (simp [h] at *; done)) | (refine ends_bool ?_; rcases h3 with h | h | h <;> rw [h] at * <;> first | rfl | contradiction) | (exfalso; simp [leB, emp] at *; done) | (exfalso; simp [leB, emp] at *; omega)
end Go.Proofs.Ytigomjcmpafeeaa
