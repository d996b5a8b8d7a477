/-
  The law ExecBranches, plainly: what is done.
-/
import Derived.Test.YtlijlabaopiicaaGreatSpE18f
namespace Go.Sh
open Go
set_option linter.unusedSimpArgs false
set_option linter.unusedVariables false
abbrev b0 : GBus := (GBus.mk (fun _ => 0) 0 18446744073709551615 (upd (upd (upd (fun _ => (GPort.mk (Row.mk 0 fun _ => 0) (Row.mk 0 fun _ => 0) 0)) 1 (GPort.mk (Row.mk 0 fun _ => 0) (Row.mk 0 fun _ => 0) 0)) 2 (GPort.mk (Row.mk 0 fun _ => 0) (Row.mk 0 fun _ => 0) 0)) 3 (GPort.mk (Row.mk 0 fun _ => 0) (Row.mk 0 fun _ => 0) 0)))
abbrev LegBr (o : Int) : Prop := ∀ {α : Type} (X C : Nat → Int) (P D n : Int) (k : Int → Bool → R α), (∀ k' : Bool → R α, s_insn_Is ⟨o, 0, 1, 2, n, 0⟩ k' = k' true) → s_legal_Insn ⟨X, P, 3, false, C, D⟩ ⟨o, 0, 1, 2, n, 0⟩ k = k 0 true
theorem leg5 : LegBr 5 := fun X C P D n k h => by unfold s_legal_Insn p_zj; rw [h]; rfl
theorem leg6 : LegBr 6 := fun X C P D n k h => by unfold s_legal_Insn p_zj; rw [h]; rfl
theorem leg7 : LegBr 7 := fun X C P D n k h => by unfold s_legal_Insn p_zj; rw [h]; rfl
theorem leg8 : LegBr 8 := fun X C P D n k h => by unfold s_legal_Insn p_zj; rw [h]; rfl
theorem leg9 : LegBr 9 := fun X C P D n k h => by unfold s_legal_Insn p_zj; rw [h]; rfl
theorem leg10 : LegBr 10 := fun X C P D n k h => by unfold s_legal_Insn p_zj; rw [h]; rfl
theorem goes_br' {α : Type} {Fi : Sg_zg α} {Fc : Sg_z6 α} {Ft : Sg_zz α} {s : GState} {o n : Int} {t : Bool} (h1 : ∀ k' : Bool → R α, Fi ⟨o, 0, 1, 2, n, 0⟩ k' = k' true) (hc : ∀ k' : Int → R α, Fc o k' = k' 2) (ht : ∀ k' : Bool → R α, Ft o (s.X 1) (s.X 2) k' = k' t)
    (o3 : (o == 3) = false) (o4 : (o == 4) = false) (k : Int → R α) : p_z5 Fi Fc Ft s ⟨o, 0, 1, 2, n, 0⟩ k = k (bif t then IntKind.u64.wrap (s.PC + IntKind.u64.wrap n) else IntKind.u64.wrap (s.PC + 4)) := by
  unfold p_z5 q_exec_Goes_1
  have e1 : (decide ((0 : Int) ≤ 1) && decide ((1 : Int) < 32)) = true := rfl
  have e2 : (decide ((0 : Int) ≤ 2) && decide ((2 : Int) < 32)) = true := rfl
  have e3 : decide ((Int.toNat 1) < 32) = true := rfl
  have e4 : decide ((Int.toNat 2) < 32) = true := rfl
  have e5 : ((2 : Int) == 2) = true := rfl
  have t1 : Int.toNat 1 = 1 := rfl
  have t2 : Int.toNat 2 = 2 := rfl
  simp only [h1, hc, o3, o4, e1, e2, e3, e4, e5, t1, t2, ht, Bool.not_true, cond_true, cond_false]
  cases t <;> rfl
theorem jumps_br' {α : Type} {Fn : Sg_zc α} {Fg : Sg_z5 α} {Fc : Sg_z6 α} {Ft : Sg_zz α} {Ff : Sg_zt α} {Fd : Sg_zk α} {s : GState} {o n to : Int} {t : Bool} (o1 : (o == 1) = false) (o2 : (o == 2) = false) (hg : ∀ k' : Int → R α, Fg s ⟨o, 0, 1, 2, n, 0⟩ k' = k' to)
    (hc : ∀ k' : Int → R α, Fc o k' = k' 2) (ht : ∀ k' : Bool → R α, Ft o (s.X 1) (s.X 2) k' = k' t) (k : GExec_result → R α) :
    p_z1e Fn Fg Fc Ft Ff Fd s ⟨o, 0, 1, 2, n, 0⟩ k = bif t then q_exec_jumps_1 Ff Fd s k to else Fn s 0 k := by
  unfold p_z1e
  have e1 : (decide ((0 : Int) ≤ 1) && decide ((1 : Int) < 32)) = true := rfl
  have e2 : (decide ((0 : Int) ≤ 2) && decide ((2 : Int) < 32)) = true := rfl
  have e3 : decide ((Int.toNat 1) < 32) = true := rfl
  have e4 : decide ((Int.toNat 2) < 32) = true := rfl
  have e5 : ((2 : Int) == 2) = true := rfl
  have t1 : Int.toNat 1 = 1 := rfl
  have t2 : Int.toNat 2 = 2 := rfl
  simp only [o1, o2, hg, hc, e1, e2, e3, e4, e5, t1, t2, ht, cond_true, cond_false]
  cases t <;> rfl
theorem done_br {α : Type} {s : GState} {to : Int} (h0 : 0 ≤ to) (h : to % 4 = 0) (k : GExec_result → R α) : q_exec_jumps_1 s_exec_failed s_exec_done s k to = k ⟨⟨s.X, to, s.Level, s.V, s.C, s.Done⟩, IntKind.u64.wrap (s.PC + 4), noF, true⟩ := by
  unfold q_exec_jumps_1
  have e : (Int.tmod to 4 != 0) = false := by rw [Int.tmod_eq_emod_of_nonneg h0, h]; rfl
  simp only [e, cond_false]
  rfl
theorem fail_br {α : Type} {s : GState} {to : Int} (h0 : 0 ≤ to) (h : to % 4 ≠ 0) (k : GExec_result → R α) : q_exec_jumps_1 s_exec_failed s_exec_done s k to = k ⟨⟨fun _ => 0, 0, 0, false, fun _ => 0, 0⟩, 0, ⟨0, to, 0, s.V⟩, false⟩ := by
  unfold q_exec_jumps_1
  have e : (Int.tmod to 4 != 0) = true := by rw [Int.tmod_eq_emod_of_nonneg h0]; simpa using h
  simp only [e, cond_true]
  rfl
abbrev TkBr (o : Int) (t : Int → Int → Bool) : Prop := ∀ {α : Type} (a b : Int) (k : Bool → R α), s_alu_Taken o a b k = k (t a b)
theorem tk5 : TkBr 5 (fun a b => a == b) := fun _ _ _ => rfl
theorem tk6 : TkBr 6 (fun a b => a != b) := fun _ _ _ => rfl
theorem tk7 : TkBr 7 (fun a b => ltB (IntKind.i64.wrap a) (IntKind.i64.wrap b)) := fun _ _ _ => rfl
theorem notlt (a b : Int) : (!ltB a b) = leB b a := by
  by_cases h : a < b
  · rw [ltB_t h, leB_f h]; rfl
  · rw [ltB_f (by omega), leB_t (by omega)]; rfl
theorem tk8 : TkBr 8 (fun a b => leB (IntKind.i64.wrap b) (IntKind.i64.wrap a)) := fun a b k => by
  show s_alu_Taken 8 a b k = k (leB (IntKind.i64.wrap b) (IntKind.i64.wrap a))
  rw [← notlt]; rfl
theorem tk9 : TkBr 9 (fun a b => ltB a b) := fun _ _ _ => rfl
theorem tk10 : TkBr 10 (fun a b => leB b a) := fun _ _ _ => rfl
structure BrOut (X : Nat → Int) (t : Bool) (to : Int) (u : GState) (r : GRetire) : Prop where
  x : u.X = X
  trap : t = true → to % 4 ≠ 0 → r.Trap = true ∧ r.F = ⟨0, to, 0, false⟩
  go : t = true → to % 4 = 0 → r.Trap = false ∧ u.PC = to ∧ r.Rd = 0
  on : t = false → r.Trap = false ∧ u.PC = 8196 ∧ r.Rd = 0
theorem do_br {X : Nat → Int} {o hi n to : Int} {t : Int → Int → Bool} (H : Br o hi) (L : LegBr o) (K : TkBr o t) (h3 : -4096 ≤ n ∧ n ≤ 4094) (h4 : n % 2 = 0) (hto : to = 8192 + n) :
    ∃ b1 u r, (∀ {α : Type} (k : GBus → GState → GRetire → R α), s_exec_Do b0 ⟨X, 8192, 3, false, fun _ => 0, 0⟩ (brW hi n) k = k b1 u r) ∧ BrOut X (t (X 1) (X 2)) to u r := by
  have hw : IntKind.u64.wrap (8192 + IntKind.u64.wrap n) = to := by rw [wrap_u64_mod, wrap_u64_mod]; omega
  have hgo : ∀ {α : Type} (k' : Int → R α), s_exec_Goes ⟨X, 8192, 3, false, fun _ => 0, 0⟩ ⟨o, 0, 1, 2, n, 0⟩ k' = k' (bif t (X 1) (X 2) then to else 8196) := fun k' => by
    have := goes_br' (s := ⟨X, 8192, 3, false, fun _ => 0, 0⟩) (is_br H h3 h4) H.cl (K (X 1) (X 2)) H.o3 H.o4 k'
    rw [hw] at this
    exact this
  have hj : ∀ {α : Type} (k' : GExec_result → R α), s_exec_jumps ⟨X, 8192, 3, false, fun _ => 0, 0⟩ ⟨o, 0, 1, 2, n, 0⟩ k' = bif t (X 1) (X 2) then q_exec_jumps_1 s_exec_failed s_exec_done ⟨X, 8192, 3, false, fun _ => 0, 0⟩ k' (bif t (X 1) (X 2) then to else 8196) else s_exec_next ⟨X, 8192, 3, false, fun _ => 0, 0⟩ 0 k' := fun k' =>
    jumps_br' (s := ⟨X, 8192, 3, false, fun _ => 0, 0⟩) H.o1 H.o2 hgo H.cl (K (X 1) (X 2)) k'
  have hl := fun {α : Type} (k' : Int → Bool → R α) => L X (fun _ => 0) 8192 0 n k' (is_br H h3 h4)
  have hwr := fun {α : Type} (k' : Int → R α) => writes_eq (is_br H h3 h4) k'
  cases ht : t (X 1) (X 2)
  · refine ⟨NB (NB (NB b0)), ⟨X, 8196, 3, false, fun _ => 0, 1⟩, ⟨8192, brW hi n, 0, 0, false, noF, 0, false, false⟩, fun k => ?_, rfl, (fun h => by cases h), (fun h => by cases h), fun _ => ⟨rfl, rfl, rfl⟩⟩
    refine do_no (r := ⟨⟨X, 8196, 3, false, fun _ => 0, 0⟩, 0, noF, true⟩) (dec_br H h3 h4) hl (fun b' k' => (does2' H.cl k').trans ?_) rfl hwr k
    rw [hj, ht]; rfl
  · by_cases ha : to % 4 = 0
    · refine ⟨NB (NB (NB b0)), ⟨X, to, 3, false, fun _ => 0, 1⟩, ⟨8192, brW hi n, 0, 0, false, noF, 0, false, false⟩, fun k => ?_, rfl, (fun _ h => absurd ha h), (fun _ _ => ⟨rfl, rfl, rfl⟩), fun h => by cases h⟩
      refine do_no (r := ⟨⟨X, to, 3, false, fun _ => 0, 0⟩, 8196, noF, true⟩) (dec_br H h3 h4) hl (fun b' k' => (does2' H.cl k').trans ?_) rfl hwr k
      rw [hj, ht, cond_true, cond_true, done_br (by omega) ha]; rfl
    · refine ⟨NB (NB (NB b0)), entM ⟨X, 8192, 3, false, fun _ => 0, 0⟩ ⟨0, to, 0, false⟩, ⟨8192, brW hi n, 0, 0, true, ⟨0, to, 0, false⟩, 3, false, false⟩, fun k => ?_, rfl, (fun _ _ => ⟨rfl, rfl⟩), (fun _ h => absurd h ha), fun h => by cases h⟩
      refine (do_trap (r := ⟨⟨fun _ => 0, 0, 0, false, fun _ => 0, 0⟩, 0, ⟨0, to, 0, false⟩, false⟩) (dec_br H h3 h4) hl (fun b' k' => (does2' H.cl k').trans ?_) rfl k).trans (fault_m _ _ _ (exc_m rfl _) _)
      rw [hj, ht, cond_true, cond_true, fail_br (by omega) ha]
theorem all_same (n : Nat) (f : Nat → Int) : ((List.range n).all fun i => f i == f i) = true := by simp
theorem branches_core {α : Type} {Fk : Sg_z19 α} {Fe : Sg_z14 α} {Fd : Sg_z3 α} {x0 x1 x2 x3 j n to w o : Int} {t : Bool} {u : GState} {r : GRetire} {b1 : GBus} (hk : ∀ k' : Bool → R α, Fk k' = k' true)
    (hj : Int.tmod x2 6 = j) (hj2 : 0 ≤ j ∧ j < 6) (ho : IntKind.i64.wrap (5 + IntKind.i64.wrap j) = o) (hn : bitop .andNot .i64 (gshr .i64 (gshl .i64 (IntKind.i64.wrap x3) 51) 51) 1 = n) (hto : IntKind.u64.wrap (IntKind.i64.wrap (8192 + n)) = to) (h0 : 0 ≤ to)
    (he : ∀ k' : Int → Bool → R α, Fe ⟨o, 0, 1, 2, n, 0⟩ k' = k' w true)
    (ht : (upd (upd (upd (upd (upd (upd (fun _ => false) 0 (x0 == x1)) 1 (x0 != x1)) 2 (ltB (IntKind.i64.wrap x0) (IntKind.i64.wrap x1))) 3 (leB (IntKind.i64.wrap x1) (IntKind.i64.wrap x0))) 4 (ltB x0 x1)) 5 (leB x1 x0) : Nat → Bool) j.toNat = t)
    (hd : ∀ k' : GBus → GState → GRetire → R α, Fd b0 ⟨upd (upd (fun _ => 0) 1 x0) 2 x1, 8192, 3, false, fun _ => 0, 0⟩ w k' = k' b1 u r) (B : BrOut (upd (upd (fun _ => 0) 1 x0) 2 x1) t to u r) (k : Bool → R α) : p_z2a Fk Fe Fd x0 x1 x2 x3 k = k true := by
  have g1 : (decide (0 ≤ j) && decide (j < 6)) = true := by simp [hj2.1, hj2.2]
  have g2 : decide (j.toNat < 6) = true := decide_eq_true (by omega)
  have z (x : Int) : (x == x) = true := beqS rfl
  have zb (x : Bool) : (x == x) = true := by cases x <;> rfl
  unfold p_z2a
  simp only [hk, Bool.not_true, cond_false, hj, ho, hn, hto, he, g1, g2, cond_true, ht]
  have hd' := hd
  simp only [b0] at hd'
  simp only [hd', B.x, all_same, Int.tmod_eq_emod_of_nonneg h0]
  cases t
  · obtain ⟨p1, p2, p3⟩ := B.on rfl
    simp only [p1, p2, p3, z, cond_true, cond_false, Bool.not_false]
  · by_cases ha : to % 4 = 0
    · obtain ⟨p1, p2, p3⟩ := B.go rfl ha
      have e : ((0 : Int) != 0) = false := rfl
      simp only [ha, e, p1, p2, p3, z, cond_true, cond_false, Bool.not_false]
    · obtain ⟨p1, p2⟩ := B.trap rfl ha
      have e : (to % 4 != 0) = true := by simpa using ha
      simp only [e, p1, p2, z, zb, cond_true, Bool.and_true]
abbrev BranchesOk (a b op n : Int) : Prop := W64 a ∧ W64 b ∧ (0 ≤ op ∧ op < 256) ∧ (-32768 ≤ n ∧ n < 32768)
noncomputable def sBranches {α : Type} : Sg_z2a α := fun a b op n k => gX (BranchesOk a b op n) (k true)
theorem two_all2 {p : Int → Bool} (h : ((List.range 8192).all fun n => p ((n : Int) - 4096)) = true) {v : Int} (h0 : -4096 ≤ v) (h1 : v ≤ 4095) : p v = true := by
  have := List.all_eq_true.1 h (v + 4096).toNat (List.mem_range.2 (by omega))
  have e : (((v + 4096).toNat : Nat) : Int) - 4096 = v := by omega
  rwa [e] at this
theorem num13 {m : Int} (h : -32768 ≤ m ∧ m < 32768) : -4096 ≤ bitop .andNot .i64 (gshr .i64 (gshl .i64 (IntKind.i64.wrap m) 51) 51) 1 ∧ bitop .andNot .i64 (gshr .i64 (gshl .i64 (IntKind.i64.wrap m) 51) 51) 1 ≤ 4094 ∧ bitop .andNot .i64 (gshr .i64 (gshl .i64 (IntKind.i64.wrap m) 51) 51) 1 % 2 = 0 := by
  obtain ⟨v, hv, hv1⟩ : ∃ v, gshr .i64 (gshl .i64 (IntKind.i64.wrap m) 51) 51 = v ∧ -4096 ≤ v ∧ v ≤ 4095 := by
    refine ⟨_, rfl, ?_⟩
    have e : gshl .i64 (IntKind.i64.wrap m) 51 = IntKind.i64.wrap (IntKind.i64.wrap m * 2 ^ (min (51 : Int).toNat 64)) := rfl
    rw [gshr_i64 (by omega), e]
    have p : (2 : Int) ^ (51 : Int).toNat = 2251799813685248 := rfl
    have q : (2 : Int) ^ (min (51 : Int).toNat 64) = 2251799813685248 := rfl
    rw [p, q, wrap_i64_if]
    split <;> omega
  rw [hv]
  have key := two_all2 (p := fun v => decide (-4096 ≤ bitop .andNot .i64 v 1) && (decide (bitop .andNot .i64 v 1 ≤ 4094) && decide (bitop .andNot .i64 v 1 % 2 = 0))) (by kernel_rfl) hv1.1 hv1.2
  simp only [Bool.and_eq_true, decide_eq_true_eq] at key
  exact key
theorem branches_one {α : Type} {x0 x1 x2 x3 j o hi : Int} {t : Int → Int → Bool} (H : Br o hi) (E : EncBr o hi) (L : LegBr o) (K : TkBr o t) (hn : -32768 ≤ x3 ∧ x3 < 32768) (hj : Int.tmod x2 6 = j) (hj2 : 0 ≤ j ∧ j < 6) (ho : IntKind.i64.wrap (5 + IntKind.i64.wrap j) = o)
    (ht : (upd (upd (upd (upd (upd (upd (fun _ => false) 0 (x0 == x1)) 1 (x0 != x1)) 2 (ltB (IntKind.i64.wrap x0) (IntKind.i64.wrap x1))) 3 (leB (IntKind.i64.wrap x1) (IntKind.i64.wrap x0))) 4 (ltB x0 x1)) 5 (leB x1 x0) : Nat → Bool) j.toNat = t x0 x1) (k : Bool → R α) :
    p_z2a s_law18_known s_ref3_Encode s_exec_Do x0 x1 x2 x3 k = k true := by
  obtain ⟨n1, n2, n3⟩ := num13 hn
  obtain ⟨n, hN⟩ : ∃ n, bitop .andNot .i64 (gshr .i64 (gshl .i64 (IntKind.i64.wrap x3) 51) 51) 1 = n := ⟨_, rfl⟩
  rw [hN] at n1 n2 n3
  have hto : IntKind.u64.wrap (IntKind.i64.wrap (8192 + n)) = 8192 + n := by rw [wrap_i64 (by omega) (by omega), wrap_u64 (by omega) (by omega)]
  obtain ⟨b1, u, r, hd, hB⟩ := do_br (X := upd (upd (fun _ => 0) 1 x0) 2 x1) H L K ⟨n1, n2⟩ n3 rfl
  have hk' := fun (k' : Bool → R α) => known18_eq k'
  have he' := fun (k' : Int → Bool → R α) => enc_br H E ⟨n1, n2⟩ n3 k'
  have hd' := fun (k' : GBus → GState → GRetire → R α) => hd k'
  generalize @s_exec_Do α = Fd at hd' ⊢
  generalize @s_ref3_Encode α = Fe at he' ⊢
  generalize @s_law18_known α = Fk at hk' ⊢
  exact branches_core hk' hj hj2 ho hN hto (by omega) he' ht hd' hB k
theorem branches_eq {α : Type} {x0 x1 x2 x3 : Int} (h : BranchesOk x0 x1 x2 x3) (k : Bool → R α) : p_z2a s_law18_known s_ref3_Encode s_exec_Do x0 x1 x2 x3 k = k true := by
  obtain ⟨_, _, h2, h3⟩ := h
  have hj : Int.tmod x2 6 = x2 % 6 := Int.tmod_eq_emod_of_nonneg h2.1
  have h6 : x2 % 6 = 0 ∨ x2 % 6 = 1 ∨ x2 % 6 = 2 ∨ x2 % 6 = 3 ∨ x2 % 6 = 4 ∨ x2 % 6 = 5 := by omega
  rcases h6 with e | e | e | e | e | e <;> rw [e] at hj
  · exact branches_one br5 enc5 leg5 tk5 h3 hj (by omega) rfl rfl k
  · exact branches_one br6 enc6 leg6 tk6 h3 hj (by omega) rfl rfl k
  · exact branches_one br7 enc7 leg7 tk7 h3 hj (by omega) rfl rfl k
  · exact branches_one br8 enc8 leg8 tk8 h3 hj (by omega) rfl rfl k
  · exact branches_one br9 enc9 leg9 tk9 h3 hj (by omega) rfl rfl k
  · exact branches_one br10 enc10 leg10 tk10 h3 hj (by omega) rfl rfl k
end Go.Sh
