/-
  One instruction, done: what comes of it where it may be done.
-/
import Derived.Test.YtlijlabaopiicaaGreatSpE18b
namespace Go.Sh
open Go
set_option linter.unusedSimpArgs false
set_option linter.unusedVariables false
theorem known18_eq {α : Type} (k : Bool → R α) : s_law18_known k = k true := by kernel_rfl
abbrev noF : GFault := GFault.mk 0 0 0 false
theorem do_rd' {α : Type} {Fd : Sg_z1n α} {Ff : Sg_z1g α} {Fl : Sg_zk α} {Fo : Sg_z13 α} {Fw : Sg_z1q α} {b : GBus} {s : GState} {w rd : Int} {i : GInsn} {r : GExec_result} (hd : ∀ k' : GInsn → Int → R α, Fd w k' = k' i 0) (hl : ∀ k' : Int → Bool → R α, Fl s i k' = k' 0 true)
    (hdo : ∀ (b' : GBus) (k' : GBus → GExec_result → R α), Fo b' s i k' = k' (NB b') r) (hr : r.ok = true) (hw : ∀ k' : Int → R α, Fw i k' = k' rd) (h0 : 0 < rd ∧ rd < 32) (k : GBus → GState → GRetire → R α) :
    p_z3 Fd Ff Fl Fo Fw b s w k = k (NB (NB (NB b))) ⟨upd r.s.X rd.toNat r.value, r.s.PC, r.s.Level, r.s.V, r.s.C, IntKind.u64.wrap (r.s.Done + 1)⟩ ⟨s.PC, w, rd, r.value, false, noF, 0, false, false⟩ := by
  unfold p_z3
  have e0 : ((0 : Int) != 0) = false := rfl
  have e1 : (rd != 0) = true := by simp; omega
  simp only [hd, hl, hdo, hw, hr, GN_eq, e0, e1, Bool.not_true, cond_true, cond_false, decide_eq_true (show 0 ≤ rd by omega), decide_eq_true h0.2, decide_eq_true (show rd.toNat < 32 by omega), Bool.and_self]
theorem do_rd {α : Type} {b : GBus} {s : GState} {w rd : Int} {i : GInsn} {r : GExec_result} (hd : ∀ k' : GInsn → Int → R α, s_decode_Decode w k' = k' i 0) (hl : ∀ k' : Int → Bool → R α, s_legal_Insn s i k' = k' 0 true)
    (hdo : ∀ (b' : GBus) (k' : GBus → GExec_result → R α), s_exec_does b' s i k' = k' (NB b') r) (hr : r.ok = true) (hw : ∀ k' : Int → R α, s_insn_Writes i k' = k' rd) (h0 : 0 < rd ∧ rd < 32) (k : GBus → GState → GRetire → R α) :
    s_exec_Do b s w k = k (NB (NB (NB b))) ⟨upd r.s.X rd.toNat r.value, r.s.PC, r.s.Level, r.s.V, r.s.C, IntKind.u64.wrap (r.s.Done + 1)⟩ ⟨s.PC, w, rd, r.value, false, noF, 0, false, false⟩ := do_rd' hd hl hdo hr hw h0 k
theorem writes_eq {α : Type} {i : GInsn} (h : ∀ k' : Bool → R α, s_insn_Is i k' = k' true) (k : Int → R α) : s_insn_Writes i k = k i.Rd := by
  unfold s_insn_Writes p_z1q
  simp only [h, Bool.not_true, cond_false]
theorem idx32 {x : Int} (h : 0 ≤ x ∧ x < 32) : (decide (0 ≤ x) && decide (x < 32)) = true ∧ decide (x.toNat < 32) = true := ⟨by simp [h.1, h.2], decide_eq_true (by omega)⟩
theorem does1' {α : Type} {Fc : Sg_z6 α} {Fj : Sg_z1d α} {Fa : Sg_z1j α} {Fn : Sg_zc α} {Fk : Sg_z1o α} {Ff : Sg_zt α} {Ft : Sg_z1f α} {Fr : Sg_z1p α} {b : GBus} {s : GState} {i : GInsn} (hc : ∀ k' : Int → R α, Fc i.Op k' = k' 1) (k : GBus → GExec_result → R α) : p_z13 Fc Fj Fa Fn Fk Ff Ft Fr b s i k = Fj s i (fun r => k (NB b) r) := by
  unfold p_z13
  rw [hc]
  simp only [GN_eq]
  rfl
theorem does9' {α : Type} {Fc : Sg_z6 α} {Fj : Sg_z1d α} {Fa : Sg_z1j α} {Fn : Sg_zc α} {Fk : Sg_z1o α} {Ff : Sg_zt α} {Ft : Sg_z1f α} {Fr : Sg_z1p α} {b : GBus} {s : GState} {i : GInsn} (hc : ∀ k' : Int → R α, Fc i.Op k' = k' 9) (k : GBus → GExec_result → R α) : p_z13 Fc Fj Fa Fn Fk Ff Ft Fr b s i k = Ft s i (fun r => k (NB b) r) := by
  unfold p_z13
  rw [hc]
  simp only [GN_eq]
  rfl
theorem legal_addi {α : Type} {X C : Nat → Int} {P D rd rs n : Int} {V : Bool} (h1 : 0 ≤ rd ∧ rd < 32) (h2 : 0 ≤ rs ∧ rs < 32) (h3 : -2048 ≤ n ∧ n ≤ 2047) (k : Int → Bool → R α) : s_legal_Insn ⟨X, P, 3, V, C, D⟩ ⟨22, rd, rs, 0, n, 0⟩ k = k 0 true := by
  unfold s_legal_Insn p_zk
  rw [is_addi h1 h2 h3]
  rfl
theorem alu_22 {α : Type} (a b : Int) (k : Int → R α) : s_alu_Do 22 a b k = k (IntKind.u64.wrap (a + b)) := by kernel_rfl
theorem does_addi {α : Type} {X C : Nat → Int} {P D L rd rs n : Int} {V : Bool} (h2 : 0 ≤ rs ∧ rs < 32) (b : GBus) (k : GBus → GExec_result → R α) :
    s_exec_does b ⟨X, P, L, V, C, D⟩ ⟨22, rd, rs, 0, n, 0⟩ k = k (NB b) ⟨⟨X, IntKind.u64.wrap (P + 4), L, V, C, D⟩, IntKind.u64.wrap (X rs.toNat + IntKind.u64.wrap n), noF, true⟩ := by
  unfold s_exec_does p_z13
  rw [show ∀ k' : Int → R α, s_insn_Class 22 k' = k' 5 from fun _ => rfl]
  obtain ⟨a1, a2⟩ := idx32 h2
  show cond (decide (0 ≤ rs) && decide (rs < 32)) (cond (decide (rs.toNat < 32)) (s_alu_Do 22 (X rs.toNat) (IntKind.u64.wrap n) fun r => s_exec_next ⟨X, P, L, V, C, D⟩ r fun r' => GN b (k (NB b) r')) none) none = _
  rw [a1, a2, cond_true, cond_true, alu_22]
  exact GN_eq b _
theorem legal_jal {α : Type} {X C : Nat → Int} {P D rd n : Int} {V : Bool} (h1 : 0 ≤ rd ∧ rd < 32) (h3 : -1048576 ≤ n ∧ n ≤ 1048574) (h4 : n % 2 = 0) (k : Int → Bool → R α) : s_legal_Insn ⟨X, P, 3, V, C, D⟩ ⟨3, rd, 0, 0, n, 0⟩ k = k 0 true := by
  unfold s_legal_Insn p_zk
  rw [is_jal h1 h3 h4]
  rfl
theorem goes_jal {α : Type} {s : GState} {rd n : Int} (h1 : 0 ≤ rd ∧ rd < 32) (h3 : -1048576 ≤ n ∧ n ≤ 1048574) (h4 : n % 2 = 0) (k : Int → R α) : s_exec_Goes s ⟨3, rd, 0, 0, n, 0⟩ k = k (IntKind.u64.wrap (s.PC + IntKind.u64.wrap n)) := by
  unfold s_exec_Goes p_z5
  rw [is_jal h1 h3 h4]
  rfl
theorem does_jal {α : Type} {s : GState} {rd n : Int} (h1 : 0 ≤ rd ∧ rd < 32) (h3 : -1048576 ≤ n ∧ n ≤ 1048574) (h4 : n % 2 = 0) (ha : IntKind.u64.wrap (s.PC + IntKind.u64.wrap n) % 4 = 0) (b : GBus) (k : GBus → GExec_result → R α) :
    s_exec_does b s ⟨3, rd, 0, 0, n, 0⟩ k = k (NB b) ⟨⟨s.X, IntKind.u64.wrap (s.PC + IntKind.u64.wrap n), s.Level, s.V, s.C, s.Done⟩, IntKind.u64.wrap (s.PC + 4), noF, true⟩ := by
  refine (does1' (fun _ => rfl) k).trans ?_
  unfold s_exec_jumps p_z1d
  rw [goes_jal h1 h3 h4, show ∀ k' : Int → R α, s_insn_Class 3 k' = k' 1 from fun _ => rfl]
  show q_exec_jumps_1 s_exec_failed s_exec_done s (fun r => k (NB b) r) (IntKind.u64.wrap (s.PC + IntKind.u64.wrap n)) = _
  unfold q_exec_jumps_1
  have hw := wrap_u64_bd (s.PC + IntKind.u64.wrap n)
  generalize IntKind.u64.wrap (s.PC + IntKind.u64.wrap n) = to at ha hw ⊢
  have e : (Int.tmod to 4 != 0) = false := by rw [Int.tmod_eq_emod_of_nonneg hw.1, ha]; rfl
  simp only [e, cond_false]
  rfl
theorem legal_csrrw {α : Type} {X C : Nat → Int} {P D rd rs : Int} (h1 : 0 ≤ rd ∧ rd < 32) (h2 : 0 ≤ rs ∧ rs < 32) (k : Int → Bool → R α) : s_legal_Insn ⟨X, P, 3, false, C, D⟩ ⟨54, rd, rs, 0, 0, 832⟩ k = k 0 true := by
  unfold s_legal_Insn p_zk
  rw [is_csrrw h1 h2]
  kernel_rfl
theorem all64 {x : Int} (h : W64 x) : bitop .and .u64 x 18446744073709551615 = x := (and_mask (k := 64) h.1 h.2 (by omega)).trans (by have := h.1; have := h.2; show x % 18446744073709551616 = x; omega)
theorem control' {α : Type} {Fr : Sg_z1z α} {Fd : Sg_z1t α} {Fw : Sg_zw α} {Fa : Sg_z1k α} {Ft : Sg_z1l α} {Fn : Sg_zc α} {s : GState} {i : GInsn} (hv : s.V = false) (ho : i.Op = 54) (h2 : 0 ≤ i.Rs1 ∧ i.Rs1 < 32) (hw : ∀ k' : Bool → R α, Fw i k' = k' true) (ha : ∀ a b (k' : Int → R α), Fa 54 a b k' = k' b)
    (k : GExec_result → R α) : p_z1f Fr Fd Fw Fa Ft Fn s i k = Fd s i.CSR (fun old _ => Ft s i.CSR (s.X i.Rs1.toNat) (fun u _ => Fn u old k)) := by
  obtain ⟨a1, a2⟩ := idx32 h2
  unfold p_z1f
  simp only [hv, ho, hw, ha, a1, a2, ltB_t (show (54 : Int) < 57 by omega), cond_true, cond_false]
theorem read_mscratch {α : Type} {s : GState} (k : Int → Bool → R α) : s_csr_Read s 832 k = k (s.C 5) true := by kernel_rfl
theorem write_mscratch {α : Type} {s : GState} (v : Int) (k : GState → Bool → R α) : s_csr_Write s 832 v k = k ⟨s.X, s.PC, s.Level, s.V, upd s.C 5 (bitop .or .u64 (bitop .andNot .u64 (s.C 5) 18446744073709551615) (bitop .and .u64 v 18446744073709551615)), s.Done⟩ true := by kernel_rfl
theorem control_mscratch {α : Type} {X C : Nat → Int} {P D rd rs : Int} (h2 : 0 ≤ rs ∧ rs < 32) (k : GExec_result → R α) : s_exec_control ⟨X, P, 3, false, C, D⟩ ⟨54, rd, rs, 0, 0, 832⟩ k = k ⟨⟨X, IntKind.u64.wrap (P + 4), 3, false, upd C 5 (bitop .or .u64 (bitop .andNot .u64 (C 5) 18446744073709551615) (bitop .and .u64 (X rs.toNat) 18446744073709551615)), D⟩, C 5, noF, true⟩ := by
  refine (control' rfl rfl h2 (fun _ => rfl) (fun _ _ _ => rfl) k).trans ?_
  show s_csr_Read ⟨X, P, 3, false, C, D⟩ 832 (fun old _ => s_csr_Write ⟨X, P, 3, false, C, D⟩ 832 (X rs.toNat) (fun u _ => s_exec_next u old k)) = _
  rw [read_mscratch, write_mscratch]
  rfl
theorem does_csrrw {α : Type} {X C : Nat → Int} {P D rd rs : Int} (h2 : 0 ≤ rs ∧ rs < 32) (b : GBus) (k : GBus → GExec_result → R α) :
    s_exec_does b ⟨X, P, 3, false, C, D⟩ ⟨54, rd, rs, 0, 0, 832⟩ k = k (NB b) ⟨⟨X, IntKind.u64.wrap (P + 4), 3, false, upd C 5 (bitop .or .u64 (bitop .andNot .u64 (C 5) 18446744073709551615) (bitop .and .u64 (X rs.toNat) 18446744073709551615)), D⟩, C 5, noF, true⟩ := by
  refine (does9' (fun _ => rfl) k).trans ?_
  rw [control_mscratch h2]
end Go.Sh
