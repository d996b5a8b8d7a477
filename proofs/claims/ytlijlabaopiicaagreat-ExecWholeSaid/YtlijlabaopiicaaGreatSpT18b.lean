/-
  One instruction: what it comes to keeps what the law ExecWhole says (printed by wip/pr/gen_t18b.py).
-/
import Derived.Test.YtlijlabaopiicaaGreatSpT18
namespace Go.Sh
open Go
set_option linter.unusedSimpArgs false
set_option linter.unusedVariables false
abbrev Stays (s : GState) (r : GExec_result) : Prop := r.ok = true → r.s.X = s.X ∧ r.s.Done = s.Done ∧ Int.tmod r.s.PC 4 = 0
theorem wrap4m (x : Int) : Int.tmod (IntKind.u64.wrap x) 4 = IntKind.u64.wrap x % 4 := Int.tmod_eq_emod_of_nonneg (wrap_u64_bd x).1
theorem tm4 {x : Int} (h : Int.tmod x 4 = 0) : x % 4 = 0 := Int.emod_eq_zero_of_dvd (Int.dvd_of_tmod_eq_zero h)
theorem next4 {p : Int} (h : Int.tmod p 4 = 0) : Int.tmod (IntKind.u64.wrap (p + 4)) 4 = 0 := by
  have := tm4 h
  rw [wrap4m, wrap_u64_mod]; omega
theorem next_eq {α : Type} (s : GState) (v : Int) (k : GExec_result → R α) : s_exec_next s v k = k ⟨⟨s.X, IntKind.u64.wrap (s.PC + 4), s.Level, s.V, s.C, s.Done⟩, v, noF, true⟩ := rfl
theorem T_zf {α : Type} {s : GState} {v : Int} (h : Int.tmod s.PC 4 = 0) (k : GExec_result → R α) : ∃ r, s_exec_next s v k = k r ∧ Stays s r := ⟨_, next_eq s v k, fun _ => ⟨rfl, rfl, next4 h⟩⟩
theorem T_exec_nextU {α : Type} {s u : GState} {v : Int} (h : Int.tmod s.PC 4 = 0) (hu : KeptP s u) (k : GExec_result → R α) : ∃ r, s_exec_next u v k = k r ∧ Stays s r :=
  ⟨_, next_eq u v k, fun _ => ⟨hu.1, hu.2.1, by show Int.tmod (IntKind.u64.wrap (u.PC + 4)) 4 = 0; rw [hu.2.2]; exact next4 h⟩⟩
theorem T_z6 {α : Type} {s : GState} {i : GInsn} (hF : Fields i) (k : Int → R α) : ∃ r, s_exec_Goes s i k = k r ∧ True := by
  show W1 k (fun _ => True) _
  unfold s_exec_Goes p_z6 q_exec_Goes_1
  try dsimp only
  repeat' first
    | (with_reducible refine guard_i ?_ ?_)
    | (with_reducible refine cond_i ?_ ?_ <;> intro _)
    | (with_reducible refine call1 (fun k => T_zc k) ?_; intro _ _)
    | (with_reducible refine call1 (fun k => T_z4 k) ?_; intro _ _)
    | (with_reducible refine call1 (fun k => T_z1g k) ?_; intro _ _)
    | (with_reducible refine ret1 ?_; exact trivial)
    | exact idxd hF.2.1
    | exact idxd hF.2.2
    | exact idxn hF.2.1
    | exact idxn hF.2.2
theorem T_jumps_1 {α : Type} {s : GState} {to : Int} (k : GExec_result → R α) : ∃ r, q_exec_jumps_1 s_exec_failed s_exec_done s k to = k r ∧ Stays s r := by
  unfold q_exec_jumps_1
  by_cases h : Int.tmod to 4 = 0
  · have e : (Int.tmod to 4 != 0) = false := by simp [h]
    simp only [e, cond_false]
    exact ⟨⟨⟨s.X, to, s.Level, s.V, s.C, s.Done⟩, IntKind.u64.wrap (s.PC + 4), noF, true⟩, rfl, fun _ => ⟨rfl, rfl, h⟩⟩
  · have e : (Int.tmod to 4 != 0) = true := by simpa using h
    simp only [e, cond_true]
    exact ⟨⟨⟨fun _ => 0, 0, 0, false, fun _ => 0, 0⟩, 0, ⟨0, to, 0, s.V⟩, false⟩, rfl, fun h => by cases h⟩
theorem T_z27 {α : Type} {s : GState} {i : GInsn} (hF : Fields i) (hp : Int.tmod s.PC 4 = 0) (k : GExec_result → R α) : ∃ r, s_exec_jumps s i k = k r ∧ Stays s r := by
  show W1 k (fun r => Stays s r) _
  unfold s_exec_jumps p_z27
  try dsimp only
  repeat' first
    | exact T_jumps_1 k
    | (with_reducible refine guard_i ?_ ?_)
    | (with_reducible refine cond_i ?_ ?_ <;> intro _)
    | (with_reducible refine call1 (fun k => T_zf hp k) ?_; intro _ hq)
    | (with_reducible refine call1 (fun k => T_z6 hF k) ?_; intro _ _)
    | (with_reducible refine call1 (fun k => T_z4 k) ?_; intro _ _)
    | (with_reducible refine call1 (fun k => T_z1g k) ?_; intro _ _)
    | (with_reducible refine ret1 ?_; exact (by assumption))
    | exact idxd hF.2.1
    | exact idxd hF.2.2
    | exact idxn hF.2.1
    | exact idxn hF.2.2
theorem T_z2c {α : Type} {s : GState} {i : GInsn} (k : GFault → R α) : ∃ r, s_exec_calls s i k = k r ∧ True := by
  show W1 k (fun _ => True) _
  unfold s_exec_calls p_z2c
  try dsimp only
  with_reducible refine cond_i ?_ ?_ <;> intro _
  · (with_reducible refine ret1 ?_); exact trivial
  with_reducible refine call1 (fun k => T_zs k) ?_; intro r hr
  exact guard_i (idxd hr) (guard_i (idxn hr) (ret1 trivial))
theorem T_z2e {α : Type} {s : GState} {i : GInsn} (hF : Fields i) (hp : Int.tmod s.PC 4 = 0) (k : GExec_result → R α) : ∃ r, s_exec_control s i k = k r ∧ Stays s r := by
  show W1 k (fun r => Stays s r) _
  unfold s_exec_control p_z2e
  try dsimp only
  repeat' first
    | (with_reducible refine guard_i ?_ ?_)
    | (with_reducible refine cond_i ?_ ?_ <;> intro _)
    | (with_reducible refine call1 (fun k => T_z2r k) ?_; intro _ _)
    | (with_reducible refine call2 (fun k => T_z2d k) ?_; intro _ _ _)
    | (with_reducible refine call1 (fun k => T_z1d k) ?_; intro _ _)
    | (with_reducible refine call1 (fun k => T_z23 k) ?_; intro _ _)
    | (with_reducible refine call2 (fun k => T_z24 k) ?_; intro _ _ hk)
    | (with_reducible refine call1 (fun k => T_zf hp k) ?_; intro _ hq)
    | (with_reducible refine call1 (fun k => T_exec_nextU hp (by assumption) k) ?_; intro _ hq)
    | (with_reducible refine ret1 ?_; exact (by assumption))
    | exact idxd hF.2.1
    | exact idxn hF.2.1
abbrev Backs (s : GState) : Prop := Int.tmod (s.C 6) 4 = 0 ∧ Int.tmod (s.C 12) 4 = 0 ∧ Int.tmod (s.C 25) 4 = 0
abbrev Turned (s u : GState) : Prop := u.X = s.X ∧ u.Done = s.Done ∧ Int.tmod u.PC 4 = 0
theorem T_z2s {α : Type} {s : GState} (hB : Backs s) (hp : Int.tmod s.PC 4 = 0) (k : GState → Int → Bool → R α) : ∃ u c t, s_trap_Mret s k = k u c t ∧ Turned s u := by
  show W3 k (fun u _ _ => Turned s u) _
  unfold s_trap_Mret p_z2s
  try dsimp only
  with_reducible refine call2 (fun k => T_zr k) ?_; intro _ _ _
  with_reducible refine cond_i ?_ ?_ <;> intro _
  · (with_reducible refine ret3 ?_); exact ⟨rfl, rfl, hp⟩
  simp only [bits_eq, bt_0, kb_0, set_eq, put_0]
  with_reducible refine cond_i ?_ ?_ <;> intro _
  · (with_reducible refine ret3 ?_); exact ⟨rfl, rfl, hB.1⟩
  · (with_reducible refine ret3 ?_); exact ⟨rfl, rfl, hB.1⟩
theorem T_z2t {α : Type} {s : GState} (hB : Backs s) (hp : Int.tmod s.PC 4 = 0) (k : GState → Int → Bool → R α) : ∃ u c t, s_trap_Sret s k = k u c t ∧ Turned s u := by
  show W3 k (fun u _ _ => Turned s u) _
  unfold s_trap_Sret p_z2t
  try dsimp only
  with_reducible refine call2 (fun k => T_zr k) ?_; intro _ _ _
  with_reducible refine cond_i ?_ ?_ <;> intro _
  · (with_reducible refine ret3 ?_); exact ⟨rfl, rfl, hp⟩
  simp only [bits_eq, bt_0, bt_16, kb_0, kb_22, set_eq, put_0, put_16, put_22]
  with_reducible refine cond_i ?_ ?_ <;> intro _
  · (with_reducible refine ret3 ?_); exact ⟨rfl, rfl, hB.2.2⟩
  · (with_reducible refine ret3 ?_); exact ⟨rfl, rfl, hB.2.1⟩
theorem T_z2f {α : Type} {s : GState} {i : GInsn} (hB : Backs s) (hp : Int.tmod s.PC 4 = 0) (k : GExec_result → R α) : ∃ r, s_exec_returns s i k = k r ∧ Stays s r := by
  show W1 k (fun r => Stays s r) _
  unfold s_exec_returns p_z2f
  have hd : ∀ u v (k' : GExec_result → R α), s_exec_done u v k' = k' ⟨u, v, noF, true⟩ := fun _ _ _ => rfl
  simp only [hd]
  with_reducible refine cond_i ?_ ?_ <;> intro _
  · with_reducible refine call3 (fun k => T_z2s hB hp k) ?_; intro u _ _ hu
    with_reducible refine cond_i ?_ ?_ <;> intro _
    · (with_reducible refine ret1 ?_); exact (fun _ => ⟨rfl, rfl, hp⟩)
    · (with_reducible refine ret1 ?_); exact (fun _ => hu)
  with_reducible refine cond_i ?_ ?_ <;> intro _
  · with_reducible refine call3 (fun k => T_z2t hB hp k) ?_; intro u _ _ hu
    with_reducible refine cond_i ?_ ?_ <;> intro _
    · (with_reducible refine ret1 ?_); exact (fun _ => ⟨rfl, rfl, hp⟩)
    · (with_reducible refine ret1 ?_); exact (fun _ => hu)
  · with_reducible refine call1 (fun k => T_zf hp k) ?_; intro _ hq
    (with_reducible refine ret1 ?_); exact hq
theorem T_z1s {α : Type} {x0 : Int}  (k : Int → R α) : ∃ r0, s_access_sort x0 k = k r0 ∧ (0 ≤ r0 ∧ r0 < 3) := by
  show W1 k (fun r0 => 0 ≤ r0 ∧ r0 < 3) _
  unfold s_access_sort p_z1s
  try dsimp only
  repeat' first
    | (with_reducible refine guard_i ?_ ?_)
    | (with_reducible refine guardn_i ?_ ?_)
    | (with_reducible refine cond_i ?_ ?_ <;> intro _)
    | (with_reducible refine ret1 ?_; exact ⟨by decide, by decide⟩)
    | rfl
    | assumption
theorem T_z15 {α : Type} {b : GBus} {s : GState} {a l : Int} (ha : W64 a) (hb : Few b) (k : GBus → Int → GFault → Bool → R α) : ∃ b' v f ok, s_access_runnable b s a l k = k b' v f ok ∧ True := by
  show W4 k (fun _ _ _ _ => True) _
  unfold s_access_runnable p_z15 sAligned sTrans sAt
  simp only [GN_eq]
  rw [grd_pos ha]
  with_reducible refine cond_i ?_ ?_ <;> intro _
  · (with_reducible refine ret4 ?_); exact trivial
  with_reducible refine cond_i ?_ ?_ <;> intro _
  · with_reducible refine call1 (fun k => T_z1s k) ?_; intro r hr
    exact guard_i (idxd hr) (guard_i (idxn hr) (ret4 trivial))
  · rw [grd_pos ⟨transA_w64 ha, few_nB hb⟩]
    with_reducible refine call1 (fun k => T_zo k) ?_; intro _ _
    (with_reducible refine ret4 ?_); exact trivial
theorem T_z12 {α : Type} {b : GBus} {s : GState} {a n kind value level : Int} {v : Bool} (ha : W64 a) (hb : Few b) (k : GBus → Int → GFault → Bool → R α) : ∃ b' x f ok, sDoK b s a n kind value level v k = k b' x f ok ∧ True :=
  ⟨_, _, _, _, doK_eq ha hb s n kind value level v k, trivial⟩
theorem T_Insn_1 {α : Type} {b : GBus} {s : GState} {i : GInsn} {c a : Int} (hF : Fields i) (ha : W64 a) (hb : Few b) (k : GBus → Int → GFault → Bool → R α) : ∃ b' v f ok, q_access_Insn_1 s_csr_Bit s_access_runnable s_insn_Size sDoK s_alu_Extend b s i k c a = k b' v f ok ∧ True := by
  show W4 k (fun _ _ _ _ => True) _
  unfold q_access_Insn_1
  simp only [GN_eq, bt_16]
  have hb2 : Few (NB b) := few_nB hb
  repeat' first
    | (with_reducible refine guard_i ?_ ?_)
    | (with_reducible refine cond_i ?_ ?_ <;> intro _)
    | (with_reducible refine call4 (fun k => T_z15 ha hb2 k) ?_; intro _ _ _ _ _)
    | (with_reducible refine call1 (fun k => T_zx k) ?_; intro _ _)
    | (with_reducible refine call4 (fun k => T_z12 ha hb2 k) ?_; intro _ _ _ _ _)
    | (with_reducible refine call1 (fun k => T_zo k) ?_; intro _ _)
    | (with_reducible refine ret4 ?_; exact trivial)
    | exact idxd hF.2.2
    | exact idxn hF.2.2
theorem T_Insn_2 {α : Type} {b : GBus} {s : GState} {i : GInsn} {c : Int} (hF : Fields i) (hb : Few b) (k : GBus → Int → GFault → Bool → R α) : ∃ b' v f ok, q_access_Insn_2 s_insn_Is s_csr_Bit s_access_runnable s_insn_Size sDoK s_alu_Extend b s i k c = k b' v f ok ∧ True := by
  show W4 k (fun _ _ _ _ => True) _
  unfold q_access_Insn_2
  simp only [GN_eq, bt_16]
  have hb2 : Few (NB b) := few_nB hb
  have ha : W64 (IntKind.u64.wrap (s.X i.Rs1.toNat + IntKind.u64.wrap i.Imm)) := wrap_u64_bd _
  repeat' first
    | exact T_Insn_1 hF ha hb k
    | (with_reducible refine guard_i ?_ ?_)
    | (with_reducible refine cond_i ?_ ?_ <;> intro _)
    | (with_reducible refine call1 (fun k => T_zc k) ?_; intro _ _)
    | (with_reducible refine call4 (fun k => T_z15 ha hb2 k) ?_; intro _ _ _ _ _)
    | (with_reducible refine call1 (fun k => T_zx k) ?_; intro _ _)
    | (with_reducible refine call4 (fun k => T_z12 ha hb2 k) ?_; intro _ _ _ _ _)
    | (with_reducible refine call1 (fun k => T_zo k) ?_; intro _ _)
    | (with_reducible refine ret4 ?_; exact trivial)
    | exact idxd hF.2.1
    | exact idxn hF.2.1
    | exact idxd hF.2.2
    | exact idxn hF.2.2
theorem T_z1j {α : Type} {b : GBus} {s : GState} {i : GInsn} (hF : Fields i) (hb : Few b) (k : GBus → Int → GFault → Bool → R α) : ∃ b' v f ok, s_access_Insn b s i k = k b' v f ok ∧ True := by
  show W4 k (fun _ _ _ _ => True) _
  unfold s_access_Insn p_z1j
  simp only [GN_eq]
  repeat' first
    | exact T_Insn_2 hF hb k
    | (with_reducible refine cond_i ?_ ?_ <;> intro _)
    | (with_reducible refine call1 (fun k => T_z4 k) ?_; intro _ _)
    | (with_reducible refine ret4 ?_; exact trivial)
theorem T_z1l {α : Type} {b : GBus} {s : GState} {i : GInsn} (hF : Fields i) (hb : Few b) (hB : Backs s) (hp : Int.tmod s.PC 4 = 0) (k : GBus → GExec_result → R α) : ∃ b' r, s_exec_does b s i k = k b' r ∧ Stays s r := by
  show W2 k (fun _ r => Stays s r) _
  unfold s_exec_does p_z1l q_exec_does_1
  have hf : ∀ f (k' : GExec_result → R α), s_exec_failed f k' = k' ⟨⟨fun _ => 0, 0, 0, false, fun _ => 0, 0⟩, 0, f, false⟩ := fun _ _ => rfl
  simp only [GN_eq, hf]
  have hb2 : Few (NB b) := few_nB hb
  repeat' first
    | (with_reducible refine guard_i ?_ ?_)
    | (with_reducible refine cond_i ?_ ?_ <;> intro _)
    | (with_reducible refine call1 (fun k => T_z4 k) ?_; intro _ _)
    | (with_reducible refine call1 (fun k => T_z27 hF hp k) ?_; intro _ hq)
    | (with_reducible refine call4 (fun k => T_z1j hF hb2 k) ?_; intro _ _ _ _ _)
    | (with_reducible refine call1 (fun k => T_zf hp k) ?_; intro _ hq)
    | (with_reducible refine call1 (fun k => T_z28 k) ?_; intro _ _)
    | (with_reducible refine call1 (fun k => T_z2c k) ?_; intro _ _)
    | (with_reducible refine call1 (fun k => T_z2e hF hp k) ?_; intro _ hq)
    | (with_reducible refine call1 (fun k => T_z2f hB hp k) ?_; intro _ hq)
    | (with_reducible refine ret2 ?_; exact (by first | assumption | exact fun h => by cases h))
    | exact idxd hF.2.1
    | exact idxn hF.2.1
    | exact idxd hF.2.2
    | exact idxn hF.2.2
structure GoodS (t : GState) : Prop where
  x0 : t.X 0 = 0
  pc : Int.tmod t.PC 4 = 0
  back : Backs t
structure Whole (t : GState) (w : Int) (u : GState) (r : GRetire) : Prop where
  pc : r.PC = t.PC
  word : r.Word = w
  x0 : u.X 0 = 0
  trap : r.Trap = true → u.X = t.X ∧ u.Done = t.Done ∧ r.Rd = 0 ∧ r.Value = 0
  done : r.Trap = false → (∀ j : Nat, 1 ≤ j → j < 32 → u.X j = if (j : Int) = r.Rd then r.Value else t.X j) ∧ u.Done = IntKind.u64.wrap (t.Done + 1) ∧ r.F = noF ∧ r.Level = 0 ∧ r.V = false ∧ Int.tmod u.PC 4 = 0
theorem whole_trap {t u : GState} {w : Int} {r : GRetire} (hG : GoodS t) (h : Trapped t w u r) : Whole t w u r := by
  obtain ⟨⟨h1, h2⟩, h3, h4, h5, h6, h7⟩ := h
  refine ⟨h3, h4, by rw [h1]; exact hG.x0, fun _ => ⟨h1, h2, h5, h6⟩, fun e => ?_⟩
  rw [h7] at e; cases e
theorem T_z5 {α : Type} {b : GBus} {s : GState} {w : Int} (hw : W32 w) (hb : Few b) (hG : GoodS s) (k : GBus → GState → GRetire → R α) : ∃ b' u r, s_exec_Do b s w k = k b' u r ∧ Whole s w u r := by
  show W3 k (fun _ u r => Whole s w u r) _
  unfold s_exec_Do p_z5
  simp only [GN_eq]
  with_reducible refine call2 (fun k => T_z29 hw k) ?_; intro i e hi
  with_reducible refine cond_i ?_ ?_ <;> intro h1
  · with_reducible refine call2 (fun k => T_z1x k) ?_; intro u r hr
    (with_reducible refine ret3 ?_); exact (whole_trap hG hr)
  have hF := hi h1
  have hb2 : Few (NB b) := few_nB hb
  with_reducible refine call2 (fun k => T_zr k) ?_; intro _ _ _
  with_reducible refine cond_i ?_ ?_ <;> intro _
  · with_reducible refine call2 (fun k => T_z1x k) ?_; intro u r hr
    (with_reducible refine ret3 ?_); exact (whole_trap hG hr)
  with_reducible refine call2 (fun k => T_z1l hF hb2 hG.back hG.pc k) ?_; intro b' q hq
  with_reducible refine cond_i ?_ ?_ <;> intro h2
  · with_reducible refine call2 (fun k => T_z1x k) ?_; intro u r hr
    (with_reducible refine ret3 ?_); exact (whole_trap hG hr)
  have hok : q.ok = true := by simpa using h2
  obtain ⟨qx, qd, qp⟩ := hq hok
  have hwr : ∀ k' : Int → R α, ∃ r, s_insn_Writes i k' = k' r ∧ (r = 0 ∨ r = i.Rd) := fun k' => by
    show W1 k' (fun r => r = 0 ∨ r = i.Rd) _
    unfold s_insn_Writes p_z2v
    with_reducible refine call1 (fun k => T_zc k) ?_; intro t _
    with_reducible refine cond_i ?_ ?_ <;> intro _
    · (with_reducible refine ret1 ?_); exact (.inl rfl)
    · (with_reducible refine ret1 ?_); exact (.inr rfl)
  with_reducible refine call1 hwr ?_; intro rd hrd
  have hr2 : 0 ≤ rd ∧ rd < 32 := by rcases hrd with rfl | rfl; exact ⟨by omega, by omega⟩; exact hF.1
  with_reducible refine cond_i ?_ ?_ <;> intro h3
  · have hne : rd ≠ 0 := by simpa using h3
    refine guard_i (idxd hr2) (guard_i (idxn hr2) (ret3 ⟨rfl, rfl, ?_, (fun h => by cases h), fun _ => ⟨fun j h1 h2 => ?_, by show IntKind.u64.wrap (q.s.Done + 1) = _; rw [qd], rfl, rfl, rfl, qp⟩⟩))
    · show upd q.s.X rd.toNat q.value 0 = 0
      rw [upd_ne _ _ (by omega), qx]; exact hG.x0
    · show upd q.s.X rd.toNat q.value j = if (j : Int) = rd then q.value else s.X j
      by_cases e : (j : Int) = rd
      · rw [if_pos e]
        have : j = rd.toNat := by omega
        rw [this]; exact upd_at _ _ _
      · rw [if_neg e, upd_ne _ _ (by omega), qx]
  · have h0 : rd = 0 := by simpa using h3
    refine ret3 ⟨rfl, rfl, ?_, (fun h => by cases h), fun _ => ⟨fun j h1 h2 => ?_, by show IntKind.u64.wrap (q.s.Done + 1) = _; rw [qd], rfl, rfl, rfl, qp⟩⟩
    · show q.s.X 0 = 0
      rw [qx]; exact hG.x0
    · show q.s.X j = if (j : Int) = 0 then 0 else s.X j
      rw [if_neg (by omega), qx]
end Go.Sh
