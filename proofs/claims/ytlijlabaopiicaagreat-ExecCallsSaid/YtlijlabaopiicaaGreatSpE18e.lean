/-
  Traps, told: into the machine's, and back; the law ExecCalls.
-/
import Derived.Test.YtlijlabaopiicaaGreatSpE18d
namespace Go.Sh
open Go
set_option linter.unusedSimpArgs false
set_option linter.unusedVariables false
def putC (c : Nat → Int) (i : Nat) (b : Int) (on : Bool) : Nat → Int := upd c i (setS (c i) b 1 (bif on then 1 else 0))
abbrev withC (s : GState) (c : Nat → Int) : GState := ⟨s.X, s.PC, s.Level, s.V, c, s.Done⟩
theorem put_eq {α : Type} (s : GState) {i : Int} (h1 : (decide (0 ≤ i) && decide (i < 29)) = true) (h2 : decide (i.toNat < 29) = true) (b : Int) (on : Bool) (k : GState → R α) : s_csr_Put s i b on k = k (withC s (putC s.C i.toNat b on)) := by
  unfold s_csr_Put p_z7
  cases on <;> simp only [set_eq, h1, h2, cond_true, cond_false] <;> rfl
theorem bit_eq {α : Type} (s : GState) {i : Int} (h1 : (decide (0 ≤ i) && decide (i < 29)) = true) (h2 : decide (i.toNat < 29) = true) (b : Int) (k : Bool → R α) : s_csr_Bit s i b k = k (bitS s.C i b) := by
  unfold s_csr_Bit p_z4
  simp only [bits_eq, h1, h2, cond_true]
  rfl
def enterC (c : Nat → Int) (i : Int) (now was : Int) : Nat → Int := putC (putC c i.toNat was (bitS c i now)) i.toNat now false
def backC (c : Nat → Int) (i : Int) (now was : Int) : Nat → Int := putC (putC c i.toNat now (bitS c i was)) i.toNat was true
theorem kept_enter {α : Type} (s : GState) {i : Int} (h1 : (decide (0 ≤ i) && decide (i < 29)) = true) (h2 : decide (i.toNat < 29) = true) (now was : Int) (k : GState → R α) : s_trap_kept_enter ⟨i, now, was⟩ s k = k (withC s (enterC s.C i now was)) := by
  unfold s_trap_kept_enter p_zv
  simp only [bit_eq _ h1 h2, put_eq _ h1 h2]
  rfl
theorem kept_back {α : Type} (s : GState) {i : Int} (h1 : (decide (0 ≤ i) && decide (i < 29)) = true) (h2 : decide (i.toNat < 29) = true) (now was : Int) (k : GState → R α) : s_trap_kept_back ⟨i, now, was⟩ s k = k (withC s (backC s.C i now was)) := by
  unfold s_trap_kept_back p_zt
  simp only [bit_eq _ h1 h2, put_eq _ h1 h2]
  rfl
def toldM (s : GState) (f : GFault) : Nat → Int := upd (upd (upd (upd s.C 6 s.PC) 7 f.Cause) 8 f.Value) 9 f.Place
def entMC (s : GState) (f : GFault) : Nat → Int :=
  enterC (putC (putC (upd (toldM s f) 0 (setS (toldM s f 0) 11 2 (IntKind.u64.wrap s.Level))) 0 39 s.V) 0 38 f.GVA) 0 3 7
def entM (s : GState) (f : GFault) : GState := ⟨s.X, toldM s f 4, 3, false, entMC s f, s.Done⟩
theorem told_m {α : Type} (s : GState) (f : GFault) (k : GState → R α) : s_trap_told_enter ⟨6, 7, 8, 9, 4⟩ s f k = k ⟨s.X, toldM s f 4, s.Level, s.V, toldM s f, s.Done⟩ := rfl
theorem enter_m' {α : Type} {Ft : Sg_z1h α} {Fs : Sg_zf α} {Fp : Sg_z7 α} {Fk : Sg_zv α} {Fl : Sg_z1q α} (s : GState) (f : GFault)
    (h1 : ∀ k' : GState → R α, Ft ⟨6, 7, 8, 9, 4⟩ s f k' = k' ⟨s.X, toldM s f 4, s.Level, s.V, toldM s f, s.Done⟩) (h2 : ∀ v lo n x (k' : Int → R α), Fs v lo n x k' = k' (setS v lo n x)) (h3 : ∀ u b on (k' : GState → R α), Fp u 0 b on k' = k' (withC u (putC u.C 0 b on)))
    (h4 : ∀ u (k' : GState → R α), Fk ⟨0, 3, 7⟩ u k' = k' (withC u (enterC u.C 0 3 7))) (k : GState → R α) : p_z1i Ft Fs Fp Fk Fl s f 3 false k = k (entM s f) := by
  unfold p_z1i
  have e : (((3 : Int) == 3) && ((false == false) && true)) = true := rfl
  simp only [e, cond_true, h1, h2, h3, h4]
  rfl
theorem enter_m {α : Type} (s : GState) (f : GFault) (k : GState → R α) : s_trap_Enter s f 3 false k = k (entM s f) :=
  enter_m' s f (told_m s f) set_eq (fun u b on k' => put_eq u rfl rfl b on k') (fun u k' => kept_enter u rfl rfl 3 7 k') k
theorem fault_m' {α : Type} {Fe : Sg_z1p α} {Ft : Sg_z1i α} (s : GState) (f : GFault) (w : Int) (h1 : ∀ k' : Int → Bool → R α, Fe s f.Cause k' = k' 3 false) (h2 : ∀ k' : GState → R α, Ft s f 3 false k' = k' (entM s f)) (k : GState → GRetire → R α) :
    p_z15 Fe Ft s f w k = k (entM s f) ⟨s.PC, w, 0, 0, true, f, 3, false, false⟩ := by
  unfold p_z15
  simp only [h1, h2]
theorem has_none {α : Type} {s : GState} {i c : Int} (h1 : (decide (0 ≤ i) && decide (i < 29)) = true) (h2 : decide (i.toNat < 29) = true) (h : s.C i.toNat = 0) (hc : 0 ≤ c ∧ c ≤ 63) (k : Bool → R α) : s_route_has s i c k = k false := by
  unfold s_route_has p_z1o
  simp only [leB_t hc.2, h1, h2, cond_true, bits_eq, h]
  have e : bitsS 0 (IntKind.i64.wrap c) 1 = 0 := by
    rw [wrap_i64 (by omega) (by omega), bitsS_eq ⟨by omega, by omega⟩ hc.1 hc.2 (by omega) (by omega)]
    simp
  rw [e]; rfl
theorem exc_none {α : Type} {s : GState} (h : s.C 1 = 0) {c : Int} (hc : 0 ≤ c ∧ c ≤ 63) (k : Int → Bool → R α) : s_route_Exception s c k = k 3 false := by
  unfold s_route_Exception p_z1p
  simp only [has_none (s := s) (i := 1) rfl rfl h hc, Bool.not_false, cond_true]
  cases (s.Level == 3) <;> rfl
theorem fault_m {α : Type} (s : GState) (f : GFault) (w : Int) (h1 : ∀ k' : Int → Bool → R α, s_route_Exception s f.Cause k' = k' 3 false) (k : GState → GRetire → R α) :
    s_exec_Fault s f w k = k (entM s f) ⟨s.PC, w, 0, 0, true, f, 3, false, false⟩ := fault_m' s f w h1 (enter_m s f) k
def mretC (s : GState) : Nat → Int := putC (upd (backC s.C 0 3 7) 0 (setS (backC s.C 0 3 7 0) 11 2 0)) 0 39 false
def mretL (s : GState) : Int := IntKind.i64.wrap (bitsS (s.C 0) 11 2)
def mretS (s : GState) : GState := ⟨s.X, mretC s 6, mretL s, bif bitS s.C 0 39 then mretL s != 3 else false, mretC s, s.Done⟩
theorem mret_eq' {α : Type} {Fl : Sg_zj α} {Fb : Sg_z2 α} {Ft : Sg_z4 α} {Fk : Sg_zt α} {Fs : Sg_zf α} {Fp : Sg_z7 α} (s : GState) (h1 : ∀ k' : Int → Bool → R α, Fl s ⟨60, 0, 0, 0, 0, 0⟩ k' = k' 0 true)
    (h2 : ∀ v lo n (k' : Int → R α), Fb v lo n k' = k' (bitsS v lo n)) (h3 : ∀ u b (k' : Bool → R α), Ft u 0 b k' = k' (bitS u.C 0 b)) (h4 : ∀ u (k' : GState → R α), Fk ⟨0, 3, 7⟩ u k' = k' (withC u (backC u.C 0 3 7)))
    (h5 : ∀ v lo n x (k' : Int → R α), Fs v lo n x k' = k' (setS v lo n x)) (h6 : ∀ u b on (k' : GState → R α), Fp u 0 b on k' = k' (withC u (putC u.C 0 b on))) (k : GState → Int → Bool → R α) : p_z1n Fl Fb Ft Fk Fs Fp s k = k (mretS s) 0 true := by
  unfold p_z1n
  simp only [h1, h2, h3, h4, h5, h6, Bool.not_true, cond_false]
  show cond (bitS s.C 0 39) (k ⟨s.X, mretC s 6, mretL s, mretL s != 3, mretC s, s.Done⟩ 0 true) (k ⟨s.X, mretC s 6, mretL s, false, mretC s, s.Done⟩ 0 true) = _
  unfold mretS
  cases bitS s.C 0 39 <;> rfl
theorem legal_mret {α : Type} {s : GState} (h : s.Level = 3) (k : Int → Bool → R α) : s_legal_Insn s ⟨60, 0, 0, 0, 0, 0⟩ k = k 0 true := by
  obtain ⟨X, P, L, V, C, D⟩ := s
  subst h
  kernel_rfl
theorem mret_eq {α : Type} {s : GState} (h : s.Level = 3) (k : GState → Int → Bool → R α) : s_trap_Mret s k = k (mretS s) 0 true :=
  mret_eq' s (legal_mret h) bits_eq (fun u b k' => bit_eq u rfl rfl b k') (fun u k' => kept_back u rfl rfl 3 7 k') set_eq (fun u b on k' => put_eq u rfl rfl b on k') k
def likeB (a b : GState) : Bool := ((List.range 32).all fun i => a.X i == b.X i) && ((a.PC == b.PC) && ((a.Level == b.Level) && ((a.V == b.V) && (((List.range 29).all fun i => a.C i == b.C i) && ((a.Done == b.Done) && true)))))
theorem all_eq {n : Nat} {f g : Nat → Int} (h : ((List.range n).all fun i => f i == g i) = true) (h2 : ∀ i, n ≤ i → f i = g i) : f = g := by
  funext i
  by_cases hi : i < n
  · have := List.all_eq_true.1 h i (List.mem_range.2 hi)
    simpa using this
  · exact h2 i (by omega)
theorem like_eq {a b : GState} (h : likeB a b = true) (h1 : ∀ i, 32 ≤ i → a.X i = b.X i) (h2 : ∀ i, 29 ≤ i → a.C i = b.C i) : a = b := by
  unfold likeB at h
  simp only [Bool.and_eq_true, beq_iff_eq, Bool.and_true] at h
  obtain ⟨x, p, l, v, c, d⟩ := h
  have ex := all_eq x h1
  have ec := all_eq c h2
  obtain ⟨X, P, L, V, C, D⟩ := a
  obtain ⟨X', P', L', V', C', D'⟩ := b
  simp only at ex ec p l v d
  subst ex ec p l v d
  rfl
theorem putC_far {c : Nat → Int} {n : Nat} {b : Int} {on : Bool} {i : Nat} (h : i ≠ n) : putC c n b on i = c i := by unfold putC; exact upd_ne _ _ h
theorem mretC_far (s : GState) {i : Nat} (h : i ≠ 0) : mretC s i = s.C i := by
  unfold mretC backC
  rw [putC_far h, upd_ne _ _ h]
  show putC (putC s.C 0 3 _) 0 7 true i = _
  rw [putC_far h, putC_far h]
theorem returns' {α : Type} {Fm Fs : Sg_z1n α} {Fd : Sg_zi α} {Fn : Sg_zc α} {s back : GState} {i : GInsn} {c : Int} {ok : Bool} (hop : i.Op = 60) (h1 : ∀ k' : GState → Int → Bool → R α, Fm s k' = k' back c ok)
    (h2 : ∀ u v (k' : GExec_result → R α), Fd u v k' = k' ⟨u, v, noF, true⟩) (h3 : likeB back s = true → back = s) (k : GExec_result → R α) : p_z1a Fm Fd Fs Fn s i k = k ⟨back, 0, noF, true⟩ := by
  unfold p_z1a
  have e : ((60 : Int) == 60) = true := rfl
  simp only [hop, e, cond_true, h1, h2]
  show cond (likeB back s) (k ⟨s, 0, noF, true⟩) (k ⟨back, 0, noF, true⟩) = _
  cases hl : likeB back s
  · rfl
  · rw [h3 hl]; rfl
theorem returns_mret {α : Type} {s : GState} (h : s.Level = 3) (k : GExec_result → R α) : s_exec_returns s ⟨60, 0, 0, 0, 0, 0⟩ k = k ⟨mretS s, 0, noF, true⟩ :=
  returns' rfl (mret_eq h) (fun _ _ _ => rfl) (fun hl => like_eq hl (fun _ _ => rfl) (fun i hi => mretC_far s (by omega))) k
theorem dec_mret {α : Type} (k : GInsn → Int → R α) : s_decode_Decode 807403635 k = k ⟨60, 0, 0, 0, 0, 0⟩ 0 := by kernel_rfl
theorem dec_ecall {α : Type} (k : GInsn → Int → R α) : s_decode_Decode 115 k = k ⟨52, 0, 0, 0, 0, 0⟩ 0 := by kernel_rfl
theorem do_mret {α : Type} {s : GState} (h : s.Level = 3) (b : GBus) (k : GBus → GState → GRetire → R α) :
    s_exec_Do b s 807403635 k = k (NB (NB (NB b))) ⟨s.X, mretC s 6, mretL s, (mretS s).V, mretC s, IntKind.u64.wrap (s.Done + 1)⟩ ⟨s.PC, 807403635, 0, 0, false, noF, 0, false, false⟩ :=
  do_no dec_mret (legal_mret h) (r := ⟨mretS s, 0, noF, true⟩) (fun b' k' => (does10' (fun _ => rfl) k').trans (returns_mret h _)) rfl (fun k' => writes_eq (fun _ => by kernel_rfl) k') k
def callC (s : GState) : Int := if s.Level = 0 then 8 else if s.V then 10 else 9
theorem legal_ecall {α : Type} {s : GState} (h : s.Level = 0 ∨ s.Level = 1) (k : Int → Bool → R α) : s_legal_Insn s ⟨52, 0, 0, 0, 0, 0⟩ k = k 0 true := by
  obtain ⟨X, P, L, V, C, D⟩ := s
  rcases h with h | h <;> simp only at h <;> subst h <;> cases V <;> kernel_rfl
theorem calls_ecall {α : Type} {s : GState} (h : s.Level = 0 ∨ s.Level = 1) (k : GFault → R α) : s_exec_calls s ⟨52, 0, 0, 0, 0, 0⟩ k = k ⟨callC s, 0, 0, false⟩ := by
  obtain ⟨X, P, L, V, C, D⟩ := s
  rcases h with h | h <;> simp only at h <;> subst h <;> cases V <;> kernel_rfl
theorem do_ecall {α : Type} {s : GState} (h : s.Level = 0 ∨ s.Level = 1) (hc : s.C 1 = 0) (b : GBus) (k : GBus → GState → GRetire → R α) :
    s_exec_Do b s 115 k = k (NB (NB (NB b))) (entM s ⟨callC s, 0, 0, false⟩) ⟨s.PC, 115, 0, 0, true, ⟨callC s, 0, 0, false⟩, 3, false, false⟩ := by
  have hdo : ∀ (b' : GBus) (k' : GBus → GExec_result → R α), s_exec_does b' s ⟨52, 0, 0, 0, 0, 0⟩ k' = k' (NB b') ⟨⟨fun _ => 0, 0, 0, false, fun _ => 0, 0⟩, 0, ⟨callC s, 0, 0, false⟩, false⟩ := fun b' k' => (does8' (fun _ => rfl) k').trans (calls_ecall h _)
  refine (do_trap dec_ecall (legal_ecall h) hdo rfl k).trans (fault_m s _ 115 (exc_none hc ?_) _)
  show 0 ≤ callC s ∧ callC s ≤ 63
  unfold callC
  repeat' split
  all_goals omega
end Go.Sh
