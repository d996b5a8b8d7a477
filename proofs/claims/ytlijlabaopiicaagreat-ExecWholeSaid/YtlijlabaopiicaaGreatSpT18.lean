/-
  One instruction: each function comes to something, and what is kept (printed by wip/pr/gen_t18.py).
-/
import Derived.Test.YtlijlabaopiicaaGreatSpF18e
namespace Go.Sh
open Go
set_option linter.unusedSimpArgs false
set_option linter.unusedVariables false
section
variable {α : Type}
def W1 {A : Type} (k : A → R α) (Q : A → Prop) (x : R α) : Prop := ∃ r, x = k r ∧ Q r
def W2 {A B : Type} (k : A → B → R α) (Q : A → B → Prop) (x : R α) : Prop := ∃ r s, x = k r s ∧ Q r s
def W3 {A B C : Type} (k : A → B → C → R α) (Q : A → B → C → Prop) (x : R α) : Prop := ∃ r s t, x = k r s t ∧ Q r s t
def W4 {A B C D : Type} (k : A → B → C → D → R α) (Q : A → B → C → D → Prop) (x : R α) : Prop := ∃ r s t u, x = k r s t u ∧ Q r s t u
theorem ret1 {A : Type} {k : A → R α} {Q : A → Prop} {r : A} (h : Q r) : W1 k Q (k r) := ⟨r, rfl, h⟩
theorem ret2 {A B : Type} {k : A → B → R α} {Q : A → B → Prop} {r : A} {s : B} (h : Q r s) : W2 k Q (k r s) := ⟨r, s, rfl, h⟩
theorem ret3 {A B C : Type} {k : A → B → C → R α} {Q : A → B → C → Prop} {r : A} {s : B} {t : C} (h : Q r s t) : W3 k Q (k r s t) := ⟨r, s, t, rfl, h⟩
theorem ret4 {A B C D : Type} {k : A → B → C → D → R α} {Q : A → B → C → D → Prop} {r : A} {s : B} {t : C} {u : D} (h : Q r s t u) : W4 k Q (k r s t u) := ⟨r, s, t, u, rfl, h⟩
theorem cond_i {P : R α → Prop} {b : Bool} {A B : R α} (h1 : b = true → P A) (h2 : b = false → P B) : P (cond b A B) := by
  cases b
  · exact h2 rfl
  · exact h1 rfl
theorem guard_i {P : R α → Prop} {b : Bool} {A : R α} (h : b = true) (hA : P A) : P (cond b A none) := by rw [h]; exact hA
theorem guardn_i {P : R α → Prop} {b : Bool} {A : R α} (h : b = false) (hA : P A) : P (cond b none A) := by rw [h]; exact hA
theorem call1 {P : R α → Prop} {A : Type} {g : (A → R α) → R α} {Q : A → Prop} {body : A → R α} (H : ∀ k', ∃ r, g k' = k' r ∧ Q r) (h : ∀ r, Q r → P (body r)) : P (g body) := by
  obtain ⟨r, e, q⟩ := H body
  rw [e]; exact h r q
theorem call2 {P : R α → Prop} {A B : Type} {g : (A → B → R α) → R α} {Q : A → B → Prop} {body : A → B → R α} (H : ∀ k', ∃ r s, g k' = k' r s ∧ Q r s) (h : ∀ r s, Q r s → P (body r s)) : P (g body) := by
  obtain ⟨r, s, e, q⟩ := H body
  rw [e]; exact h r s q
theorem call3 {P : R α → Prop} {A B C : Type} {g : (A → B → C → R α) → R α} {Q : A → B → C → Prop} {body : A → B → C → R α} (H : ∀ k', ∃ r s t, g k' = k' r s t ∧ Q r s t) (h : ∀ r s t, Q r s t → P (body r s t)) : P (g body) := by
  obtain ⟨r, s, t, e, q⟩ := H body
  rw [e]; exact h r s t q
theorem call4 {P : R α → Prop} {A B C D : Type} {g : (A → B → C → D → R α) → R α} {Q : A → B → C → D → Prop} {body : A → B → C → D → R α} (H : ∀ k', ∃ r s t u, g k' = k' r s t u ∧ Q r s t u) (h : ∀ r s t u, Q r s t u → P (body r s t u)) : P (g body) := by
  obtain ⟨r, s, t, u, e, q⟩ := H body
  rw [e]; exact h r s t u q
theorem idxd {x n : Int} (h : 0 ≤ x ∧ x < n) : (decide (0 ≤ x) && decide (x < n)) = true := by simp [h.1, h.2]
theorem idxn {x : Int} {n : Nat} (h : 0 ≤ x ∧ x < (n : Int)) : decide (x.toNat < n) = true := decide_eq_true (by omega)
theorem leB_tt {x y : Int} (h : leB x y = true) : x ≤ y := by rwa [leB_true] at h
theorem ltB_tt {x y : Int} (h : ltB x y = true) : x < y := by rwa [ltB_true] at h
theorem leB_ff {x y : Int} (h : leB x y = false) : y < x := by unfold leB at h; have := of_decide_eq_false h; omega
theorem ltB_ff {x y : Int} (h : ltB x y = false) : y ≤ x := by unfold ltB at h; have := of_decide_eq_false h; omega
theorem bit_t {s : GState} {i : Int} (h1 : (decide (0 ≤ i) && decide (i < 29)) = true) (h2 : decide (i.toNat < 29) = true) (b : Int) (k : Bool → R α) : ∃ r, s_csr_Bit s i b k = k r ∧ True := ⟨_, bit_eq s h1 h2 b k, trivial⟩
end
theorem T_z4 {α : Type} {x0 : Int} (k : Int → R α) : ∃ r0, s_insn_Class x0 k = k r0 ∧ ((r0 == 0) = false → 1 ≤ x0 ∧ x0 < 70) := by
  show W1 k (fun r0 => (r0 == 0) = false → 1 ≤ x0 ∧ x0 < 70) _
  unfold s_insn_Class p_z4
  try dsimp only
  with_reducible refine cond_i ?_ ?_ <;> intro h1
  · (with_reducible refine ret1 ?_); exact (fun h => by cases h)
  with_reducible refine cond_i ?_ ?_ <;> intro h2
  · (with_reducible refine ret1 ?_); exact (fun h => by cases h)
  have e1 := ltB_ff h1
  have e2 := leB_ff h2
  repeat' first
    | (with_reducible refine ret1 ?_; exact (fun _ => ⟨e1, e2⟩))
    | (with_reducible refine cond_i ?_ ?_ <;> intro _)
theorem T_z2i {α : Type} {x0 : Int}  (k : GInsn_Fields → R α) : ∃ r0, s_insn_jumps x0 k = k r0 ∧ (True) := by
  show W1 k (fun r0 => True) _
  unfold s_insn_jumps p_z2i
  try dsimp only
  repeat' first
    | (with_reducible refine guard_i ?_ ?_)
    | (with_reducible refine guardn_i ?_ ?_)
    | (with_reducible refine cond_i ?_ ?_ <;> intro _)
    | (with_reducible refine ret1 ?_; exact trivial)
    | rfl
    | assumption
theorem T_z2j {α : Type} {x0 : Int}  (k : GInsn_Fields → R α) : ∃ r0, s_insn_withNumber x0 k = k r0 ∧ (True) := by
  show W1 k (fun r0 => True) _
  unfold s_insn_withNumber p_z2j
  try dsimp only
  repeat' first
    | (with_reducible refine guard_i ?_ ?_)
    | (with_reducible refine guardn_i ?_ ?_)
    | (with_reducible refine cond_i ?_ ?_ <;> intro _)
    | (with_reducible refine ret1 ?_; exact trivial)
    | rfl
    | assumption
theorem T_z2k {α : Type} {x0 : Int}  (k : GInsn_Fields → R α) : ∃ r0, s_insn_Of x0 k = k r0 ∧ (True) := by
  show W1 k (fun r0 => True) _
  unfold s_insn_Of p_z2k
  try dsimp only
  repeat' first
    | (with_reducible refine guard_i ?_ ?_)
    | (with_reducible refine guardn_i ?_ ?_)
    | (with_reducible refine cond_i ?_ ?_ <;> intro _)
    | (with_reducible refine call1 (fun k => T_z4 k) ?_; intro _ _)
    | (with_reducible refine call1 (fun k => T_z2i k) ?_; intro _ _)
    | (with_reducible refine call1 (fun k => T_z2j k) ?_; intro _ _)
    | (with_reducible refine ret1 ?_; exact trivial)
    | rfl
    | assumption
theorem T_z1o {α : Type} {x0 : Bool} {x1 x2 : Int} (k : Bool → R α) : ∃ r0, s_insn_field x0 x1 x2 k = k r0 ∧ (r0 = true → 0 < x2 → 0 ≤ x1 ∧ x1 < x2) := by
  show W1 k (fun r0 => r0 = true → 0 < x2 → 0 ≤ x1 ∧ x1 < x2) _
  unfold s_insn_field p_z1o
  try dsimp only
  with_reducible refine cond_i ?_ ?_ <;> intro h1
  · (with_reducible refine ret1 ?_); exact (fun _ h => by simp only [beq_iff_eq] at h1; omega)
  with_reducible refine cond_i ?_ ?_ <;> intro h2
  · with_reducible refine cond_i ?_ ?_ <;> intro h3
    · (with_reducible refine ret1 ?_); exact (fun h _ => by have := ltB_tt h; have := ltB_tt h3; omega)
    · (with_reducible refine ret1 ?_); exact (fun h => by cases h)
  · (with_reducible refine ret1 ?_); exact (fun h => by cases h)
abbrev Fields (i : GInsn) : Prop := (0 ≤ i.Rd ∧ i.Rd < 32) ∧ (0 ≤ i.Rs1 ∧ i.Rs1 < 32) ∧ (0 ≤ i.Rs2 ∧ i.Rs2 < 32)
theorem T_zbo {α : Type} {x0 : GInsn} {f : GInsn_Fields} (k : Bool → R α) : ∃ r0, q_insn_Is_1 s_insn_field x0 k f = k r0 ∧ (r0 = true → Fields x0) := by
  show W1 k (fun r0 => r0 = true → Fields x0) _
  unfold q_insn_Is_1
  with_reducible refine call1 (fun k => T_z1o k) ?_; intro r h
  with_reducible refine cond_i ?_ ?_ <;> intro h1
  · with_reducible refine call1 (fun k => T_z1o k) ?_; intro r2 h2
    with_reducible refine cond_i ?_ ?_ <;> intro h3
    · with_reducible refine call1 (fun k => T_z1o k) ?_; intro r4 h4
      with_reducible refine cond_i ?_ ?_ <;> intro h5
      · with_reducible refine call1 (fun k => T_z1o k) ?_; intro r6 h6
        (with_reducible refine ret1 ?_); exact (fun _ => ⟨h h1 (by omega), h2 h3 (by omega), h4 h5 (by omega)⟩)
      · (with_reducible refine ret1 ?_); exact (fun h => by cases h)
    · (with_reducible refine ret1 ?_); exact (fun h => by cases h)
  · (with_reducible refine ret1 ?_); exact (fun h => by cases h)
theorem T_zc {α : Type} {x0 : GInsn} (k : Bool → R α) : ∃ r0, s_insn_Is x0 k = k r0 ∧ (r0 = true → Fields x0) := by
  show W1 k (fun r0 => r0 = true → Fields x0) _
  unfold s_insn_Is p_zc q_insn_Is_2
  try dsimp only
  repeat' first
    | (with_reducible refine ret1 ?_; exact (fun h => by cases h))
    | exact T_zbo k
    | (with_reducible refine call1 (fun k => T_z4 k) ?_; intro _ _)
    | (with_reducible refine call1 (fun k => T_z2k k) ?_; intro _ _)
    | (with_reducible refine guardn_i (by have := ltB_tt (by assumption); exact decide_eq_false (by omega)) ?_)
    | (with_reducible refine cond_i ?_ ?_ <;> intro _)
theorem T_ze {α : Type} {x0 : Int}  (k : Int → R α) : ∃ r0, s_decode_Opcode x0 k = k r0 ∧ (True) := by
  show W1 k (fun r0 => True) _
  unfold s_decode_Opcode p_ze
  try dsimp only
  try simp only [bits_eq, set_eq, sext_eq, zext_eq]
  repeat' first
    | (with_reducible refine guard_i ?_ ?_)
    | (with_reducible refine guardn_i ?_ ?_)
    | (with_reducible refine cond_i ?_ ?_ <;> intro _)
    | (with_reducible refine ret1 ?_; exact trivial)
    | rfl
    | assumption
theorem T_zh {α : Type} {x0 : GDecode_parts} {x1 : Int}  (k : GInsn → R α) : ∃ r0, s_decode_parts_immediate x0 x1 k = k r0 ∧ (True) := by
  show W1 k (fun r0 => True) _
  unfold s_decode_parts_immediate p_zh
  try dsimp only
  try simp only [bits_eq, set_eq, sext_eq, zext_eq]
  repeat' first
    | (with_reducible refine guard_i ?_ ?_)
    | (with_reducible refine guardn_i ?_ ?_)
    | (with_reducible refine cond_i ?_ ?_ <;> intro _)
    | (with_reducible refine ret1 ?_; exact trivial)
    | rfl
    | assumption
theorem T_z13 {α : Type} {x0 : Int}  (k : Int → R α) : ∃ r0, s_decode_fence x0 k = k r0 ∧ (True) := by
  show W1 k (fun r0 => True) _
  unfold s_decode_fence p_z13
  try dsimp only
  repeat' first
    | (with_reducible refine guard_i ?_ ?_)
    | (with_reducible refine guardn_i ?_ ?_)
    | (with_reducible refine cond_i ?_ ?_ <;> intro _)
    | (with_reducible refine ret1 ?_; exact trivial)
    | rfl
    | assumption
theorem T_z14 {α : Type} {x0 : GDecode_parts}  (k : GInsn → Bool → R α) : ∃ r0 r1, s_decode_parts_guests x0 k = k r0 r1 ∧ (True) := by
  show W2 k (fun r0 r1 => True) _
  unfold s_decode_parts_guests p_z14 q_decode_parts_guests_2 q_decode_parts_guests_1
  try dsimp only
  repeat' first
    | (with_reducible refine guard_i ?_ ?_)
    | (with_reducible refine guardn_i ?_ ?_)
    | (with_reducible refine cond_i ?_ ?_ <;> intro _)
    | (with_reducible refine ret2 ?_; exact trivial)
    | rfl
    | assumption
theorem T_zu {α : Type} {x0 : GDecode_parts} (hf : 0 ≤ x0.f3 ∧ x0.f3 < 8) (k : GInsn → Bool → R α) : ∃ r0 r1, s_decode_parts_reckons x0 k = k r0 r1 ∧ (True) := by
  show W2 k (fun r0 r1 => True) _
  unfold s_decode_parts_reckons p_zu q_decode_parts_reckons_5 q_decode_parts_reckons_4 q_decode_parts_reckons_3 q_decode_parts_reckons_2 q_decode_parts_reckons_1
  try dsimp only
  try simp only [bits_eq, set_eq, sext_eq, zext_eq]
  repeat' first
    | (with_reducible refine guard_i ?_ ?_)
    | (with_reducible refine guardn_i ?_ ?_)
    | (with_reducible refine cond_i ?_ ?_ <;> intro _)
    | (with_reducible refine call1 (fun k => T_ze k) ?_; intro _ _)
    | (with_reducible refine call1 (fun k => T_zh k) ?_; intro _ _)
    | (with_reducible refine ret2 ?_; exact trivial)
    | exact idxd hf
    | exact idxn hf
    | rfl
    | assumption
theorem T_zv {α : Type} {x0 : GDecode_parts} (hf : 0 ≤ x0.f3 ∧ x0.f3 < 8) (k : GInsn → Bool → R α) : ∃ r0 r1, s_decode_parts_registers x0 k = k r0 r1 ∧ (True) := by
  show W2 k (fun r0 r1 => True) _
  unfold s_decode_parts_registers p_zv q_decode_parts_registers_2 q_decode_parts_registers_1
  try dsimp only
  repeat' first
    | (with_reducible refine guard_i ?_ ?_)
    | (with_reducible refine guardn_i ?_ ?_)
    | (with_reducible refine cond_i ?_ ?_ <;> intro _)
    | (with_reducible refine call1 (fun k => T_ze k) ?_; intro _ _)
    | (with_reducible refine ret2 ?_; exact trivial)
    | exact idxd hf
    | exact idxn hf
    | rfl
    | assumption
theorem T_zw {α : Type} {x0 : GDecode_parts} (hf : 0 ≤ x0.f3 ∧ x0.f3 < 8) (k : GInsn → Bool → R α) : ∃ r0 r1, s_decode_parts_system x0 k = k r0 r1 ∧ (True) := by
  show W2 k (fun r0 r1 => True) _
  unfold s_decode_parts_system p_zw q_decode_parts_system_1
  try dsimp only
  try simp only [bits_eq, set_eq, sext_eq, zext_eq]
  repeat' first
    | (with_reducible refine guard_i ?_ ?_)
    | (with_reducible refine guardn_i ?_ ?_)
    | (with_reducible refine cond_i ?_ ?_ <;> intro _)
    | (with_reducible refine call1 (fun k => T_z13 k) ?_; intro _ _)
    | (with_reducible refine call2 (fun k => T_z14 k) ?_; intro _ _ _)
    | (with_reducible refine ret2 ?_; exact trivial)
    | exact idxd hf
    | exact idxn hf
    | rfl
    | assumption
theorem T_z2h {α : Type} {x0 : GDecode_parts} (hf : 0 ≤ x0.f3 ∧ x0.f3 < 8) (k : GInsn → Bool → R α) : ∃ r0 r1, s_decode_parts_insn x0 k = k r0 r1 ∧ (True) := by
  show W2 k (fun r0 r1 => True) _
  unfold s_decode_parts_insn p_z2h
  try dsimp only
  try simp only [bits_eq, set_eq, sext_eq, zext_eq]
  repeat' first
    | (with_reducible refine guard_i ?_ ?_)
    | (with_reducible refine guardn_i ?_ ?_)
    | (with_reducible refine cond_i ?_ ?_ <;> intro _)
    | (with_reducible refine call1 (fun k => T_ze k) ?_; intro _ _)
    | (with_reducible refine call1 (fun k => T_zh k) ?_; intro _ _)
    | (with_reducible refine call2 (fun k => T_zu hf k) ?_; intro _ _ _)
    | (with_reducible refine call2 (fun k => T_zv hf k) ?_; intro _ _ _)
    | (with_reducible refine call2 (fun k => T_zw hf k) ?_; intro _ _ _)
    | (with_reducible refine ret2 ?_; exact trivial)
    | exact idxd hf
    | exact idxn hf
    | rfl
    | assumption
theorem T_z29 {α : Type} {w : Int} (h : W32 w) (k : GInsn → Int → R α) : ∃ i e, s_decode_Decode w k = k i e ∧ ((e != 0) = false → Fields i) := by
  show W2 k (fun i e => (e != 0) = false → Fields i) _
  unfold s_decode_Decode p_z29
  rw [of_eq h]
  with_reducible refine call2 (fun k => T_z2h (show 0 ≤ w / 4096 % 8 ∧ w / 4096 % 8 < 8 by omega) k) ?_
  intro i ok _
  with_reducible refine cond_i ?_ ?_ <;> intro h1
  · (with_reducible refine ret2 ?_); exact (fun h => by cases h)
  with_reducible refine call1 (fun k => T_zc k) ?_
  intro t ht
  with_reducible refine cond_i ?_ ?_ <;> intro h2
  · (with_reducible refine ret2 ?_); exact (fun h => by cases h)
  · (with_reducible refine ret2 ?_); exact (fun _ => ht (by simpa using h2))
theorem told_s {α : Type} (s : GState) (f : GFault) (k : GState → R α) : s_trap_told_enter ⟨12, 13, 14, 20, 10⟩ s f k = k ⟨s.X, upd (upd (upd (upd s.C 12 s.PC) 13 f.Cause) 14 f.Value) 20 f.Place 10, s.Level, s.V, upd (upd (upd (upd s.C 12 s.PC) 13 f.Cause) 14 f.Value) 20 f.Place, s.Done⟩ := rfl
theorem told_v {α : Type} (s : GState) (f : GFault) (k : GState → R α) : s_trap_told_enter ⟨25, 26, 27, -1, 23⟩ s f k = k ⟨s.X, upd (upd (upd s.C 25 s.PC) 26 f.Cause) 27 f.Value 23, s.Level, s.V, upd (upd (upd s.C 25 s.PC) 26 f.Cause) 27 f.Value, s.Done⟩ := rfl
def lowC (c : Nat → Int) (i : Int) (lvl : Int) : Nat → Int := enterC (putC c i.toNat 8 (bitop .and .i64 lvl 1 == 1)) i 1 5
theorem lower_eq {α : Type} (s : GState) {i : Int} (h1 : (decide (0 ≤ i) && decide (i < 29)) = true) (h2 : decide (i.toNat < 29) = true) (lvl : Int) (k : GState → R α) : s_trap_lower s i lvl k = k (withC s (lowC s.C i lvl)) := by
  unfold s_trap_lower p_z2n
  simp only [put_eq _ h1 h2, kept_enter _ h1 h2]
  rfl
abbrev Kept (s u : GState) : Prop := u.X = s.X ∧ u.Done = s.Done
theorem put_0 {α : Type} (s : GState) (b : Int) (on : Bool) (k : GState → R α) : s_csr_Put s 0 b on k = k (withC s (putC s.C 0 b on)) := put_eq s rfl rfl b on k
theorem put_16 {α : Type} (s : GState) (b : Int) (on : Bool) (k : GState → R α) : s_csr_Put s 16 b on k = k (withC s (putC s.C 16 b on)) := put_eq s rfl rfl b on k
theorem put_22 {α : Type} (s : GState) (b : Int) (on : Bool) (k : GState → R α) : s_csr_Put s 22 b on k = k (withC s (putC s.C 22 b on)) := put_eq s rfl rfl b on k
theorem kb_0 {α : Type} (s : GState) (now was : Int) (k : GState → R α) : s_trap_kept_back ⟨0, now, was⟩ s k = k (withC s (backC s.C 0 now was)) := kept_back s rfl rfl now was k
theorem kb_22 {α : Type} (s : GState) (now was : Int) (k : GState → R α) : s_trap_kept_back ⟨22, now, was⟩ s k = k (withC s (backC s.C 22 now was)) := kept_back s rfl rfl now was k
theorem ke_0 {α : Type} (s : GState) (now was : Int) (k : GState → R α) : s_trap_kept_enter ⟨0, now, was⟩ s k = k (withC s (enterC s.C 0 now was)) := kept_enter s rfl rfl now was k
theorem lo_0 {α : Type} (s : GState) (l : Int) (k : GState → R α) : s_trap_lower s 0 l k = k (withC s (lowC s.C 0 l)) := lower_eq s rfl rfl l k
theorem lo_22 {α : Type} (s : GState) (l : Int) (k : GState → R α) : s_trap_lower s 22 l k = k (withC s (lowC s.C 22 l)) := lower_eq s rfl rfl l k
theorem bt_0 {α : Type} (s : GState) (b : Int) (k : Bool → R α) : s_csr_Bit s 0 b k = k (bitS s.C 0 b) := bit_eq s rfl rfl b k
theorem bt_16 {α : Type} (s : GState) (b : Int) (k : Bool → R α) : s_csr_Bit s 16 b k = k (bitS s.C 16 b) := bit_eq s rfl rfl b k
theorem T_z22' {α : Type} {Ft : Sg_z2m α} {Fs : Sg_zg α} {Fp : Sg_za α} {Fk : Sg_z1i α} {Fl : Sg_z2n α} {s : GState} {f : GFault} {lv : Int} {v : Bool}
    (h1 : ∀ p (k' : GState → R α), p = ⟨6, 7, 8, 9, 4⟩ ∨ p = ⟨12, 13, 14, 20, 10⟩ ∨ p = ⟨25, 26, 27, -1, 23⟩ → ∃ u, Ft p s f k' = k' u ∧ Kept s u) (h2 : ∀ v lo n x (k' : Int → R α), Fs v lo n x k' = k' (setS v lo n x))
    (h3 : ∀ u i b on (k' : GState → R α), i = 0 ∨ i = 16 ∨ i = 22 → ∃ u', Fp u i b on k' = k' u' ∧ Kept u u') (h4 : ∀ u (k' : GState → R α), ∃ u', Fk ⟨0, 3, 7⟩ u k' = k' u' ∧ Kept u u') (h5 : ∀ u i l (k' : GState → R α), i = 0 ∨ i = 22 → ∃ u', Fl u i l k' = k' u' ∧ Kept u u')
    (k : GState → R α) : ∃ u, p_z22 Ft Fs Fp Fk Fl s f lv v k = k u ∧ Kept s u := by
  show W1 k (fun u => Kept s u) _
  unfold p_z22
  try dsimp only
  with_reducible refine cond_i ?_ ?_ <;> intro _
  · with_reducible refine call1 (fun k' => h1 _ k' (.inl rfl)) ?_; intro a ha
    simp only [h2]
    with_reducible refine call1 (fun k' => h3 _ 0 39 _ k' (.inl rfl)) ?_; intro b hb
    with_reducible refine call1 (fun k' => h3 _ 0 38 _ k' (.inl rfl)) ?_; intro c hc
    with_reducible refine call1 (fun k' => h4 _ k') ?_; intro d hd
    (with_reducible refine ret1 ?_); exact ⟨by rw [hd.1, hc.1, hb.1]; exact ha.1, by rw [hd.2, hc.2, hb.2]; exact ha.2⟩
  with_reducible refine cond_i ?_ ?_ <;> intro _
  · with_reducible refine call1 (fun k' => h1 _ k' (.inr (.inl rfl))) ?_; intro a ha
    with_reducible refine call1 (fun k' => h5 _ 0 _ k' (.inl rfl)) ?_; intro b hb
    with_reducible refine call1 (fun k' => h3 _ 16 7 _ k' (.inr (.inl rfl))) ?_; intro c hc
    with_reducible refine call1 (fun k' => h3 _ 16 6 _ k' (.inr (.inl rfl))) ?_; intro d hd
    with_reducible refine cond_i ?_ ?_ <;> intro _
    · with_reducible refine call1 (fun k' => h3 _ 16 8 _ k' (.inr (.inl rfl))) ?_; intro e he
      (with_reducible refine ret1 ?_); exact ⟨by rw [he.1, hd.1, hc.1, hb.1]; exact ha.1, by rw [he.2, hd.2, hc.2, hb.2]; exact ha.2⟩
    · (with_reducible refine ret1 ?_); exact ⟨by rw [hd.1, hc.1, hb.1]; exact ha.1, by rw [hd.2, hc.2, hb.2]; exact ha.2⟩
  with_reducible refine cond_i ?_ ?_ <;> intro _
  · with_reducible refine cond_i ?_ ?_ <;> intro _
    · with_reducible refine call1 (fun k' => h1 _ k' (.inr (.inr rfl))) ?_; intro a ha
      with_reducible refine call1 (fun k' => h5 _ 22 _ k' (.inr rfl)) ?_; intro b hb
      (with_reducible refine ret1 ?_); exact ⟨by rw [hb.1]; exact ha.1, by rw [hb.2]; exact ha.2⟩
    · (with_reducible refine ret1 ?_); exact ⟨rfl, rfl⟩
  · (with_reducible refine ret1 ?_); exact ⟨rfl, rfl⟩
theorem T_z22 {α : Type} {s : GState} {f : GFault} {lv : Int} {v : Bool} (k : GState → R α) : ∃ u, s_trap_Enter s f lv v k = k u ∧ Kept s u :=
  T_z22' (fun p k' h => by
    rcases h with rfl | rfl | rfl
    · exact ⟨_, told_m s f k', rfl, rfl⟩
    · exact ⟨_, told_s s f k', rfl, rfl⟩
    · exact ⟨_, told_v s f k', rfl, rfl⟩) set_eq (fun u i b on k' h => by
    rcases h with rfl | rfl | rfl
    · exact ⟨_, put_0 u b on k', rfl, rfl⟩
    · exact ⟨_, put_16 u b on k', rfl, rfl⟩
    · exact ⟨_, put_22 u b on k', rfl, rfl⟩) (fun u k' => ⟨_, ke_0 u 3 7 k', rfl, rfl⟩) (fun u i l k' h => by
    rcases h with rfl | rfl
    · exact ⟨_, lo_0 u l k', rfl, rfl⟩
    · exact ⟨_, lo_22 u l k', rfl, rfl⟩) k
theorem T_z25 {α : Type} {s : GState} {i c : Int} (h : i = 1 ∨ i = 17) (k : Bool → R α) : ∃ r, s_route_has s i c k = k r ∧ True := by
  show W1 k (fun _ => True) _
  unfold s_route_has p_z25
  try dsimp only
  with_reducible refine cond_i ?_ ?_ <;> intro _
  · rcases h with rfl | rfl
    · refine guard_i rfl (guard_i rfl ?_)
      rw [bits_eq]; exact ret1 trivial
    · refine guard_i rfl (guard_i rfl ?_)
      rw [bits_eq]; exact ret1 trivial
  · (with_reducible refine ret1 ?_); exact trivial
theorem T_z2l {α : Type} {s : GState} {c : Int} (k : Int → Bool → R α) : ∃ r t, s_route_Exception s c k = k r t ∧ True := by
  show W2 k (fun _ _ => True) _
  unfold s_route_Exception p_z2l
  try dsimp only
  repeat' first
    | (with_reducible refine cond_i ?_ ?_ <;> intro _)
    | (with_reducible refine call1 (fun k => T_z25 (s := s) (i := 1) (c := c) (Or.inl (Eq.refl (1 : Int))) k) ?_; intro _ _)
    | (with_reducible refine call1 (fun k => T_z25 (s := s) (i := 17) (c := c) (Or.inr (Eq.refl (17 : Int))) k) ?_; intro _ _)
    | (with_reducible refine ret2 ?_; exact trivial)
abbrev Trapped (s : GState) (w : Int) (u : GState) (r : GRetire) : Prop := Kept s u ∧ r.PC = s.PC ∧ r.Word = w ∧ r.Rd = 0 ∧ r.Value = 0 ∧ r.Trap = true
theorem T_z1x {α : Type} {s : GState} {f : GFault} {w : Int} (k : GState → GRetire → R α) : ∃ u r, s_exec_Fault s f w k = k u r ∧ Trapped s w u r := by
  show W2 k (fun u r => Trapped s w u r) _
  unfold s_exec_Fault p_z1x
  with_reducible refine call2 (fun k => T_z2l k) ?_; intro _ _ _
  with_reducible refine call1 (fun k => T_z22 k) ?_; intro u hu
  (with_reducible refine ret2 ?_); exact ⟨hu, rfl, rfl, rfl, rfl, rfl⟩
theorem and3 (x : Int) : 0 ≤ bitop .and .i64 x 3 ∧ bitop .and .i64 x 3 < 4 := by
  have e : bitop .and .i64 x 3 = IntKind.i64.wrap ((BitVec.ofInt 64 x &&& 3#64).toNat : Int) := rfl
  have h : (BitVec.ofInt 64 x &&& 3#64).toNat < 4 := by
    rw [BitVec.toNat_and]
    exact Nat.lt_of_le_of_lt Nat.and_le_right (by decide)
  rw [e, wrap_i64 (by omega) (by omega)]
  omega
theorem T_zs {α : Type} {s : GState} (k : Int → R α) : ∃ r, s_legal_Level s k = k r ∧ (0 ≤ r ∧ r < 6) := by
  obtain ⟨X, P, L, V, C, D⟩ := s
  by_cases h0 : L = 0
  · subst h0
    cases V
    · exact ⟨0, by kernel_rfl, by omega, by omega⟩
    · exact ⟨4, by kernel_rfl, by omega, by omega⟩
  by_cases h1 : L = 1
  · subst h1
    cases V
    · exact ⟨1, by kernel_rfl, by omega, by omega⟩
    · exact ⟨5, by kernel_rfl, by omega, by omega⟩
  · have e0 : (L != 0) = true := by simpa using h0
    have e1 : (L != 1) = true := by simpa using h1
    refine ⟨3, ?_, by omega, by omega⟩
    unfold s_legal_Level p_zs
    simp only [e0, e1, cond_true]
theorem T_zz {α : Type} {x : Int} (k : Int → R α) : ∃ r, s_legal_ask x k = k r ∧ (0 ≤ r ∧ r < 4) := by
  show W1 k (fun r => 0 ≤ r ∧ r < 4) _
  unfold s_legal_ask p_zz
  (with_reducible refine ret1 ?_); exact (and3 _)
theorem T_zb {α : Type} {x0 : Bool} {x1 : Int}  (k : Int → Bool → R α) : ∃ r0 r1, s_legal_because x0 x1 k = k r0 r1 ∧ (True) := by
  show W2 k (fun r0 r1 => True) _
  unfold s_legal_because p_zb
  try dsimp only
  repeat' first
    | (with_reducible refine guard_i ?_ ?_)
    | (with_reducible refine guardn_i ?_ ?_)
    | (with_reducible refine cond_i ?_ ?_ <;> intro _)
    | (with_reducible refine ret2 ?_; exact trivial)
    | rfl
    | assumption
theorem T_z1d {α : Type} {x0 : GInsn}  (k : Bool → R α) : ∃ r0, s_legal_Writes x0 k = k r0 ∧ (True) := by
  show W1 k (fun r0 => True) _
  unfold s_legal_Writes p_z1d
  try dsimp only
  repeat' first
    | (with_reducible refine guard_i ?_ ?_)
    | (with_reducible refine guardn_i ?_ ?_)
    | (with_reducible refine cond_i ?_ ?_ <;> intro _)
    | (with_reducible refine ret1 ?_; exact trivial)
    | rfl
    | assumption
theorem T_z1 {α : Type}   (k : Int → R α) : ∃ r0, s_csr_guests  k = k r0 ∧ (True) := by
  show W1 k (fun r0 => True) _
  unfold s_csr_guests p_z1
  try dsimp only
  repeat' first
    | (with_reducible refine guard_i ?_ ?_)
    | (with_reducible refine guardn_i ?_ ?_)
    | (with_reducible refine cond_i ?_ ?_ <;> intro _)
    | (with_reducible refine ret1 ?_; exact trivial)
    | rfl
    | assumption
theorem T_zk {α : Type} {x0 : Int} (k : Int → R α) : ∃ r, s_csr_Index x0 k = k r ∧ (-1 ≤ r ∧ r < 29) := by
  show W1 k (fun r => -1 ≤ r ∧ r < 29) _
  unfold s_csr_Index p_zk
  with_reducible refine call1 (fun k => T_z1 k) ?_; intro _ _
  try dsimp only
  repeat' first
    | (with_reducible refine ret1 ?_; exact ⟨by decide, by decide⟩)
    | (with_reducible refine cond_i ?_ ?_ <;> intro _)
theorem T_z2o {α : Type} {x0 : Int}  (k : Bool → R α) : ∃ r0, s_csr_Is x0 k = k r0 ∧ (True) := by
  show W1 k (fun r0 => True) _
  unfold s_csr_Is p_z2o
  try dsimp only
  repeat' first
    | (with_reducible refine guard_i ?_ ?_)
    | (with_reducible refine guardn_i ?_ ?_)
    | (with_reducible refine cond_i ?_ ?_ <;> intro _)
    | (with_reducible refine call1 (fun k => T_zk k) ?_; intro _ _)
    | (with_reducible refine ret1 ?_; exact trivial)
    | rfl
    | assumption
theorem T_z20 {α : Type} {x0 : GState} {x1 : Int} {x2 : Int}  (k : Int → Bool → R α) : ∃ r0 r1, s_legal_guestCsr x0 x1 x2 k = k r0 r1 ∧ (True) := by
  show W2 k (fun r0 r1 => True) _
  unfold s_legal_guestCsr p_z20
  try dsimp only
  repeat' first
    | (with_reducible refine guard_i ?_ ?_)
    | (with_reducible refine guardn_i ?_ ?_)
    | (with_reducible refine cond_i ?_ ?_ <;> intro _)
    | (with_reducible refine call1 (fun k => T_zz k) ?_; intro _ _)
    | (with_reducible refine call2 (fun k => T_zb k) ?_; intro _ _ _)
    | (with_reducible refine call1 (fun k => bit_t rfl rfl _ k) ?_; intro _ _)
    | (with_reducible refine ret2 ?_; exact trivial)
    | rfl
    | assumption
theorem T_zbp {α : Type} {x1 r1 : Int} (k : Int → Bool → R α) : ∃ r s, q_legal_Csr_1 s_legal_because s_legal_ask x1 k r1 = k r s ∧ True := by
  show W2 k (fun _ _ => True) _
  unfold q_legal_Csr_1
  with_reducible refine call1 (fun k => T_zz k) ?_; intro r hr
  refine guard_i (idxd hr) (guard_i (idxn hr) ?_)
  with_reducible refine call2 (fun k => T_zb k) ?_; intro _ _ _
  (with_reducible refine ret2 ?_); exact trivial
theorem T_z2p {α : Type} {x0 : GState} {x1 : Int} {x2 : Bool}  (k : Int → Bool → R α) : ∃ r0 r1, s_legal_Csr x0 x1 x2 k = k r0 r1 ∧ (True) := by
  show W2 k (fun r0 r1 => True) _
  unfold s_legal_Csr p_z2p q_legal_Csr_2
  try dsimp only
  repeat' first
    | (with_reducible refine guard_i ?_ ?_)
    | (with_reducible refine guardn_i ?_ ?_)
    | (with_reducible refine cond_i ?_ ?_ <;> intro _)
    | (with_reducible refine call1 (fun k => T_zs k) ?_; intro _ _)
    | (with_reducible refine call1 (fun k => T_z2o k) ?_; intro _ _)
    | (with_reducible refine call2 (fun k => T_z20 k) ?_; intro _ _ _)
    | exact T_zbp k
    | (with_reducible refine call2 (fun k => T_zb k) ?_; intro _ _ _)
    | (with_reducible refine call1 (fun k => bit_t rfl rfl _ k) ?_; intro _ _)
    | (with_reducible refine call1 (fun k => T_zz k) ?_; intro _ _)
    | (with_reducible refine ret2 ?_; exact trivial)
    | rfl
    | assumption
theorem T_z2a {α : Type} {x0 : GState} {x1 : Int} {x2 : Int} {x3 : Int}  (k : Int → Bool → R α) : ∃ r0 r1, s_legal_plain x0 x1 x2 x3 k = k r0 r1 ∧ (True) := by
  show W2 k (fun r0 r1 => True) _
  unfold s_legal_plain p_z2a
  try dsimp only
  repeat' first
    | (with_reducible refine guard_i ?_ ?_)
    | (with_reducible refine guardn_i ?_ ?_)
    | (with_reducible refine cond_i ?_ ?_ <;> intro _)
    | (with_reducible refine call1 (fun k => bit_t rfl rfl _ k) ?_; intro _ _)
    | (with_reducible refine call2 (fun k => T_zb k) ?_; intro _ _ _)
    | (with_reducible refine ret2 ?_; exact trivial)
    | rfl
    | assumption
theorem T_z2q {α : Type} {x0 : GState} {x1 : Int}  (k : Int → Bool → R α) : ∃ r0 r1, s_legal_wfi x0 x1 k = k r0 r1 ∧ (True) := by
  show W2 k (fun r0 r1 => True) _
  unfold s_legal_wfi p_z2q
  try dsimp only
  repeat' first
    | (with_reducible refine guard_i ?_ ?_)
    | (with_reducible refine guardn_i ?_ ?_)
    | (with_reducible refine cond_i ?_ ?_ <;> intro _)
    | (with_reducible refine call1 (fun k => bit_t rfl rfl _ k) ?_; intro _ _)
    | (with_reducible refine ret2 ?_; exact trivial)
    | rfl
    | assumption
theorem T_z26 {α : Type} {x0 : GState} {x1 : Int} {x2 : Int}  (k : Int → Bool → R α) : ∃ r0 r1, s_legal_guests x0 x1 x2 k = k r0 r1 ∧ (True) := by
  show W2 k (fun r0 r1 => True) _
  unfold s_legal_guests p_z26
  try dsimp only
  repeat' first
    | (with_reducible refine guard_i ?_ ?_)
    | (with_reducible refine guardn_i ?_ ?_)
    | (with_reducible refine cond_i ?_ ?_ <;> intro _)
    | (with_reducible refine call1 (fun k => T_z4 k) ?_; intro _ _)
    | (with_reducible refine call1 (fun k => bit_t rfl rfl _ k) ?_; intro _ _)
    | (with_reducible refine call2 (fun k => T_zb k) ?_; intro _ _ _)
    | (with_reducible refine ret2 ?_; exact trivial)
    | rfl
    | assumption
theorem T_zr {α : Type} {x0 : GState} {x1 : GInsn}  (k : Int → Bool → R α) : ∃ r0 r1, s_legal_Insn x0 x1 k = k r0 r1 ∧ (True) := by
  show W2 k (fun r0 r1 => True) _
  unfold s_legal_Insn p_zr
  try dsimp only
  repeat' first
    | (with_reducible refine guard_i ?_ ?_)
    | (with_reducible refine guardn_i ?_ ?_)
    | (with_reducible refine cond_i ?_ ?_ <;> intro _)
    | (with_reducible refine call1 (fun k => T_zc k) ?_; intro _ _)
    | (with_reducible refine call1 (fun k => T_zs k) ?_; intro _ _)
    | (with_reducible refine call1 (fun k => T_z4 k) ?_; intro _ _)
    | (with_reducible refine call1 (fun k => T_z1d k) ?_; intro _ _)
    | (with_reducible refine call2 (fun k => T_z2p k) ?_; intro _ _ _)
    | (with_reducible refine call2 (fun k => T_zb k) ?_; intro _ _ _)
    | (with_reducible refine call2 (fun k => T_z2a k) ?_; intro _ _ _)
    | (with_reducible refine call2 (fun k => T_z2q k) ?_; intro _ _ _)
    | (with_reducible refine call2 (fun k => T_z26 k) ?_; intro _ _ _)
    | (with_reducible refine ret2 ?_; exact trivial)
    | rfl
    | assumption
theorem T_z1f {α : Type} {x0 : Int} {x1 : Int}  (k : Bool → R α) : ∃ r0, s_word_High x0 x1 k = k r0 ∧ (True) := by
  show W1 k (fun r0 => True) _
  unfold s_word_High p_z1f
  try dsimp only
  repeat' first
    | (with_reducible refine guard_i ?_ ?_)
    | (with_reducible refine guardn_i ?_ ?_)
    | (with_reducible refine cond_i ?_ ?_ <;> intro _)
    | (with_reducible refine ret1 ?_; exact trivial)
    | rfl
    | assumption
theorem T_z2b {α : Type} {x0 : Bool}  (k : Int → R α) : ∃ r0, s_alu_one x0 k = k r0 ∧ (True) := by
  show W1 k (fun r0 => True) _
  unfold s_alu_one p_z2b
  try dsimp only
  repeat' first
    | (with_reducible refine guard_i ?_ ?_)
    | (with_reducible refine guardn_i ?_ ?_)
    | (with_reducible refine cond_i ?_ ?_ <;> intro _)
    | (with_reducible refine ret1 ?_; exact trivial)
    | rfl
    | assumption
theorem T_z21 {α : Type} {x0 : Int}  (k : Bool → R α) : ∃ r0, s_alu_narrow x0 k = k r0 ∧ (True) := by
  show W1 k (fun r0 => True) _
  unfold s_alu_narrow p_z21
  try dsimp only
  repeat' first
    | (with_reducible refine guard_i ?_ ?_)
    | (with_reducible refine guardn_i ?_ ?_)
    | (with_reducible refine cond_i ?_ ?_ <;> intro _)
    | (with_reducible refine ret1 ?_; exact trivial)
    | rfl
    | assumption
theorem andneg {x y : Int} : decide (bitop .and .u64 x y < 0) = false := decide_eq_false (by have := bitop_u64 .and x y; omega)
theorem T_z1v {α : Type} {x0 : Int} {x1 : Int} {x2 : Int} {x3 : Int}  (k : Int → R α) : ∃ r0, s_alu_does x0 x1 x2 x3 k = k r0 ∧ (True) := by
  show W1 k (fun r0 => True) _
  unfold s_alu_does p_z1v
  try dsimp only
  repeat' first
    | (with_reducible refine guard_i ?_ ?_)
    | (with_reducible refine guardn_i ?_ ?_)
    | (with_reducible refine cond_i ?_ ?_ <;> intro _)
    | (refine guardn_i andneg ?_)
    | (with_reducible refine call1 (fun k => T_z1f k) ?_; intro _ _)
    | (with_reducible refine call1 (fun k => T_z2b k) ?_; intro _ _)
    | (with_reducible refine ret1 ?_; exact trivial)
    | exact andneg
    | rfl
    | assumption
theorem T_z1u {α : Type} {x0 : Int} (h : 1 ≤ x0 ∧ x0 < 70) (k : Int → R α) : ∃ r, s_alu_plain x0 k = k r ∧ True := by
  show W1 k (fun _ => True) _
  unfold s_alu_plain p_z1u q_alu_plain_1
  try dsimp only
  have hf : 0 ≤ x0 ∧ x0 < 70 := by omega
  repeat' first
    | (with_reducible refine ret1 ?_; exact trivial)
    | (with_reducible refine guard_i ?_ ?_)
    | (with_reducible refine cond_i ?_ ?_ <;> intro _)
    | (with_reducible refine call1 (fun k => T_z4 k) ?_; intro _ _)
    | exact idxd hf
    | exact idxn hf
theorem T_z9h {α : Type} {x0 x1 x2 : Int} (h : 1 ≤ x0 ∧ x0 < 70) (k : Int → R α) : ∃ r, q_alu_Do_1 s_alu_narrow s_alu_plain s_alu_does s_word_Zext s_word_Sext x0 x1 x2 k = k r ∧ True := by
  show W1 k (fun _ => True) _
  unfold q_alu_Do_1
  try dsimp only
  simp only [sext_eq, zext_eq]
  repeat' first
    | (with_reducible refine ret1 ?_; exact trivial)
    | (with_reducible refine call1 (fun k => T_z21 k) ?_; intro _ _)
    | (with_reducible refine call1 (fun k => T_z1u h k) ?_; intro _ _)
    | (with_reducible refine call1 (fun k => T_z1v k) ?_; intro _ _)
    | (with_reducible refine cond_i ?_ ?_ <;> intro _)
theorem T_z28 {α : Type} {x0 x1 x2 : Int} (k : Int → R α) : ∃ r, s_alu_Do x0 x1 x2 k = k r ∧ True := by
  show W1 k (fun _ => True) _
  unfold s_alu_Do p_z28
  try dsimp only
  with_reducible refine call1 (fun k => T_z4 k) ?_; intro c hc
  with_reducible refine cond_i ?_ ?_ <;> intro h1
  · with_reducible refine cond_i ?_ ?_ <;> intro h2
    · (with_reducible refine ret1 ?_); exact trivial
    · have e : c = 6 := by simpa using h2
      exact T_z9h (hc (by subst e; rfl)) k
  · have e : c = 5 := by simpa using h1
    exact T_z9h (hc (by subst e; rfl)) k
theorem T_z1g {α : Type} {x0 : Int} {x1 : Int} {x2 : Int}  (k : Bool → R α) : ∃ r0, s_alu_Taken x0 x1 x2 k = k r0 ∧ (True) := by
  show W1 k (fun r0 => True) _
  unfold s_alu_Taken p_z1g
  try dsimp only
  repeat' first
    | (with_reducible refine guard_i ?_ ?_)
    | (with_reducible refine guardn_i ?_ ?_)
    | (with_reducible refine cond_i ?_ ?_ <;> intro _)
    | (with_reducible refine call1 (fun k => T_z1f k) ?_; intro _ _)
    | (with_reducible refine ret1 ?_; exact trivial)
    | rfl
    | assumption
theorem T_z23 {α : Type} {x0 : Int} {x1 : Int} {x2 : Int}  (k : Int → R α) : ∃ r0, s_alu_Csr x0 x1 x2 k = k r0 ∧ (True) := by
  show W1 k (fun r0 => True) _
  unfold s_alu_Csr p_z23
  try dsimp only
  repeat' first
    | (with_reducible refine guard_i ?_ ?_)
    | (with_reducible refine guardn_i ?_ ?_)
    | (with_reducible refine cond_i ?_ ?_ <;> intro _)
    | (with_reducible refine ret1 ?_; exact trivial)
    | rfl
    | assumption
theorem T_zx {α : Type} {x0 : Int}  (k : Int → R α) : ∃ r0, s_insn_Size x0 k = k r0 ∧ (True) := by
  show W1 k (fun r0 => True) _
  unfold s_insn_Size p_zx
  try dsimp only
  repeat' first
    | (with_reducible refine guard_i ?_ ?_)
    | (with_reducible refine guardn_i ?_ ?_)
    | (with_reducible refine cond_i ?_ ?_ <;> intro _)
    | (with_reducible refine ret1 ?_; exact trivial)
    | rfl
    | assumption
theorem T_zo {α : Type} {x0 : Int} {x1 : Int}  (k : Int → R α) : ∃ r0, s_alu_Extend x0 x1 k = k r0 ∧ (True) := by
  show W1 k (fun r0 => True) _
  unfold s_alu_Extend p_zo
  try dsimp only
  try simp only [bits_eq, set_eq, sext_eq, zext_eq]
  repeat' first
    | (with_reducible refine guard_i ?_ ?_)
    | (with_reducible refine guardn_i ?_ ?_)
    | (with_reducible refine cond_i ?_ ?_ <;> intro _)
    | (with_reducible refine call1 (fun k => T_zx k) ?_; intro _ _)
    | (with_reducible refine ret1 ?_; exact trivial)
    | rfl
    | assumption
theorem T_z2r {α : Type} {x0 : Int}  (k : Int → R α) : ∃ r0, s_csr_Redirect x0 k = k r0 ∧ (True) := by
  show W1 k (fun r0 => True) _
  unfold s_csr_Redirect p_z2r
  try dsimp only
  repeat' first
    | (with_reducible refine guard_i ?_ ?_)
    | (with_reducible refine guardn_i ?_ ?_)
    | (with_reducible refine cond_i ?_ ?_ <;> intro _)
    | (with_reducible refine ret1 ?_; exact trivial)
    | rfl
    | assumption
theorem T_z2d {α : Type} {s : GState} {n : Int} (k : Int → Bool → R α) : ∃ r t, s_csr_Read s n k = k r t ∧ True := by
  show W2 k (fun _ _ => True) _
  unfold s_csr_Read p_z2d
  try dsimp only
  repeat' first
    | (with_reducible refine ret2 ?_; exact trivial)
    | (with_reducible refine call1 (fun k => T_z1 k) ?_; intro _ _)
    | (with_reducible refine guard_i ?_ ?_)
    | (with_reducible refine cond_i ?_ ?_ <;> intro _)
    | (with_reducible refine call1 (fun k => T_zk k) ?_; intro _ _)
    | (rename_i r hr hh; exact idxd ⟨leB_tt hh, hr.2⟩)
    | (rename_i r hr hh; exact idxn ⟨leB_tt hh, hr.2⟩)
abbrev KeptP (s u : GState) : Prop := u.X = s.X ∧ u.Done = s.Done ∧ u.PC = s.PC
theorem T_z1k {α : Type} {s : GState} {i m v : Int} (h : 0 ≤ i ∧ i < 29) (k : GState → R α) : ∃ u, s_csr_With s i m v k = k u ∧ KeptP s u := by
  show W1 k (fun u => KeptP s u) _
  unfold s_csr_With p_z1k q_csr_With_2 q_csr_With_1
  try dsimp only
  simp only [bits_eq, set_eq]
  repeat' first
    | (with_reducible refine ret1 ?_; exact ⟨rfl, rfl, rfl⟩)
    | (with_reducible refine guard_i ?_ ?_)
    | (with_reducible refine cond_i ?_ ?_ <;> intro _)
    | exact idxd h
    | exact idxn h
theorem T_zi {α : Type} {i : Int} (h : 0 ≤ i ∧ i < 29) (k : Int → R α) : ∃ r, s_csr_Mask i k = k r ∧ True := by
  obtain ⟨n, rfl⟩ := Int.eq_ofNat_of_zero_le h.1
  have hn : n < 29 := by omega
  have : n = 0 ∨ n = 1 ∨ n = 2 ∨ n = 3 ∨ n = 4 ∨ n = 5 ∨ n = 6 ∨ n = 7 ∨ n = 8 ∨ n = 9 ∨ n = 10 ∨ n = 11 ∨ n = 12 ∨ n = 13 ∨ n = 14 ∨ n = 15 ∨ n = 16 ∨ n = 17 ∨ n = 18 ∨ n = 19 ∨ n = 20 ∨ n = 21 ∨ n = 22 ∨ n = 23 ∨ n = 24 ∨ n = 25 ∨ n = 26 ∨ n = 27 ∨ n = 28 := by omega
  rcases this with rfl | rfl | rfl | rfl | rfl | rfl | rfl | rfl | rfl | rfl | rfl | rfl | rfl | rfl | rfl | rfl | rfl | rfl | rfl | rfl | rfl | rfl | rfl | rfl | rfl | rfl | rfl | rfl | rfl <;> exact ⟨_, rfl, trivial⟩
theorem T_z24 {α : Type} {s : GState} {n v : Int} (k : GState → Bool → R α) : ∃ u t, s_csr_Write s n v k = k u t ∧ KeptP s u := by
  show W2 k (fun u _ => KeptP s u) _
  unfold s_csr_Write p_z24
  try dsimp only
  with_reducible refine cond_i ?_ ?_ <;> intro _
  · with_reducible refine call1 (fun k => T_z1 k) ?_; intro _ _
    with_reducible refine call1 (fun k => T_z1k (by omega) k) ?_; intro u hu
    (with_reducible refine ret2 ?_); exact hu
  with_reducible refine cond_i ?_ ?_ <;> intro _
  · with_reducible refine call1 (fun k => T_z1k (by omega) k) ?_; intro u hu
    (with_reducible refine ret2 ?_); exact hu
  with_reducible refine cond_i ?_ ?_ <;> intro _
  · with_reducible refine call1 (fun k => T_z1k (by omega) k) ?_; intro u hu
    (with_reducible refine ret2 ?_); exact hu
  with_reducible refine cond_i ?_ ?_ <;> intro _
  · (with_reducible refine ret2 ?_); exact ⟨rfl, rfl, rfl⟩
  with_reducible refine call1 (fun k => T_zk k) ?_; intro i hi
  with_reducible refine cond_i ?_ ?_ <;> intro h1
  · (with_reducible refine ret2 ?_); exact ⟨rfl, rfl, rfl⟩
  have h2 := ltB_ff h1
  with_reducible refine call1 (fun k => T_zi ⟨h2, hi.2⟩ k) ?_; intro _ _
  with_reducible refine call1 (fun k => T_z1k ⟨h2, hi.2⟩ k) ?_; intro u hu
  (with_reducible refine ret2 ?_); exact hu
end Go.Sh
