/-
  Reading and writing through a bus: the program's and the document's.
-/
import Derived.Test.YtemkfjnmaljmeaaGreatSpA17d
import Derived.Test.YtemkfjnmaljmeaaGreatSpTr
set_option linter.unusedSimpArgs false
set_option linter.unusedVariables false
namespace Go.Sh
open Go
structure Rb (b : GBus) (r : GRBus) : Prop where
  m : r.m = b.m
  time : r.time = b.time
  alarm : r.alarm = b.alarm
  inp : ∀ i, i < 4 → RowIs (b.ports i).inp (r.inp i)
  outp : ∀ i, i < 4 → RowIs (b.ports i).outp (r.outp i)
  typed : ∀ i, i < 4 → r.typed i = (b.ports i).typed
  few : ∀ i, i < 4 → (b.ports i).outp.n ≤ 64
  byte : ByteF b.m
  bare : r.bare = false
theorem four_ports (b : GBus) : (nB b).ports = four b.ports := rfl
theorem Rb.norm {b : GBus} {r : GRBus} (h : Rb b r) : Rb (nB b) (nR r) where
  m := h.m
  time := h.time
  alarm := h.alarm
  inp i hi := by rw [four_ports, four_at _ _ hi]; show RowIs _ (four r.inp i); rw [four_at _ _ hi]; exact h.inp i hi
  outp i hi := by rw [four_ports, four_at _ _ hi]; show RowIs _ (four r.outp i); rw [four_at _ _ hi]; exact h.outp i hi
  typed i hi := by rw [four_ports, four_at _ _ hi]; exact h.typed i hi
  few i hi := by rw [four_ports, four_at _ _ hi]; exact h.few i hi
  byte := h.byte
  bare := h.bare
theorem Rb.normL {b : GBus} {r : GRBus} (h : Rb b r) : Rb (nB b) r where
  m := h.m
  time := h.time
  alarm := h.alarm
  inp i hi := by rw [four_ports, four_at _ _ hi]; exact h.inp i hi
  outp i hi := by rw [four_ports, four_at _ _ hi]; exact h.outp i hi
  typed i hi := by rw [four_ports, four_at _ _ hi]; exact h.typed i hi
  few i hi := by rw [four_ports, four_at _ _ hi]; exact h.few i hi
  byte := h.byte
  bare := h.bare
theorem Rb.fewR {b : GBus} {r : GRBus} (h : Rb b r) : ∀ i, i < 4 → (r.outp i).size ≤ 64 := fun i hi => by
  have h1 := (h.outp i hi).1
  have h2 := h.few i hi
  omega
theorem upd_self {β : Type} (f : Nat → β) (i : Nat) (x : β) : upd f i x i = x := by unfold upd; rw [Nat.beq_refl]; rfl
theorem upd_ne {β : Type} {f : Nat → β} {i j : Nat} {x : β} (h : j ≠ i) : upd f i x j = f j := by
  unfold upd
  have : Nat.beq j i = false := by
    cases hb : Nat.beq j i
    · rfl
    · exact absurd (Nat.eq_of_beq_eq_true hb) h
  rw [this]; rfl
theorem Rb.setInp {b : GBus} {r : GRBus} (h : Rb b r) {i : Nat} {w : Row} {s : ByteArray} (hw : RowIs w s) : Rb (setP b i ⟨w, (b.ports i).outp, (b.ports i).typed⟩) (nR ⟨r.m, r.time, r.alarm, upd r.inp i s, r.typed, r.outp, r.bare⟩) := by
  refine Rb.norm (b := ⟨b.m, b.time, b.alarm, upd b.ports i ⟨w, (b.ports i).outp, (b.ports i).typed⟩⟩) ⟨h.m, h.time, h.alarm, fun j hj => ?_, fun j hj => ?_, fun j hj => ?_, fun j hj => ?_, h.byte, h.bare⟩ <;>
    by_cases e : j = i
  · subst e; simp only [upd_self]; exact hw
  · simp only [upd_ne e]; exact h.inp j hj
  · subst e; simp only [upd_self]; exact h.outp j hj
  · simp only [upd_ne e]; exact h.outp j hj
  · subst e; simp only [upd_self]; exact h.typed j hj
  · simp only [upd_ne e]; exact h.typed j hj
  · subst e; simp only [upd_self]; exact h.few j hj
  · simp only [upd_ne e]; exact h.few j hj
theorem Rb.setOut {b : GBus} {r : GRBus} (h : Rb b r) {i : Nat} {w : Row} {s : ByteArray} (hw : RowIs w s) (hn : w.n ≤ 64) : Rb (setP b i ⟨(b.ports i).inp, w, (b.ports i).typed⟩) (nR ⟨r.m, r.time, r.alarm, r.inp, r.typed, upd r.outp i s, r.bare⟩) := by
  refine Rb.norm (b := ⟨b.m, b.time, b.alarm, upd b.ports i ⟨(b.ports i).inp, w, (b.ports i).typed⟩⟩) ⟨h.m, h.time, h.alarm, fun j hj => ?_, fun j hj => ?_, fun j hj => ?_, fun j hj => ?_, h.byte, h.bare⟩ <;>
    by_cases e : j = i
  · subst e; simp only [upd_self]; exact h.inp j hj
  · simp only [upd_ne e]; exact h.inp j hj
  · subst e; simp only [upd_self]; exact hw
  · simp only [upd_ne e]; exact h.outp j hj
  · subst e; simp only [upd_self]; exact h.typed j hj
  · simp only [upd_ne e]; exact h.typed j hj
  · subst e; simp only [upd_self]; exact hn
  · simp only [upd_ne e]; exact h.few j hj
theorem check_dev {a n : Int} (h : checkS a n = 0) : conI a = none ∧ a ≠ 61440 ∧ a ≠ 61448 := by
  have h1 := (checkS_zero h).2.2
  refine ⟨?_, by omega, by omega⟩
  cases hc : conI a with
  | none => rfl
  | some i => rcases conI_some hc with h | h | h | h <;> omega
theorem readS_off {f : Nat → Int} {a n : Int} (h : checkS a n ≠ 0) : readS f a n = 0 := by unfold readS; rw [if_neg h]
theorem read_rel {b : GBus} {r : GRBus} (h : Rb b r) (a n : Int) : Rb (readB b a n).1 (readR r a n).1 ∧ (readB b a n).2 = (readR r a n).2 := by
  unfold readB readR
  by_cases hc : checkS a n = 0
  · obtain ⟨h1, h2, h3⟩ := check_dev hc
    rw [if_neg (fun e => h2 e.1), if_neg (fun e => h3 e.1), if_pos hc, h1, hc, h.m]
    simp only [ite_self]
    exact ⟨h.norm, rfl⟩
  have hbare : ¬ r.bare = true := by rw [h.bare]; simp
  rw [if_neg hc, if_neg hbare]
  by_cases h1 : a = 61440 ∧ n = 8
  · rw [if_pos h1, if_pos h1, h.time]; exact ⟨h.norm, rfl⟩
  rw [if_neg h1, if_neg h1]
  by_cases h2 : a = 61448 ∧ n = 8
  · rw [if_pos h2, if_pos h2, h.alarm]; exact ⟨h.norm, rfl⟩
  rw [if_neg h2, if_neg h2]
  cases hi : (if n = 1 then conI a else none) with
  | none =>
    rw [readS_off hc]
    have : (checkS a n == 0) = false := by simpa using hc
    rw [this]
    exact ⟨h.norm, rfl⟩
  | some i =>
    have hl : i < 4 := by rcases conIn_lt hi with rfl | rfl | rfl | rfl <;> omega
    have hr := h.inp i hl
    simp only
    by_cases e : (b.ports i).inp.n = 0
    · rw [if_pos e, if_pos (by rw [← hr.1]; exact e)]; exact ⟨h.norm, rfl⟩
    · rw [if_neg e, if_neg (by rw [← hr.1]; exact e), hr.2 0 (by omega)]
      exact ⟨h.setInp (tail_is hr e), rfl⟩
theorem u8_w (v : Int) : 0 ≤ IntKind.u8.wrap v ∧ IntKind.u8.wrap v < 256 := by
  have : IntKind.u8.wrap v = v % 256 := rfl
  omega
theorem write_rel {b : GBus} {r : GRBus} (h : Rb b r) (a n : Int) {v : Int} (hv : W64 v) : Rb (writeB b a n v).1 (writeR r a n v).1 ∧ (writeB b a n v).2 = (writeR r a n v).2 := by
  unfold writeB writeR
  by_cases hc : checkS a n = 0
  · obtain ⟨h1, h2, h3⟩ := check_dev hc
    rw [if_neg (fun e => h3 e.1), if_pos hc, h1, hc, h.m]
    simp only [ite_self]
    exact ⟨Rb.norm ⟨rfl, h.time, h.alarm, h.inp, h.outp, h.typed, h.few, writeS_byte h.byte a n hv, h.bare⟩, rfl⟩
  have hbare : ¬ r.bare = true := by rw [h.bare]; simp
  rw [if_neg hc, if_neg hbare]
  by_cases h2 : a = 61448 ∧ n = 8
  · rw [if_pos h2, if_pos h2]; exact ⟨Rb.norm ⟨h.m, h.time, rfl, h.inp, h.outp, h.typed, h.few, h.byte, h.bare⟩, rfl⟩
  rw [if_neg h2, if_neg h2]
  cases hi : (if n = 1 then conI a else none) with
  | none =>
    have : (checkS a n == 0) = false := by simpa using hc
    rw [this, writeS_off hc]
    exact ⟨h.norm, rfl⟩
  | some i =>
    have hl : i < 4 := by rcases conIn_lt hi with rfl | rfl | rfl | rfl <;> omega
    simp only
    exact ⟨h.setOut (push_is (h.outp i hl) (h.few i hl) (u8_w v).1 (u8_w v).2) (pushR_n _), trivial⟩
end Go.Sh
