/-
  The document's bus and the program's: alike.
-/
import Derived.Test.YtemkfjnmaljmeaaGreatSpA17c
set_option linter.unusedSimpArgs false
set_option linter.unusedVariables false
namespace Go.Sh
open Go
def four {β : Type} (g : Nat → β) : Nat → β := upd (upd (upd (fun _ => g 0) 1 (g 1)) 2 (g 2)) 3 (g 3)
theorem four_at {β : Type} (g : Nat → β) : ∀ i, i < 4 → four g i = g i := fun i hi => by
  have : i = 0 ∨ i = 1 ∨ i = 2 ∨ i = 3 := by omega
  rcases this with rfl | rfl | rfl | rfl <;> rfl
def nR (r : GRBus) : GRBus := GRBus.mk r.m r.time r.alarm (four r.inp) r.typed (four r.outp) r.bare
def readR (r : GRBus) (a n : Int) : GRBus × Int × Bool :=
  if checkS a n = 0 then (nR r, readS r.m a n, true) else
  if r.bare = true then (nR r, 0, false) else
  if a = 61440 ∧ n = 8 then (nR r, r.time, true) else
  if a = 61448 ∧ n = 8 then (nR r, r.alarm, true) else
  match (if n = 1 then conI a else none) with
  | some i => if (r.inp i).size = 0 then (nR r, 0, true) else (nR ⟨r.m, r.time, r.alarm, upd r.inp i ((r.inp i).extract 1 (r.inp i).size), r.typed, r.outp, r.bare⟩, IntKind.u64.wrap (bytesAt (r.inp i) 0), true)
  | none => (nR r, 0, false)
def writeR (r : GRBus) (a n v : Int) : GRBus × Bool :=
  if checkS a n = 0 then (nR ⟨writeS r.m a n v, r.time, r.alarm, r.inp, r.typed, r.outp, r.bare⟩, true) else
  if r.bare = true then (nR r, false) else
  if a = 61448 ∧ n = 8 then (nR ⟨r.m, r.time, v, r.inp, r.typed, r.outp, r.bare⟩, true) else
  match (if n = 1 then conI a else none) with
  | some i => (nR ⟨r.m, r.time, r.alarm, r.inp, r.typed, upd r.outp i (pushS (r.outp i) (IntKind.u8.wrap v)), r.bare⟩, true)
  | none => (nR r, false)
noncomputable def sRWr {α : Type} : Sg_zk α := fun f a n v k => grd (0 ≤ a ∧ W64 v ∧ checkS a n = 0) (k (writeS f a n v))
theorem cnd2' {β : Type} (a n : Int) (X Y Z : β) : (bif a == 61440 then (bif n == 8 then X else (bif a == 61448 then (bif n == 8 then Y else Z) else Z)) else (bif a == 61448 then (bif n == 8 then Y else Z) else Z)) = (if a = 61440 ∧ n = 8 then X else if a = 61448 ∧ n = 8 then Y else Z) := cnd2 a n X Y Z
theorem cndn {β : Type} (n : Int) (X Z : β) : (bif n == 1 then X else Z) = if n = 1 then X else Z := by
  by_cases h : n = 1
  · subst h; rfl
  · have e : (n == 1) = false := by simpa using h
    rw [e, if_neg h]; rfl
theorem cndb {β : Type} (b : Bool) (X Z : β) : (bif b then X else Z) = if b = true then X else Z := by cases b <;> rfl
theorem match_n {β : Type} (a n : Int) (f : Nat → β) (g : β) : (match (if n = 1 then conI a else none) with | some i => f i | none => g) = (match conI a with | some i => if n = 1 then f i else g | none => g) := by
  by_cases h : n = 1
  · rw [if_pos h]
    cases conI a with
    | none => rfl
    | some i => simp only [if_pos h]
  · rw [if_neg h]
    cases conI a with
    | none => rfl
    | some i => simp only [if_neg h]
theorem readR_eq {α : Type} {r : GRBus} (hf : ByteF r.m) {a : Int} (h : W64 a) (n : Int) (k : GRBus → Int → Bool → R α) : p_zh sRCode sRRead sPort r a n k = k (readR r a n).1 (readR r a n).2.1 (readR r a n).2.2 := by
  unfold p_zh readR sRCode sPort
  dsimp only
  simp only [grd_pos h]
  by_cases hc : checkS a n = 0
  · rw [if_pos hc]
    have e : (checkS a n == 0) = true := by simpa using hc
    rw [e, cond_true]
    show sRRead r.m a n _ = _
    unfold sRRead
    rw [grd_pos ⟨hf, h.1, hc⟩]
    rfl
  rw [if_neg hc]
  have e : (checkS a n == 0) = false := by simpa using hc
  rw [e, cond_false]
  simp only [cnd2']
  simp only [toListB, cndn]
  simp only [cndb]
  rw [match_n]
  cases hi : conI a with
  | none =>
    simp only [pick5]
    by_cases hb : r.bare = true
    · rw [if_pos hb, if_pos hb]; rfl
    rw [if_neg hb, if_neg hb]
    by_cases h1 : a = 61440 ∧ n = 8
    · rw [if_pos h1, if_pos h1]; rfl
    rw [if_neg h1, if_neg h1]
    by_cases h2 : a = 61448 ∧ n = 8
    · rw [if_pos h2, if_pos h2]; rfl
    rw [if_neg h2, if_neg h2]; rfl
  | some i =>
    rcases conI_lt hi with rfl | rfl | rfl | rfl
    · simp only [pick5]
      by_cases hb : r.bare = true
      · rw [if_pos hb, if_pos hb]; rfl
      rw [if_neg hb, if_neg hb]
      by_cases h1 : a = 61440 ∧ n = 8
      · rw [if_pos h1, if_pos h1]; rfl
      rw [if_neg h1, if_neg h1]
      by_cases h2 : a = 61448 ∧ n = 8
      · rw [if_pos h2, if_pos h2]; rfl
      rw [if_neg h2, if_neg h2]
      by_cases h3 : n = 1
      · rw [if_pos h3, if_pos h3]
        by_cases h4 : (r.inp 0).size = 0
        · rw [if_pos (decide_eq_true h4), if_pos h4]; rfl
        · rw [if_neg (by simpa using h4), if_neg h4]
          have q1 : decide ((0 : Int) < ((r.inp 0).size : Int)) = true := decide_eq_true (by omega)
          have q3 : decide ((1 : Int) ≤ ((r.inp 0).size : Int)) = true := decide_eq_true (by omega)
          simp only [q1, q3, natnn, natself, z0, z1, Bool.and_self, if_true, Int.toNat_natCast]
          rfl
      · rw [if_neg h3, if_neg h3]; rfl
    · simp only [pick5]
      by_cases hb : r.bare = true
      · rw [if_pos hb, if_pos hb]; rfl
      rw [if_neg hb, if_neg hb]
      by_cases h1 : a = 61440 ∧ n = 8
      · rw [if_pos h1, if_pos h1]; rfl
      rw [if_neg h1, if_neg h1]
      by_cases h2 : a = 61448 ∧ n = 8
      · rw [if_pos h2, if_pos h2]; rfl
      rw [if_neg h2, if_neg h2]
      by_cases h3 : n = 1
      · rw [if_pos h3, if_pos h3]
        by_cases h4 : (r.inp 1).size = 0
        · rw [if_pos (decide_eq_true h4), if_pos h4]; rfl
        · rw [if_neg (by simpa using h4), if_neg h4]
          have q1 : decide ((0 : Int) < ((r.inp 1).size : Int)) = true := decide_eq_true (by omega)
          have q3 : decide ((1 : Int) ≤ ((r.inp 1).size : Int)) = true := decide_eq_true (by omega)
          simp only [q1, q3, natnn, natself, z0, z1, Bool.and_self, if_true, Int.toNat_natCast]
          rfl
      · rw [if_neg h3, if_neg h3]; rfl
    · simp only [pick5]
      by_cases hb : r.bare = true
      · rw [if_pos hb, if_pos hb]; rfl
      rw [if_neg hb, if_neg hb]
      by_cases h1 : a = 61440 ∧ n = 8
      · rw [if_pos h1, if_pos h1]; rfl
      rw [if_neg h1, if_neg h1]
      by_cases h2 : a = 61448 ∧ n = 8
      · rw [if_pos h2, if_pos h2]; rfl
      rw [if_neg h2, if_neg h2]
      by_cases h3 : n = 1
      · rw [if_pos h3, if_pos h3]
        by_cases h4 : (r.inp 2).size = 0
        · rw [if_pos (decide_eq_true h4), if_pos h4]; rfl
        · rw [if_neg (by simpa using h4), if_neg h4]
          have q1 : decide ((0 : Int) < ((r.inp 2).size : Int)) = true := decide_eq_true (by omega)
          have q3 : decide ((1 : Int) ≤ ((r.inp 2).size : Int)) = true := decide_eq_true (by omega)
          simp only [q1, q3, natnn, natself, z0, z1, Bool.and_self, if_true, Int.toNat_natCast]
          rfl
      · rw [if_neg h3, if_neg h3]; rfl
    · simp only [pick5]
      by_cases hb : r.bare = true
      · rw [if_pos hb, if_pos hb]; rfl
      rw [if_neg hb, if_neg hb]
      by_cases h1 : a = 61440 ∧ n = 8
      · rw [if_pos h1, if_pos h1]; rfl
      rw [if_neg h1, if_neg h1]
      by_cases h2 : a = 61448 ∧ n = 8
      · rw [if_pos h2, if_pos h2]; rfl
      rw [if_neg h2, if_neg h2]
      by_cases h3 : n = 1
      · rw [if_pos h3, if_pos h3]
        by_cases h4 : (r.inp 3).size = 0
        · rw [if_pos (decide_eq_true h4), if_pos h4]; rfl
        · rw [if_neg (by simpa using h4), if_neg h4]
          have q1 : decide ((0 : Int) < ((r.inp 3).size : Int)) = true := decide_eq_true (by omega)
          have q3 : decide ((1 : Int) ≤ ((r.inp 3).size : Int)) = true := decide_eq_true (by omega)
          simp only [q1, q3, natnn, natself, z0, z1, Bool.and_self, if_true, Int.toNat_natCast]
          rfl
      · rw [if_neg h3, if_neg h3]; rfl
theorem pushS_if (s : ByteArray) (c : Int) {β : Type} (f : ByteArray → β) : (if ltB 64 (((s ++ one1 c).size : Nat) : Int) = true then f ((s ++ one1 c).extract 1 (s ++ one1 c).size) else f (s ++ one1 c)) = f (pushS s c) := by
  unfold pushS
  by_cases h : 64 < (s ++ one1 c).size
  · rw [if_pos h, if_pos (by simp only [ltB_true]; omega)]
  · rw [if_neg h, if_neg (by simp only [ltB_true]; omega)]
theorem writeR_eq {α : Type} {r : GRBus} {a v : Int} (h : W64 a) (hv : W64 v) (hs : ∀ i, i < 4 → (r.outp i).size ≤ 64) (n : Int) (k : GRBus → Bool → R α) : p_zi sRCode sRWr sPort r a n v k = k (writeR r a n v).1 (writeR r a n v).2 := by
  unfold p_zi writeR sRCode sPort
  dsimp only
  simp only [grd_pos h]
  by_cases hc : checkS a n = 0
  · rw [if_pos hc]
    have e : (checkS a n == 0) = true := by simpa using hc
    rw [e, cond_true]
    show sRWr r.m a n v _ = _
    unfold sRWr
    rw [grd_pos ⟨h.1, hv, hc⟩]
    rfl
  rw [if_neg hc]
  have e : (checkS a n == 0) = false := by simpa using hc
  rw [e, cond_false]
  rw [match_n]
  simp only [cnd1]
  simp only [cndn]
  simp only [cndb]
  cases hi : conI a with
  | none =>
    simp only [pick5]
    by_cases hb : r.bare = true
    · rw [if_pos hb, if_pos hb]; rfl
    rw [if_neg hb, if_neg hb]
    by_cases h2 : a = 61448 ∧ n = 8
    · rw [if_pos h2, if_pos h2]; rfl
    rw [if_neg h2, if_neg h2]; rfl
  | some i =>
    rcases conI_lt hi with rfl | rfl | rfl | rfl
    · simp only [pick5]
      by_cases hb : r.bare = true
      · rw [if_pos hb, if_pos hb]; rfl
      rw [if_neg hb, if_neg hb]
      by_cases h2 : a = 61448 ∧ n = 8
      · rw [if_pos h2, if_pos h2]; rfl
      rw [if_neg h2, if_neg h2]
      by_cases h3 : n = 1
      · rw [if_pos h3, if_pos h3]
        have hq := hs 0 (by omega)
        have hz := pushS_size (r.outp 0) (IntKind.u8.wrap v)
        have q0 : Nat.ble ((r.outp 0).size + (one1 (IntKind.u8.wrap v)).size) 9223372036854775807 = true := by
          rw [one1_size]; exact Nat.ble_eq_true_of_le (by omega)
        have q3 : decide ((1 : Int) ≤ ((((r.outp 0) ++ one1 (IntKind.u8.wrap v)).size : Nat) : Int)) = true := decide_eq_true (by omega)
        change (if Nat.ble ((r.outp 0).size + (one1 (IntKind.u8.wrap v)).size) 9223372036854775807 = true then
          (if ltB 64 (((r.outp 0 ++ one1 (IntKind.u8.wrap v)).size : Nat) : Int) = true then
            (if (decide ((0 : Int) ≤ (((r.outp 0 ++ one1 (IntKind.u8.wrap v)).size : Nat) : Int)) && decide ((((r.outp 0 ++ one1 (IntKind.u8.wrap v)).size : Nat) : Int) ≤ (((r.outp 0 ++ one1 (IntKind.u8.wrap v)).size : Nat) : Int))) = true then
              (if (decide ((0 : Int) ≤ 1) && decide ((1 : Int) ≤ (((r.outp 0 ++ one1 (IntKind.u8.wrap v)).size : Nat) : Int))) = true then
                k (nR ⟨r.m, r.time, r.alarm, r.inp, r.typed, upd r.outp 0 ((r.outp 0 ++ one1 (IntKind.u8.wrap v)).extract 1 (Int.toNat (((r.outp 0 ++ one1 (IntKind.u8.wrap v)).size : Nat) : Int))), r.bare⟩) true else none) else none)
          else k (nR ⟨r.m, r.time, r.alarm, r.inp, r.typed, upd r.outp 0 (r.outp 0 ++ one1 (IntKind.u8.wrap v)), r.bare⟩) true) else none) = _
        simp only [q0, q3, natnn, natself, z1, Bool.and_self, if_true, Int.toNat_natCast]
        exact pushS_if (r.outp 0) (IntKind.u8.wrap v) fun s => k (nR ⟨r.m, r.time, r.alarm, r.inp, r.typed, upd r.outp 0 s, r.bare⟩) true
      · rw [if_neg h3, if_neg h3]; rfl
    · simp only [pick5]
      by_cases hb : r.bare = true
      · rw [if_pos hb, if_pos hb]; rfl
      rw [if_neg hb, if_neg hb]
      by_cases h2 : a = 61448 ∧ n = 8
      · rw [if_pos h2, if_pos h2]; rfl
      rw [if_neg h2, if_neg h2]
      by_cases h3 : n = 1
      · rw [if_pos h3, if_pos h3]
        have hq := hs 1 (by omega)
        have hz := pushS_size (r.outp 1) (IntKind.u8.wrap v)
        have q0 : Nat.ble ((r.outp 1).size + (one1 (IntKind.u8.wrap v)).size) 9223372036854775807 = true := by
          rw [one1_size]; exact Nat.ble_eq_true_of_le (by omega)
        have q3 : decide ((1 : Int) ≤ ((((r.outp 1) ++ one1 (IntKind.u8.wrap v)).size : Nat) : Int)) = true := decide_eq_true (by omega)
        change (if Nat.ble ((r.outp 1).size + (one1 (IntKind.u8.wrap v)).size) 9223372036854775807 = true then
          (if ltB 64 (((r.outp 1 ++ one1 (IntKind.u8.wrap v)).size : Nat) : Int) = true then
            (if (decide ((0 : Int) ≤ (((r.outp 1 ++ one1 (IntKind.u8.wrap v)).size : Nat) : Int)) && decide ((((r.outp 1 ++ one1 (IntKind.u8.wrap v)).size : Nat) : Int) ≤ (((r.outp 1 ++ one1 (IntKind.u8.wrap v)).size : Nat) : Int))) = true then
              (if (decide ((0 : Int) ≤ 1) && decide ((1 : Int) ≤ (((r.outp 1 ++ one1 (IntKind.u8.wrap v)).size : Nat) : Int))) = true then
                k (nR ⟨r.m, r.time, r.alarm, r.inp, r.typed, upd r.outp 1 ((r.outp 1 ++ one1 (IntKind.u8.wrap v)).extract 1 (Int.toNat (((r.outp 1 ++ one1 (IntKind.u8.wrap v)).size : Nat) : Int))), r.bare⟩) true else none) else none)
          else k (nR ⟨r.m, r.time, r.alarm, r.inp, r.typed, upd r.outp 1 (r.outp 1 ++ one1 (IntKind.u8.wrap v)), r.bare⟩) true) else none) = _
        simp only [q0, q3, natnn, natself, z1, Bool.and_self, if_true, Int.toNat_natCast]
        exact pushS_if (r.outp 1) (IntKind.u8.wrap v) fun s => k (nR ⟨r.m, r.time, r.alarm, r.inp, r.typed, upd r.outp 1 s, r.bare⟩) true
      · rw [if_neg h3, if_neg h3]; rfl
    · simp only [pick5]
      by_cases hb : r.bare = true
      · rw [if_pos hb, if_pos hb]; rfl
      rw [if_neg hb, if_neg hb]
      by_cases h2 : a = 61448 ∧ n = 8
      · rw [if_pos h2, if_pos h2]; rfl
      rw [if_neg h2, if_neg h2]
      by_cases h3 : n = 1
      · rw [if_pos h3, if_pos h3]
        have hq := hs 2 (by omega)
        have hz := pushS_size (r.outp 2) (IntKind.u8.wrap v)
        have q0 : Nat.ble ((r.outp 2).size + (one1 (IntKind.u8.wrap v)).size) 9223372036854775807 = true := by
          rw [one1_size]; exact Nat.ble_eq_true_of_le (by omega)
        have q3 : decide ((1 : Int) ≤ ((((r.outp 2) ++ one1 (IntKind.u8.wrap v)).size : Nat) : Int)) = true := decide_eq_true (by omega)
        change (if Nat.ble ((r.outp 2).size + (one1 (IntKind.u8.wrap v)).size) 9223372036854775807 = true then
          (if ltB 64 (((r.outp 2 ++ one1 (IntKind.u8.wrap v)).size : Nat) : Int) = true then
            (if (decide ((0 : Int) ≤ (((r.outp 2 ++ one1 (IntKind.u8.wrap v)).size : Nat) : Int)) && decide ((((r.outp 2 ++ one1 (IntKind.u8.wrap v)).size : Nat) : Int) ≤ (((r.outp 2 ++ one1 (IntKind.u8.wrap v)).size : Nat) : Int))) = true then
              (if (decide ((0 : Int) ≤ 1) && decide ((1 : Int) ≤ (((r.outp 2 ++ one1 (IntKind.u8.wrap v)).size : Nat) : Int))) = true then
                k (nR ⟨r.m, r.time, r.alarm, r.inp, r.typed, upd r.outp 2 ((r.outp 2 ++ one1 (IntKind.u8.wrap v)).extract 1 (Int.toNat (((r.outp 2 ++ one1 (IntKind.u8.wrap v)).size : Nat) : Int))), r.bare⟩) true else none) else none)
          else k (nR ⟨r.m, r.time, r.alarm, r.inp, r.typed, upd r.outp 2 (r.outp 2 ++ one1 (IntKind.u8.wrap v)), r.bare⟩) true) else none) = _
        simp only [q0, q3, natnn, natself, z1, Bool.and_self, if_true, Int.toNat_natCast]
        exact pushS_if (r.outp 2) (IntKind.u8.wrap v) fun s => k (nR ⟨r.m, r.time, r.alarm, r.inp, r.typed, upd r.outp 2 s, r.bare⟩) true
      · rw [if_neg h3, if_neg h3]; rfl
    · simp only [pick5]
      by_cases hb : r.bare = true
      · rw [if_pos hb, if_pos hb]; rfl
      rw [if_neg hb, if_neg hb]
      by_cases h2 : a = 61448 ∧ n = 8
      · rw [if_pos h2, if_pos h2]; rfl
      rw [if_neg h2, if_neg h2]
      by_cases h3 : n = 1
      · rw [if_pos h3, if_pos h3]
        have hq := hs 3 (by omega)
        have hz := pushS_size (r.outp 3) (IntKind.u8.wrap v)
        have q0 : Nat.ble ((r.outp 3).size + (one1 (IntKind.u8.wrap v)).size) 9223372036854775807 = true := by
          rw [one1_size]; exact Nat.ble_eq_true_of_le (by omega)
        have q3 : decide ((1 : Int) ≤ ((((r.outp 3) ++ one1 (IntKind.u8.wrap v)).size : Nat) : Int)) = true := decide_eq_true (by omega)
        change (if Nat.ble ((r.outp 3).size + (one1 (IntKind.u8.wrap v)).size) 9223372036854775807 = true then
          (if ltB 64 (((r.outp 3 ++ one1 (IntKind.u8.wrap v)).size : Nat) : Int) = true then
            (if (decide ((0 : Int) ≤ (((r.outp 3 ++ one1 (IntKind.u8.wrap v)).size : Nat) : Int)) && decide ((((r.outp 3 ++ one1 (IntKind.u8.wrap v)).size : Nat) : Int) ≤ (((r.outp 3 ++ one1 (IntKind.u8.wrap v)).size : Nat) : Int))) = true then
              (if (decide ((0 : Int) ≤ 1) && decide ((1 : Int) ≤ (((r.outp 3 ++ one1 (IntKind.u8.wrap v)).size : Nat) : Int))) = true then
                k (nR ⟨r.m, r.time, r.alarm, r.inp, r.typed, upd r.outp 3 ((r.outp 3 ++ one1 (IntKind.u8.wrap v)).extract 1 (Int.toNat (((r.outp 3 ++ one1 (IntKind.u8.wrap v)).size : Nat) : Int))), r.bare⟩) true else none) else none)
          else k (nR ⟨r.m, r.time, r.alarm, r.inp, r.typed, upd r.outp 3 (r.outp 3 ++ one1 (IntKind.u8.wrap v)), r.bare⟩) true) else none) = _
        simp only [q0, q3, natnn, natself, z1, Bool.and_self, if_true, Int.toNat_natCast]
        exact pushS_if (r.outp 3) (IntKind.u8.wrap v) fun s => k (nR ⟨r.m, r.time, r.alarm, r.inp, r.typed, upd r.outp 3 s, r.bare⟩) true
      · rw [if_neg h3, if_neg h3]; rfl
end Go.Sh
