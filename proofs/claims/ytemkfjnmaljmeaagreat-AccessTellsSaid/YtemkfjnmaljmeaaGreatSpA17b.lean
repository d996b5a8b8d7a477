/-
  The bus, told: what its reading and writing come to.
-/
import Derived.Test.YtemkfjnmaljmeaaGreatSpA17
import Derived.Test.YtemkfjnmaljmeaaGreatSpR12d
set_option linter.unusedSimpArgs false
set_option linter.unusedVariables false
namespace Go.Sh
open Go
def conI (at_ : Int) : Option Nat := if at_ = 61696 then some 0 else if at_ = 61952 then some 1 else if at_ = 62208 then some 2 else if at_ = 62464 then some 3 else none
theorem conI_none {a : Int} (h : W64 a) (hn : conI a = none) : a < 61696 ∨ (a - 61696) % 256 ≠ 0 ∨ 4 ≤ (a - 61696) / 256 := by
  unfold conI at hn
  split at hn <;> try (cases hn; done)
  split at hn <;> try (cases hn; done)
  split at hn <;> try (cases hn; done)
  split at hn <;> try (cases hn; done)
  omega
theorem conI_some {a : Int} {i : Nat} (h : conI a = some i) : (a = 61696 ∧ i = 0) ∨ (a = 61952 ∧ i = 1) ∨ (a = 62208 ∧ i = 2) ∨ (a = 62464 ∧ i = 3) := by
  unfold conI at h
  split at h
  · simp at h; omega
  split at h
  · simp at h; omega
  split at h
  · simp at h; omega
  split at h
  · simp at h; omega
  · cases h
def pick5 {β : Type} (o : Option Nat) (kn k0 k1 k2 k3 : β) : β := match o with
  | none => kn
  | some 0 => k0
  | some 1 => k1
  | some 2 => k2
  | some _ => k3
noncomputable def sCon {α : Type} : Sg_zr α := fun a n kn k0 k1 k2 k3 => grd (W64 a) (pick5 (if n = 1 then conI a else none) kn k0 k1 k2 k3)
theorem con_le {α : Type} {a n : Int} (h : W64 a) (kn k0 k1 k2 k3 : R α) : p_zr a n kn (sel4 k0 k1 k2 k3) = pick5 (if n = 1 then conI a else none) kn k0 k1 k2 k3 := by
  unfold p_zr
  dsimp only
  by_cases hn : n = 1
  case neg =>
    have e : (n != 1) = true := by simpa using hn
    rw [e, if_neg hn]; rfl
  subst hn
  rw [if_pos rfl]
  have e : ((1 : Int) != 1) = false := rfl
  rw [e]
  cases hc : conI a with
  | none =>
    rcases conI_none h hc with h1 | h1 | h1
    · have e1 : ltB a 61696 = true := by simp [ltB]; omega
      rw [e1]; rfl
    · cases e1 : ltB a 61696
      · have h2 : 61696 ≤ a := by simp [ltB] at e1; omega
        have hw : IntKind.u64.wrap (a - 61696) = a - 61696 := wrap_u64 (by omega) (by omega)
        have hm : Int.tmod (a - 61696) 256 = (a - 61696) % 256 := Int.tmod_eq_emod_of_nonneg (by omega)
        have e2 : ((a - 61696) % 256 != 0) = true := by simpa using h1
        simp only [hw, hm, e2, cond_true, cond_false, pick5]
      · rfl
    · cases e1 : ltB a 61696
      · have h2 : 61696 ≤ a := by simp [ltB] at e1; omega
        have hw : IntKind.u64.wrap (a - 61696) = a - 61696 := wrap_u64 (by omega) (by omega)
        have hd : Int.tdiv (a - 61696) 256 = (a - 61696) / 256 := Int.tdiv_eq_ediv_of_nonneg (by omega)
        have hw2 : IntKind.u64.wrap ((a - 61696) / 256) = (a - 61696) / 256 := wrap_u64 (by omega) (by omega)
        have e2 : leB 4 ((a - 61696) / 256) = true := by simp [leB]; omega
        simp only [hw, hd, hw2, e2, cond_true, cond_false, pick5]
        cases (Int.tmod (a - 61696) 256 != 0) <;> rfl
      · rfl
  | some i =>
    rcases conI_some hc with ⟨rfl, rfl⟩ | ⟨rfl, rfl⟩ | ⟨rfl, rfl⟩ | ⟨rfl, rfl⟩ <;> rfl
noncomputable def sPort {α : Type} : Sg_z1c α := fun a km k0 k1 k2 k3 => grd (W64 a) (pick5 (conI a) km k0 k1 k2 k3)
theorem port_eq {α : Type} {a : Int} (h : W64 a) (km k0 k1 k2 k3 : R α) : p_z1t a (selP km k0 k1 k2 k3) = pick5 (conI a) km k0 k1 k2 k3 := by
  unfold p_z1t
  dsimp only
  cases hc : conI a with
  | none =>
    rcases conI_none h hc with h1 | h1 | h1
    · have e1 : ltB a 61696 = true := by simp [ltB]; omega
      rw [e1]; rfl
    · cases e1 : ltB a 61696
      · have h2 : 61696 ≤ a := by simp [ltB] at e1; omega
        have hw : IntKind.u64.wrap (a - 61696) = a - 61696 := wrap_u64 (by omega) (by omega)
        have hm : Int.tmod (a - 61696) 256 = (a - 61696) % 256 := Int.tmod_eq_emod_of_nonneg (by omega)
        have e2 : ((a - 61696) % 256 != 0) = true := by simpa using h1
        simp only [hw, hm, e2, cond_true, cond_false, pick5]
        rfl
      · rfl
    · cases e1 : ltB a 61696
      · have h2 : 61696 ≤ a := by simp [ltB] at e1; omega
        have hw : IntKind.u64.wrap (a - 61696) = a - 61696 := wrap_u64 (by omega) (by omega)
        have hd : Int.tdiv (a - 61696) 256 = (a - 61696) / 256 := Int.tdiv_eq_ediv_of_nonneg (by omega)
        have hw2 : IntKind.u64.wrap ((a - 61696) / 256) = (a - 61696) / 256 := wrap_u64 (by omega) (by omega)
        have e2 : leB 4 ((a - 61696) / 256) = true := by simp [leB]; omega
        simp only [hw, hd, hw2, e2, cond_true, cond_false, pick5]
        cases (Int.tmod (a - 61696) 256 != 0) <;> rfl
      · rfl
  | some i =>
    rcases conI_some hc with ⟨rfl, rfl⟩ | ⟨rfl, rfl⟩ | ⟨rfl, rfl⟩ | ⟨rfl, rfl⟩ <;> rfl
def nB (b : GBus) : GBus := GBus.mk b.m b.time b.alarm (upd (upd (upd (fun _ => b.ports 0) 1 (b.ports 1)) 2 (b.ports 2)) 3 (b.ports 3))
def setP (b : GBus) (i : Nat) (p : GPort) : GBus := nB ⟨b.m, b.time, b.alarm, upd b.ports i p⟩
def tailR (r : Row) : Row := Row.mk (r.n - 1) (fun i => r.f (1 + i))
def sMRd {α : Type} : Sg_z1k α := fun f a n k => cond (decide (0 ≤ a)) (k (readS f a n) (checkS a n)) none
def sMWr {α : Type} : Sg_z13 α := fun f a n v k => cond (decide (0 ≤ a)) (k (writeS f a n v) (checkS a n)) none
def readB (b : GBus) (a n : Int) : GBus × Int × Bool :=
  if a = 61440 ∧ n = 8 then (nB b, b.time, true) else
  if a = 61448 ∧ n = 8 then (nB b, b.alarm, true) else
  match (if n = 1 then conI a else none) with
  | some i => if (b.ports i).inp.n = 0 then (nB b, 0, true) else (setP b i ⟨tailR (b.ports i).inp, (b.ports i).outp, (b.ports i).typed⟩, IntKind.u64.wrap ((b.ports i).inp.f 0), true)
  | none => (nB b, readS b.m a n, checkS a n == 0)
theorem natnn (n : Nat) : decide ((0 : Int) ≤ (n : Int)) = true := decide_eq_true (by omega)
theorem natself (n : Nat) : decide ((n : Int) ≤ (n : Int)) = true := decide_eq_true (by omega)
theorem natself' (n : Nat) : decide (n ≤ n) = true := decide_eq_true (Nat.le_refl _)
theorem z0 : decide ((0 : Int) ≤ 0) = true := rfl
theorem z1 : decide ((0 : Int) ≤ 1) = true := rfl
theorem cnd2 {β : Type} (a n : Int) (X Y Z : β) : (bif a == 61440 then (bif n == 8 then X else (bif a == 61448 then (bif n == 8 then Y else Z) else Z)) else (bif a == 61448 then (bif n == 8 then Y else Z) else Z)) = (if a = 61440 ∧ n = 8 then X else if a = 61448 ∧ n = 8 then Y else Z) := by
  by_cases h1 : a = 61440
  · subst h1
    by_cases h2 : n = 8
    · subst h2; rfl
    · have e : (n == 8) = false := by simpa using h2
      rw [e, if_neg (fun h => h2 h.2), if_neg (fun h => h2 h.2)]; rfl
  · have e1 : (a == 61440) = false := by simpa using h1
    rw [e1, if_neg (fun h => h1 h.1)]
    by_cases h3 : a = 61448
    · subst h3
      by_cases h2 : n = 8
      · subst h2; rfl
      · have e : (n == 8) = false := by simpa using h2
        rw [e, if_neg (fun h => h2 h.2)]; rfl
    · have e3 : (a == 61448) = false := by simpa using h3
      rw [e3, if_neg (fun h => h3 h.1)]; rfl
theorem conI_lt {a : Int} {i : Nat} (h : conI a = some i) : i = 0 ∨ i = 1 ∨ i = 2 ∨ i = 3 := by rcases conI_some h with ⟨_, h⟩ | ⟨_, h⟩ | ⟨_, h⟩ | ⟨_, h⟩ <;> omega
theorem conIn_lt {a n : Int} {i : Nat} (h : (if n = 1 then conI a else none) = some i) : i = 0 ∨ i = 1 ∨ i = 2 ∨ i = 3 := by
  split at h
  · exact conI_lt h
  · cases h
theorem readB_eq {α : Type} {a : Int} (h : W64 a) (b : GBus) (n : Int) (k : GBus → Int → Bool → R α) : p_zu sCon sMRd b a n k = k (readB b a n).1 (readB b a n).2.1 (readB b a n).2.2 := by
  unfold p_zu readB sCon sMRd
  dsimp only
  simp only [GN, gN_self, grd_pos h, decide_eq_true h.1, cond_true]
  rw [cnd2]
  by_cases h1 : a = 61440 ∧ n = 8
  · rw [if_pos h1, if_pos h1]; rfl
  by_cases h2 : a = 61448 ∧ n = 8
  · rw [if_neg h1, if_pos h2, if_neg h1, if_pos h2]; rfl
  rw [if_neg h1, if_neg h2, if_neg h1, if_neg h2]
  generalize hc : (if n = 1 then conI a else none) = o
  cases o with
  | none => rfl
  | some i =>
    rcases conIn_lt hc with rfl | rfl | rfl | rfl
    · by_cases e : (b.ports 0).inp.n = 0
      · simp only [pick5, e]; rfl
      · have q0 : (((b.ports 0).inp.n : Int) == 0) = false := by simpa using e
        have q1 : decide ((0 : Int) < ((b.ports 0).inp.n : Int)) = true := decide_eq_true (by omega)
        have q2 : decide (0 < (b.ports 0).inp.n) = true := decide_eq_true (by omega)
        have q3 : decide ((1 : Int) ≤ ((b.ports 0).inp.n : Int)) = true := decide_eq_true (by omega)
        have q4 : decide (1 + ((b.ports 0).inp.n - 1) ≤ (b.ports 0).inp.n) = true := decide_eq_true (by omega)
        simp only [pick5, q0, q1, q2, q3, q4, natnn, natself, natself', z0, z1, Bool.and_self, cond_true, cond_false, if_neg e]
        rfl
    · by_cases e : (b.ports 1).inp.n = 0
      · simp only [pick5, e]; rfl
      · have q0 : (((b.ports 1).inp.n : Int) == 0) = false := by simpa using e
        have q1 : decide ((0 : Int) < ((b.ports 1).inp.n : Int)) = true := decide_eq_true (by omega)
        have q2 : decide (0 < (b.ports 1).inp.n) = true := decide_eq_true (by omega)
        have q3 : decide ((1 : Int) ≤ ((b.ports 1).inp.n : Int)) = true := decide_eq_true (by omega)
        have q4 : decide (1 + ((b.ports 1).inp.n - 1) ≤ (b.ports 1).inp.n) = true := decide_eq_true (by omega)
        simp only [pick5, q0, q1, q2, q3, q4, natnn, natself, natself', z0, z1, Bool.and_self, cond_true, cond_false, if_neg e]
        rfl
    · by_cases e : (b.ports 2).inp.n = 0
      · simp only [pick5, e]; rfl
      · have q0 : (((b.ports 2).inp.n : Int) == 0) = false := by simpa using e
        have q1 : decide ((0 : Int) < ((b.ports 2).inp.n : Int)) = true := decide_eq_true (by omega)
        have q2 : decide (0 < (b.ports 2).inp.n) = true := decide_eq_true (by omega)
        have q3 : decide ((1 : Int) ≤ ((b.ports 2).inp.n : Int)) = true := decide_eq_true (by omega)
        have q4 : decide (1 + ((b.ports 2).inp.n - 1) ≤ (b.ports 2).inp.n) = true := decide_eq_true (by omega)
        simp only [pick5, q0, q1, q2, q3, q4, natnn, natself, natself', z0, z1, Bool.and_self, cond_true, cond_false, if_neg e]
        rfl
    · by_cases e : (b.ports 3).inp.n = 0
      · simp only [pick5, e]; rfl
      · have q0 : (((b.ports 3).inp.n : Int) == 0) = false := by simpa using e
        have q1 : decide ((0 : Int) < ((b.ports 3).inp.n : Int)) = true := decide_eq_true (by omega)
        have q2 : decide (0 < (b.ports 3).inp.n) = true := decide_eq_true (by omega)
        have q3 : decide ((1 : Int) ≤ ((b.ports 3).inp.n : Int)) = true := decide_eq_true (by omega)
        have q4 : decide (1 + ((b.ports 3).inp.n - 1) ≤ (b.ports 3).inp.n) = true := decide_eq_true (by omega)
        simp only [pick5, q0, q1, q2, q3, q4, natnn, natself, natself', z0, z1, Bool.and_self, cond_true, cond_false, if_neg e]
        rfl
def pushR (r : Row) (c : Int) : Row := Row.mk (r.n + 1 - (r.n + 1 - 64)) (fun i => (fun i => bif Nat.blt i r.n then r.f i else (fun i => (upd (fun _ => (0 : Int)) 0 c) (0 + i)) (i - r.n)) ((r.n + 1 - 64) + i))
def writeB (b : GBus) (a n v : Int) : GBus × Bool :=
  if a = 61448 ∧ n = 8 then (nB ⟨b.m, b.time, v, b.ports⟩, true) else
  match (if n = 1 then conI a else none) with
  | some i => (setP b i ⟨(b.ports i).inp, pushR (b.ports i).outp (IntKind.u8.wrap v), (b.ports i).typed⟩, true)
  | none => (nB ⟨writeS b.m a n v, b.time, b.alarm, b.ports⟩, checkS a n == 0)
theorem cnd1 {β : Type} (a n : Int) (Y Z : β) : (bif a == 61448 then (bif n == 8 then Y else Z) else Z) = (if a = 61448 ∧ n = 8 then Y else Z) := by
  by_cases h3 : a = 61448
  · subst h3
    by_cases h2 : n = 8
    · subst h2; rfl
    · have e : (n == 8) = false := by simpa using h2
      rw [e, if_neg (fun h => h2 h.2)]; rfl
  · have e3 : (a == 61448) = false := by simpa using h3
    rw [e3, if_neg (fun h => h3 h.1)]; rfl
theorem push_d {n : Nat} (hn : n ≤ 64) : pickmx true (IntKind.i64.wrap (((n + 1 : Nat) : Int) - 64)) 0 = ((n + 1 - 64 : Nat) : Int) := by
  rw [wrap_i64 (by omega) (by omega)]
  unfold pickmx
  dsimp only
  omega
theorem writeB_eq {α : Type} {a : Int} (h : W64 a) {b : GBus} (hb : ∀ i, i < 4 → (b.ports i).outp.n ≤ 64) (n v : Int) (k : GBus → Bool → R α) : p_zv sCon sMWr b a n v k = k (writeB b a n v).1 (writeB b a n v).2 := by
  unfold p_zv writeB sCon sMWr
  dsimp only
  simp only [GN, gN_self, grd_pos h, decide_eq_true h.1, cond_true]
  rw [cnd1]
  by_cases h2 : a = 61448 ∧ n = 8
  · rw [if_pos h2, if_pos h2]; rfl
  rw [if_neg h2, if_neg h2]
  generalize hc : (if n = 1 then conI a else none) = o
  cases o with
  | none => rfl
  | some i =>
    rcases conIn_lt hc with rfl | rfl | rfl | rfl
    · have hn := hb 0 (by omega)
      have q1 : decide ((((b.ports 0).outp.n + 1) * 1) ≤ 140737488355328) = true := decide_eq_true (by omega)
      have q2 : decide (((b.ports 0).outp.n + 1) ≤ 4611686018427387904) = true := decide_eq_true (by omega)
      have q3 : decide (((((b.ports 0).outp.n + 1 - 64 : Nat)) : Int) ≤ ((((b.ports 0).outp.n + 1) : Nat) : Int)) = true := decide_eq_true (by omega)
      have q4 : decide (((b.ports 0).outp.n + 1 - 64) + ((b.ports 0).outp.n + 1 - ((b.ports 0).outp.n + 1 - 64)) ≤ (b.ports 0).outp.n + 1) = true := decide_eq_true (by omega)
      simp only [pick5, push_d hn, Int.toNat_natCast, q1, q2, q3, q4, natnn, natself, natself', Bool.and_self, cond_true]
      rfl
    · have hn := hb 1 (by omega)
      have q1 : decide ((((b.ports 1).outp.n + 1) * 1) ≤ 140737488355328) = true := decide_eq_true (by omega)
      have q2 : decide (((b.ports 1).outp.n + 1) ≤ 4611686018427387904) = true := decide_eq_true (by omega)
      have q3 : decide (((((b.ports 1).outp.n + 1 - 64 : Nat)) : Int) ≤ ((((b.ports 1).outp.n + 1) : Nat) : Int)) = true := decide_eq_true (by omega)
      have q4 : decide (((b.ports 1).outp.n + 1 - 64) + ((b.ports 1).outp.n + 1 - ((b.ports 1).outp.n + 1 - 64)) ≤ (b.ports 1).outp.n + 1) = true := decide_eq_true (by omega)
      simp only [pick5, push_d hn, Int.toNat_natCast, q1, q2, q3, q4, natnn, natself, natself', Bool.and_self, cond_true]
      rfl
    · have hn := hb 2 (by omega)
      have q1 : decide ((((b.ports 2).outp.n + 1) * 1) ≤ 140737488355328) = true := decide_eq_true (by omega)
      have q2 : decide (((b.ports 2).outp.n + 1) ≤ 4611686018427387904) = true := decide_eq_true (by omega)
      have q3 : decide (((((b.ports 2).outp.n + 1 - 64 : Nat)) : Int) ≤ ((((b.ports 2).outp.n + 1) : Nat) : Int)) = true := decide_eq_true (by omega)
      have q4 : decide (((b.ports 2).outp.n + 1 - 64) + ((b.ports 2).outp.n + 1 - ((b.ports 2).outp.n + 1 - 64)) ≤ (b.ports 2).outp.n + 1) = true := decide_eq_true (by omega)
      simp only [pick5, push_d hn, Int.toNat_natCast, q1, q2, q3, q4, natnn, natself, natself', Bool.and_self, cond_true]
      rfl
    · have hn := hb 3 (by omega)
      have q1 : decide ((((b.ports 3).outp.n + 1) * 1) ≤ 140737488355328) = true := decide_eq_true (by omega)
      have q2 : decide (((b.ports 3).outp.n + 1) ≤ 4611686018427387904) = true := decide_eq_true (by omega)
      have q3 : decide (((((b.ports 3).outp.n + 1 - 64 : Nat)) : Int) ≤ ((((b.ports 3).outp.n + 1) : Nat) : Int)) = true := decide_eq_true (by omega)
      have q4 : decide (((b.ports 3).outp.n + 1 - 64) + ((b.ports 3).outp.n + 1 - ((b.ports 3).outp.n + 1 - 64)) ≤ (b.ports 3).outp.n + 1) = true := decide_eq_true (by omega)
      simp only [pick5, push_d hn, Int.toNat_natCast, q1, q2, q3, q4, natnn, natself, natself', Bool.and_self, cond_true]
      rfl
end Go.Sh
