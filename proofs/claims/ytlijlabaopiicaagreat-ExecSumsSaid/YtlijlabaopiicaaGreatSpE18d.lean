/-
  The law ExecSums, plainly.
-/
import Derived.Test.YtlijlabaopiicaaGreatSpE18c
import Derived.Test.YtlijlabaopiicaaGreatSpL18
namespace Go.Sh
open Go
set_option linter.unusedSimpArgs false
set_option linter.unusedVariables false
noncomputable def gX {α : Type} (p : Prop) (x : R α) : R α := @ite _ p (Classical.propDecidable p) x none
theorem gX_some {α : Type} {p : Prop} {x : R α} {r : α} (h : gX p x = some r) : p ∧ x = some r := by
  unfold gX at h
  split at h
  · exact ⟨by assumption, h⟩
  · cases h
theorem gX_pos {α : Type} {p : Prop} (h : p) (x : R α) : gX p x = x := by unfold gX; exact if_pos h
theorem num12 {n : Int} (h : -32768 ≤ n ∧ n < 32768) : -2048 ≤ gshr .i64 (gshl .i64 (IntKind.i64.wrap n) 52) 52 ∧ gshr .i64 (gshl .i64 (IntKind.i64.wrap n) 52) 52 ≤ 2047 := by
  have e : gshl .i64 (IntKind.i64.wrap n) 52 = IntKind.i64.wrap (IntKind.i64.wrap n * 2 ^ (min (52 : Int).toNat 64)) := rfl
  rw [gshr_i64 (by omega), e]
  have p : (2 : Int) ^ (52 : Int).toNat = 4503599627370496 := rfl
  have q : (2 : Int) ^ (min (52 : Int).toNat 64) = 4503599627370496 := rfl
  rw [p, q, wrap_i64_if]
  split <;> omega
theorem upd_at {β : Type} (f : Nat → β) (i : Nat) (x : β) : upd f i x i = x := by simp [upd]
theorem upd_ne {β : Type} (f : Nat → β) {i j : Nat} (x : β) (h : j ≠ i) : upd f i x j = f j := by
  unfold upd
  rw [beq_ne h]
  rfl
theorem sgn_mod {n : Int} (h : -2048 ≤ n ∧ n ≤ 2047) : sgn 2048 (n % 4096) = n := by unfold sgn; split <;> omega
theorem sgn_jal {n : Int} (h : -1048576 ≤ n ∧ n ≤ 1048574) (h2 : n % 2 = 0) : sgn 1048576 (2 * (((n / 1048576 % 2 * 256 + n / 4096 % 256) * 2 + n / 2048 % 2) * 1024 + n / 2 % 1024)) = n := by unfold sgn; split <;> omega
abbrev SumsOk (a v rd rs n : Int) : Prop := W64 a ∧ W64 v ∧ (0 ≤ rd ∧ rd < 256) ∧ (0 ≤ rs ∧ rs < 256) ∧ (-32768 ≤ n ∧ n < 32768)
noncomputable def sSums {α : Type} : Sg_z2a α := fun a v rd rs n k => gX (SumsOk a v rd rs n) (k true)
theorem beqS {x y : Int} (h : x = y) : (x == y) = true := by subst h; simp
theorem sumsA {α : Type} {X : Nat → Int} {x y m : Int} (hx2 : 0 ≤ x ∧ x < 32) (hx3 : 0 < x ∧ x < 32) (hy1 : 0 ≤ y ∧ y < 32) (hm1 : -2048 ≤ m ∧ m ≤ 2047) (b : GBus) (k : GBus → GState → GRetire → R α) : s_exec_Do b ⟨X, 4096, 3, false, fun _ => 0, 0⟩ (19 + 128 * x + 32768 * y + 1048576 * (m % 4096)) k =
      k (NB (NB (NB b))) ⟨upd X x.toNat (IntKind.u64.wrap (X y.toNat + IntKind.u64.wrap m)), 4100, 3, false, fun _ => 0, 1⟩ ⟨4096, 19 + 128 * x + 32768 * y + 1048576 * (m % 4096), x, IntKind.u64.wrap (X y.toNat + IntKind.u64.wrap m), false, noF, 0, false, false⟩ := by
  have hd : ∀ k' : GInsn → Int → R α, s_decode_Decode (19 + 128 * x + 32768 * y + 1048576 * (m % 4096)) k' = k' ⟨22, x, y, 0, m, 0⟩ 0 := fun k' => by
    rw [dec_addi hx2 hy1 ⟨by omega, by omega⟩, sgn_mod hm1]
  exact do_rd hd (legal_addi hx2 hy1 hm1) (does_addi hy1) rfl (writes_eq (is_addi hx2 hy1 hm1)) hx3 k
theorem sumsB {α : Type} {X : Nat → Int} {x m W : Int} (hx2 : 0 ≤ x ∧ x < 32) (hx3 : 0 < x ∧ x < 32) (hm1 : -2048 ≤ m ∧ m ≤ 2047) (hj : -1048576 ≤ 4 * m ∧ 4 * m ≤ 1048574) (hj2 : 4 * m % 2 = 0) (hto : IntKind.u64.wrap (4096 + IntKind.u64.wrap (4 * m)) = IntKind.u64.wrap (4096 + 4 * m)) (hto4 : IntKind.u64.wrap (4096 + 4 * m) % 4 = 0) (hW : 111 + 128 * x + 4096 * (4 * m / 4096 % 256) + 1048576 * (4 * m / 2048 % 2) + 2097152 * (4 * m / 2 % 1024) + 2147483648 * (4 * m / 1048576 % 2) = W) (b : GBus) (k : GBus → GState → GRetire → R α) : s_exec_Do b ⟨X, 4096, 3, false, fun _ => 0, 0⟩ W k =
      k (NB (NB (NB b))) ⟨upd X x.toNat 4100, IntKind.u64.wrap (4096 + 4 * m), 3, false, fun _ => 0, 1⟩ ⟨4096, W, x, 4100, false, noF, 0, false, false⟩ := by
  have hd : ∀ k' : GInsn → Int → R α, s_decode_Decode W k' = k' ⟨3, x, 0, 0, 4 * m, 0⟩ 0 := fun k' => by
    rw [← hW, dec_jal hx2 ⟨by omega, by omega⟩ ⟨by omega, by omega⟩ ⟨by omega, by omega⟩ ⟨by omega, by omega⟩, sgn_jal hj hj2]
  have hdo : ∀ (b' : GBus) (k' : GBus → GExec_result → R α), s_exec_does b' ⟨X, 4096, 3, false, fun _ => 0, 0⟩ ⟨3, x, 0, 0, 4 * m, 0⟩ k' = k' (NB b') ⟨⟨X, IntKind.u64.wrap (4096 + 4 * m), 3, false, fun _ => 0, 0⟩, 4100, noF, true⟩ := fun b' k' => by
    have := does_jal (s := ⟨X, 4096, 3, false, fun _ => 0, 0⟩) hx2 hj hj2 (by show IntKind.u64.wrap (4096 + IntKind.u64.wrap (4 * m)) % 4 = 0; rw [hto]; exact hto4) b' k'
    rw [this]
    show k' (NB b') ⟨⟨X, IntKind.u64.wrap (4096 + IntKind.u64.wrap (4 * m)), 3, false, fun _ => 0, 0⟩, 4100, noF, true⟩ = _
    rw [hto]
  exact do_rd hd (legal_jal hx2 hj hj2) hdo rfl (writes_eq (is_jal hx2 hj hj2)) hx3 k
theorem sumsD {α : Type} {X : Nat → Int} {x y v : Int} (hx2 : 0 ≤ x ∧ x < 32) (hx3 : 0 < x ∧ x < 32) (hy1 : 0 ≤ y ∧ y < 32) (hXy : W64 (X y.toNat)) (b : GBus) (k : GBus → GState → GRetire → R α) : s_exec_Do b ⟨X, 4096, 3, false, upd (fun _ => 0) 5 v, 0⟩ (115 + 128 * x + 4096 + 32768 * y + 1048576 * 832) k =
      k (NB (NB (NB b))) ⟨upd X x.toNat v, 4100, 3, false, upd (upd (fun _ => 0) 5 v) 5 (X y.toNat), 1⟩ ⟨4096, 115 + 128 * x + 4096 + 32768 * y + 1048576 * 832, x, v, false, noF, 0, false, false⟩ := by
  have hz : bitop .or .u64 (bitop .andNot .u64 v 18446744073709551615) (bitop .and .u64 (X y.toNat) 18446744073709551615) = X y.toNat := by
    have e1 : bitop .andNot .u64 v 18446744073709551615 = 0 := by
      have e : bitop .andNot .u64 v 18446744073709551615 = IntKind.u64.wrap ((BitVec.ofInt 64 v &&& ~~~ BitVec.ofInt 64 18446744073709551615).toNat : Int) := rfl
      have e2 : ~~~ BitVec.ofInt 64 18446744073709551615 = 0#64 := rfl
      rw [e, e2, BitVec.and_zero]; rfl
    rw [e1, all64 hXy, bitop_or (by omega) (by omega) hXy.1 hXy.2]
    have : ((0 : Int).toNat ||| (X y.toNat).toNat) = (X y.toNat).toNat := by simp
    rw [this]
    exact Int.toNat_of_nonneg hXy.1
  have hdo : ∀ (b' : GBus) (k' : GBus → GExec_result → R α), s_exec_does b' ⟨X, 4096, 3, false, upd (fun _ => 0) 5 v, 0⟩ ⟨54, x, y, 0, 0, 832⟩ k' = k' (NB b') ⟨⟨X, 4100, 3, false, upd (upd (fun _ => 0) 5 v) 5 (X y.toNat), 0⟩, v, noF, true⟩ := fun b' k' => by
    rw [does_csrrw hy1]
    show k' (NB b') ⟨⟨X, 4100, 3, false, upd (upd (fun _ => 0) 5 v) 5 (bitop .or .u64 (bitop .andNot .u64 v 18446744073709551615) (bitop .and .u64 (X y.toNat) 18446744073709551615)), 0⟩, v, noF, true⟩ = _
    rw [hz]
  exact do_rd (dec_csrrw hx2 hy1) (legal_csrrw hx2 hy1) hdo rfl (writes_eq (is_csrrw hx2 hy1)) hx3 k
theorem sums_core {α : Type} {Fk : Sg_z19 α} {Fe : Sg_z14 α} {Fd : Sg_z3 α} {a v rd rs n x y m W w1 w3 : Int} {X : Nat → Int} (hk : ∀ k' : Bool → R α, Fk k' = k' true)
    (hx : IntKind.i64.wrap (IntKind.i64.wrap (Int.tmod rd 31) + 1) = x) (hy : IntKind.i64.wrap (Int.tmod rs 32) = y) (hm : gshr .i64 (gshl .i64 (IntKind.i64.wrap n) 52) 52 = m) (h4 : IntKind.i64.wrap (4 * m) = 4 * m) (hX : upd (upd (fun _ => (0 : Int)) (Int.toNat y) a) 0 0 = X)
    (hx2 : 0 ≤ x ∧ x < 32) (hy1 : 0 ≤ y ∧ y < 32) (hm1 : -2048 ≤ m ∧ m ≤ 2047)
    (e1 : ∀ k' : Int → Bool → R α, Fe ⟨22, x, y, 0, m, 0⟩ k' = k' w1 true) (e2 : ∀ k' : Int → Bool → R α, Fe ⟨3, x, 0, 0, 4 * m, 0⟩ k' = k' W true) (e3 : ∀ k' : Int → Bool → R α, Fe ⟨54, x, y, 0, 0, 832⟩ k' = k' w3 true)
    (A : ∀ (b : GBus) (k : GBus → GState → GRetire → R α), Fd b ⟨X, 4096, 3, false, fun _ => 0, 0⟩ w1 k = k (NB (NB (NB b))) ⟨upd X x.toNat (IntKind.u64.wrap (X y.toNat + IntKind.u64.wrap m)), 4100, 3, false, fun _ => 0, 1⟩ ⟨4096, w1, x, IntKind.u64.wrap (X y.toNat + IntKind.u64.wrap m), false, noF, 0, false, false⟩)
    (B : ∀ (b : GBus) (k : GBus → GState → GRetire → R α), Fd b ⟨X, 4096, 3, false, fun _ => 0, 0⟩ W k = k (NB (NB (NB b))) ⟨upd X x.toNat 4100, IntKind.u64.wrap (4096 + 4 * m), 3, false, fun _ => 0, 1⟩ ⟨4096, W, x, 4100, false, noF, 0, false, false⟩)
    (D : ∀ (b : GBus) (k : GBus → GState → GRetire → R α), Fd b ⟨X, 4096, 3, false, upd (fun _ => 0) 5 v, 0⟩ w3 k = k (NB (NB (NB b))) ⟨upd X x.toNat v, 4100, 3, false, upd (upd (fun _ => 0) 5 v) 5 (X y.toNat), 1⟩ ⟨4096, w3, x, v, false, noF, 0, false, false⟩)
    (k : Bool → R α) : p_z2a Fk Fe Fd a v rd rs n k = k true := by
  obtain ⟨a1, a2⟩ := idx32 hx2
  obtain ⟨c1, c2⟩ := idx32 hy1
  unfold p_z2a
  simp only [hk, Bool.not_true, cond_false, hx, hy, hm, h4, c1, c2, a1, a2, cond_true]
  have hX' : (upd (upd (fun _ => (0 : Int)) (Int.toNat y) a) 0 0 : Nat → Int) = X := hX
  rw [hX']
  simp only [e1, e2, e3, GN_eq, A, B, D, cond_true]
  have z1 : (upd X x.toNat (IntKind.u64.wrap (X y.toNat + IntKind.u64.wrap m)) x.toNat == IntKind.u64.wrap (X y.toNat + IntKind.u64.wrap m)) = true := beqS (upd_at _ _ _)
  have z2 : (IntKind.u64.wrap (X y.toNat + IntKind.u64.wrap m) == upd X x.toNat (IntKind.u64.wrap (X y.toNat + IntKind.u64.wrap m)) x.toNat) = true := beqS (upd_at _ _ _).symm
  have z3 : ((4100 : Int) == 4100) = true := rfl
  have z4 : IntKind.i64.wrap (4096 + 4 * m) = 4096 + 4 * m := wrap_i64 (by omega) (by omega)
  have z5 : (IntKind.u64.wrap (4096 + 4 * m) == IntKind.u64.wrap (4096 + 4 * m)) = true := beqS rfl
  have z6 : (upd X x.toNat 4100 x.toNat == 4100) = true := beqS (upd_at _ _ _)
  have z7 : (upd X x.toNat v x.toNat == v) = true := beqS (upd_at _ _ _)
  have z8 : (v == v) = true := beqS rfl
  have z9 : (upd (upd (fun _ => (0 : Int)) 5 v) 5 (X y.toNat) 5 == X y.toNat) = true := beqS (upd_at _ _ _)
  simp only [z1, z2, z3, z4, z5, z6, z7, z8, z9, cond_true]
theorem sums_eq {α : Type} {a v rd rs n : Int} (h : SumsOk a v rd rs n) (k : Bool → R α) : p_z2a s_law18_known s_ref3_Encode s_exec_Do a v rd rs n k = k true := by
  obtain ⟨ha, hv, hrd, hrs, hn⟩ := h
  obtain ⟨x, hx, hx1⟩ : ∃ x, IntKind.i64.wrap (IntKind.i64.wrap (Int.tmod rd 31) + 1) = x ∧ 1 ≤ x ∧ x < 32 := by
    refine ⟨_, rfl, ?_⟩
    have e : Int.tmod rd 31 = rd % 31 := Int.tmod_eq_emod_of_nonneg hrd.1
    rw [e, wrap_i64 (n := rd % 31) (by omega) (by omega), wrap_i64 (by omega) (by omega)]
    omega
  obtain ⟨y, hy, hy1⟩ : ∃ y, IntKind.i64.wrap (Int.tmod rs 32) = y ∧ 0 ≤ y ∧ y < 32 := by
    refine ⟨_, rfl, ?_⟩
    have e : Int.tmod rs 32 = rs % 32 := Int.tmod_eq_emod_of_nonneg hrs.1
    rw [e, wrap_i64 (by omega) (by omega)]
    omega
  have hm0 := num12 hn
  obtain ⟨m, hm, hm1⟩ : ∃ m, gshr .i64 (gshl .i64 (IntKind.i64.wrap n) 52) 52 = m ∧ -2048 ≤ m ∧ m ≤ 2047 := ⟨_, rfl, hm0⟩
  have hx2 : 0 ≤ x ∧ x < 32 := by omega
  have hx3 : 0 < x ∧ x < 32 := by omega
  have h4 : IntKind.i64.wrap (4 * m) = 4 * m := wrap_i64 (by omega) (by omega)
  have hj : -1048576 ≤ 4 * m ∧ 4 * m ≤ 1048574 := by omega
  have hj2 : 4 * m % 2 = 0 := by omega
  obtain ⟨a1, a2⟩ := idx32 hx2
  obtain ⟨c1, c2⟩ := idx32 hy1
  generalize hX : upd (upd (fun _ => (0 : Int)) (Int.toNat y) a) 0 0 = X
  have hXy : W64 (X y.toNat) := by
    subst hX
    by_cases e : y.toNat = 0
    · rw [e, upd_at]; exact ⟨by omega, by omega⟩
    · rw [upd_ne _ _ e, upd_at]; exact ha
  -- the three words
  have hto : IntKind.u64.wrap (4096 + IntKind.u64.wrap (4 * m)) = IntKind.u64.wrap (4096 + 4 * m) := by rw [wrap_u64_mod, wrap_u64_mod, wrap_u64_mod]; omega
  have hto4 : IntKind.u64.wrap (4096 + 4 * m) % 4 = 0 := by rw [wrap_u64_mod]; omega
  obtain ⟨W, hW⟩ : ∃ W, 111 + 128 * x + 4096 * (4 * m / 4096 % 256) + 1048576 * (4 * m / 2048 % 2) + 2097152 * (4 * m / 2 % 1024) + 2147483648 * (4 * m / 1048576 % 2) = W := ⟨_, rfl⟩
  have A := fun (b : GBus) (k : GBus → GState → GRetire → R α) => sumsA (X := X) hx2 hx3 hy1 hm1 b k
  have B := fun (b : GBus) (k : GBus → GState → GRetire → R α) => sumsB (X := X) hx2 hx3 hm1 hj hj2 hto hto4 hW b k
  have D := fun (b : GBus) (k : GBus → GState → GRetire → R α) => sumsD (v := v) hx2 hx3 hy1 hXy b k
  exact sums_core (x := x) (y := y) (m := m) (W := W) (X := X) known18_eq hx hy hm h4 hX hx2 hy1 hm1 (enc_addi hx2 hy1 hm1) (fun k' => by rw [enc_jal hx2 hj hj2, hW]) (enc_csrrw hx2 hy1) A B D k
end Go.Sh
