/-
  The document's words, memory and tables tell what the program's do (plain laws on printed functions).
-/
import Derived.Test.YtemkfjnmaljmeaaGreatSpP12
import Derived.Test.YtemkfjnmaljmeaaGreatSpTwoLaw
set_option linter.unusedSimpArgs false
set_option linter.unusedVariables false
namespace Go.Sh
open Go
noncomputable def grd {α : Type} (p : Prop) (x : R α) : R α := @ite _ p (Classical.propDecidable p) x none
theorem grd_some {α : Type} {p : Prop} {x : R α} {r : α} (h : grd p x = some r) : p ∧ x = some r := by
  unfold grd at h
  split at h
  · exact ⟨by assumption, h⟩
  · cases h
theorem grd_pos {α : Type} {p : Prop} (h : p) (x : R α) : grd p x = x := by unfold grd; exact if_pos h
theorem byte_all {p : Int → Bool} (h : ((List.range 256).all fun n => p (n : Int)) = true) {b : Int} (h0 : 0 ≤ b) (h1 : b < 256) : p b = true := by
  obtain ⟨n, rfl⟩ := Int.eq_ofNat_of_zero_le h0
  exact List.all_eq_true.1 h n (List.mem_range.2 (by omega))
theorem w64_low {e : Int} : 0 ≤ e % 256 ∧ e % 256 < 256 := by omega
theorem rIs_eq {α : Type} {e : Int} (he : W64 e) (k : Bool → R α) : p_zb e k = k (isS e) := by
  have h1 : (bitop .and .u64 e 1 == 1) = (bitop .and .u64 e 1 != 0) := by
    rw [and_low he (m := 1) (by omega) (by omega)]
    have := byte_all (p := fun b => (bitop .and .u64 b 1 == 1) == (bitop .and .u64 b 1 != 0)) (by kernel_rfl) (w64_low (e := e)).1 w64_low.2
    simpa using this
  unfold p_zb isS
  dsimp only
  rw [h1]
  cases (bitop .and .u64 e 1 != 0) <;> cases (bitop .and .u64 e 4 == 0) <;> cases (bitop .and .u64 e 2 != 0) <;> cases (gshr .u64 e 16 == 0) <;> cases (bitop .and .u64 e 32 == 0) <;> rfl
theorem rFrame_eq {α : Type} (e : Int) (k : Int → R α) : p_z4 e k = k (frameS e) := rfl
theorem rCode_eq {α : Type} {f : Nat → Int} {a n : Int} (ha : W64 a) (k : Int → R α) : p_z7 f a n k = k (checkS a n) := by
  have w1 : IntKind.u64.wrap 1 = 1 := rfl
  have w2 : IntKind.u64.wrap 2 = 2 := rfl
  have w4 : IntKind.u64.wrap 4 = 4 := rfl
  have w8 : IntKind.u64.wrap 8 = 8 := rfl
  obtain ⟨h0, h1⟩ := ha
  unfold p_z7
  simp only [Bool.cond_eq_ite, ltB_true, ltB_false, leB_true, leB_false, bne_iff_ne, ne_eq, Bool.not_eq_true, bne_eq_false_iff_eq, decide_eq_true_eq, ite_not]
  repeat' split
  all_goals subst_vars
  all_goals try simp only [w1, w2, w4, w8, Int.tmod_eq_emod_of_nonneg h0] at *
  all_goals first
    | (exfalso; omega)
    | (congr 1; unfold checkS; (repeat' split) <;> first | rfl | (exfalso; omega))
    | (rename_i hh
       rw [wrap_u64 (by omega) (by omega)] at hh
       exfalso; omega)
theorem rstep {x y : Int} (h0 : 0 ≤ x) (h1 : x < 72057594037927936) (hy : 0 ≤ y) (hy2 : y < 256) : bitop .or .u64 (gshl .u64 x 8) (IntKind.u64.wrap y) = x * 256 + y := by
  rw [wrap_u64 hy (by omega), gshl_u64 (by omega) (by omega)]
  have e1 : (2 : Int) ^ (8 : Int).toNat = 256 := rfl
  rw [e1, Int.emod_eq_of_lt (by omega) (by omega), bitop_or (by omega) (by omega) hy (by omega)]
  obtain ⟨n, rfl⟩ := Int.eq_ofNat_of_zero_le h0
  obtain ⟨m, rfl⟩ := Int.eq_ofNat_of_zero_le hy
  have hlt : m < 2 ^ 8 := by omega
  have e2 := Nat.two_pow_add_eq_or_of_lt hlt n
  have e3 : ((n : Int) * 256).toNat = 2 ^ 8 * n := by omega
  rw [e3, Int.toNat_natCast, ← e2]
  omega
theorem rstep0 {y : Int} (hy : 0 ≤ y) (hy2 : y < 256) : bitop .or .u64 0 (IntKind.u64.wrap y) = y := by
  have := rstep (x := 0) (by omega) (by omega) hy hy2
  have e : gshl .u64 0 8 = 0 := rfl
  rw [e] at this
  rw [this]; omega
theorem i64_id {a : Int} (h0 : 0 ≤ a) (h1 : a < 40000) : IntKind.i64.wrap a = a := wrap_i64 (by omega) (by omega)
theorem rRead_eq {α : Type} {f : Nat → Int} (hf : ByteF f) {a n : Int} (ha : 0 ≤ a) (hc : checkS a n = 0) (k : Int → R α) : p_z8 f a n k = k (readS f a n) := by
  rw [readS_le hf hc]
  obtain ⟨hn, hm, hl⟩ := checkS_zero hc
  obtain ⟨m, rfl⟩ := Int.eq_ofNat_of_zero_le ha
  have g : ∀ j : Int, 0 ≤ j → (m : Int) + j < 32768 → (decide (0 ≤ IntKind.i64.wrap (IntKind.i64.wrap (m : Int) + j)) && decide (IntKind.i64.wrap (IntKind.i64.wrap (m : Int) + j) < 32768)) = true ∧ decide (0 + (IntKind.i64.wrap (IntKind.i64.wrap (m : Int) + j)).toNat < 32768) = true ∧ 0 + (IntKind.i64.wrap (IntKind.i64.wrap (m : Int) + j)).toNat = m + j.toNat := fun j hj hj2 => by
    rw [i64_id (a := (m : Int)) (by omega) (by omega), i64_id (by omega) (by omega)]
    simp only [Bool.and_eq_true, decide_eq_true_eq]
    omega
  have fb : ∀ j, 0 ≤ f (m + j) ∧ f (m + j) < 256 := fun j => hf _
  have f0 := fb 0
  have f1 := fb 1
  have f2 := fb 2
  have f3 := fb 3
  have f4 := fb 4
  have f5 := fb 5
  have f6 := fb 6
  have f7 := fb 7
  have z0 : (0 : Int).toNat = 0 := rfl
  have z1 : (1 : Int).toNat = 1 := rfl
  have z2 : (2 : Int).toNat = 2 := rfl
  have z3 : (3 : Int).toNat = 3 := rfl
  have z4 : (4 : Int).toNat = 4 := rfl
  have z5 : (5 : Int).toNat = 5 := rfl
  have z6 : (6 : Int).toNat = 6 := rfl
  have z7 : (7 : Int).toNat = 7 := rfl
  have z8 : (8 : Int).toNat = 8 := rfl
  have q2 : (256 : Int) ^ 2 = 65536 := rfl
  have q3 : (256 : Int) ^ 3 = 16777216 := rfl
  have q4 : (256 : Int) ^ 4 = 4294967296 := rfl
  have q5 : (256 : Int) ^ 5 = 1099511627776 := rfl
  have q6 : (256 : Int) ^ 6 = 281474976710656 := rfl
  have q7 : (256 : Int) ^ 7 = 72057594037927936 := rfl
  rcases hn with rfl | rfl | rfl | rfl
  · have g0 := g 0 (by omega) (by omega)
    show p_z2s f m k = _
    unfold p_z2s
    dsimp only
    rw [g0.1, g0.2.1, g0.2.2, z0, rstep0 f0.1 f0.2]
    simp only [cond_true, Int.toNat_natCast, z1, le]
    congr 1; omega
  · have g0 := g 0 (by omega) (by omega)
    have g1 := g 1 (by omega) (by omega)
    show p_z2r f m k = _
    unfold p_z2r
    dsimp only
    rw [g0.1, g0.2.1, g0.2.2, g1.1, g1.2.1, g1.2.2, z0, z1, rstep0 f1.1 f1.2, rstep f1.1 (by omega) f0.1 f0.2]
    simp only [cond_true, Int.toNat_natCast, z2, le]
    congr 1; omega
  · have g0 := g 0 (by omega) (by omega)
    have g1 := g 1 (by omega) (by omega)
    have g2 := g 2 (by omega) (by omega)
    have g3 := g 3 (by omega) (by omega)
    show p_z2q f m k = _
    unfold p_z2q
    dsimp only
    rw [g0.1, g0.2.1, g0.2.2, g1.1, g1.2.1, g1.2.2, g2.1, g2.2.1, g2.2.2, g3.1, g3.2.1, g3.2.2, z0, z1, z2, z3, rstep0 f3.1 f3.2, rstep f3.1 (by omega) f2.1 f2.2, rstep (by omega) (by omega) f1.1 f1.2, rstep (by omega) (by omega) f0.1 f0.2]
    simp only [cond_true, Int.toNat_natCast, z4, le, q2, q3]
    congr 1; omega
  · have g0 := g 0 (by omega) (by omega)
    have g1 := g 1 (by omega) (by omega)
    have g2 := g 2 (by omega) (by omega)
    have g3 := g 3 (by omega) (by omega)
    have g4 := g 4 (by omega) (by omega)
    have g5 := g 5 (by omega) (by omega)
    have g6 := g 6 (by omega) (by omega)
    have g7 := g 7 (by omega) (by omega)
    show p_z2p f m k = _
    unfold p_z2p
    dsimp only
    rw [g0.1, g0.2.1, g0.2.2, g1.1, g1.2.1, g1.2.2, g2.1, g2.2.1, g2.2.2, g3.1, g3.2.1, g3.2.2, g4.1, g4.2.1, g4.2.2, g5.1, g5.2.1, g5.2.2, g6.1, g6.2.1, g6.2.2, g7.1, g7.2.1, g7.2.2, z0, z1, z2, z3, z4, z5, z6, z7,
      rstep0 f7.1 f7.2, rstep f7.1 (by omega) f6.1 f6.2, rstep (by omega) (by omega) f5.1 f5.2, rstep (by omega) (by omega) f4.1 f4.2, rstep (by omega) (by omega) f3.1 f3.2, rstep (by omega) (by omega) f2.1 f2.2, rstep (by omega) (by omega) f1.1 f1.2, rstep (by omega) (by omega) f0.1 f0.2]
    simp only [cond_true, Int.toNat_natCast, z8, le, q2, q3, q4, q5, q6, q7]
    congr 1; omega
noncomputable def sRRead {α : Type} : Sg_z8 α := fun f a n k => grd (ByteF f ∧ 0 ≤ a ∧ checkS a n = 0) (k (readS f a n))
theorem rEntry_eq {α : Type} {f : Nat → Int} (hf : ByteF f) (fr ix : Int) (k : Int → Bool → R α) : p_z1f sRRead f fr ix k = k (entryV f fr ix) (entryOk fr ix) := by
  unfold p_z1f
  simp only [Bool.cond_eq_ite, ltB_true, leB_true]
  unfold entryV entryOk
  by_cases h1 : fr < 0
  · rw [if_pos h1, decide_eq_false (by omega : ¬ 0 ≤ fr)]; rfl
  by_cases h2 : 128 ≤ fr
  · rw [if_neg h1, if_pos h2, decide_eq_true (by omega : 0 ≤ fr), decide_eq_false (by omega : ¬ fr < 128)]; rfl
  by_cases h3 : ix < 0
  · rw [if_neg h1, if_neg h2, if_pos h3, decide_eq_true (by omega : 0 ≤ fr), decide_eq_true (by omega : fr < 128), decide_eq_false (by omega : ¬ 0 ≤ ix)]; rfl
  by_cases h4 : 15 < ix
  · rw [if_neg h1, if_neg h2, if_neg h3, if_pos h4, decide_eq_true (by omega : 0 ≤ fr), decide_eq_true (by omega : fr < 128), decide_eq_true (by omega : 0 ≤ ix), decide_eq_false (by omega : ¬ ix < 16)]; rfl
  rw [if_neg h1, if_neg h2, if_neg h3, if_neg h4, decide_eq_true (by omega : 0 ≤ fr), decide_eq_true (by omega : fr < 128), decide_eq_true (by omega : 0 ≤ ix), decide_eq_true (by omega : ix < 16)]
  rw [wrap_i64 (n := fr * 256) (by omega) (by omega), wrap_i64 (n := 8 * ix) (by omega) (by omega), wrap_i64 (by omega) (by omega), wrap_u64 (by omega) (by omega)]
  have e : fr * 256 + 8 * ix = fr * 256 + ix * 8 := by omega
  rw [e]
  unfold sRRead
  rw [grd_pos ⟨hf, by omega, check8 (by omega) (by omega)⟩]
  rfl
noncomputable def sREntry {α : Type} : Sg_z1f α := fun f fr ix k => grd (ByteF f) (k (entryV f fr ix) (entryOk fr ix))
theorem byte_shift (v : Int) (j : Nat) (hj : j < 8) : IntKind.u8.wrap (gshr .u64 v (8 * (j : Int))) = v / 256 ^ j % 256 := by
  rw [wrap_u8_mod, gshr_u64 (by omega)]
  have : (8 * (j : Int)).toNat = 8 * j := by omega
  rw [this, Int.pow_mul]
  rfl
theorem rWrite_eq {α : Type} {f : Nat → Int} {a n v : Int} (ha : 0 ≤ a) (hv : W64 v) (hc : checkS a n = 0) (k : (Nat → Int) → R α) : p_zk f a n v k = k (writeS f a n v) := by
  obtain ⟨hn, hm, hl⟩ := checkS_zero hc
  obtain ⟨m, rfl⟩ := Int.eq_ofNat_of_zero_le ha
  have g : ∀ j : Int, 0 ≤ j → (m : Int) + j < 32768 → (decide (0 ≤ IntKind.i64.wrap (IntKind.i64.wrap (m : Int) + j)) && decide (IntKind.i64.wrap (IntKind.i64.wrap (m : Int) + j) < 32768)) = true ∧ decide (0 + (IntKind.i64.wrap (IntKind.i64.wrap (m : Int) + j)).toNat < 32768) = true ∧ 0 + (IntKind.i64.wrap (IntKind.i64.wrap (m : Int) + j)).toNat = m + j.toNat := fun j hj hj2 => by
    rw [i64_id (a := (m : Int)) (by omega) (by omega), i64_id (by omega) (by omega)]
    simp only [Bool.and_eq_true, decide_eq_true_eq]
    omega
  have b0 := byte_shift v 0 (by omega)
  have b1 := byte_shift v 1 (by omega)
  have b2 := byte_shift v 2 (by omega)
  have b3 := byte_shift v 3 (by omega)
  have b4 := byte_shift v 4 (by omega)
  have b5 := byte_shift v 5 (by omega)
  have b6 := byte_shift v 6 (by omega)
  have b7 := byte_shift v 7 (by omega)
  have z0 : (0 : Int).toNat = 0 := rfl
  have z1 : (1 : Int).toNat = 1 := rfl
  have z2 : (2 : Int).toNat = 2 := rfl
  have z3 : (3 : Int).toNat = 3 := rfl
  have z4 : (4 : Int).toNat = 4 := rfl
  have z5 : (5 : Int).toNat = 5 := rfl
  have z6 : (6 : Int).toNat = 6 := rfl
  have z7 : (7 : Int).toNat = 7 := rfl
  have z8 : (8 : Int).toNat = 8 := rfl
  have c0 : 8 * ((0 : Nat) : Int) = 0 := rfl
  have c1 : 8 * ((1 : Nat) : Int) = 8 := rfl
  have c2 : 8 * ((2 : Nat) : Int) = 16 := rfl
  have c3 : 8 * ((3 : Nat) : Int) = 24 := rfl
  have c4 : 8 * ((4 : Nat) : Int) = 32 := rfl
  have c5 : 8 * ((5 : Nat) : Int) = 40 := rfl
  have c6 : 8 * ((6 : Nat) : Int) = 48 := rfl
  have c7 : 8 * ((7 : Nat) : Int) = 56 := rfl
  rw [c0] at b0
  rw [c1] at b1
  rw [c2] at b2
  rw [c3] at b3
  rw [c4] at b4
  rw [c5] at b5
  rw [c6] at b6
  rw [c7] at b7
  rcases hn with rfl | rfl | rfl | rfl
  · have g0 := g 0 (by omega) (by omega)
    show p_z2w f m v k = _
    unfold p_z2w
    dsimp only
    rw [g0.1, g0.2.1, g0.2.2, z0, b0]
    simp only [cond_true]
    congr 1
    funext i
    rw [writeS_at hc hv, Int.toNat_natCast, z1]
    split
    · obtain rfl : i = m := by omega
      simp [upd]
    · have : i ≠ m := by omega
      simp [upd, nbeq, this]
  · have g0 := g 0 (by omega) (by omega)
    have g1 := g 1 (by omega) (by omega)
    show p_z2v f m v k = _
    unfold p_z2v
    dsimp only
    rw [g0.1, g0.2.1, g0.2.2, g1.1, g1.2.1, g1.2.2, z0, z1, b0, b1]
    simp only [cond_true]
    congr 1
    funext i
    rw [writeS_at hc hv, Int.toNat_natCast, z2]
    split
    · obtain ⟨j, rfl⟩ : ∃ j, i = m + j := ⟨i - m, by omega⟩
      have hj : j = 0 ∨ j = 1 := by omega
      rcases hj with rfl | rfl <;> simp [upd, nbeq]
    · have h0 : i ≠ m + 0 := by omega
      have h1 : i ≠ m + 1 := by omega
      simp only [upd, nbeq, h0, h1, decide_false, cond_false]
  · have g0 := g 0 (by omega) (by omega)
    have g1 := g 1 (by omega) (by omega)
    have g2 := g 2 (by omega) (by omega)
    have g3 := g 3 (by omega) (by omega)
    show p_z2u f m v k = _
    unfold p_z2u
    dsimp only
    rw [g0.1, g0.2.1, g0.2.2, g1.1, g1.2.1, g1.2.2, g2.1, g2.2.1, g2.2.2, g3.1, g3.2.1, g3.2.2, z0, z1, z2, z3, b0, b1, b2, b3]
    simp only [cond_true]
    congr 1
    funext i
    rw [writeS_at hc hv, Int.toNat_natCast, z4]
    split
    · obtain ⟨j, rfl⟩ : ∃ j, i = m + j := ⟨i - m, by omega⟩
      have hj : j = 0 ∨ j = 1 ∨ j = 2 ∨ j = 3 := by omega
      rcases hj with rfl | rfl | rfl | rfl <;> simp [upd, nbeq]
    · have h0 : i ≠ m + 0 := by omega
      have h1 : i ≠ m + 1 := by omega
      have h2 : i ≠ m + 2 := by omega
      have h3 : i ≠ m + 3 := by omega
      simp only [upd, nbeq, h0, h1, h2, h3, decide_false, cond_false]
  · have g0 := g 0 (by omega) (by omega)
    have g1 := g 1 (by omega) (by omega)
    have g2 := g 2 (by omega) (by omega)
    have g3 := g 3 (by omega) (by omega)
    have g4 := g 4 (by omega) (by omega)
    have g5 := g 5 (by omega) (by omega)
    have g6 := g 6 (by omega) (by omega)
    have g7 := g 7 (by omega) (by omega)
    show p_z2t f m v k = _
    unfold p_z2t
    dsimp only
    rw [g0.1, g0.2.1, g0.2.2, g1.1, g1.2.1, g1.2.2, g2.1, g2.2.1, g2.2.2, g3.1, g3.2.1, g3.2.2, g4.1, g4.2.1, g4.2.2, g5.1, g5.2.1, g5.2.2, g6.1, g6.2.1, g6.2.2, g7.1, g7.2.1, g7.2.2, z0, z1, z2, z3, z4, z5, z6, z7, b0, b1, b2, b3, b4, b5, b6, b7]
    simp only [cond_true]
    congr 1
    funext i
    rw [writeS_at hc hv, Int.toNat_natCast, z8]
    split
    · obtain ⟨j, rfl⟩ : ∃ j, i = m + j := ⟨i - m, by omega⟩
      have hj : j = 0 ∨ j = 1 ∨ j = 2 ∨ j = 3 ∨ j = 4 ∨ j = 5 ∨ j = 6 ∨ j = 7 := by omega
      rcases hj with rfl | rfl | rfl | rfl | rfl | rfl | rfl | rfl <;> simp [upd, nbeq]
    · have h0 : i ≠ m + 0 := by omega
      have h1 : i ≠ m + 1 := by omega
      have h2 : i ≠ m + 2 := by omega
      have h3 : i ≠ m + 3 := by omega
      have h4 : i ≠ m + 4 := by omega
      have h5 : i ≠ m + 5 := by omega
      have h6 : i ≠ m + 6 := by omega
      have h7 : i ≠ m + 7 := by omega
      simp only [upd, nbeq, h0, h1, h2, h3, h4, h5, h6, h7, decide_false, cond_false]
noncomputable def sRCode {α : Type} : Sg_z7 α := fun _ a n k => grd (W64 a) (k (checkS a n))
theorem may_low {b : Int} (h0 : 0 ≤ b) (h1 : b < 256) : (hasS b 64 = (bitop .and .i64 b 64 != 0)) ∧ (hasS b 16 = (bitop .and .i64 b 16 != 0)) ∧ (hasS b 8 = (bitop .and .i64 b 8 != 0)) ∧ (hasS b 2 = (bitop .and .i64 b 2 != 0)) ∧ (hasS b 132 = ((bitop .and .i64 b 4 != 0) && (bitop .and .i64 b 128 != 0))) ∧ ((bitop .and .i64 b 64 == 0) = !(bitop .and .i64 b 64 != 0)) ∧ ((bitop .and .i64 b 16 == 0) = !(bitop .and .i64 b 16 != 0)) := by
  have := byte_all (p := fun b => (hasS b 64 == (bitop .and .i64 b 64 != 0)) && (hasS b 16 == (bitop .and .i64 b 16 != 0)) && (hasS b 8 == (bitop .and .i64 b 8 != 0)) && (hasS b 2 == (bitop .and .i64 b 2 != 0)) && (hasS b 132 == ((bitop .and .i64 b 4 != 0) && (bitop .and .i64 b 128 != 0)))) (by kernel_rfl) h0 h1
  simp only [Bool.and_eq_true, beq_iff_eq] at this
  obtain ⟨⟨⟨⟨h1, h2⟩, h3⟩, h4⟩, h5⟩ := this
  refine ⟨h1, h2, h3, h4, h5, ?_, ?_⟩ <;> simp [bne]
theorem rMay_eq {α : Type} {b : Int} (h0 : 0 ≤ b) (h1 : b < 256) {kind : Int} (hk : kind = 0 ∨ kind = 1 ∨ kind = 2) (user sum mxr : Bool) (k : Bool → R α) : p_z1g b kind user sum mxr k = k (mayS b kind user sum mxr) := by
  obtain ⟨q1, q2, q3, q4, q5, q6, q7⟩ := may_low h0 h1
  unfold p_z1g mayS whoS
  dsimp only
  rw [q1, q2, q3, q4, q5, q6, q7]
  generalize (bitop .and .i64 b 64 != 0) = c1
  generalize (bitop .and .i64 b 16 != 0) = c2
  generalize (bitop .and .i64 b 8 != 0) = c3
  generalize (bitop .and .i64 b 2 != 0) = c4
  generalize (bitop .and .i64 b 4 != 0) = c5
  generalize (bitop .and .i64 b 128 != 0) = c6
  rcases hk with rfl | rfl | rfl <;> cases user <;> cases sum <;> cases mxr <;> cases c1 <;> cases c2 <;> cases c3 <;> cases c4 <;> cases c5 <;> cases c6 <;> rfl
noncomputable def sRMay {α : Type} : Sg_z1g α := fun b kind user sum mxr k => grd ((0 ≤ b ∧ b < 256) ∧ (kind = 0 ∨ kind = 1 ∨ kind = 2)) (k (mayS b kind user sum mxr))
theorem rmay_eq {α : Type} {b : Int} (h0 : 0 ≤ b) (h1 : b < 256) {kind : Int} (hk : kind = 0 ∨ kind = 1 ∨ kind = 2) (user sum mxr exec : Bool) (k : Bool → R α) : p_zs sRMay b kind user sum mxr exec k = k (mayS b (if exec then 0 else kind) user sum mxr) := by
  unfold p_zs sRMay
  rw [grd_pos ⟨⟨h0, h1⟩, .inl rfl⟩, grd_pos ⟨⟨h0, h1⟩, hk⟩]
  cases exec <;> rfl
noncomputable def sRmay {α : Type} : Sg_zs α := fun b kind user sum mxr exec k => grd ((0 ≤ b ∧ b < 256) ∧ (kind = 0 ∨ kind = 1 ∨ kind = 2)) (k (mayS b (if exec then 0 else kind) user sum mxr))
theorem two_all {n m : Nat} {p : Int → Int → Bool} (h : ((List.range n).all fun a => (List.range m).all fun b => p (a : Int) (b : Int)) = true) {a b : Int} (h0 : 0 ≤ a) (h1 : a < n) (h2 : 0 ≤ b) (h3 : b < m) : p a b = true := by
  obtain ⟨x, rfl⟩ := Int.eq_ofNat_of_zero_le h0
  obtain ⟨y, rfl⟩ := Int.eq_ofNat_of_zero_le h2
  exact List.all_eq_true.1 (List.all_eq_true.1 h x (List.mem_range.2 (by omega))) y (List.mem_range.2 (by omega))
theorem set_low {e low : Int} (h0 : 0 ≤ e) (h1 : e < 65536) (hz : e / 256 % 16 = 0) (l0 : 0 ≤ low) (l1 : low < 16) : setS e 8 4 low = bitop .or .u64 e (gshl .u64 low 8) ∧ bitop .or .u64 e (gshl .u64 low 8) = e + low * 256 ∧ bitop .or .i64 (frameS e) low = frameS (e + low * 256) := by
  have e1 : bitop .andNot .u64 e 3840 = e := by
    have h := two_all (n := 16) (m := 256) (p := fun a b => bitop .andNot .u64 (a * 4096 + b) 3840 == a * 4096 + b) (by kernel_rfl) (a := e / 4096) (b := e % 256) (by omega) (by omega) (by omega) (by omega)
    simp only [beq_iff_eq] at h
    have : e / 4096 * 4096 + e % 256 = e := by omega
    rw [this] at h
    exact h
  have e2 : bitop .and .u64 low 15 = low := by
    have h := two_all (n := 1) (m := 16) (p := fun _ b => bitop .and .u64 b 15 == b) (by kernel_rfl) (a := 0) (b := low) (by omega) (by omega) l0 (by omega)
    simpa using h
  have e3 : gshl .u64 low 8 = low * 256 := by
    rw [gshl_u64 (by omega) (by omega)]
    have : (2 : Int) ^ (8 : Int).toNat = 256 := rfl
    rw [this]; omega
  have e4 : bitop .or .u64 e (low * 256) = e + low * 256 := by
    rw [bitop_or h0 (by omega) (by omega) (by omega)]
    obtain ⟨x, rfl⟩ := Int.eq_ofNat_of_zero_le h0
    obtain ⟨y, rfl⟩ := Int.eq_ofNat_of_zero_le l0
    obtain ⟨a, ha⟩ : ∃ a, a = x / 4096 := ⟨_, rfl⟩
    obtain ⟨b, hb⟩ : ∃ b, b = x % 256 := ⟨_, rfl⟩
    have hx : x = 2 ^ 12 * a + b := by omega
    have hb1 : b < 2 ^ 12 := by omega
    have hb2 : b < 2 ^ 8 := by omega
    have hy : ((y : Int) * 256).toNat = 2 ^ 8 * y := by omega
    rw [hy, Int.toNat_natCast]
    have q1 := Nat.two_pow_add_eq_or_of_lt hb1 a
    have q2 := Nat.two_pow_add_eq_or_of_lt hb2 y
    have hyb : 2 ^ 8 * y + b < 2 ^ 12 := by omega
    have q3 := Nat.two_pow_add_eq_or_of_lt hyb a
    have : x ||| 2 ^ 8 * y = 2 ^ 12 * a + (2 ^ 8 * y + b) := by
      rw [hx, q1, q3, q2, Nat.or_assoc, Nat.or_comm b]
    rw [this]
    omega
  refine ⟨?_, by rw [e3]; exact e4, ?_⟩
  · show bitop .or .u64 (bitop .andNot .u64 e 3840) (gshl .u64 (bitop .and .u64 low 15) 8) = _
    rw [e1, e2]
  · rw [frameS_eq ⟨h0, by omega⟩, frameS_eq ⟨by omega, by omega⟩]
    have h := two_all (n := 16) (m := 16) (p := fun a b => bitop .or .i64 (a * 16) b == a * 16 + b) (by kernel_rfl) (a := e / 4096) (b := low) (by omega) (by omega) l0 (by omega)
    simp only [beq_iff_eq] at h
    have q : e / 256 % 256 = e / 4096 * 16 := by omega
    rw [q, h]
    omega
theorem orChain_w64 (g : Nat → Int) : W64 (orChain g) := by
  unfold orChain
  exact bitop_u64 .or _ _
theorem zero_w64 : W64 0 := ⟨by omega, by omega⟩
theorem readS_w64 (f : Nat → Int) (a n : Int) : W64 (readS f a n) := by
  unfold readS
  split
  · unfold getS
    exact orChain_w64 _
  · exact zero_w64
theorem entryV_w64 {f : Nat → Int} (fr ix : Int) : W64 (entryV f fr ix) := by
  unfold entryV
  cases entryOk fr ix
  · exact zero_w64
  · exact readS_w64 _ _ _
theorem isS_lt {e : Int} (he : W64 e) (h : isS e = true) : e < 65536 := by
  rw [isS_low he] at h
  simp only [Bool.and_eq_true, beq_iff_eq] at h
  obtain ⟨h1, h2⟩ := he
  omega
theorem low4 {a : Int} (ha : W64 a) : (0 ≤ bitop .and .u64 (gshr .u64 a 8) 15 ∧ bitop .and .u64 (gshr .u64 a 8) 15 < 16) ∧ (0 ≤ bitop .and .u64 (gshr .u64 a 12) 15 ∧ bitop .and .u64 (gshr .u64 a 12) 15 < 16) := by
  have h := bits4 ha
  have e1 : bitsS a 12 4 = bitop .and .u64 (gshr .u64 a 12) 15 := rfl
  have e2 : bitsS a 8 4 = bitop .and .u64 (gshr .u64 a 8) 15 := rfl
  rw [← e1, ← e2, h.1, h.2]
  omega
noncomputable def sRFrame {α : Type} : Sg_z4 α := fun e k => k (frameS e)
noncomputable def sRIsW {α : Type} : Sg_zb α := fun e k => grd (W64 e) (k (isS e))
noncomputable def sRLeafW {α : Type} : Sg_z6 α := fun e k => grd (W64 e) (k (leafS e))
theorem rLeafW_eq {α : Type} {e : Int} (he : W64 e) (k : Bool → R α) : p_z6 sRIsW e k = k (leafS e) := by
  unfold p_z6 leafS sRIsW
  rw [grd_pos he]
  cases isS e <;> rfl
theorem rWalk_ex {f : Nat → Int} (hf : ByteF f) {at_ : Int} (ha : W64 at_) (root : Int) : ∃ fr nl n tf, (n ≤ 2 ∧ (nl = false → 0 < n)) ∧ ((walkS f root at_).2 = 0 → fr = frameS (walkS f root at_).1) ∧
    ∀ {α : Type} (k : Int → Int → Int → Bool → Nat → (Nat → Int) → R α), p_z1d sREntry sRIsW sRLeafW sRFrame f root at_ k = k (walkS f root at_).1 fr (walkS f root at_).2 nl n tf := by
  unfold p_z1d walkS thr sREntry sRIsW sRLeafW sRFrame
  simp only [grd_pos hf]
  have c1 : bitsS at_ 12 4 = bitop .and .u64 (gshr .u64 at_ 12) 15 := rfl
  have c2 : bitsS at_ 8 4 = bitop .and .u64 (gshr .u64 at_ 8) 15 := rfl
  obtain ⟨⟨l0, l1⟩, ⟨m0, m1⟩⟩ := low4 ha
  rw [c1, c2]
  generalize bitop .and .u64 (gshr .u64 at_ 12) 15 = hi at *
  generalize bitop .and .u64 (gshr .u64 at_ 8) 15 = lo at *
  have wlo : IntKind.i64.wrap lo = lo := wrap_i64 (by omega) (by omega)
  have wlu : IntKind.u64.wrap lo = lo := wrap_u64 (by omega) (by omega)
  rw [wlo]
  cases h1 : leB 65536 at_
  case true => exact ⟨_, _, _, _, (by refine ⟨by (try dsimp only); omega, fun h => ?_⟩; first | (cases h; done) | ((try dsimp only at h ⊢); first | (cases h; done) | omega)), fun h => by simp at h, fun k => rfl⟩
  simp only [cond_false]
  unfold wrd
  cases h2 : entryOk root (IntKind.i64.wrap hi)
  case false => exact ⟨_, _, _, _, (by refine ⟨by (try dsimp only); omega, fun h => ?_⟩; first | (cases h; done) | ((try dsimp only at h ⊢); first | (cases h; done) | omega)), fun h => by simp at h, fun k => rfl⟩
  simp only [cond_true]
  have he := entryV_w64 (f := f) root (IntKind.i64.wrap hi)
  generalize entryV f root (IntKind.i64.wrap hi) = e at he ⊢
  simp only [grd_pos he]
  have h00 : ((0 : Int) != 0) = false := rfl
  simp only [h00, cond_false, Bool.not_true]
  cases h3 : isS e
  case false => exact ⟨_, _, _, _, (by refine ⟨by (try dsimp only); omega, fun h => ?_⟩; first | (cases h; done) | ((try dsimp only at h ⊢); first | (cases h; done) | omega)), fun h => by simp at h, fun k => rfl⟩
  simp only [Bool.not_true, cond_false]
  have hlt := isS_lt he h3
  cases h4 : leafS e
  case true =>
    simp only [Bool.not_true, cond_false, cond_true]
    have b1 : bitsS e 8 4 = e / 256 % 16 := (bits4 he).2
    have b2 : bitop .and .i64 (frameS e) 15 = e / 256 % 16 := by
      rw [frameS_eq he]
      have h := byte_all (p := fun b => bitop .and .i64 b 15 == b % 16) (by kernel_rfl) (b := e / 256 % 256) (by omega) (by omega)
      simp only [beq_iff_eq] at h
      rw [h]; omega
    rw [b1, b2]
    cases h5 : (e / 256 % 16 != 0)
    case true => exact ⟨_, _, _, _, (by refine ⟨by (try dsimp only); omega, fun h => ?_⟩; first | (cases h; done) | ((try dsimp only at h ⊢); first | (cases h; done) | omega)), fun h => by simp at h, fun k => rfl⟩
    simp only [cond_false]
    have hz : e / 256 % 16 = 0 := by simpa using h5
    obtain ⟨s1, s2, s3⟩ := set_low he.1 hlt hz l0 l1
    rw [wlu, s1, s2, s3]
    exact ⟨_, _, _, _, (by refine ⟨by (try dsimp only); omega, fun h => ?_⟩; first | (cases h; done) | ((try dsimp only at h ⊢); first | (cases h; done) | omega)), fun _ => rfl, fun k => rfl⟩
  simp only [Bool.not_false, cond_true, cond_false]
  cases h6 : entryOk (frameS e) lo
  case false => exact ⟨_, _, _, _, (by refine ⟨by (try dsimp only); omega, fun h => ?_⟩; first | (cases h; done) | ((try dsimp only at h ⊢); first | (cases h; done) | omega)), fun h => by simp at h, fun k => rfl⟩
  simp only [cond_true, h00, cond_false, Bool.not_true]
  have he2 := entryV_w64 (f := f) (frameS e) lo
  generalize entryV f (frameS e) lo = e2 at he2 ⊢
  simp only [grd_pos he2]
  cases h7 : leafS e2
  case false =>
    cases h8 : isS e2
    · exact ⟨_, _, _, _, (by refine ⟨by (try dsimp only); omega, fun h => ?_⟩; first | (cases h; done) | ((try dsimp only at h ⊢); first | (cases h; done) | omega)), fun h => by simp at h, fun k => rfl⟩
    · exact ⟨_, _, _, _, (by refine ⟨by (try dsimp only); omega, fun h => ?_⟩; first | (cases h; done) | ((try dsimp only at h ⊢); first | (cases h; done) | omega)), fun h => by simp at h, fun k => rfl⟩
  have h8 : isS e2 = true := by unfold leafS at h7; simp only [Bool.and_eq_true] at h7; exact h7.1
  rw [h8]
  exact ⟨_, _, _, _, (by refine ⟨by (try dsimp only); omega, fun h => ?_⟩; first | (cases h; done) | ((try dsimp only at h ⊢); first | (cases h; done) | omega)), fun _ => rfl, fun k => rfl⟩
end Go.Sh
