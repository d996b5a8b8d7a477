/-
  The two buses that the laws begin with; states that are cleaned.
-/
import Derived.Test.YtlijlabaopiicaaGreatSpT18b
namespace Go.Sh
open Go
set_option linter.unusedSimpArgs false
set_option linter.unusedVariables false
theorem i64_id {a : Int} (h0 : 0 ≤ a) (h1 : a < 40000) : IntKind.i64.wrap a = a := wrap_i64 (by omega) (by omega)
theorem rCode_eq {α : Type} {f : Nat → Int} {a n : Int} (ha : W64 a) (k : Int → R α) : p_z1y f a n k = k (checkS a n) := by
  have w1 : IntKind.u64.wrap 1 = 1 := rfl
  have w2 : IntKind.u64.wrap 2 = 2 := rfl
  have w4 : IntKind.u64.wrap 4 = 4 := rfl
  have w8 : IntKind.u64.wrap 8 = 8 := rfl
  obtain ⟨h0, h1⟩ := ha
  unfold p_z1y q_ref1_Mem_Code_1
  simp only [Bool.cond_eq_ite, ltB_true, ltB_false, leB_true, leB_false, bne_iff_ne, ne_eq, Bool.not_eq_true, bne_eq_false_iff_eq, decide_eq_true_eq, ite_not]
  repeat' split
  all_goals subst_vars
  all_goals try simp only [w1, w2, w4, w8, Int.tmod_eq_emod_of_nonneg h0] at *
  all_goals first
    | (exfalso; omega)
    | (congr 1; unfold checkS; (repeat' split) <;> first | rfl | (exfalso; omega))
    | (rename_i hh
       rw [wrap_u64 (by omega) (by omega)] at hh
       exfalso; omega)
theorem byte_shift (v : Int) (j : Nat) (hj : j < 8) : IntKind.u8.wrap (gshr .u64 v (8 * (j : Int))) = v / 256 ^ j % 256 := by
  rw [wrap_u8_mod, gshr_u64 (by omega)]
  have : (8 * (j : Int)).toNat = 8 * j := by omega
  rw [this, Int.pow_mul]
  rfl
theorem rWrite_eq {α : Type} {f : Nat → Int} {a n v : Int} (ha : 0 ≤ a) (hv : W64 v) (hc : checkS a n = 0) (k : (Nat → Int) → R α) : p_z1p f a n v k = k (writeS f a n v) := by
  obtain ⟨hn, hm, hl⟩ := checkS_zero hc
  obtain ⟨m, rfl⟩ := Int.eq_ofNat_of_zero_le ha
  have g : ∀ j : Int, 0 ≤ j → (m : Int) + j < 32768 → (decide (0 ≤ IntKind.i64.wrap (IntKind.i64.wrap (m : Int) + j)) && decide (IntKind.i64.wrap (IntKind.i64.wrap (m : Int) + j) < 32768)) = true ∧ decide (0 + (IntKind.i64.wrap (IntKind.i64.wrap (m : Int) + j)).toNat < 32768) = true ∧ 0 + (IntKind.i64.wrap (IntKind.i64.wrap (m : Int) + j)).toNat = m + j.toNat := fun j hj hj2 => by
    rw [i64_id (a := (m : Int)) (by omega) (by omega), i64_id (by omega) (by omega)]
    simp only [Bool.and_eq_true, decide_eq_true_eq]
    omega
  have b0 := byte_shift v 0 (by omega)
  have b1 := byte_shift v 1 (by omega)
  have b2 := byte_shift v 2 (by omega)
  have b3 := byte_shift v 3 (by omega)
  have b4 := byte_shift v 4 (by omega)
  have b5 := byte_shift v 5 (by omega)
  have b6 := byte_shift v 6 (by omega)
  have b7 := byte_shift v 7 (by omega)
  have z0 : (0 : Int).toNat = 0 := rfl
  have z1 : (1 : Int).toNat = 1 := rfl
  have z2 : (2 : Int).toNat = 2 := rfl
  have z3 : (3 : Int).toNat = 3 := rfl
  have z4 : (4 : Int).toNat = 4 := rfl
  have z5 : (5 : Int).toNat = 5 := rfl
  have z6 : (6 : Int).toNat = 6 := rfl
  have z7 : (7 : Int).toNat = 7 := rfl
  have z8 : (8 : Int).toNat = 8 := rfl
  have c0 : 8 * ((0 : Nat) : Int) = 0 := rfl
  have c1 : 8 * ((1 : Nat) : Int) = 8 := rfl
  have c2 : 8 * ((2 : Nat) : Int) = 16 := rfl
  have c3 : 8 * ((3 : Nat) : Int) = 24 := rfl
  have c4 : 8 * ((4 : Nat) : Int) = 32 := rfl
  have c5 : 8 * ((5 : Nat) : Int) = 40 := rfl
  have c6 : 8 * ((6 : Nat) : Int) = 48 := rfl
  have c7 : 8 * ((7 : Nat) : Int) = 56 := rfl
  rw [c0] at b0
  rw [c1] at b1
  rw [c2] at b2
  rw [c3] at b3
  rw [c4] at b4
  rw [c5] at b5
  rw [c6] at b6
  rw [c7] at b7
  rcases hn with rfl | rfl | rfl | rfl
  · have g0 := g 0 (by omega) (by omega)
    show p_z45 f m v k = _
    unfold p_z45
    dsimp only
    rw [g0.1, g0.2.1, g0.2.2, z0, b0]
    simp only [cond_true]
    congr 1
    funext i
    rw [writeS_at hc hv, Int.toNat_natCast, z1]
    split
    · obtain rfl : i = m := by omega
      simp [upd]
    · have : i ≠ m := by omega
      simp [upd, nbeq, this]
  · have g0 := g 0 (by omega) (by omega)
    have g1 := g 1 (by omega) (by omega)
    show p_z44 f m v k = _
    unfold p_z44
    dsimp only
    rw [g0.1, g0.2.1, g0.2.2, g1.1, g1.2.1, g1.2.2, z0, z1, b0, b1]
    simp only [cond_true]
    congr 1
    funext i
    rw [writeS_at hc hv, Int.toNat_natCast, z2]
    split
    · obtain ⟨j, rfl⟩ : ∃ j, i = m + j := ⟨i - m, by omega⟩
      have hj : j = 0 ∨ j = 1 := by omega
      rcases hj with rfl | rfl <;> simp [upd, nbeq]
    · have h0 : i ≠ m + 0 := by omega
      have h1 : i ≠ m + 1 := by omega
      simp only [upd, nbeq, h0, h1, decide_false, cond_false]
  · have g0 := g 0 (by omega) (by omega)
    have g1 := g 1 (by omega) (by omega)
    have g2 := g 2 (by omega) (by omega)
    have g3 := g 3 (by omega) (by omega)
    show p_z43 f m v k = _
    unfold p_z43
    dsimp only
    rw [g0.1, g0.2.1, g0.2.2, g1.1, g1.2.1, g1.2.2, g2.1, g2.2.1, g2.2.2, g3.1, g3.2.1, g3.2.2, z0, z1, z2, z3, b0, b1, b2, b3]
    simp only [cond_true]
    congr 1
    funext i
    rw [writeS_at hc hv, Int.toNat_natCast, z4]
    split
    · obtain ⟨j, rfl⟩ : ∃ j, i = m + j := ⟨i - m, by omega⟩
      have hj : j = 0 ∨ j = 1 ∨ j = 2 ∨ j = 3 := by omega
      rcases hj with rfl | rfl | rfl | rfl <;> simp [upd, nbeq]
    · have h0 : i ≠ m + 0 := by omega
      have h1 : i ≠ m + 1 := by omega
      have h2 : i ≠ m + 2 := by omega
      have h3 : i ≠ m + 3 := by omega
      simp only [upd, nbeq, h0, h1, h2, h3, decide_false, cond_false]
  · have g0 := g 0 (by omega) (by omega)
    have g1 := g 1 (by omega) (by omega)
    have g2 := g 2 (by omega) (by omega)
    have g3 := g 3 (by omega) (by omega)
    have g4 := g 4 (by omega) (by omega)
    have g5 := g 5 (by omega) (by omega)
    have g6 := g 6 (by omega) (by omega)
    have g7 := g 7 (by omega) (by omega)
    show p_z42 f m v k = _
    unfold p_z42
    dsimp only
    rw [g0.1, g0.2.1, g0.2.2, g1.1, g1.2.1, g1.2.2, g2.1, g2.2.1, g2.2.2, g3.1, g3.2.1, g3.2.2, g4.1, g4.2.1, g4.2.2, g5.1, g5.2.1, g5.2.2, g6.1, g6.2.1, g6.2.2, g7.1, g7.2.1, g7.2.2, z0, z1, z2, z3, z4, z5, z6, z7, b0, b1, b2, b3, b4, b5, b6, b7]
    simp only [cond_true]
    congr 1
    funext i
    rw [writeS_at hc hv, Int.toNat_natCast, z8]
    split
    · obtain ⟨j, rfl⟩ : ∃ j, i = m + j := ⟨i - m, by omega⟩
      have hj : j = 0 ∨ j = 1 ∨ j = 2 ∨ j = 3 ∨ j = 4 ∨ j = 5 ∨ j = 6 ∨ j = 7 := by omega
      rcases hj with rfl | rfl | rfl | rfl | rfl | rfl | rfl | rfl <;> simp [upd, nbeq]
    · have h0 : i ≠ m + 0 := by omega
      have h1 : i ≠ m + 1 := by omega
      have h2 : i ≠ m + 2 := by omega
      have h3 : i ≠ m + 3 := by omega
      have h4 : i ≠ m + 4 := by omega
      have h5 : i ≠ m + 5 := by omega
      have h6 : i ≠ m + 6 := by omega
      have h7 : i ≠ m + 7 := by omega
      simp only [upd, nbeq, h0, h1, h2, h3, h4, h5, h6, h7, decide_false, cond_false]
def putW (M : Nat → Int) (fa fb : Nat → Int) : Nat → (Nat → Int)
  | 0 => M
  | n + 1 => writeS (putW M fa fb n) (fa n) 8 (fb n)
def pA (f : Nat → Int × Int × Unit) (i : Nat) : Int := (f i).1
def pB (f : Nat → Int × Int × Unit) (i : Nat) : Int := (f i).2.1
def sRCodeB {α : Type} : Sg_z1y α := fun _ a n k => cond (decide (0 ≤ a) && decide (a < 18446744073709551616)) (k (checkS a n)) none
def sRWriteB {α : Type} : Sg_z1p α := fun f a n v k => cond (decide (0 ≤ a) && (decide (0 ≤ v) && (decide (v < 18446744073709551616) && decide (checkS a n = 0)))) (k (writeS f a n v)) none
def rowOk (l : Bool × Addr × Nat × Nat × (Nat → Int × Int × Unit)) : Prop := ∀ i, i < l.2.2.1 → W64 (pA l.2.2.2.2 i) ∧ W64 (pB l.2.2.2.2 i)
noncomputable def sLoop {α : Type} : SgL_z9 α := fun s k => grd (s.v1 = 0 ∧ s.v0.2.2.1 ≤ 60 ∧ rowOk s.v0) (k ⟨putW s.v2 (pA s.v0.2.2.2.2) (pB s.v0.2.2.2.2) s.v0.2.2.1, putW s.v3 (pA s.v0.2.2.2.2) (pB s.v0.2.2.2.2) s.v0.2.2.1⟩)
abbrev stpB (s : S_z9) : Option (S_z9 ⊕ X_z9) := b_z9 sRCodeB sMWr sRWriteB s (fun s => some (.inl s)) (fun x => some (.inr x))
theorem round_both {l : Bool × Addr × Nat × Nat × (Nat → Int × Int × Unit)} (hl : l.2.2.1 ≤ 60) (hw : rowOk l) {j : Nat} (hj : j < l.2.2.1) (M G : Nat → Int) :
    stpB ⟨l, (j : Int), M, G⟩ = some (.inl ⟨l, ((j + 1 : Nat) : Int), writeS M (pA l.2.2.2.2 j) 8 (pB l.2.2.2.2 j), writeS G (pA l.2.2.2.2 j) 8 (pB l.2.2.2.2 j)⟩) := by
  obtain ⟨⟨a0, a1⟩, b0, b1⟩ := hw j hj
  have g1 : ltB (j : Int) (l.2.2.1 : Int) = true := by simp [ltB]; omega
  have g2 : (decide ((0 : Int) ≤ (j : Int)) && decide ((j : Int) < (l.2.2.1 : Int))) = true := by simp; omega
  have g3 : IntKind.i64.wrap ((j : Int) + 1) = ((j + 1 : Nat) : Int) := by rw [wrap_i64 (by omega) (by omega)]; omega
  have ga : (l.2.2.2.2 j).1 = pA l.2.2.2.2 j := rfl
  have gb : (l.2.2.2.2 j).2.1 = pB l.2.2.2.2 j := rfl
  unfold stpB b_z9 sRCodeB sMWr sRWriteB
  simp only [g1, g2, g3, Int.toNat_natCast, ga, gb, decide_eq_true a0, decide_eq_true a1, Bool.true_and, decide_eq_true b0, decide_eq_true b1, cond_true]
  by_cases hc : checkS (pA l.2.2.2.2 j) 8 = 0
  · simp only [hc, decide_eq_true, cond_true, beq_self_eq_true]
  · have h2 : (checkS (pA l.2.2.2.2 j) 8 == 0) = false := by simpa using hc
    simp only [h2, cond_false, writeS_off hc]
theorem loop_both {l : Bool × Addr × Nat × Nat × (Nat → Int × Int × Unit)} (hl : l.2.2.1 ≤ 60) (hw : rowOk l) (M G : Nat → Int) : ∀ (m j : Nat), j + m = l.2.2.1 →
    lps stpB (m + 1) ⟨l, (j : Int), putW M (pA l.2.2.2.2) (pB l.2.2.2.2) j, putW G (pA l.2.2.2.2) (pB l.2.2.2.2) j⟩ = some ⟨putW M (pA l.2.2.2.2) (pB l.2.2.2.2) l.2.2.1, putW G (pA l.2.2.2.2) (pB l.2.2.2.2) l.2.2.1⟩
  | 0, j, h => by
    have g1 : ltB (j : Int) (l.2.2.1 : Int) = false := by simp [ltB]; omega
    have hj : j = l.2.2.1 := by omega
    have : stpB ⟨l, (j : Int), putW M (pA l.2.2.2.2) (pB l.2.2.2.2) j, putW G (pA l.2.2.2.2) (pB l.2.2.2.2) j⟩ = some (.inr ⟨putW M (pA l.2.2.2.2) (pB l.2.2.2.2) j, putW G (pA l.2.2.2.2) (pB l.2.2.2.2) j⟩) := by
      unfold stpB b_z9
      simp only [g1, cond_false]
    simp only [lps, this]
    rw [hj]
  | m + 1, j, h => by
    have h1 := round_both hl hw (j := j) (by omega) (putW M (pA l.2.2.2.2) (pB l.2.2.2.2) j) (putW G (pA l.2.2.2.2) (pB l.2.2.2.2) j)
    rw [lps, h1]
    exact loop_both hl hw M G m (j + 1) (by omega)
theorem loopOk_both {α : Type} : LoopOk (α := α) stpB (fun (s : S_z9) (k : X_z9 → R α) => sLoop s (fun x => k x)) := by
  intro s k r h
  obtain ⟨⟨h1, h2, h3⟩, h4⟩ := grd_some h
  obtain ⟨l, i, M, G⟩ := s
  simp only at h1 h2 h3 h4
  subst h1
  exact ⟨_, _, loop_both h2 h3 M G l.2.2.1 0 (by omega), h4⟩
abbrev inpS : ByteArray := ByteArray.extract (ByteArray.mk #[105, 110, 112, 117, 116]) 0 (Int.toNat (pickmx false ((ByteArray.size (ByteArray.mk #[105, 110, 112, 117, 116]) : Nat) : Int) 64))
def busI (m : Nat → Int) : GBus := GBus.mk m 0 18446744073709551615 (upd (upd (upd (fun _ => (GPort.mk (Row.mk (ByteArray.size inpS) (bytesAt inpS)) (Row.mk 0 fun _ => 0) 5)) 1 (GPort.mk (Row.mk 0 fun _ => 0) (Row.mk 0 fun _ => 0) 0)) 2 (GPort.mk (Row.mk 0 fun _ => 0) (Row.mk 0 fun _ => 0) 0)) 3 (GPort.mk (Row.mk 0 fun _ => 0) (Row.mk 0 fun _ => 0) 0))
def rbusI (m : Nat → Int) : GRBus := GRBus.mk m 0 18446744073709551615 (upd (upd (upd (fun _ => .empty ++ inpS) 1 .empty) 2 .empty) 3 .empty) (upd (fun _ => 0) 0 5) (upd (upd (upd (fun _ => .empty) 1 .empty) 2 .empty) 3 .empty) false
abbrev memL (l : Bool × Addr × Nat × Nat × (Nat → Int × Int × Unit)) : Nat → Int := putW (fun _ => 0) (pA l.2.2.2.2) (pB l.2.2.2.2) l.2.2.1
noncomputable def sBoth18 {α : Type} : Sg_z1q α := fun l k => grd (l.2.2.1 ≤ 60 ∧ rowOk l) (k (busI (memL l)) (rbusI (memL l)))
theorem both18_eq {α : Type} {l : Bool × Addr × Nat × Nat × (Nat → Int × Int × Unit)} (hl : l.2.2.1 ≤ 60) (hw : rowOk l) (k : GBus → GRBus → R α) : p_z1q sLoop l k = k (busI (memL l)) (rbusI (memL l)) := by
  unfold p_z1q sLoop
  rw [grd_pos ⟨rfl, hl, hw⟩]
  kernel_rfl
theorem few_busI (m : Nat → Int) : Few (busI m) := fun i hi => by
  have : i = 0 ∨ i = 1 ∨ i = 2 ∨ i = 3 := by omega
  rcases this with rfl | rfl | rfl | rfl <;> exact Nat.zero_le _
theorem andNot3 (x : Int) : bitop .and .u64 x 18446744073709551612 = bitop .andNot .u64 x 3 := by
  have e1 : bitop .and .u64 x 18446744073709551612 = IntKind.u64.wrap ((BitVec.ofInt 64 x &&& BitVec.ofInt 64 18446744073709551612).toNat : Int) := rfl
  have e2 : bitop .andNot .u64 x 3 = IntKind.u64.wrap ((BitVec.ofInt 64 x &&& ~~~ BitVec.ofInt 64 3).toNat : Int) := rfl
  have e3 : ~~~ BitVec.ofInt 64 3 = BitVec.ofInt 64 18446744073709551612 := rfl
  rw [e1, e2, e3]
theorem and4 (x : Int) : Int.tmod (bitop .and .u64 x 18446744073709551612) 4 = 0 := by
  have e1 : bitop .and .u64 x 18446744073709551612 = IntKind.u64.wrap ((BitVec.ofInt 64 x &&& 18446744073709551612#64).toNat : Int) := rfl
  have h : (BitVec.ofInt 64 x &&& 18446744073709551612#64).toNat % 4 = 0 := by
    rw [BitVec.toNat_and]
    have := Nat.and_mod_two_pow (a := (BitVec.ofInt 64 x).toNat) (b := (18446744073709551612#64).toNat) (n := 2)
    have e : (18446744073709551612#64).toNat % 2 ^ 2 = 0 := rfl
    rw [e, Nat.and_zero] at this
    exact this
  have hl := (BitVec.ofInt 64 x &&& 18446744073709551612#64).isLt
  rw [e1, wrap_u64 (by omega) (by omega), Int.tmod_eq_emod_of_nonneg (by omega)]
  omega
theorem not4 (x : Int) : Int.tmod (bitop .andNot .u64 x 3) 4 = 0 := by rw [← andNot3]; exact and4 x
theorem m8_0 {α : Type} (k : Int → R α) : s_ref8_Mask 0 k = k 824641853866 := by kernel_rfl
theorem m8_1 {α : Type} (k : Int → R α) : s_ref8_Mask 1 k = k 15775231 := by kernel_rfl
theorem m8_2 {α : Type} (k : Int → R α) : s_ref8_Mask 2 k = k 544 := by kernel_rfl
theorem m8_3 {α : Type} (k : Int → R α) : s_ref8_Mask 3 k = k 1632 := by kernel_rfl
theorem m8_4 {α : Type} (k : Int → R α) : s_ref8_Mask 4 k = k 18446744073709551612 := by kernel_rfl
theorem m8_5 {α : Type} (k : Int → R α) : s_ref8_Mask 5 k = k 18446744073709551615 := by kernel_rfl
theorem m8_6 {α : Type} (k : Int → R α) : s_ref8_Mask 6 k = k 18446744073709551612 := by kernel_rfl
theorem m8_7 {α : Type} (k : Int → R α) : s_ref8_Mask 7 k = k 18446744073709551615 := by kernel_rfl
theorem m8_8 {α : Type} (k : Int → R α) : s_ref8_Mask 8 k = k 18446744073709551615 := by kernel_rfl
theorem m8_9 {α : Type} (k : Int → R α) : s_ref8_Mask 9 k = k 18446744073709551615 := by kernel_rfl
theorem m8_10 {α : Type} (k : Int → R α) : s_ref8_Mask 10 k = k 18446744073709551612 := by kernel_rfl
theorem m8_11 {α : Type} (k : Int → R α) : s_ref8_Mask 11 k = k 18446744073709551615 := by kernel_rfl
theorem m8_12 {α : Type} (k : Int → R α) : s_ref8_Mask 12 k = k 18446744073709551612 := by kernel_rfl
theorem m8_13 {α : Type} (k : Int → R α) : s_ref8_Mask 13 k = k 18446744073709551615 := by kernel_rfl
theorem m8_14 {α : Type} (k : Int → R α) : s_ref8_Mask 14 k = k 18446744073709551615 := by kernel_rfl
theorem m8_15 {α : Type} (k : Int → R α) : s_ref8_Mask 15 k = k 9223372036871487743 := by kernel_rfl
theorem m8_16 {α : Type} (k : Int → R α) : s_ref8_Mask 16 k = k 7340992 := by kernel_rfl
theorem m8_17 {α : Type} (k : Int → R α) : s_ref8_Mask 17 k = k 45567 := by kernel_rfl
theorem m8_18 {α : Type} (k : Int → R α) : s_ref8_Mask 18 k = k 1088 := by kernel_rfl
theorem m8_19 {α : Type} (k : Int → R α) : s_ref8_Mask 19 k = k 1088 := by kernel_rfl
theorem m8_20 {α : Type} (k : Int → R α) : s_ref8_Mask 20 k = k 18446744073709551615 := by kernel_rfl
theorem m8_21 {α : Type} (k : Int → R α) : s_ref8_Mask 21 k = k 9223372036871487743 := by kernel_rfl
theorem m8_22 {α : Type} (k : Int → R α) : s_ref8_Mask 22 k = k 786722 := by kernel_rfl
theorem m8_23 {α : Type} (k : Int → R α) : s_ref8_Mask 23 k = k 18446744073709551612 := by kernel_rfl
theorem m8_24 {α : Type} (k : Int → R α) : s_ref8_Mask 24 k = k 18446744073709551615 := by kernel_rfl
theorem m8_25 {α : Type} (k : Int → R α) : s_ref8_Mask 25 k = k 18446744073709551612 := by kernel_rfl
theorem m8_26 {α : Type} (k : Int → R α) : s_ref8_Mask 26 k = k 18446744073709551615 := by kernel_rfl
theorem m8_27 {α : Type} (k : Int → R α) : s_ref8_Mask 27 k = k 18446744073709551615 := by kernel_rfl
theorem m8_28 {α : Type} (k : Int → R α) : s_ref8_Mask 28 k = k 9223372036871487743 := by kernel_rfl
theorem T_z1w {α : Type} {c : Int} (k : Int → R α) : ∃ r, s_ref8_Mpp c k = k r ∧ True := by
  show W1 k (fun _ => True) _
  unfold s_ref8_Mpp p_z1w
  try dsimp only
  repeat' first
    | (with_reducible refine guardn_i (by rfl) ?_)
    | (with_reducible refine cond_i ?_ ?_ <;> intro _)
    | (with_reducible refine ret1 ?_; exact trivial)
set_option maxRecDepth 100000 in
theorem T_z2u {α : Type} {s : GState} (k : GState → R α) : ∃ u, s_ref18_Clean s k = k u ∧ GoodS u := by
  show W1 k (fun u => GoodS u) _
  unfold s_ref18_Clean p_z2u q_ref18_Clean_1
  try dsimp only
  simp only [m8_0, m8_1, m8_2, m8_3, m8_4, m8_5, m8_6, m8_7, m8_8, m8_9, m8_10, m8_11, m8_12, m8_13, m8_14, m8_15, m8_16, m8_17, m8_18, m8_19, m8_20, m8_21, m8_22, m8_23, m8_24, m8_25, m8_26, m8_27, m8_28]
  repeat' first
    | (with_reducible refine cond_i ?_ ?_ <;> intro _)
    | (with_reducible refine call1 (fun k => T_z1w k) ?_; intro _ _)
    | ((with_reducible refine ret1 ?_); exact ⟨rfl, not4 _, by show Int.tmod (bitop .and .u64 (s.C 6) 18446744073709551612) 4 = 0; exact and4 _, by show Int.tmod (bitop .and .u64 (s.C 12) 18446744073709551612) 4 = 0; exact and4 _, by show Int.tmod (bitop .and .u64 (s.C 25) 18446744073709551612) 4 = 0; exact and4 _⟩)
end Go.Sh
