/-
  Memory, plainly: what is written is read; the rest stays. Parts of words as numbers.
-/
import Derived.Test.YthcpbmgbehidlaaSpMem
set_option linter.unusedSimpArgs false
set_option linter.unusedVariables false
namespace Go.Sh
open Go
theorem pow2_eq (k : Nat) : (2 : Int) ^ k = ((2 ^ k : Nat) : Int) := by simp
theorem or_step {x y : Int} {k : Nat} (h0 : 0 ≤ x) (h1 : x < 2 ^ k) (hy : 0 ≤ y) (hy2 : y < 256) (hk : k ≤ 56) : bitop .or .u64 x (gshl .u64 (IntKind.u64.wrap y) (k : Int)) = x + y * 2 ^ k := by
  have hw : IntKind.u64.wrap y = y := wrap_u64 hy (by omega)
  have hp2 : 2 ^ k ≤ 2 ^ 56 := Nat.pow_le_pow_right (by omega) hk
  have hp1 : 1 ≤ 2 ^ k := Nat.one_le_two_pow
  have hyk : y * 2 ^ k < 18446744073709551616 := by
    rw [pow2_eq]
    have : y * ((2 ^ k : Nat) : Int) ≤ 255 * ((2 ^ k : Nat) : Int) := Int.mul_le_mul_of_nonneg_right (by omega) (by omega)
    omega
  have hyk0 : 0 ≤ y * 2 ^ k := Int.mul_nonneg hy (Int.le_of_lt (pow_pos' k))
  rw [hw, gshl_u64 (by omega) (by omega), Int.toNat_natCast, Int.emod_eq_of_lt hyk0 hyk]
  rw [pow2_eq] at h1 hyk hyk0 ⊢
  rw [bitop_or h0 (by omega) hyk0 hyk]
  obtain ⟨n, rfl⟩ := Int.eq_ofNat_of_zero_le h0
  obtain ⟨m, rfl⟩ := Int.eq_ofNat_of_zero_le hy
  have hlt : n < 2 ^ k := by omega
  have e := Nat.two_pow_add_eq_or_of_lt hlt m
  have e2 : ((m : Int) * ((2 ^ k : Nat) : Int)).toNat = 2 ^ k * m := by rw [← Int.natCast_mul, Int.toNat_natCast, Nat.mul_comm]
  rw [e2, Int.toNat_natCast, Nat.or_comm, ← e]
  simp only [Int.natCast_add, Int.natCast_mul]
  rw [Int.mul_comm (m : Int), Int.add_comm]
theorem orChain_sum {g : Nat → Int} (h : ∀ i, i < 8 → 0 ≤ g i ∧ g i < 256) :
    orChain g = g 0 + g 1 * 256 + g 2 * 65536 + g 3 * 16777216 + g 4 * 4294967296 + g 5 * 1099511627776 + g 6 * 281474976710656 + g 7 * 72057594037927936 := by
  have h0 := h 0 (by omega)
  have h1 := h 1 (by omega)
  have h2 := h 2 (by omega)
  have h3 := h 3 (by omega)
  have h4 := h 4 (by omega)
  have h5 := h 5 (by omega)
  have h6 := h 6 (by omega)
  have h7 := h 7 (by omega)
  have e0 := or_step (x := 0) (y := g 0) (k := 0) (by omega) (by decide) h0.1 h0.2 (by omega)
  have e1 := or_step (x := g 0) (y := g 1) (k := 8) h0.1 (by omega) h1.1 h1.2 (by omega)
  have e2 := or_step (x := g 0 + g 1 * 256) (y := g 2) (k := 16) (by omega) (by omega) h2.1 h2.2 (by omega)
  have e3 := or_step (x := g 0 + g 1 * 256 + g 2 * 65536) (y := g 3) (k := 24) (by omega) (by omega) h3.1 h3.2 (by omega)
  have e4 := or_step (x := g 0 + g 1 * 256 + g 2 * 65536 + g 3 * 16777216) (y := g 4) (k := 32) (by omega) (by omega) h4.1 h4.2 (by omega)
  have e5 := or_step (x := g 0 + g 1 * 256 + g 2 * 65536 + g 3 * 16777216 + g 4 * 4294967296) (y := g 5) (k := 40) (by omega) (by omega) h5.1 h5.2 (by omega)
  have e6 := or_step (x := g 0 + g 1 * 256 + g 2 * 65536 + g 3 * 16777216 + g 4 * 4294967296 + g 5 * 1099511627776) (y := g 6) (k := 48) (by omega) (by omega) h6.1 h6.2 (by omega)
  have e7 := or_step (x := g 0 + g 1 * 256 + g 2 * 65536 + g 3 * 16777216 + g 4 * 4294967296 + g 5 * 1099511627776 + g 6 * 281474976710656) (y := g 7) (k := 56) (by omega) (by omega) h7.1 h7.2 (by omega)
  simp only [Int.pow_zero, Int.mul_one, Int.zero_add] at e0
  have c0 : ((0 : Nat) : Int) = 0 := rfl
  have c1 : ((8 : Nat) : Int) = 8 := rfl
  have c2 : ((16 : Nat) : Int) = 16 := rfl
  have c3 : ((24 : Nat) : Int) = 24 := rfl
  have c4 : ((32 : Nat) : Int) = 32 := rfl
  have c5 : ((40 : Nat) : Int) = 40 := rfl
  have c6 : ((48 : Nat) : Int) = 48 := rfl
  have c7 : ((56 : Nat) : Int) = 56 := rfl
  rw [c0] at e0
  rw [c1] at e1
  rw [c2] at e2
  rw [c3] at e3
  rw [c4] at e4
  rw [c5] at e5
  rw [c6] at e6
  rw [c7] at e7
  have p1 : (2 : Int) ^ 8 = 256 := rfl
  have p2 : (2 : Int) ^ 16 = 65536 := rfl
  have p3 : (2 : Int) ^ 24 = 16777216 := rfl
  have p4 : (2 : Int) ^ 32 = 4294967296 := rfl
  have p5 : (2 : Int) ^ 40 = 1099511627776 := rfl
  have p6 : (2 : Int) ^ 48 = 281474976710656 := rfl
  have p7 : (2 : Int) ^ 56 = 72057594037927936 := rfl
  rw [p1] at e1
  rw [p2] at e2
  rw [p3] at e3
  rw [p4] at e4
  rw [p5] at e5
  rw [p6] at e6
  rw [p7] at e7
  unfold orChain
  rw [e0, e1, e2, e3, e4, e5, e6, e7]
def le (g : Nat → Int) : Nat → Int
  | 0 => 0
  | n + 1 => le g n + g n * 256 ^ n
theorem le_congr {g h : Nat → Int} : ∀ {n : Nat}, (∀ i, i < n → g i = h i) → le g n = le h n
  | 0, _ => rfl
  | n + 1, e => by simp only [le]; rw [le_congr fun i hi => e i (by omega), e n (by omega)]
def ByteF (f : Nat → Int) : Prop := ∀ i, 0 ≤ f i ∧ f i < 256
theorem bytesAt_strOf {f : Nat → Int} {n i : Nat} (hi : i < n) (h0 : 0 ≤ f i) (h1 : f i < 256) : bytesAt (strOf f n) i = f i := by
  unfold bytesAt
  have hs := strOf_size f n
  rw [getElem?_pos (strOf f n) i (by omega)]
  simp [strOf, strOfNums, ByteArray.getElem_eq_getElem_data]
  omega
theorem extract_all (s : ByteArray) : s.extract 0 s.size = s := by
  apply ByteArray.ext
  simp
theorem getS_le {g : Nat → Int} {n : Nat} (hn : n = 1 ∨ n = 2 ∨ n = 4 ∨ n = 8) (hg : ∀ i, i < n → 0 ≤ g i ∧ g i < 256) : getS (strOf g n) (n : Int) = le g n := by
  have hc : (c8 (n : Int)).toNat = n := by rw [c8_eq]; (repeat' split) <;> omega
  have hm : Nat.min (strOf g n).size n = n := by rw [strOf_size]; exact Nat.min_self n
  unfold getS
  rw [extract_all, hc, hm]
  have hv : ∀ i, cpy (fun _ => 0) (bytesAt (strOf g n)) 0 n i = if i < n then g i else 0 := fun i => by
    unfold cpy
    have hb : Nat.ble 0 i = true := by simp
    by_cases hi : i < n
    · have h2 : Nat.blt i (0 + n) = true := by simpa using hi
      rw [hb, h2, if_pos hi]
      simp only [Bool.and_self, cond_true, Nat.sub_zero]
      exact bytesAt_strOf hi (hg i hi).1 (hg i hi).2
    · have h2 : Nat.blt i (0 + n) = false := by
        cases e : Nat.blt i (0 + n)
        · rfl
        · exact absurd (by simpa using e) hi
      rw [hb, h2, if_neg hi]
      rfl
  have hall : ∀ i, i < 8 → 0 ≤ cpy (fun _ => 0) (bytesAt (strOf g n)) 0 n i ∧ cpy (fun _ => 0) (bytesAt (strOf g n)) 0 n i < 256 := fun i _ => by
    rw [hv]
    split
    · exact hg i (by assumption)
    · omega
  rw [orChain_sum hall]
  simp only [hv]
  rcases hn with rfl | rfl | rfl | rfl <;> simp [le]
theorem readS_le {f : Nat → Int} (hf : ByteF f) {a n : Int} (hc : checkS a n = 0) : readS f a n = le (fun i => f (a.toNat + i)) n.toNat := by
  obtain ⟨h1, _, _⟩ := checkS_zero hc
  obtain ⟨m, rfl⟩ := Int.eq_ofNat_of_zero_le (show 0 ≤ n by omega)
  unfold readS
  rw [if_pos hc, Int.toNat_natCast]
  exact getS_le (by omega) fun i _ => hf _
theorem writeS_at {f : Nat → Int} {a n v : Int} (hc : checkS a n = 0) (_hv : W64 v) (i : Nat) :
    writeS f a n v i = if a.toNat ≤ i ∧ i < a.toNat + n.toNat then v / 256 ^ (i - a.toNat) % 256 else f i := by
  obtain ⟨h1, _, _⟩ := checkS_zero hc
  unfold writeS
  rw [if_pos hc]
  unfold cpy
  by_cases hi : a.toNat ≤ i ∧ i < a.toNat + n.toNat
  · have e1 : Nat.ble a.toNat i = true := by simpa using hi.1
    have e2 : Nat.blt i (a.toNat + n.toNat) = true := by simpa using hi.2
    rw [e1, e2, if_pos hi]
    simp only [Bool.and_self, cond_true]
    have hk : i - a.toNat < (c8 n).toNat := by rw [c8_same (by omega) (by omega)]; omega
    have hk8 : i - a.toNat < 8 := by omega
    unfold bytesS
    have hw : IntKind.u8.wrap (gshr .u64 v (8 * ((i - a.toNat : Nat) : Int))) = v / 256 ^ (i - a.toNat) % 256 := by
      rw [wrap_u8_mod, gshr_u64 (by omega)]
      have : (8 * ((i - a.toNat : Nat) : Int)).toNat = 8 * (i - a.toNat) := by omega
      rw [this, Int.pow_mul]
      rfl
    rw [bytesAt_strOf hk (by rw [wrap_u8_mod]; omega) (by rw [wrap_u8_mod]; omega), hw]
  · rw [if_neg hi]
    cases e1 : Nat.ble a.toNat i
    · rfl
    · cases e2 : Nat.blt i (a.toNat + n.toNat)
      · rfl
      · exact absurd ⟨by simpa using e1, by simpa using e2⟩ hi
theorem writeS_off {f : Nat → Int} {a n v : Int} (hc : checkS a n ≠ 0) : writeS f a n v = f := by unfold writeS; rw [if_neg hc]
theorem writeS_byte {f : Nat → Int} (hf : ByteF f) (a n : Int) {v : Int} (hv : W64 v) : ByteF (writeS f a n v) := by
  by_cases hc : checkS a n = 0
  · intro i
    rw [writeS_at hc hv]
    split
    · omega
    · exact hf i
  · rw [writeS_off hc]; exact hf
theorem zero_byte : ByteF fun _ => 0 := fun _ => ⟨Int.le_refl 0, (by decide : (0 : Int) < 256)⟩
theorem le_parts {v : Int} (hv : W64 v) : le (fun i => v / 256 ^ i % 256) 8 = v := by
  simp only [le]
  have := hv.1
  have := hv.2
  have p0 : (256 : Int) ^ 0 = 1 := rfl
  have p1 : (256 : Int) ^ 1 = 256 := rfl
  have p2 : (256 : Int) ^ 2 = 65536 := rfl
  have p3 : (256 : Int) ^ 3 = 16777216 := rfl
  have p4 : (256 : Int) ^ 4 = 4294967296 := rfl
  have p5 : (256 : Int) ^ 5 = 1099511627776 := rfl
  have p6 : (256 : Int) ^ 6 = 281474976710656 := rfl
  have p7 : (256 : Int) ^ 7 = 72057594037927936 := rfl
  rw [p0, p1, p2, p3, p4, p5, p6, p7]
  omega
end Go.Sh
