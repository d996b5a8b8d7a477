/-
  Walks, plainly: entries by their bytes.
-/
import Derived.Test.YtigomjcmpafeeaaSpTwo
import Derived.Test.YtigomjcmpafeeaaSpMemLaw
set_option linter.unusedSimpArgs false
set_option linter.unusedVariables false
namespace Go.Sh
open Go

theorem and_low {e m : Int} (he : W64 e) (h0 : 0 ≤ m) (h1 : m < 256) : bitop .and .u64 e m = bitop .and .u64 (e % 256) m := by
  rw [bitop_and he.1 he.2 h0 (by omega), bitop_and (by omega) (by omega) h0 (by omega)]
  obtain ⟨n, rfl⟩ := Int.eq_ofNat_of_zero_le he.1
  obtain ⟨k, rfl⟩ := Int.eq_ofNat_of_zero_le h0
  have hk : k < 2 ^ 8 := by omega
  have e1 : ((n : Int) % 256).toNat = n % 2 ^ 8 := by omega
  rw [e1, Int.toNat_natCast, Int.toNat_natCast]
  congr 1
  apply Nat.eq_of_testBit_eq
  intro i
  rw [Nat.testBit_and, Nat.testBit_and, Nat.testBit_mod_two_pow]
  by_cases hi : i < 8
  · simp [hi]
  · have : k.testBit i = false := Nat.testBit_lt_two_pow (Nat.lt_of_lt_of_le hk (Nat.pow_le_pow_right (by omega) (by omega)))
    simp [this]
/-- Of an entry's lowest byte. -/
def isLow (b : Int) : Bool := (bitop .and .u64 b 1 != 0) && (((bitop .and .u64 b 4 == 0) || (bitop .and .u64 b 2 != 0)) && (bitop .and .u64 b 32 == 0))
def leafLow (b : Int) : Bool := bitop .and .u64 b 10 != 0
theorem isS_low {e : Int} (he : W64 e) : isS e = (isLow (e % 256) && (e / 65536 == 0)) := by
  unfold isS isLow
  rw [and_low he (m := 1) (by omega) (by omega), and_low he (m := 4) (by omega) (by omega), and_low he (m := 2) (by omega) (by omega), and_low he (m := 32) (by omega) (by omega), gshr_u64 (by omega)]
  have : (2 : Int) ^ (16 : Int).toNat = 65536 := rfl
  rw [this]
  cases (bitop .and .u64 (e % 256) 1 != 0) <;> cases ((bitop .and .u64 (e % 256) 4 == 0) || (bitop .and .u64 (e % 256) 2 != 0)) <;> rfl
theorem leafS_low {e : Int} (he : W64 e) : leafS e = (isS e && leafLow (e % 256)) := by
  unfold leafS leafLow
  rw [and_low he (m := 10) (by omega) (by omega)]
theorem frameS_eq {e : Int} (he : W64 e) : frameS e = e / 256 % 256 := by
  unfold frameS
  rw [bitsS_eq he (by omega) (by omega) (by omega) (by omega)]
  have e1 : (2 : Int) ^ (8 : Int).toNat = 256 := rfl
  rw [e1]
  exact wrap_i64 (by omega) (by omega)
theorem leafBits_eq {e : Int} (he : W64 e) : leafBits e = e % 256 := by
  unfold leafBits
  rw [zextS_8 he]
  exact wrap_i64 (by omega) (by omega)
theorem joinS_eq {fr at_ : Int} (h0 : 0 ≤ fr) (h1 : fr < 72057594037927936) (ha : W64 at_) : joinS fr at_ = fr * 256 + at_ % 256 := by
  unfold joinS
  rw [wrap_u64 h0 (by omega), zextS_8 ha, gshl_u64 (by omega) (by omega)]
  have e1 : (2 : Int) ^ (8 : Int).toNat = 256 := rfl
  rw [e1, Int.emod_eq_of_lt (by omega) (by omega)]
  rw [bitop_or (by omega) (by omega) (by omega) (by omega)]
  obtain ⟨n, rfl⟩ := Int.eq_ofNat_of_zero_le h0
  obtain ⟨m, hm⟩ := Int.eq_ofNat_of_zero_le (show 0 ≤ at_ % 256 by omega)
  rw [hm]
  have hlt : m < 2 ^ 8 := by omega
  have e2 := Nat.two_pow_add_eq_or_of_lt hlt n
  have e3 : ((n : Int) * 256).toNat = 2 ^ 8 * n := by omega
  rw [e3, Int.toNat_natCast, ← e2]
  omega
theorem bits4 {v : Int} (hv : W64 v) : bitsS v 12 4 = v / 4096 % 16 ∧ bitsS v 8 4 = v / 256 % 16 := by
  constructor
  · rw [bitsS_eq hv (by omega) (by omega) (by omega) (by omega)]; rfl
  · rw [bitsS_eq hv (by omega) (by omega) (by omega) (by omega)]; rfl
theorem wrap4 {v : Int} : IntKind.i64.wrap (v % 16) = v % 16 := wrap_i64 (by omega) (by omega)

/-- The two tables' entries that a walk reads. -/
theorem thr_eq {rd : Int → Int → Int × Int} {root at_ : Int} (ha : W64 at_) :
    thr rd root at_ = if 65536 ≤ at_ then (0, 1) else
      if (rd root (at_ / 4096 % 16)).2 ≠ 0 then (0, (rd root (at_ / 4096 % 16)).2) else
      if isS (rd root (at_ / 4096 % 16)).1 = false then (0, 1) else
      if leafS (rd root (at_ / 4096 % 16)).1 = false then
        (if (rd (frameS (rd root (at_ / 4096 % 16)).1) (at_ / 256 % 16)).2 ≠ 0 then (0, (rd (frameS (rd root (at_ / 4096 % 16)).1) (at_ / 256 % 16)).2) else
        if isS (rd (frameS (rd root (at_ / 4096 % 16)).1) (at_ / 256 % 16)).1 = false then (0, 1) else
        if leafS (rd (frameS (rd root (at_ / 4096 % 16)).1) (at_ / 256 % 16)).1 = false then (0, 1) else ((rd (frameS (rd root (at_ / 4096 % 16)).1) (at_ / 256 % 16)).1, 0)) else
      if bitsS (rd root (at_ / 4096 % 16)).1 8 4 ≠ 0 then (0, 1) else (setS (rd root (at_ / 4096 % 16)).1 8 4 (at_ / 256 % 16), 0) := by
  obtain ⟨e1, e2⟩ := bits4 ha
  unfold thr
  rw [e1, e2, wrap4, wrap4]
  have c : ∀ (b : Bool) (x y : Int × Int), (bif b then x else y) = if b = true then x else y := fun b x y => by cases b <;> rfl
  simp only [c, leB_true, bne_iff_ne, ne_eq, Bool.not_eq_true']

/-! ### A table in frame 2, behind one entry of frame 1 -/
/-- Words laid one behind the other from 512 on. -/
def putsM (M : Nat → Int) (E : Nat → Int) : Nat → Nat → Int
  | 0 => M
  | j + 1 => writeS (putsM M E j) (512 + 8 * (j : Int)) 8 (E j)
theorem puts_byte {M : Nat → Int} {E : Nat → Int} (hM : ByteF M) (hE : ∀ i, W64 (E i)) : ∀ j, ByteF (putsM M E j)
  | 0 => hM
  | j + 1 => writeS_byte (puts_byte hM hE j) _ _ (hE j)
theorem check8 {a : Int} (h : a % 8 = 0) (h1 : a < 32768) : checkS a 8 = 0 := by
  unfold checkS
  rw [if_neg (by omega), if_neg (by omega)]
theorem puts_read {M : Nat → Int} {E : Nat → Int} (hM : ByteF M) (hE : ∀ i, W64 (E i)) : ∀ (j i : Nat), i < j → j ≤ 4000 → readS (putsM M E j) (512 + 8 * (i : Int)) 8 = E i
  | 0, i, h, _ => by omega
  | j + 1, i, h, hj => by
    by_cases e : i = j
    · subst e
      simp only [putsM]
      exact read_write (puts_byte hM hE i) (hE i) (check8 (by omega) (by omega))
    · simp only [putsM]
      rw [read_other (hE j) (by omega) (by omega) (by omega)]
      exact puts_read hM hE j i (by omega) (by omega)
theorem puts_other {M : Nat → Int} {E : Nat → Int} (hE : ∀ i, W64 (E i)) {b n : Int} (hb : 0 ≤ b) : ∀ (j : Nat), b + n ≤ 512 ∨ 512 + 8 * (j : Int) ≤ b → readS (putsM M E j) b n = readS M b n
  | 0, _ => rfl
  | j + 1, h => by
    simp only [putsM]
    rw [read_other (hE j) (by omega) hb (by omega)]
    exact puts_other hE hb j (by omega)
theorem wrd_eq {f : Nat → Int} {fr ix : Int} (h0 : 0 ≤ fr) (h1 : fr < 128) (h2 : 0 ≤ ix) (h3 : ix < 16) : wrd f fr ix = (readS f (fr * 256 + ix * 8) 8, 0) := by
  have e : entryOk fr ix = true := by simp [entryOk, h0, h1, h2, h3]
  unfold wrd entryV
  rw [e]; rfl
/-- What the document's Make makes. -/
def rmakeS (frame bits : Int) : Int := bitop .or .u64 (gshl .u64 (IntKind.u64.wrap (bitop .and .i64 frame 255)) 8) (IntKind.u64.wrap (bitop .and .i64 bits 255))
theorem and255 {x : Int} (h0 : 0 ≤ x) (h1 : x < 256) : bitop .and .i64 x 255 = x := by
  have hx : x = ((x.toNat : Nat) : Int) := by omega
  rw [hx]
  have hk : x.toNat < 256 := by omega
  generalize x.toNat = k at hk
  have : ∀ k : Fin 256, bitop .and .i64 (k.val : Int) 255 = (k.val : Int) := by decide +kernel
  exact this ⟨k, hk⟩
theorem rmakeS_eq {fr b : Int} (h0 : 0 ≤ fr) (h1 : fr < 256) (h2 : 0 ≤ b) (h3 : b < 256) : rmakeS fr b = fr * 256 + b := by
  unfold rmakeS
  rw [and255 h0 h1, and255 h2 h3, wrap_u64 (n := b) h2 (by omega)]
  have hj := joinS_eq (fr := fr) (at_ := b) h0 (by omega) ⟨h2, by omega⟩
  unfold joinS at hj
  rw [zextS_8 ⟨h2, by omega⟩, Int.emod_eq_of_lt h2 h3] at hj
  exact hj
end Go.Sh
