/-
  Two tables, plainly: where a place lies.
-/
import Derived.Test.YtigomjcmpafeeaaSpOwnLaw
set_option linter.unusedSimpArgs false
set_option linter.unusedVariables false
namespace Go.Sh
open Go

/-- A table of one low table, by its entries. -/
structure Low (M : Nat → Int) (fr : Nat → Int) : Prop where
  root : ∀ k, 0 ≤ k → k < 16 → wrd M 1 k = (if k = 0 then 513 else 0, 0)
  low : ∀ k, 0 ≤ k → k < 16 → wrd M 2 k = (fr k.toNat * 256 + 223, 0)
  bd : ∀ i, i < 16 → 0 ≤ fr i ∧ fr i < 128
theorem low_walk {M fr} (h : Low M fr) {at_ : Int} (h0 : 0 ≤ at_) (h1 : at_ < 4096) : walkS M 1 at_ = (fr (at_ / 256).toNat * 256 + 223, 0) := by
  unfold walkS
  rw [thr_eq ⟨h0, by omega⟩, if_neg (by omega), h.root _ (by omega) (by omega)]
  have i1 : isS 513 = true := by decide +kernel
  have i2 : leafS 513 = false := by decide +kernel
  have i3 : frameS 513 = 2 := by decide +kernel
  have h4 : at_ / 4096 % 16 = 0 := by omega
  have h5 : at_ / 256 % 16 = at_ / 256 := by omega
  rw [if_pos h4, h5]
  simp only [ne_eq, not_true_eq_false, if_false, i1, i2, i3, if_true, Bool.true_eq_false, h.low (at_ / 256) (by omega) (by omega)]
  obtain ⟨q2, q3⟩ := h.bd (at_ / 256).toNat (by omega)
  have hw : W64 (fr (at_ / 256).toNat * 256 + 223) := ⟨by omega, by omega⟩
  have e1 : (fr (at_ / 256).toNat * 256 + 223) % 256 = 223 := by omega
  have e2 : (fr (at_ / 256).toNat * 256 + 223) / 65536 = 0 := by omega
  have l1 : isLow 223 = true := by decide +kernel
  have l2 : leafLow 223 = true := by decide +kernel
  have j1 : isS (fr (at_ / 256).toNat * 256 + 223) = true := by rw [isS_low hw, e1, e2, l1]; rfl
  have j2 : leafS (fr (at_ / 256).toNat * 256 + 223) = true := by rw [leafS_low hw, j1, e1, l2]; rfl
  rw [j1, j2]
  simp
theorem low_second {M fr} (h : Low M fr) {at_ kind : Int} (h0 : 0 ≤ at_) (h1 : at_ < 4096) (hk0 : 0 ≤ kind) (hk1 : kind < 3) :
    secondS M true 1 at_ kind = (fr (at_ / 256).toNat * 256 + at_ % 256, 223, 0) := by
  unfold secondS
  rw [low_walk h h0 h1]
  obtain ⟨q2, q3⟩ := h.bd (at_ / 256).toNat (by omega)
  have hw : W64 (fr (at_ / 256).toNat * 256 + 223) := ⟨by omega, by omega⟩
  have e1 : leafBits (fr (at_ / 256).toNat * 256 + 223) = 223 := by rw [leafBits_eq hw]; omega
  have e2 : frameS (fr (at_ / 256).toNat * 256 + 223) = fr (at_ / 256).toNat := by rw [frameS_eq hw]; omega
  have ha : W64 at_ := ⟨h0, by omega⟩
  simp only [e1, e2, may_223 hk0 hk1, joinS_eq q2 (show fr (at_ / 256).toNat < 72057594037927936 by omega) ha, Bool.not_true, cond_false]
  rfl
theorem low_rdr {M fr} (h : Low M fr) {f ix : Int} (f0 : 0 ≤ f) (f1 : f < 16) (i0 : 0 ≤ ix) (i1 : ix < 16) :
    rdr M true 1 f ix = (readS M (fr f.toNat * 256 + ix * 8) 8, 0) := by
  have hp : placeS f ix = f * 256 + ix * 8 := by
    unfold placeS
    rw [wrap_i64 (n := f * 256) (by omega) (by omega), wrap_i64 (n := ix * 8) (by omega) (by omega), wrap_i64 (by omega) (by omega), wrap_u64 (by omega) (by omega)]
  have hs := low_second h (at_ := f * 256 + ix * 8) (kind := 1) (by omega) (by omega) (by omega) (by omega)
  have e1 : (f * 256 + ix * 8) / 256 = f := by omega
  have e2 : (f * 256 + ix * 8) % 256 = ix * 8 := by omega
  rw [e1, e2] at hs
  obtain ⟨q2, q3⟩ := h.bd f.toNat (by omega)
  have hd : IntKind.i64.wrap (IntKind.u64.wrap ((fr f.toNat * 256 + ix * 8).tdiv 256)) = fr f.toNat := by
    rw [Int.tdiv_eq_ediv_of_nonneg (by omega), wrap_u64 (by omega) (by omega), wrap_i64 (by omega) (by omega)]
    omega
  have hw := wrd_eq (f := M) q2 q3 i0 i1
  unfold wrd at hw
  unfold rdr
  rw [hp, hs]
  simp only
  rw [hd]
  have he : entryOk (fr f.toNat) ix = true := by simp [entryOk, q2, q3, i0, i1]
  rw [he] at hw ⊢
  exact hw
theorem may_207 {kind : Int} (h0 : 0 ≤ kind) (h1 : kind < 3) : mayS 207 kind false false false = true := by
  have : kind = 0 ∨ kind = 1 ∨ kind = 2 := by omega
  rcases this with rfl | rfl | rfl <;> decide +kernel
theorem pageOf_eq {a : Int} (h0 : 0 ≤ a) (h1 : a < 18446744073709551616) : pageOf a = a / 256 := by
  unfold pageOf
  rw [gshr_u64 (by omega)]
  have : (2 : Int) ^ (8 : Int).toNat = 256 := rfl
  rw [this]
  exact wrap_i64 (by omega) (by omega)
abbrev bothA : Asking := ⟨true, true, false, false, 9, 7, 0, 1⟩
section
variable {M : Nat → Int} {fr : Nat → Int} (h : Low M fr) {p g : Int} (p0 : 0 ≤ p) (p1 : p < 16) (g0 : 0 ≤ g) (g1 : g < 16)
  (h0 : readS M (fr 0 * 256) 8 = 257) (hp : readS M (fr 1 * 256 + p * 8) 8 = g * 256 + 207) (h8 : readS M (fr 0 * 256 + 64) 8 = 0)
include h p0 p1 g0 g1 h0 hp in
theorem both_thr {b : Int} (b0 : 0 ≤ b) (b1 : b < 256) : thr (rdr M true 1) 0 (p * 256 + b) = (g * 256 + 207, 0) := by
  rw [thr_eq ⟨by omega, by omega⟩, if_neg (by omega)]
  have e1 : (p * 256 + b) / 4096 % 16 = 0 := by omega
  have e2 : (p * 256 + b) / 256 % 16 = p := by omega
  rw [e1, e2, low_rdr h (f := 0) (ix := 0) (by omega) (by omega) (by omega) (by omega)]
  have z : fr (Int.toNat 0) * 256 + 0 * 8 = fr 0 * 256 := by show fr 0 * 256 + 0 * 8 = _; omega
  rw [z, h0]
  have i1 : isS 257 = true := by decide +kernel
  have i2 : leafS 257 = false := by decide +kernel
  have i3 : frameS 257 = 1 := by decide +kernel
  simp only [ne_eq, not_true_eq_false, if_false, i1, i2, i3, if_true, Bool.true_eq_false, low_rdr h (f := 1) (ix := p) (by omega) (by omega) p0 p1]
  have z2 : fr (Int.toNat 1) * 256 + p * 8 = fr 1 * 256 + p * 8 := rfl
  rw [z2, hp]
  have hw : W64 (g * 256 + 207) := ⟨by omega, by omega⟩
  have e1 : (g * 256 + 207) % 256 = 207 := by omega
  have e2 : (g * 256 + 207) / 65536 = 0 := by omega
  have l1 : isLow 207 = true := by decide +kernel
  have l2 : leafLow 207 = true := by decide +kernel
  have j1 : isS (g * 256 + 207) = true := by rw [isS_low hw, e1, e2, l1]; rfl
  have j2 : leafS (g * 256 + 207) = true := by rw [leafS_low hw, j1, e1, l2]; rfl
  rw [j1, j2]
  simp
include h p0 p1 g0 g1 h0 hp in
theorem both_trans {b kind : Int} (b0 : 0 ≤ b) (b1 : b < 256) (hk0 : 0 ≤ kind) (hk1 : kind < 3) :
    transA M bothA (p * 256 + b) kind false true = ⟨fr g.toNat * 256 + b, ⟨true, true, p, 9, 7, fr g.toNat, 207, 223, g⟩, noFault, true⟩ := by
  have hoff : offA bothA = false := rfl
  have ha : W64 (p * 256 + b) := ⟨by omega, by omega⟩
  have hw : W64 (g * 256 + 207) := ⟨by omega, by omega⟩
  have e1 : leafBits (g * 256 + 207) = 207 := by rw [leafBits_eq hw]; omega
  have e2 : frameS (g * 256 + 207) = g := by rw [frameS_eq hw]; omega
  have e3 : (p * 256 + b) % 256 = b := by omega
  have hf : firstS M true true false false 0 1 (p * 256 + b) kind true false = ⟨g * 256 + b, 207, noFault, true⟩ := by
    unfold firstS
    rw [both_thr h p0 p1 g0 g1 h0 hp b0 b1]
    simp only [e1, e2, may_207 hk0 hk1, joinS_eq g0 (show g < 72057594037927936 by omega) ha, e3, Bool.not_true, cond_false]
    rfl
  have hs := low_second h (at_ := g * 256 + b) (kind := kind) (by omega) (by omega) hk0 hk1
  have e4 : (g * 256 + b) / 256 = g := by omega
  have e5 : (g * 256 + b) % 256 = b := by omega
  rw [e4, e5] at hs
  obtain ⟨q2, q3⟩ := h.bd g.toNat (by omega)
  have pa : pageOf (p * 256 + b) = p := by rw [pageOf_eq (by omega) (by omega)]; omega
  have pb : pageOf (g * 256 + b) = g := by rw [pageOf_eq (by omega) (by omega)]; omega
  have pc : pageOf (fr g.toNat * 256 + b) = fr g.toNat := by rw [pageOf_eq (by omega) (by omega)]; omega
  unfold transA
  rw [hoff]
  have hl : leB 65536 (p * 256 + b) = false := leB_false.mpr (by omega)
  have z : ((0 : Int) != 0) = false := rfl
  simp only [cond_false, hl, hf, hs, Bool.not_true, z, pa, pb, pc]
include h p0 p1 h8 in
theorem both_fault {b kind : Int} (b0 : 0 ≤ b) (b1 : b < 256) :
    transA M bothA (p * 256 + b + 32768) kind false true = ⟨0, noEntry, pageS (p * 256 + b + 32768) kind true, false⟩ := by
  have hoff : offA bothA = false := rfl
  have ht : thr (rdr M true 1) 0 (p * 256 + b + 32768) = (0, 1) := by
    rw [thr_eq ⟨by omega, by omega⟩, if_neg (by omega)]
    have e1 : (p * 256 + b + 32768) / 4096 % 16 = 8 := by omega
    rw [e1, low_rdr h (f := 0) (ix := 8) (by omega) (by omega) (by omega) (by omega)]
    have z : fr (Int.toNat 0) * 256 + 8 * 8 = fr 0 * 256 + 64 := rfl
    rw [z, h8]
    have i4 : isS 0 = false := by decide +kernel
    rw [i4]
    simp
  have hf : firstS M true true false false 0 1 (p * 256 + b + 32768) kind true false = ⟨0, 255, pageS (p * 256 + b + 32768) kind true, false⟩ := by
    unfold firstS
    rw [ht]
    rfl
  unfold transA
  rw [hoff]
  have hl : leB 65536 (p * 256 + b + 32768) = false := leB_false.mpr (by omega)
  simp only [cond_false, hl, hf, Bool.not_false, cond_true]
end

/-! ### The law's memory -/
def bothE (g h : Int) (j : Nat) : Int := rmakeS (bif ((j : Int) == g) && ltB 1 g then h else 32 + (j : Int)) 223
theorem bothE_eq {g h : Int} (h0 : 0 ≤ h) (h1 : h < 128) {j : Nat} (hj : j < 16) : bothE g h j = (bif ((j : Int) == g) && ltB 1 g then h else 32 + (j : Int)) * 256 + 223 := by
  unfold bothE
  cases ((j : Int) == g) && ltB 1 g
  · exact rmakeS_eq (by simp only [cond_false]; omega) (by simp only [cond_false]; omega) (by omega) (by omega)
  · exact rmakeS_eq (by simp only [cond_true]; omega) (by simp only [cond_true]; omega) (by omega) (by omega)
abbrev bothM (g h p : Int) : Nat → Int := writeS (writeS (ownM (bothE g h) 16) 8192 8 (rmakeS 1 1)) (8448 + 8 * p) 8 (rmakeS g 207)
section
variable {p g h : Int} (p0 : 0 ≤ p) (p1 : p < 16) (g0 : 2 ≤ g) (g1 : g < 16) (h0 : 0 ≤ h) (h1 : h < 128)
theorem bothE_w (g h : Int) (i : Nat) : W64 (bothE g h i) := rmake_w64 _ _
include p0 in
theorem both_other {b : Int} (hb : 0 ≤ b) (hb1 : b + 8 ≤ 8192) : readS (bothM g h p) b 8 = readS (ownM (bothE g h) 16) b 8 := by
  rw [read_other (rmake_w64 _ _) (by omega) hb (by omega), read_other (rmake_w64 _ _) (by omega) hb (by omega)]
include p0 h0 h1 in
theorem both_low : Low (bothM g h p) (fun j => bif ((j : Int) == g) && ltB 1 g then h else 32 + (j : Int)) := by
  refine ⟨fun k k0 k1 => ?_, fun k k0 k1 => ?_, fun i hi => ?_⟩
  · have := own_root (bothE_w g h) (n := 16) k0 k1
    rw [wrd_eq (by omega) (by omega) k0 k1] at this ⊢
    rw [both_other p0 (by omega) (by omega), this]
  · have := own_low (bothE_w g h) (n := 16) (by omega) k0 k1
    rw [wrd_eq (by omega) (by omega) k0 k1] at this ⊢
    rw [both_other p0 (by omega) (by omega), this, if_pos (by omega), bothE_eq h0 h1 (by omega)]
  · cases ((i : Int) == g) && ltB 1 g <;> simp only [cond_true, cond_false] <;> omega
include p0 in
theorem both_at0 : readS (bothM g h p) 8192 8 = 257 := by
  have hm : rmakeS 1 1 = 257 := rmakeS_eq (by omega) (by omega) (by omega) (by omega)
  rw [read_other (rmake_w64 _ _) (by omega) (by omega) (by omega), read_write (own_byte (bothE_w g h) 16) (rmake_w64 _ _) (check8 (by omega) (by omega)), hm]
include p0 p1 g0 g1 in
theorem both_atp : readS (bothM g h p) (8448 + 8 * p) 8 = g * 256 + 207 := by
  rw [read_write (writeS_byte (own_byte (bothE_w g h) 16) _ _ (rmake_w64 _ _)) (rmake_w64 _ _) (check8 (by omega) (by omega)), rmakeS_eq (by omega) (by omega) (by omega) (by omega)]
include p0 in
theorem both_at8 : readS (bothM g h p) 8256 8 = 0 := by
  rw [read_other (rmake_w64 _ _) (by omega) (by omega) (by omega), read_other (rmake_w64 _ _) (by omega) (by omega) (by omega), puts_other (bothE_w g h) (by omega) 16 (by omega), read_other (rmake_w64 _ _) (by omega) (by omega) (by omega), read_zero]
include p0 p1 g0 g1 h0 h1 in
theorem both_all {b kind : Int} (b0 : 0 ≤ b) (b1 : b < 256) (hk0 : 0 ≤ kind) (hk1 : kind < 3) :
    transA (bothM g h p) bothA (p * 256 + b) kind false true = ⟨h * 256 + b, ⟨true, true, p, 9, 7, h, 207, 223, g⟩, noFault, true⟩ ∧
    transA (bothM g h p) bothA (p * 256 + b + 32768) kind false true = ⟨0, noEntry, pageS (p * 256 + b + 32768) kind true, false⟩ := by
  have hl := both_low (g := g) (h := h) p0 h0 h1
  generalize hfr : (fun j : Nat => bif ((j : Int) == g) && ltB 1 g then h else 32 + (j : Int)) = fr at hl
  have f0 : fr 0 = 32 := by
    have : (((0 : Nat) : Int) == g) = false := by
      rw [beq_eq_false_iff_ne]; omega
    rw [← hfr]
    simp only [this]
    rfl
  have f1 : fr 1 = 33 := by
    have : (((1 : Nat) : Int) == g) = false := by
      rw [beq_eq_false_iff_ne]; omega
    rw [← hfr]
    simp only [this]
    rfl
  have fg : fr g.toNat = h := by
    have e : ((g.toNat : Nat) : Int) = g := by omega
    have : (((g.toNat : Nat) : Int) == g) = true := by rw [beq_iff_eq]; exact e
    have h2 : ltB 1 g = true := ltB_true.mpr (by omega)
    rw [← hfr]
    simp only [this, h2]
    rfl
  have r0 := both_at0 (g := g) (h := h) p0
  have rp := both_atp (h := h) p0 p1 g0 g1
  have r8 := both_at8 (g := g) (h := h) p0
  have k1 := both_trans hl p0 p1 (show 0 ≤ g by omega) g1 (by rw [f0]; exact r0) (by rw [f1]; rw [show (33 : Int) * 256 + p * 8 = 8448 + 8 * p by omega]; exact rp) b0 b1 hk0 hk1
  rw [fg] at k1
  exact ⟨k1, both_fault hl p0 p1 (by rw [f0]; exact r8) b0 b1⟩
end
end Go.Sh
