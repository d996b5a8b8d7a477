/-
  The law TwoKept, told without the program.
-/
import Derived.Test.YtigomjcmpafeeaaSpT12c
import Derived.Test.YtigomjcmpafeeaaSpBothLaw
set_option linter.unusedSimpArgs false
set_option linter.unusedVariables false
namespace Go.Sh
open Go

/-- The low byte of a leaf is not 255: its bit 5 is clear. -/
theorem is_low5 {e : Int} (he : W64 e) (h : isS e = true) : e % 256 ≠ 255 := by
  intro h2
  rw [isS_low he, h2] at h
  have : isLow 255 = false := by kernel_rfl
  rw [this] at h
  cases h
theorem thr_leaf {rd : Int → Int → Int × Int} (hr : ∀ a b, W64 (rd a b).1) {root at_ : Int} (ha : W64 at_) (h : (thr rd root at_).2 = 0) : leafBits (thr rd root at_).1 ≠ 255 := by
  revert h
  unfold thr
  cases leB 65536 at_ <;> simp only [cond_true, cond_false]
  case true => intro h; simp at h
  have h1 := hr root (IntKind.i64.wrap (bitsS at_ 12 4))
  cases hc : ((rd root (IntKind.i64.wrap (bitsS at_ 12 4))).2 != 0) <;> simp only [cond_true, cond_false]
  case true => intro h; rw [h] at hc; simp at hc
  generalize (rd root (IntKind.i64.wrap (bitsS at_ 12 4))).1 = e at h1 ⊢
  cases h2 : isS e <;> simp only [Bool.not_true, Bool.not_false, cond_true, cond_false]
  case false => intro h; simp at h
  cases h3 : leafS e <;> simp only [Bool.not_true, Bool.not_false, cond_true, cond_false]
  case false =>
    have h4 := hr (frameS e) (IntKind.i64.wrap (bitsS at_ 8 4))
    cases hd : ((rd (frameS e) (IntKind.i64.wrap (bitsS at_ 8 4))).2 != 0) <;> simp only [cond_true, cond_false]
    case true => intro h; rw [h] at hd; simp at hd
    generalize (rd (frameS e) (IntKind.i64.wrap (bitsS at_ 8 4))).1 = e2 at h4 ⊢
    cases h5 : isS e2 <;> simp only [Bool.not_true, Bool.not_false, cond_true, cond_false]
    case false => intro h; simp at h
    cases h6 : leafS e2 <;> simp only [Bool.not_true, Bool.not_false, cond_true, cond_false]
    case false => intro h; simp at h
    intro _
    rw [leafBits_eq h4]
    exact is_low5 h4 h5
  obtain ⟨b1, b2⟩ := bits4 ha
  have b3 : bitsS e 8 4 = e / 256 % 16 := (bits4 h1).2
  cases h7 : (bitsS e 8 4 != 0) <;> simp only [cond_true, cond_false]
  case true => intro h; simp at h
  intro _
  have hz : e / 256 % 16 = 0 := by rw [b3] at h7; simpa using h7
  have hlt := isS_lt h1 h2
  obtain ⟨s1, s2, _⟩ := set_low (low := at_ / 256 % 16) h1.1 hlt hz (by omega) (by omega)
  rw [b2, s1, s2, leafBits_eq ⟨by omega, by omega⟩]
  have := is_low5 h1 h2
  omega
theorem thr_pos {rd : Int → Int → Int × Int} (hr : ∀ a b, 0 ≤ (rd a b).2) (root at_ : Int) : 0 ≤ (thr rd root at_).2 := by
  unfold thr
  cases leB 65536 at_ <;> simp only [cond_true, cond_false]
  case true => omega
  have h1 := hr root (IntKind.i64.wrap (bitsS at_ 12 4))
  cases ((rd root (IntKind.i64.wrap (bitsS at_ 12 4))).2 != 0) <;> simp only [cond_true, cond_false]
  case true => exact h1
  generalize (rd root (IntKind.i64.wrap (bitsS at_ 12 4))).1 = e
  cases isS e <;> simp only [Bool.not_true, Bool.not_false, cond_true, cond_false]
  case false => omega
  cases leafS e <;> simp only [Bool.not_true, Bool.not_false, cond_true, cond_false]
  case false =>
    have h4 := hr (frameS e) (IntKind.i64.wrap (bitsS at_ 8 4))
    cases ((rd (frameS e) (IntKind.i64.wrap (bitsS at_ 8 4))).2 != 0) <;> simp only [cond_true, cond_false]
    case true => exact h4
    generalize (rd (frameS e) (IntKind.i64.wrap (bitsS at_ 8 4))).1 = e2
    cases isS e2 <;> cases leafS e2 <;> simp only [Bool.not_true, Bool.not_false, cond_true, cond_false] <;> omega
  cases (bitsS e 8 4 != 0) <;> simp only [cond_true, cond_false] <;> omega
theorem rdr_pos (f : Nat → Int) (s : Bool) (h a b : Int) : 0 ≤ (rdr f s h a b).2 := by
  unfold rdr
  have hc := secondS_code f s h (placeS a b) 1
  generalize secondS f s h (placeS a b) 1 = S at *
  obtain ⟨s1, s2, s3⟩ := S
  simp only at hc ⊢
  cases entryOk (IntKind.i64.wrap (IntKind.u64.wrap (s1.tdiv 256))) b <;> rcases hc with rfl | rfl | rfl <;> first | exact (by decide : (0 : Int) ≤ 0) | exact (by decide : (0 : Int) ≤ 3) | exact (by decide : (0 : Int) ≤ 4)
theorem thr_same {rd : Int → Int → Int × Int} {root a b : Int} (ha : W64 a) (hb : W64 b) (hp : b / 256 = a / 256) : thr rd root b = thr rd root a ∧ lastR rd root b = lastR rd root a := by
  obtain ⟨a1, a2⟩ := bits4 ha
  obtain ⟨b1, b2⟩ := bits4 hb
  have e1 : bitsS b 12 4 = bitsS a 12 4 := by rw [a1, b1]; omega
  have e2 : bitsS b 8 4 = bitsS a 8 4 := by rw [a2, b2]; omega
  have e3 : leB 65536 b = leB 65536 a := by
    unfold leB
    exact decide_eq_decide.2 (by omega)
  unfold thr lastR
  rw [e1, e2, e3]
  exact ⟨rfl, rfl⟩
theorem wrd_w64 (f : Nat → Int) (a b : Int) : W64 (wrd f a b).1 := by
  unfold wrd
  cases entryOk a b
  · exact zero_w64
  · exact entryV_w64 a b
theorem rdr_w64 (f : Nat → Int) (s : Bool) (h a b : Int) : W64 (rdr f s h a b).1 := by
  unfold rdr
  cases ((secondS f s h (placeS a b) 1).2.2 != 0) <;> simp only [cond_true, cond_false]
  · cases entryOk (IntKind.i64.wrap (IntKind.u64.wrap ((secondS f s h (placeS a b) 1).1.tdiv 256))) b
    · exact zero_w64
    · exact entryV_w64 _ _
  · exact zero_w64
theorem second_kept {f : Nat → Int} {sec : Bool} {host p q k1 : Int} (hp : W64 p) (hq : W64 q) (he : q / 256 = p / 256) (h : (secondS f sec host p k1).2.2 = 0) :
    (0 ≤ (secondS f sec host p k1).2.1 ∧ (secondS f sec host p k1).2.1 < 256) ∧ ∃ x, W64 x ∧ W64 (secondS f sec host p k1).1 ∧ x / 256 = (secondS f sec host p k1).1 / 256 ∧
      ∀ k2, secondS f sec host q k2 = bif ((secondS f sec host p k1).2.1 != 255) && !mayS (secondS f sec host p k1).2.1 k2 true false false then (0, 255, 1) else (x, (secondS f sec host p k1).2.1, 0) := by
  revert h
  unfold secondS
  cases sec <;> simp only [Bool.not_true, Bool.not_false, cond_true, cond_false]
  · have e3 : leB 65536 q = leB 65536 p := by
      unfold leB
      exact decide_eq_decide.2 (by omega)
    rw [e3]
    cases leB 65536 p <;> simp only [cond_true, cond_false]
    · intro _
      exact ⟨by omega, q, hq, hp, he, fun k2 => rfl⟩
    · intro h; simp at h
  · have hw : walkS f host q = walkS f host p := (thr_same hp hq he).1
    rw [hw]
    cases hc : ((walkS f host p).2 != 0) <;> simp only [cond_true, cond_false]
    case true => intro h; rw [h] at hc; simp at hc
    have hz : (walkS f host p).2 = 0 := by simpa using hc
    have hl : leafBits (walkS f host p).1 ≠ 255 := thr_leaf (wrd_w64 f) hp hz
    have hl' : (leafBits (walkS f host p).1 != 255) = true := by simpa using hl
    cases hm : mayS (leafBits (walkS f host p).1) k1 true false false <;> simp only [Bool.not_true, Bool.not_false, cond_true, cond_false]
    · intro h; simp at h
    · intro _
      obtain ⟨q0, q1⟩ := frameS_bd (walkS f host p).1
      refine ⟨leafBits_bd _, joinS (frameS (walkS f host p).1) q, place_w64, place_w64, ?_, fun k2 => ?_⟩
      · rw [joinS_eq q0 (by omega) hq, joinS_eq q0 (by omega) hp]; omega
      · simp only [hl', Bool.true_and]
theorem pageOf_same {a b : Int} (ha : W64 a) (hb : W64 b) (hp : b / 256 = a / 256) : pageOf b = pageOf a := by
  rw [pageOf_eq ha.1 ha.2, pageOf_eq hb.1 hb.2, hp]
theorem join_page {a b : Int} (ha : W64 a) (hb : W64 b) (hl : a < 65536) (hp : b / 256 = a / 256) : joinS (pageOf a) b = b := by
  rw [pageOf_eq ha.1 ha.2, joinS_eq (by omega) (by omega) hb]; omega
/-- What an entry that was made lets be is what a new translation says. -/
theorem kept_trans {f : Nat → Int} {A : Asking} {a b k1 : Int} (ha : W64 a) (hb : W64 b) (hp : b / 256 = a / 256) (u1 v : Bool) (h : (transA f A a k1 u1 v).ok = true) (k2 : Int) (u2 : Bool) :
    ((0 ≤ (transA f A a k1 u1 v).e.bits ∧ (transA f A a k1 u1 v).e.bits < 256) ∧ (0 ≤ (transA f A a k1 u1 v).e.host ∧ (transA f A a k1 u1 v).e.host < 256)) ∧
    (((transA f A a k1 u1 v).e.bits = 255 ∧ (transA f A a k1 u1 v).e.host = 255) ∨
      ((allowS A (transA f A a k1 u1 v).e b k2 u2 v).2 = (transA f A b k2 u2 v).ok ∧ ((transA f A b k2 u2 v).ok = true → (transA f A b k2 u2 v).e = (transA f A a k1 u1 v).e) ∧
        ((transA f A b k2 u2 v).ok = false → (allowS A (transA f A a k1 u1 v).e b k2 u2 v).1 = (transA f A b k2 u2 v).f))) := by
  obtain ⟨first, second, sum, mxr, asid, vmid, root, host⟩ := A
  revert h
  unfold transA
  cases hoff : offA ⟨first, second, sum, mxr, asid, vmid, root, host⟩ <;> simp only [cond_true, cond_false]
  case true =>
    intro _
    cases ltB a 65536 <;> simp only [cond_true, cond_false] <;> exact ⟨⟨by omega, by omega⟩, .inl ⟨trivial, trivial⟩⟩
  cases hl : leB 65536 a <;> simp only [cond_true, cond_false]
  case true => intro h; cases h
  have hl2 : leB 65536 b = false := by simp [leB] at *; omega
  have hlt : a < 65536 := by simp [leB] at hl; omega
  simp only [hl2, cond_false]
  cases first
  case false =>
    simp only [firstS, Bool.not_false, Bool.not_true, cond_true, cond_false]
    cases hc : ((secondS f second host a k1).2.2 != 0) <;> simp only [cond_true, cond_false]
    case true => intro h; cases h
    intro _
    obtain ⟨hbd, x, hx, hw, hpg, hs⟩ := second_kept (k1 := k1) (sec := second) (host := host) (f := f) ha hb hp (by simpa using hc)
    rw [hs k2]
    have hjp := join_page ha hb hlt hp
    generalize secondS f second host a k1 = S at *
    obtain ⟨s1, s2, s3⟩ := S
    simp only at *
    refine ⟨⟨by omega, hbd⟩, .inr ?_⟩
    have h255 : ((255 : Int) != 255) = false := rfl
    have n10 : ((1 : Int) != 0) = true := rfl
    have n00 : ((0 : Int) != 0) = false := rfl
    have e11 : ((1 : Int) == 1) = true := rfl
    simp only [allowS, h255, Bool.false_and, cond_false, hjp]
    cases (s2 != 255 && !mayS s2 k2 true false false) <;> simp only [cond_true, cond_false, n10, n00, ofS, e11]
    · refine ⟨trivial, fun _ => ?_, fun h => by cases h⟩
      rw [pageOf_same ha hb hp, pageOf_same hw hx hpg]
    · exact ⟨trivial, fun h => (by cases h), fun _ => trivial⟩
  case true =>
    obtain ⟨t1, t2⟩ := thr_same (rd := rdr f second host) (root := root) ha hb hp
    simp only [firstS, t1, t2, Bool.not_true, cond_false]
    have hpos := thr_pos (rdr_pos f second host) root a
    have hleaf := thr_leaf (rd := rdr f second host) (root := root) (rdr_w64 f second host) ha
    obtain ⟨q0, q1⟩ := frameS_bd (thr (rdr f second host) root a).1
    have hbl := leafBits_bd (thr (rdr f second host) root a).1
    generalize thr (rdr f second host) root a = T at *
    obtain ⟨te, tc⟩ := T
    simp only at *
    cases h1 : ltB 1 tc <;> simp only [cond_true, cond_false, Bool.not_false, Bool.not_true]
    case true => intro h; cases h
    cases h2 : (tc == 1) <;> simp only [cond_true, cond_false, Bool.not_false, Bool.not_true]
    case true => intro h; cases h
    have ht0 : tc = 0 := by simp [ltB] at h1 h2; omega
    subst ht0
    have hne := hleaf rfl
    have hne' : (leafBits te != 255) = true := by simpa using hne
    cases h3 : mayS (leafBits te) k1 u1 sum mxr <;> simp only [cond_true, cond_false, Bool.not_false, Bool.not_true]
    case false => intro h; cases h
    have hja := joinS_eq q0 (fr := frameS te) (by omega) ha
    have hjb := joinS_eq q0 (fr := frameS te) (by omega) hb
    have hpj : joinS (frameS te) b / 256 = joinS (frameS te) a / 256 := by rw [hja, hjb]; omega
    have hlj : joinS (frameS te) a < 65536 := by rw [hja]; omega
    have hjp : joinS (pageOf (joinS (frameS te) a)) b = joinS (frameS te) b := by
      rw [pageOf_eq (by rw [hja]; omega) (by rw [hja]; omega), hja, hjb, joinS_eq (by omega) (by omega) hb]; omega
    cases hc : ((secondS f second host (joinS (frameS te) a) k1).2.2 != 0) <;> simp only [cond_true, cond_false]
    case true => intro h; cases h
    intro _
    obtain ⟨hbd, x, hx, hw, hpg, hs⟩ := second_kept (k1 := k1) (sec := second) (host := host) (f := f) place_w64 (place_w64 (fr := frameS te) (a := b)) hpj (by simpa using hc)
    generalize secondS f second host (joinS (frameS te) a) k1 = S at *
    obtain ⟨s1, s2, s3⟩ := S
    simp only at *
    refine ⟨⟨hbl, hbd⟩, .inr ?_⟩
    have n10 : ((1 : Int) != 0) = true := rfl
    have n00 : ((0 : Int) != 0) = false := rfl
    have e11 : ((1 : Int) == 1) = true := rfl
    simp only [allowS, hne', Bool.true_and, hjp]
    cases mayS (leafBits te) k2 u2 sum mxr <;> simp only [Bool.not_true, Bool.not_false, cond_true, cond_false]
    · exact ⟨trivial, fun h => (by cases h), fun _ => trivial⟩
    rw [hs k2]
    cases (s2 != 255 && !mayS s2 k2 true false false) <;> simp only [cond_true, cond_false, n10, n00, ofS, e11]
    · refine ⟨trivial, fun _ => ?_, fun h => by cases h⟩
      rw [pageOf_same ha hb hp, pageOf_same hw hx hpg, pageOf_same place_w64 place_w64 hpj]
    · exact ⟨trivial, fun h => (by cases h), fun _ => trivial⟩
theorem high_nat {n : Nat} (h : n < 2 ^ 64) : n &&& 18446744073709551360 = n / 256 * 256 := by
  have e1 : 18446744073709551360 = (2 ^ 56 - 1) <<< 8 := by decide
  have e2 : n / 256 * 256 = (n >>> 8) <<< 8 := by rw [Nat.shiftLeft_eq, Nat.shiftRight_eq_div_pow]
  rw [e1, e2]
  apply Nat.eq_of_testBit_eq
  intro i
  rw [Nat.testBit_and, Nat.testBit_shiftLeft, Nat.testBit_shiftLeft, Nat.testBit_two_pow_sub_one, Nat.testBit_shiftRight]
  by_cases hi : 8 ≤ i
  · have e3 : 8 + (i - 8) = i := by omega
    rw [e3]
    by_cases h2 : i - 8 < 56
    · simp [hi, h2]
    · have : n.testBit i = false := Nat.testBit_lt_two_pow (Nat.lt_of_lt_of_le h (Nat.pow_le_pow_right (by omega) (by omega)))
      simp [this]
  · simp [hi]
theorem page_join {a o : Int} (ha : W64 a) (ho : W64 o) : bitop .or .u64 (bitop .andNot .u64 a 255) (bitop .and .u64 o 255) = a / 256 * 256 + o % 256 := by
  have e1 : bitop .andNot .u64 a 255 = a / 256 * 256 := by
    rw [bitop_andNot ha.1 ha.2 (by omega) (by omega)]
    have e : 18446744073709551615 - (255 : Int).toNat = 18446744073709551360 := rfl
    rw [e, high_nat (by have := ha.1; have := ha.2; omega)]
    have := ha.1
    omega
  have e2 : bitop .and .u64 o 255 = o % 256 := zextS_8 ho
  have := ha.1
  have := ha.2
  rw [e1, e2, bitop_or (by omega) (by omega) (by omega) (by omega)]
  obtain ⟨n, hn⟩ := Int.eq_ofNat_of_zero_le (show 0 ≤ a / 256 by omega)
  obtain ⟨m, hm⟩ := Int.eq_ofNat_of_zero_le (show 0 ≤ o % 256 by omega)
  rw [hm, hn]
  have hlt : m < 2 ^ 8 := by omega
  have e2 := Nat.two_pow_add_eq_or_of_lt hlt n
  have e3 : ((n : Int) * 256).toNat = 2 ^ 8 * n := by omega
  rw [e3, Int.toNat_natCast, ← e2]
  omega
/-! ### The document's way to ask of an entry -/
noncomputable def sRAllow {α : Type} : Sg_law12_allowed α := fun s e at_ kind level v k => grd (CsrOk s.C ∧ ((0 ≤ e.Bits ∧ e.Bits < 256) ∧ (0 ≤ e.Host ∧ e.Host < 256)) ∧ K3 kind) (k (gF (allowS (askS s.C level v) (oE e) at_ kind (level == 0) v).1) (allowS (askS s.C level v) (oE e) at_ kind (level == 0) v).2)
theorem allowed_eq {α : Type} {s : GState} (hs : CsrOk s.C) {e : GEntry} (hb : 0 ≤ e.Bits ∧ e.Bits < 256) (hh : 0 ≤ e.Host ∧ e.Host < 256) (at_ : Int) {kind : Int} (hk : K3 kind) (level : Int) (v : Bool) (k : GFault → Bool → R α) :
    p_law12_allowed sRAsk sRMay sRPage sRGF s e at_ kind level v k = k (gF (allowS (askS s.C level v) (oE e) at_ kind (level == 0) v).1) (allowS (askS s.C level v) (oE e) at_ kind (level == 0) v).2 := by
  unfold p_law12_allowed sRAsk sRMay sRPage sRGF
  simp only [grd_pos hs, grd_pos hk, grd_pos (show (0 ≤ e.Bits ∧ e.Bits < 256) ∧ (kind = 0 ∨ kind = 1 ∨ kind = 2) from ⟨hb, hk⟩), grd_pos (show (0 ≤ e.Host ∧ e.Host < 256) ∧ (kind = 0 ∨ kind = 1 ∨ kind = 2) from ⟨hh, hk⟩)]
  have hj : bitop .or .u64 (gshl .u64 (IntKind.u64.wrap e.Guest) 8) (bitop .and .u64 at_ 255) = joinS e.Guest at_ := rfl
  rw [hj]
  unfold allowS oE
  simp only [toG]
  cases (e.Bits != 255) <;> cases mayS e.Bits kind (level == 0) (askS s.C level v).sum (askS s.C level v).mxr <;> cases (e.Host != 255) <;> cases mayS e.Host kind true false false <;> rfl
theorem trans_no {f : Nat → Int} {A : Asking} {a k1 : Int} {u1 v : Bool} (h : (transA f A a k1 u1 v).ok = false) : (transA f A a k1 u1 v).e = noEntry := by
  revert h
  unfold transA
  cases offA A <;> simp only [cond_true, cond_false]
  · cases leB 65536 a <;> simp only [cond_true, cond_false]
    · cases (firstS f A.first A.second A.sum A.mxr A.root A.host a k1 v u1).ok <;> simp only [Bool.not_true, Bool.not_false, cond_true, cond_false]
      · intro _; trivial
      · cases ((secondS f A.second A.host (firstS f A.first A.second A.sum A.mxr A.root A.host a k1 v u1).place k1).2.2 != 0) <;> simp only [cond_true, cond_false]
        · intro h; cases h
        · intro _; trivial
    · intro _; trivial
  · cases ltB a 65536 <;> simp only [cond_true, cond_false] <;> (intro h; cases h)
theorem ask_two (c : Nat → Int) (v : Bool) : askS c 0 v = askS c 1 v := rfl
theorem gE_eq (e : GEntry) (h : e = gE (oE e)) : True := trivial
theorem oE_gE (e : Entry) : oE (gE e) = e := rfl
set_option maxHeartbeats 8000000 in
theorem kept_eq {l : Bool × Addr × Nat × Nat × (Nat → Int × Int × Unit)} (hw : rowOk l) {s : GState} {at_ o kind kind2 : Int} (ha : W64 at_) (ho : W64 o) (hk : 0 ≤ kind) (hk2 : 0 ≤ kind2) (user v : Bool) {α : Type} (k : Bool → R α) :
    p_law12_TwoKept sKnown sFew sBoth sClean sTrans sAllowed sRAllow sRTrans l s at_ o kind kind2 user v k = k true := by
  unfold p_law12_TwoKept sKnown sFew
  cases hl : leB (l.2.2.1 : Int) 60
  · rfl
  have hl' : l.2.2.1 ≤ 60 := by simp [leB] at hl; omega
  have k3 := kind3 hk
  have k32 := kind3 hk2
  have hc := cleanW_w s
  simp only [sBoth, grd_pos (show l.2.2.1 ≤ 60 ∧ rowOk l from ⟨hl', hw⟩), sClean, Bool.not_true, cond_false]
  have hb : ByteF (putW (fun _ => 0) (pA l.2.2.2.2) (pB l.2.2.2.2) l.2.2.1) := putW_byte' zero_byte _ fun i hi => (hw i hi).2
  generalize putW (fun _ => 0) (pA l.2.2.2.2) (pB l.2.2.2.2) l.2.2.1 = M at hb ⊢
  generalize cleanW s = c at hc ⊢
  generalize IntKind.i64.wrap (Int.tmod kind 3) = kk at k3 ⊢
  generalize IntKind.i64.wrap (Int.tmod kind2 3) = kl at k32 ⊢
  have hj := page_join ha ho
  have hb2 : W64 (bitop .or .u64 (bitop .andNot .u64 at_ 255) (bitop .and .u64 o 255)) := bitop_u64 _ _ _
  have hp : bitop .or .u64 (bitop .andNot .u64 at_ 255) (bitop .and .u64 o 255) / 256 = at_ / 256 := by rw [hj]; omega
  generalize bitop .or .u64 (bitop .andNot .u64 at_ 255) (bitop .and .u64 o 255) = b at hb2 hp ⊢
  simp only [sTrans]
  cases hok : (transA M (askS c.C 1 v) at_ kk ((1 : Int) == 0) v).ok
  · rw [trans_no hok]
    rfl
  have K := fun u2 => kept_trans ha hb2 hp ((1 : Int) == 0) v hok kl u2
  generalize hT : transA M (askS c.C 1 v) at_ kk ((1 : Int) == 0) v = T at K ⊢
  obtain ⟨to, e, fl, ok⟩ := T
  simp only at K ⊢
  have hbd := (K true).1
  have hbg : (0 ≤ (gE e).Bits ∧ (gE e).Bits < 256) ∧ (0 ≤ (gE e).Host ∧ (gE e).Host < 256) := hbd
  simp only [sAllowed, sRAllow, sRTrans, ask_two, oE_gE, Bool.false_eq_true, if_false, transG_same, grd_pos (show ByteF M ∧ CsrOk c.C ∧ W64 b ∧ K3 kl from ⟨hb, hc, hb2, k32⟩), grd_pos (show CsrOk c.C ∧ ((0 ≤ (gE e).Bits ∧ (gE e).Bits < 256) ∧ (0 ≤ (gE e).Host ∧ (gE e).Host < 256)) ∧ K3 kl from ⟨hc, hbg, k32⟩)]
  have n1 : Bool.not true = false := rfl
  have fin : ∀ u2, (e.bits = 255 ∧ e.host = 255 → (allowS (askS c.C 1 v) e b kl u2 v).2 = true) := by
    rintro u2 ⟨x, y⟩
    have h255 : ((255 : Int) != 255) = false := rfl
    unfold allowS
    simp only [x, y, h255, Bool.false_and, cond_false]
  generalize askS c.C 1 v = A at K fin ⊢
  have gb : (gE e).Bits = e.bits := rfl
  have gh : (gE e).Host = e.host := rfl
  have gs : ∀ u2, _ := fun u2 => (K u2).2
  clear K hT hok
  cases user <;> simp only [beq_self_eq_true, Bool.and_self, Bool.not_true, cond_true, cond_false, Bool.cond_self, gb, gh]
  · have K2 := gs ((1 : Int) == 0)
    have F := fin ((1 : Int) == 0)
    generalize transA M A b kl ((1 : Int) == 0) v = T2 at K2 ⊢
    generalize allowS A e b kl ((1 : Int) == 0) v = L2 at K2 F ⊢
    clear gs fin
    obtain ⟨lf, lo⟩ := L2
    obtain ⟨t2, e2, f2, ok2⟩ := T2
    simp only at K2 F ⊢
    rcases K2 with ⟨x, y⟩ | ⟨q1, q2, q3⟩
    · simp only [x, y, F ⟨x, y⟩, beq_self_eq_true, cond_true]
    · subst q1
      cases h1 : (e.bits == 255) <;> cases h2 : (e.host == 255) <;> cases lo
      any_goals try (exfalso; have h3 := F ⟨by simpa using h1, by simpa using h2⟩; cases h3; done)
      all_goals first
        | (have h3 := q2 rfl; subst h3; simp only [beq_self_eq_true, Bool.and_self, Bool.not_true, cond_true, cond_false, gb, gh]; done)
        | (have h3 := q3 rfl; subst h3; simp only [beq_self_eq_true, Bool.and_self, Bool.not_false, cond_true, cond_false]; done)
  · have K2 := gs true
    have F := fin true
    generalize transA M A b kl true v = T2 at K2 ⊢
    generalize allowS A e b kl true v = L2 at K2 F ⊢
    clear gs fin
    obtain ⟨lf, lo⟩ := L2
    obtain ⟨t2, e2, f2, ok2⟩ := T2
    simp only at K2 F ⊢
    rcases K2 with ⟨x, y⟩ | ⟨q1, q2, q3⟩
    · simp only [x, y, F ⟨x, y⟩, beq_self_eq_true, cond_true]
    · subst q1
      cases h1 : (e.bits == 255) <;> cases h2 : (e.host == 255) <;> cases lo
      any_goals try (exfalso; have h3 := F ⟨by simpa using h1, by simpa using h2⟩; cases h3; done)
      all_goals first
        | (have h3 := q2 rfl; subst h3; simp only [beq_self_eq_true, Bool.and_self, Bool.not_true, cond_true, cond_false, gb, gh]; done)
        | (have h3 := q3 rfl; subst h3; simp only [beq_self_eq_true, Bool.and_self, Bool.not_false, cond_true, cond_false]; done)
noncomputable def sKept {α : Type} : Sg_law12_TwoKept α := fun l _ at_ o kind kind2 _ _ k => grd (rowOk l ∧ (W64 at_ ∧ W64 o) ∧ 0 ≤ kind ∧ 0 ≤ kind2) (k true)
end Go.Sh
