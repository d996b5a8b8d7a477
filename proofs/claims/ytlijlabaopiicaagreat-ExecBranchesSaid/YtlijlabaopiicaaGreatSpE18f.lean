/-
  The law ExecBranches, plainly.
-/
import Derived.Test.YtlijlabaopiicaaGreatSpE18e
namespace Go.Sh
open Go
set_option linter.unusedSimpArgs false
set_option linter.unusedVariables false
theorem brS {hi a b c d : Int} (hh : 0 ≤ hi ∧ hi < 8192) (ha : 0 ≤ a ∧ a < 2) (hb : 0 ≤ b ∧ b < 2) (hc : 0 ≤ c ∧ c < 64) (hd : 0 ≤ d ∧ d < 16) :
    bitop .or .u32 (bitop .or .u32 (bitop .or .u32 (bitop .or .u32 (99 + 4096 * hi) (gshl .u32 a 31)) (gshl .u32 b 7)) (gshl .u32 c 25)) (gshl .u32 d 8) = 99 + 128 * b + 256 * d + 4096 * hi + 33554432 * c + 2147483648 * a := by
  have b1 : gshl .u32 a 31 = a * 2147483648 := shl32 31 (by omega) (by omega) (by omega)
  have b2 : gshl .u32 b 7 = b * 128 := shl32 7 (by omega) (by omega) (by omega)
  have b3 : gshl .u32 c 25 = c * 33554432 := shl32 25 (by omega) (by omega) (by omega)
  have b4 : gshl .u32 d 8 = d * 256 := shl32 8 (by omega) (by omega) (by omega)
  rw [b1, b2, b3, b4]
  have e0 : 99 + 4096 * hi = bitop .or .u32 99 (4096 * hi) := (orS 7 (by omega) (by omega) (by omega) ⟨by omega, by omega⟩ (by omega)).symm
  rw [e0]
  have e : bitop .or .u32 (bitop .or .u32 (bitop .or .u32 (bitop .or .u32 (bitop .or .u32 99 (4096 * hi)) (a * 2147483648)) (b * 128)) (c * 33554432)) (d * 256) = bitop .or .u32 99 (bitop .or .u32 (b * 128) (bitop .or .u32 (d * 256) (bitop .or .u32 (4096 * hi) (bitop .or .u32 (c * 33554432) (a * 2147483648))))) := by ac_rfl
  rw [e, orS 31 (x := c * 33554432) (by omega) (by omega) (by omega) ⟨by omega, by omega⟩ (by omega)]
  rw [orS 25 (x := 4096 * hi) (by omega) (by omega) (by omega) ⟨by omega, by omega⟩ (by omega)]
  rw [orS 12 (x := d * 256) (by omega) (by omega) (by omega) ⟨by omega, by omega⟩ (by omega)]
  rw [orS 8 (x := b * 128) (by omega) (by omega) (by omega) ⟨by omega, by omega⟩ (by omega)]
  rw [orS 7 (x := 99) (by omega) (by omega) (by omega) ⟨by omega, by omega⟩ (by omega)]
  omega
structure Br (o hi : Int) : Prop where
  hh : 0 ≤ hi ∧ hi < 8192
  f3 : 0 ≤ hi % 8 ∧ hi % 8 < 8
  r1 : hi = 520 + hi % 8
  q3 : ∀ {β : Type} (n : Int) (k : Bool → R β), s_ref3_Is ⟨o, 0, 1, 2, n, 0⟩ k = q_ref3_Is_1 s_ref3_Parts s_ref3_reg s_ref3_number ⟨o, 0, 1, 2, n, 0⟩ k
  p3 : ∀ {β : Type} (k : Bool → Bool → Bool → Bool → Bool → R β), s_ref3_Parts o k = k false true true false true
  n3 : ∀ {β : Type} (n : Int) (k : Bool → R β), s_ref3_number ⟨o, 0, 1, 2, n, 0⟩ k = s_ref3_within n (-4096) 4094 2 k
  cl : ∀ {β : Type} (k : Int → R β), s_insn_Class o k = k 2
  of_ : ∀ {β : Type} (k : GInsn_Fields → R β), s_insn_Of o k = k ⟨false, false, true, true, -4096, 4094, 2⟩
  tb : (upd (upd (upd (upd (upd (upd (upd (upd (fun _ => 0) 0 5) 1 6) 2 0) 3 0) 4 7) 5 8) 6 9) 7 10 : Nat → Int) (hi % 8).toNat = o
  o0 : (o != 0) = true
  o1 : (o == 1) = false
  o2 : (o == 2) = false
  o3 : (o == 3) = false
  o4 : (o == 4) = false
theorem br5 : Br 5 520 := ⟨by omega, by omega, by omega, fun _ _ => rfl, fun _ => rfl, fun _ _ => rfl, fun _ => rfl, fun _ => rfl, rfl, rfl, rfl, rfl, rfl, rfl⟩
theorem br6 : Br 6 521 := ⟨by omega, by omega, by omega, fun _ _ => rfl, fun _ => rfl, fun _ _ => rfl, fun _ => rfl, fun _ => rfl, rfl, rfl, rfl, rfl, rfl, rfl⟩
theorem br7 : Br 7 524 := ⟨by omega, by omega, by omega, fun _ _ => rfl, fun _ => rfl, fun _ _ => rfl, fun _ => rfl, fun _ => rfl, rfl, rfl, rfl, rfl, rfl, rfl⟩
theorem br8 : Br 8 525 := ⟨by omega, by omega, by omega, fun _ _ => rfl, fun _ => rfl, fun _ _ => rfl, fun _ => rfl, fun _ => rfl, rfl, rfl, rfl, rfl, rfl, rfl⟩
theorem br9 : Br 9 526 := ⟨by omega, by omega, by omega, fun _ _ => rfl, fun _ => rfl, fun _ _ => rfl, fun _ => rfl, fun _ => rfl, rfl, rfl, rfl, rfl, rfl, rfl⟩
theorem br10 : Br 10 527 := ⟨by omega, by omega, by omega, fun _ _ => rfl, fun _ => rfl, fun _ _ => rfl, fun _ => rfl, fun _ => rfl, rfl, rfl, rfl, rfl, rfl, rfl⟩
theorem tm2 {n : Int} (h : n % 2 = 0) : Int.tmod n 2 = 0 := Int.tmod_eq_zero_of_dvd (Int.dvd_of_emod_eq_zero h)
theorem is3_br {α : Type} {o hi n : Int} (H : Br o hi) (h3 : -4096 ≤ n ∧ n ≤ 4094) (h4 : n % 2 = 0) (k : Bool → R α) : s_ref3_Is ⟨o, 0, 1, 2, n, 0⟩ k = k true :=
  is3_ok (p1 := false) (p2 := true) (p3 := true) (p4 := false) (p5 := true) (H.q3 n) H.p3 (.inl rfl) (.inr ⟨rfl, by simp, by simp⟩) (.inr ⟨rfl, by simp, by simp⟩) (.inl rfl) (.inr ⟨rfl, fun k => (H.n3 n k).trans (within_ok h3.1 h3.2 (by omega) (tm2 h4) k)⟩) k
theorem is_br {α : Type} {o hi n : Int} (H : Br o hi) (h3 : -4096 ≤ n ∧ n ≤ 4094) (h4 : n % 2 = 0) (k : Bool → R α) : s_insn_Is ⟨o, 0, 1, 2, n, 0⟩ k = k true :=
  is_ok (c := 2) (f := ⟨false, false, true, true, -4096, 4094, 2⟩) H.cl rfl H.of_ (.inr ⟨by simp, h3.1, h3.2, tm2 h4⟩) (.inl rfl) (.inr ⟨rfl, by simp, by simp⟩) (.inr ⟨rfl, by simp, by simp⟩) (.inl rfl) k
def brW (hi n : Int) : Int := 99 + 128 * (n / 2048 % 2) + 256 * (n / 2 % 16) + 4096 * hi + 33554432 * (n / 32 % 64) + 2147483648 * (n / 4096 % 2)
abbrev EncBr (o hi : Int) : Prop := ∀ {α : Type} (n : Int) (k : Int → Bool → R α), (∀ k' : Bool → R α, s_ref3_Is ⟨o, 0, 1, 2, n, 0⟩ k' = k' true) →
  s_ref3_Encode ⟨o, 0, 1, 2, n, 0⟩ k = k (bitop .or .u32 (bitop .or .u32 (bitop .or .u32 (bitop .or .u32 (99 + 4096 * hi) (gshl .u32 (bitop .and .u32 (gshr .u32 (IntKind.u32.wrap n) 12) 1) 31)) (gshl .u32 (bitop .and .u32 (gshr .u32 (IntKind.u32.wrap n) 11) 1) 7)) (gshl .u32 (bitop .and .u32 (gshr .u32 (IntKind.u32.wrap n) 5) 63) 25)) (gshl .u32 (bitop .and .u32 (gshr .u32 (IntKind.u32.wrap n) 1) 15) 8)) true
theorem enc5 : EncBr 5 520 := fun n k h => by unfold s_ref3_Encode p_z14; rw [h]; kernel_rfl
theorem enc6 : EncBr 6 521 := fun n k h => by unfold s_ref3_Encode p_z14; rw [h]; kernel_rfl
theorem enc7 : EncBr 7 524 := fun n k h => by unfold s_ref3_Encode p_z14; rw [h]; kernel_rfl
theorem enc8 : EncBr 8 525 := fun n k h => by unfold s_ref3_Encode p_z14; rw [h]; kernel_rfl
theorem enc9 : EncBr 9 526 := fun n k h => by unfold s_ref3_Encode p_z14; rw [h]; kernel_rfl
theorem enc10 : EncBr 10 527 := fun n k h => by unfold s_ref3_Encode p_z14; rw [h]; kernel_rfl
theorem enc_br {α : Type} {o hi n : Int} (H : Br o hi) (E : EncBr o hi) (h3 : -4096 ≤ n ∧ n ≤ 4094) (h4 : n % 2 = 0) (k : Int → Bool → R α) : s_ref3_Encode ⟨o, 0, 1, 2, n, 0⟩ k = k (brW hi n) true := by
  rw [E n k (is3_br H h3 h4)]
  have hu := w32_of n
  have f1 : bitop .and .u32 (gshr .u32 (IntKind.u32.wrap n) 12) 1 = n / 4096 % 2 := (fld32 hu 12 1 (by omega) (by omega) rfl).trans (by rw [wrap_u32_mod]; omega)
  have f2 : bitop .and .u32 (gshr .u32 (IntKind.u32.wrap n) 11) 1 = n / 2048 % 2 := (fld32 hu 11 1 (by omega) (by omega) rfl).trans (by rw [wrap_u32_mod]; omega)
  have f3 : bitop .and .u32 (gshr .u32 (IntKind.u32.wrap n) 5) 63 = n / 32 % 64 := (fld32 hu 5 6 (by omega) (by omega) rfl).trans (by rw [wrap_u32_mod]; omega)
  have f4 : bitop .and .u32 (gshr .u32 (IntKind.u32.wrap n) 1) 15 = n / 2 % 16 := (fld32 hu 1 4 (by omega) (by omega) rfl).trans (by rw [wrap_u32_mod]; omega)
  rw [f1, f2, f3, f4, brS H.hh ⟨by omega, by omega⟩ ⟨by omega, by omega⟩ ⟨by omega, by omega⟩ ⟨by omega, by omega⟩]
  rfl
theorem sgn_br {n : Int} (h : -4096 ≤ n ∧ n ≤ 4094) (h2 : n % 2 = 0) : sgn 4096 (2 * (((n / 4096 % 2 * 2 + n / 2048 % 2) * 64 + n / 32 % 64) * 16 + n / 2 % 16)) = n := by unfold sgn; split <;> omega
theorem insn_br' {α : Type} {Fo : Sg_zb α} {Fb : Sg_z2 α} {Fx : Sg_z9 α} {Fi : Sg_zd α} {Fr : Sg_zm α} {Fg : Sg_zn α} {Fs : Sg_zp α} {w rd f3 rs1 rs2 f7 o a b c d n : Int}
    (h1 : ∀ k' : Int → R α, Fo w k' = k' 99) (hf : 0 ≤ f3 ∧ f3 < 8) (hb1 : ∀ k' : Int → R α, Fb (IntKind.u64.wrap w) 31 1 k' = k' a) (hb2 : ∀ k' : Int → R α, Fb (IntKind.u64.wrap w) 7 1 k' = k' b) (hb3 : ∀ k' : Int → R α, Fb (IntKind.u64.wrap w) 25 6 k' = k' c) (hb4 : ∀ k' : Int → R α, Fb (IntKind.u64.wrap w) 8 4 k' = k' d)
    (hx : ∀ k' : Int → R α, Fx (gshl .u64 (bitop .or .u64 (gshl .u64 (bitop .or .u64 (gshl .u64 (bitop .or .u64 (gshl .u64 (bitop .or .u64 0 a) 1) b) 6) c) 4) d) 1) 13 k' = k' n)
    (ht : (upd (upd (upd (upd (upd (upd (upd (upd (fun _ => 0) 0 5) 1 6) 2 0) 3 0) 4 7) 5 8) 6 9) 7 10 : Nat → Int) f3.toNat = o) (ho : (o != 0) = true) (k : GInsn → Bool → R α) :
    p_z1p Fo Fb Fx Fi Fr Fg Fs ⟨w, rd, f3, rs1, rs2, f7⟩ k = k ⟨o, 0, rs1, rs2, IntKind.i64.wrap n, 0⟩ true := by
  unfold p_z1p
  rw [h1]
  have e1 : ((99 : Int) == 55) = false := rfl
  have e2 : ((99 : Int) == 23) = false := rfl
  have e3 : ((99 : Int) == 111) = false := rfl
  have e4 : ((99 : Int) == 103) = false := rfl
  have e5 : ((99 : Int) == 99) = true := rfl
  have g1 : (decide (0 ≤ f3) && decide (f3 < 8)) = true := by simp [hf.1, hf.2]
  have g2 : decide (f3.toNat < 8) = true := decide_eq_true (by omega)
  simp only [e1, e2, e3, e4, e5, g1, g2, cond_true, cond_false, hb1, hb2, hb3, hb4, hx, ht, ho]
theorem dec_br {α : Type} {o hi n : Int} (H : Br o hi) (h3 : -4096 ≤ n ∧ n ≤ 4094) (h4 : n % 2 = 0) (k : GInsn → Int → R α) : s_decode_Decode (brW hi n) k = k ⟨o, 0, 1, 2, n, 0⟩ 0 := by
  have hs := sgn_br h3 h4
  have q := H.r1
  have q3 := H.f3
  have ha : 0 ≤ n / 4096 % 2 ∧ n / 4096 % 2 < 2 := by omega
  have hb : 0 ≤ n / 2048 % 2 ∧ n / 2048 % 2 < 2 := by omega
  have hc : 0 ≤ n / 32 % 64 ∧ n / 32 % 64 < 64 := by omega
  have hd : 0 ≤ n / 2 % 16 ∧ n / 2 % 16 < 16 := by omega
  unfold brW
  generalize n / 4096 % 2 = a at hs ha ⊢
  generalize n / 2048 % 2 = b at hs hb ⊢
  generalize n / 32 % 64 = c at hs hc ⊢
  generalize n / 2 % 16 = d at hs hd ⊢
  have q4 : (99 + 128 * b + 256 * d + 4096 * hi + 33554432 * c + 2147483648 * a) % 128 = 99 := by omega
  have q5 : (99 + 128 * b + 256 * d + 4096 * hi + 33554432 * c + 2147483648 * a) / 2147483648 % 2 = a := by omega
  have q6 : (99 + 128 * b + 256 * d + 4096 * hi + 33554432 * c + 2147483648 * a) / 128 % 2 = b := by omega
  have q7 : (99 + 128 * b + 256 * d + 4096 * hi + 33554432 * c + 2147483648 * a) / 33554432 % 64 = c := by omega
  have q8 : (99 + 128 * b + 256 * d + 4096 * hi + 33554432 * c + 2147483648 * a) / 256 % 16 = d := by omega
  have q9 : (99 + 128 * b + 256 * d + 4096 * hi + 33554432 * c + 2147483648 * a) / 4096 % 8 = hi % 8 := by omega
  have q10 : (99 + 128 * b + 256 * d + 4096 * hi + 33554432 * c + 2147483648 * a) / 32768 % 32 = 1 := by omega
  have q11 : (99 + 128 * b + 256 * d + 4096 * hi + 33554432 * c + 2147483648 * a) / 1048576 % 32 = 2 := by omega
  have hW : W32 (99 + 128 * b + 256 * d + 4096 * hi + 33554432 * c + 2147483648 * a) := ⟨by omega, by omega⟩
  generalize 99 + 128 * b + 256 * d + 4096 * hi + 33554432 * c + 2147483648 * a = w at *
  have f1 : bitsS (IntKind.u64.wrap w) 31 1 = a := (bits32 hW 31 1 (by omega) (by omega) (by omega) (by omega)).trans q5
  have f2 : bitsS (IntKind.u64.wrap w) 7 1 = b := (bits32 hW 7 1 (by omega) (by omega) (by omega) (by omega)).trans q6
  have f3 : bitsS (IntKind.u64.wrap w) 25 6 = c := (bits32 hW 25 6 (by omega) (by omega) (by omega) (by omega)).trans q7
  have f4 : bitsS (IntKind.u64.wrap w) 8 4 = d := (bits32 hW 8 4 (by omega) (by omega) (by omega) (by omega)).trans q8
  have g0 : bitop .or .u64 0 a = a := or0 (by omega) (by omega)
  have g1 : bitop .or .u64 (gshl .u64 a 1) b = a * 2 + b := orsh 1 (by omega) (by omega) (by omega) (by omega) (by omega)
  have g2 : bitop .or .u64 (gshl .u64 (a * 2 + b) 6) c = (a * 2 + b) * 64 + c := orsh 6 (by omega) (by omega) (by omega) (by omega) (by omega)
  have g3 : bitop .or .u64 (gshl .u64 ((a * 2 + b) * 64 + c) 4) d = ((a * 2 + b) * 64 + c) * 16 + d := orsh 4 (by omega) (by omega) (by omega) (by omega) (by omega)
  have hx : IntKind.i64.wrap (sextS (2 * (((a * 2 + b) * 64 + c) * 16 + d)) 13) = n := (sgn13 (by omega) (by omega)).trans hs
  refine dec_parts hW k (fun k' => ?_) (is_br H h3 h4)
  refine (insn_br' (o := o) (a := a) (b := b) (c := c) (d := d) (n := sextS (2 * (((a * 2 + b) * 64 + c) * 16 + d)) 13) (fun k' => by rw [opcode_eq hW, q4]) (by rw [q9]; exact H.f3) (fun k' => by rw [bits_eq, f1]) (fun k' => by rw [bits_eq, f2]) (fun k' => by rw [bits_eq, f3]) (fun k' => by rw [bits_eq, f4]) (fun k' => by rw [sext_eq, g0, g1, g2, g3, shl1 (by omega) (by omega)]) (by rw [q9]; exact H.tb) H.o0 k').trans ?_
  rw [q10, q11, hx]
end Go.Sh
