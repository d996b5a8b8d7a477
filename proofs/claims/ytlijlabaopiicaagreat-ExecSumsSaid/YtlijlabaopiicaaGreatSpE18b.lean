/-
  Words of instructions: written (by the document) and read (by the program).
-/
import Derived.Test.YtlijlabaopiicaaGreatSpE18a
namespace Go.Sh
open Go
set_option linter.unusedSimpArgs false
set_option linter.unusedVariables false
theorem is3_ok {α : Type} {i : GInsn} {p1 p2 p3 p4 p5 : Bool} (hq : ∀ {β : Type} (k : Bool → R β), s_ref3_Is i k = q_ref3_Is_1 s_ref3_Parts s_ref3_reg s_ref3_number i k) (hp : ∀ {β : Type} (k : Bool → Bool → Bool → Bool → Bool → R β), s_ref3_Parts i.Op k = k p1 p2 p3 p4 p5)
    (h1 : i.Rd = 0 ∨ (p1 = true ∧ 0 < i.Rd ∧ i.Rd < 32)) (h2 : i.Rs1 = 0 ∨ (p2 = true ∧ 0 < i.Rs1 ∧ i.Rs1 < 32)) (h3 : i.Rs2 = 0 ∨ (p3 = true ∧ 0 < i.Rs2 ∧ i.Rs2 < 32)) (h4 : i.CSR = 0 ∨ (p4 = true ∧ 0 < i.CSR ∧ i.CSR ≤ 4095))
    (h5 : (p5 = false ∧ i.Imm = 0) ∨ (p5 = true ∧ ∀ {β : Type} (k : Bool → R β), s_ref3_number i k = k true)) (k : Bool → R α) : s_ref3_Is i k = k true := by
  rw [hq]
  unfold q_ref3_Is_1
  simp only [hp, reg_ok h1, reg_ok h2, reg_ok h3, Bool.not_true, cond_false]
  rcases h4 with e | ⟨rfl, e1, e2⟩
  · have a : (i.CSR != 0) = false := by simp [e]
    simp only [a, cond_false]
    rcases h5 with ⟨rfl, e5⟩ | ⟨rfl, e5⟩
    · have b : (i.Imm == 0) = true := by simp [e5]
      simp only [b, Bool.not_false, cond_true]
    · simp only [e5, Bool.not_true, cond_false]
  · have a : (i.CSR != 0) = true := by simp; omega
    simp only [a, ltB_f (show (0 : Int) ≤ i.CSR by omega), ltB_f e2, Bool.not_true, cond_true, cond_false]
    rcases h5 with ⟨rfl, e5⟩ | ⟨rfl, e5⟩
    · have b : (i.Imm == 0) = true := by simp [e5]
      simp only [b, Bool.not_false, cond_true]
    · simp only [e5, Bool.not_true, cond_false]
theorem shl32 {x : Int} (n : Nat) (h0 : 0 ≤ x) (hn : n ≤ 32) (h1 : x * ((2 ^ n : Nat) : Int) < 4294967296) : gshl .u32 x (n : Int) = x * ((2 ^ n : Nat) : Int) := by
  have hp := Nat.one_le_two_pow (n := n)
  rw [gshl_u32 (by omega) (by omega), Int.toNat_natCast, pow2_eq, Int.emod_eq_of_lt (Int.mul_nonneg h0 (by omega)) h1]
theorem and32i {x : Int} (k : Nat) (h : W32 x) (hk : k ≤ 32) {m : Int} (hm : m = ((2 ^ k - 1 : Nat) : Int)) : bitop .and .u32 x m = x % ((2 ^ k : Nat) : Int) := by
  obtain ⟨a, rfl⟩ := Int.eq_ofNat_of_zero_le h.1
  rw [and32k (by have := h.2; omega) hk hm]
  omega
theorem fld32 {u : Int} (hu : W32 u) (lo n : Nat) (hlo : lo ≤ 31) (hn : n ≤ 32) {m : Int} (hm : m = ((2 ^ n - 1 : Nat) : Int)) : bitop .and .u32 (gshr .u32 u (lo : Int)) m = u / ((2 ^ lo : Nat) : Int) % ((2 ^ n : Nat) : Int) := by
  have hp := Nat.one_le_two_pow (n := lo)
  rw [gshr_u32 (by omega), Int.toNat_natCast, pow2_eq]
  have h0 : 0 ≤ u / ((2 ^ lo : Nat) : Int) := Int.ediv_nonneg hu.1 (by omega)
  have h1 : u / ((2 ^ lo : Nat) : Int) ≤ u := Int.ediv_le_self _ hu.1
  exact and32i n ⟨h0, by have := hu.2; omega⟩ hn hm
theorem r32 {x : Int} (h : 0 ≤ x ∧ x < 32) : x = 0 ∨ (true = true ∧ 0 < x ∧ x < 32) := by
  by_cases e : x = 0
  · exact .inl e
  · exact .inr ⟨rfl, by omega, h.2⟩
theorem enc_addi {α : Type} {rd rs n : Int} (h1 : 0 ≤ rd ∧ rd < 32) (h2 : 0 ≤ rs ∧ rs < 32) (h3 : -2048 ≤ n ∧ n ≤ 2047) (k : Int → Bool → R α) :
    s_ref3_Encode ⟨22, rd, rs, 0, n, 0⟩ k = k (19 + 128 * rd + 32768 * rs + 1048576 * (n % 4096)) true := by
  have his : ∀ {β : Type} (k : Bool → R β), s_ref3_Is ⟨22, rd, rs, 0, n, 0⟩ k = k true := fun k =>
    is3_ok (p1 := true) (p2 := true) (p3 := false) (p4 := false) (p5 := true) (fun _ => rfl) (fun _ => rfl) (r32 h1) (r32 h2) (.inl rfl) (.inl rfl) (.inr ⟨rfl, fun k => (show s_ref3_number ⟨22, rd, rs, 0, n, 0⟩ k = s_ref3_within n (-2048) 2047 1 k from rfl).trans (within_ok h3.1 h3.2 (by omega) (by simp) k)⟩) k
  unfold s_ref3_Encode p_z14
  rw [his]
  show k (bitop .or .u32 (bitop .or .u32 (bitop .or .u32 19 (gshl .u32 (IntKind.u32.wrap rs) 15)) (gshl .u32 (IntKind.u32.wrap rd) 7)) (gshl .u32 (bitop .and .u32 (IntKind.u32.wrap n) 4095) 20)) true = _
  have a1 : IntKind.u32.wrap rs = rs := w32_wrap ⟨by omega, by omega⟩
  have a2 : IntKind.u32.wrap rd = rd := w32_wrap ⟨by omega, by omega⟩
  have a3 : bitop .and .u32 (IntKind.u32.wrap n) 4095 = n % 4096 := by
    exact (and32i 12 (w32_of n) (by omega) (m := 4095) rfl).trans (by rw [wrap_u32_mod]; omega)
  have b1 : gshl .u32 rs 15 = rs * 32768 := shl32 15 (by omega) (by omega) (by omega)
  have b2 : gshl .u32 rd 7 = rd * 128 := shl32 7 (by omega) (by omega) (by omega)
  have b3 : gshl .u32 (n % 4096) 20 = n % 4096 * 1048576 := shl32 20 (by omega) (by omega) (by omega)
  rw [a1, a2, a3, b1, b2, b3]
  have e : bitop .or .u32 (bitop .or .u32 (bitop .or .u32 19 (rs * 32768)) (rd * 128)) (n % 4096 * 1048576) = bitop .or .u32 19 (bitop .or .u32 (rd * 128) (bitop .or .u32 (rs * 32768) (n % 4096 * 1048576))) := by ac_rfl
  rw [e, orS 20 (x := rs * 32768) (by omega) (by omega) (by omega) ⟨by omega, by omega⟩ (by omega)]
  rw [orS 15 (x := rd * 128) (by omega) (by omega) (by omega) ⟨by omega, by omega⟩ (by omega)]
  rw [orS 7 (x := 19) (by omega) (by omega) (by omega) ⟨by omega, by omega⟩ (by omega)]
  congr 1
  omega
theorem imm_eq {α : Type} {p : GDecode_parts} (h : W32 p.w) (op : Int) (k : GInsn → R α) : s_decode_parts_immediate p op k = k ⟨op, p.rd, p.rs1, 0, sgn 2048 (p.w / 1048576 % 4096), 0⟩ := by
  have b1 : bitsS (IntKind.u64.wrap p.w) 20 12 = p.w / 1048576 % 4096 := bits32 h 20 12 (by omega) (by omega) (by omega) (by omega)
  unfold s_decode_parts_immediate p_zd
  simp only [bits_eq, sext_eq, b1]
  rw [or0 (by omega) (by omega), shl0 (by omega) (by omega), sgn12 (by omega) (by omega)]
theorem dec_parts {α : Type} {w : Int} (h : W32 w) {i : GInsn} (k : GInsn → Int → R α)
    (hi : ∀ k' : GInsn → Bool → R α, s_decode_parts_insn ⟨w, w / 128 % 32, w / 4096 % 8, w / 32768 % 32, w / 1048576 % 32, w / 33554432 % 128⟩ k' = k' i true) (his : ∀ k' : Bool → R α, s_insn_Is i k' = k' true) : s_decode_Decode w k = k i 0 := by
  unfold s_decode_Decode p_z1n
  rw [of_eq h, hi]
  simp only [Bool.not_true, cond_false, his]
theorem is_addi {α : Type} {rd rs n : Int} (h1 : 0 ≤ rd ∧ rd < 32) (h2 : 0 ≤ rs ∧ rs < 32) (h3 : -2048 ≤ n ∧ n ≤ 2047) (k : Bool → R α) : s_insn_Is ⟨22, rd, rs, 0, n, 0⟩ k = k true :=
  is_ok (c := 5) (f := ⟨true, false, true, false, -2048, 2047, 1⟩) (fun _ => rfl) rfl (fun _ => rfl) (.inr ⟨by simp, by simp only; omega, by simp only; omega, by simp⟩) (r32 h1) (r32 h2) (.inl rfl) (.inl rfl) k
theorem dA1 {α : Type} {w : Int} (hW : W32 w) (e5 : w % 128 = 19) (p : GDecode_parts) (hp : p.w = w) (k' : GInsn → Bool → R α) : s_decode_parts_insn p k' = s_decode_parts_reckons p k' := by
    unfold s_decode_parts_insn p_z1m
    rw [hp, opcode_eq hW, e5]
    generalize @s_decode_parts_reckons α = Fr
    generalize @s_decode_parts_registers α = Fg
    generalize @s_decode_parts_system α = Fs
    generalize @s_decode_parts_immediate α = Fi
    generalize @s_word_Bits α = Fb
    generalize @s_word_Sext α = Fx
    rfl
theorem dA2 {α : Type} {w : Int} (hW : W32 w) (e5 : w % 128 = 19) (rd rs r2 f7 : Int) (k' : GInsn → Bool → R α) : s_decode_parts_reckons ⟨w, rd, 0, rs, r2, f7⟩ k' = s_decode_parts_immediate ⟨w, rd, 0, rs, r2, f7⟩ 22 (fun r => k' r true) := by
    unfold s_decode_parts_reckons p_zm
    rw [opcode_eq hW, e5]
    generalize @s_decode_parts_immediate α = Fi
    generalize @s_word_Bits α = Fb
    rfl
theorem dA3 {α : Type} {w rd rs u : Int} (hW : W32 w) (e5 : w % 128 = 19) (e1 : w / 128 % 32 = rd) (e2 : w / 4096 % 8 = 0) (e3 : w / 32768 % 32 = rs) (e4 : w / 1048576 % 4096 = u) (k' : GInsn → Bool → R α) :
    s_decode_parts_insn ⟨w, w / 128 % 32, w / 4096 % 8, w / 32768 % 32, w / 1048576 % 32, w / 33554432 % 128⟩ k' = k' ⟨22, rd, rs, 0, sgn 2048 u, 0⟩ true := by
  rw [e1, e2, e3, dA1 hW e5 _ rfl, dA2 hW e5, imm_eq hW]
  show k' ⟨22, rd, rs, 0, sgn 2048 (w / 1048576 % 4096), 0⟩ true = _
  rw [e4]
theorem dec_addi {α : Type} {rd rs u : Int} (h1 : 0 ≤ rd ∧ rd < 32) (h2 : 0 ≤ rs ∧ rs < 32) (h3 : 0 ≤ u ∧ u < 4096) (k : GInsn → Int → R α) :
    s_decode_Decode (19 + 128 * rd + 32768 * rs + 1048576 * u) k = k ⟨22, rd, rs, 0, sgn 2048 u, 0⟩ 0 :=
  dec_parts (i := ⟨22, rd, rs, 0, sgn 2048 u, 0⟩) ⟨by omega, by omega⟩ k (dA3 ⟨by omega, by omega⟩ (by omega) (by omega) (by omega) (by omega) (by omega)) (is_addi h1 h2 (by unfold sgn; split <;> omega))
theorem enc_jal {α : Type} {rd n : Int} (h1 : 0 ≤ rd ∧ rd < 32) (h3 : -1048576 ≤ n ∧ n ≤ 1048574) (h4 : n % 2 = 0) (k : Int → Bool → R α) :
    s_ref3_Encode ⟨3, rd, 0, 0, n, 0⟩ k = k (111 + 128 * rd + 4096 * (n / 4096 % 256) + 1048576 * (n / 2048 % 2) + 2097152 * (n / 2 % 1024) + 2147483648 * (n / 1048576 % 2)) true := by
  have htm : Int.tmod n 2 = 0 := by
    have := Int.dvd_of_emod_eq_zero h4
    exact Int.tmod_eq_zero_of_dvd this
  have his : ∀ {β : Type} (k : Bool → R β), s_ref3_Is ⟨3, rd, 0, 0, n, 0⟩ k = k true := fun k =>
    is3_ok (p1 := true) (p2 := false) (p3 := false) (p4 := false) (p5 := true) (fun _ => rfl) (fun _ => rfl) (r32 h1) (.inl rfl) (.inl rfl) (.inl rfl) (.inr ⟨rfl, fun k => (show s_ref3_number ⟨3, rd, 0, 0, n, 0⟩ k = s_ref3_within n (-1048576) 1048574 2 k from rfl).trans (within_ok h3.1 h3.2 (by omega) htm k)⟩) k
  unfold s_ref3_Encode p_z14
  rw [his]
  show k (bitop .or .u32 (bitop .or .u32 (bitop .or .u32 (bitop .or .u32 (bitop .or .u32 111 (gshl .u32 (IntKind.u32.wrap rd) 7)) (gshl .u32 (bitop .and .u32 (gshr .u32 (IntKind.u32.wrap n) 20) 1) 31)) (gshl .u32 (bitop .and .u32 (gshr .u32 (IntKind.u32.wrap n) 12) 255) 12)) (gshl .u32 (bitop .and .u32 (gshr .u32 (IntKind.u32.wrap n) 11) 1) 20)) (gshl .u32 (bitop .and .u32 (gshr .u32 (IntKind.u32.wrap n) 1) 1023) 21)) true = _
  have a2 : IntKind.u32.wrap rd = rd := w32_wrap ⟨by omega, by omega⟩
  have hu := w32_of n
  have f1 : bitop .and .u32 (gshr .u32 (IntKind.u32.wrap n) 20) 1 = n / 1048576 % 2 := (fld32 hu 20 1 (by omega) (by omega) rfl).trans (by rw [wrap_u32_mod]; omega)
  have f2 : bitop .and .u32 (gshr .u32 (IntKind.u32.wrap n) 12) 255 = n / 4096 % 256 := (fld32 hu 12 8 (by omega) (by omega) rfl).trans (by rw [wrap_u32_mod]; omega)
  have f3 : bitop .and .u32 (gshr .u32 (IntKind.u32.wrap n) 11) 1 = n / 2048 % 2 := (fld32 hu 11 1 (by omega) (by omega) rfl).trans (by rw [wrap_u32_mod]; omega)
  have f4 : bitop .and .u32 (gshr .u32 (IntKind.u32.wrap n) 1) 1023 = n / 2 % 1024 := (fld32 hu 1 10 (by omega) (by omega) rfl).trans (by rw [wrap_u32_mod]; omega)
  rw [a2, f1, f2, f3, f4]
  clear f1 f2 f3 f4 hu htm his
  generalize n / 1048576 % 2 = a, (show 0 ≤ n / 1048576 % 2 ∧ n / 1048576 % 2 < 2 by omega) = ha
  generalize n / 4096 % 256 = b, (show 0 ≤ n / 4096 % 256 ∧ n / 4096 % 256 < 256 by omega) = hb
  generalize n / 2048 % 2 = c, (show 0 ≤ n / 2048 % 2 ∧ n / 2048 % 2 < 2 by omega) = hc
  generalize n / 2 % 1024 = d, (show 0 ≤ n / 2 % 1024 ∧ n / 2 % 1024 < 1024 by omega) = hd
  have b1 : gshl .u32 rd 7 = rd * 128 := shl32 7 (by omega) (by omega) (by omega)
  have b2 : gshl .u32 a 31 = a * 2147483648 := shl32 31 (by omega) (by omega) (by omega)
  have b3 : gshl .u32 b 12 = b * 4096 := shl32 12 (by omega) (by omega) (by omega)
  have b4 : gshl .u32 c 20 = c * 1048576 := shl32 20 (by omega) (by omega) (by omega)
  have b5 : gshl .u32 d 21 = d * 2097152 := shl32 21 (by omega) (by omega) (by omega)
  rw [b1, b2, b3, b4, b5]
  have e : bitop .or .u32 (bitop .or .u32 (bitop .or .u32 (bitop .or .u32 (bitop .or .u32 111 (rd * 128)) (a * 2147483648)) (b * 4096)) (c * 1048576)) (d * 2097152) = bitop .or .u32 111 (bitop .or .u32 (rd * 128) (bitop .or .u32 (b * 4096) (bitop .or .u32 (c * 1048576) (bitop .or .u32 (d * 2097152) (a * 2147483648))))) := by ac_rfl
  rw [e, orS 31 (x := d * 2097152) (by omega) (by omega) (by omega) ⟨by omega, by omega⟩ (by omega)]
  rw [orS 21 (x := c * 1048576) (by omega) (by omega) (by omega) ⟨by omega, by omega⟩ (by omega)]
  rw [orS 20 (x := b * 4096) (by omega) (by omega) (by omega) ⟨by omega, by omega⟩ (by omega)]
  rw [orS 12 (x := rd * 128) (by omega) (by omega) (by omega) ⟨by omega, by omega⟩ (by omega)]
  rw [orS 7 (x := 111) (by omega) (by omega) (by omega) ⟨by omega, by omega⟩ (by omega)]
  congr 1
  omega
theorem is_jal {α : Type} {rd n : Int} (h1 : 0 ≤ rd ∧ rd < 32) (h3 : -1048576 ≤ n ∧ n ≤ 1048574) (h4 : n % 2 = 0) (k : Bool → R α) : s_insn_Is ⟨3, rd, 0, 0, n, 0⟩ k = k true :=
  is_ok (c := 1) (f := ⟨true, false, false, false, -1048576, 1048574, 2⟩) (fun _ => rfl) rfl (fun _ => rfl) (.inr ⟨by simp, by simp only; omega, by simp only; omega, Int.tmod_eq_zero_of_dvd (Int.dvd_of_emod_eq_zero h4)⟩) (r32 h1) (.inl rfl) (.inl rfl) (.inl rfl) k
theorem dec_jal {α : Type} {rd a b c d : Int} (h1 : 0 ≤ rd ∧ rd < 32) (ha : 0 ≤ a ∧ a < 2) (hb : 0 ≤ b ∧ b < 256) (hc : 0 ≤ c ∧ c < 2) (hd : 0 ≤ d ∧ d < 1024) (k : GInsn → Int → R α) :
    s_decode_Decode (111 + 128 * rd + 4096 * b + 1048576 * c + 2097152 * d + 2147483648 * a) k = k ⟨3, rd, 0, 0, sgn 1048576 (2 * (((a * 256 + b) * 2 + c) * 1024 + d)), 0⟩ 0 := by
  generalize hw : 111 + 128 * rd + 4096 * b + 1048576 * c + 2097152 * d + 2147483648 * a = w
  have hW : W32 w := ⟨by omega, by omega⟩
  have e1 : w / 128 % 32 = rd := by omega
  have e5 : w % 128 = 111 := by omega
  have f1 : bitsS (IntKind.u64.wrap w) 31 1 = a := (bits32 hW 31 1 (by omega) (by omega) (by omega) (by omega)).trans (by show w / 2147483648 % 2 = a; omega)
  have f2 : bitsS (IntKind.u64.wrap w) 12 8 = b := (bits32 hW 12 8 (by omega) (by omega) (by omega) (by omega)).trans (by show w / 4096 % 256 = b; omega)
  have f3 : bitsS (IntKind.u64.wrap w) 20 1 = c := (bits32 hW 20 1 (by omega) (by omega) (by omega) (by omega)).trans (by show w / 1048576 % 2 = c; omega)
  have f4 : bitsS (IntKind.u64.wrap w) 21 10 = d := (bits32 hW 21 10 (by omega) (by omega) (by omega) (by omega)).trans (by show w / 2097152 % 1024 = d; omega)
  refine dec_parts hW k (fun k' => ?_) (is_jal h1 (by unfold sgn; split <;> omega) (by unfold sgn; split <;> omega))
  rw [e1]
  unfold s_decode_parts_insn p_z1m
  rw [opcode_eq hW, e5]
  simp only [bits_eq, sext_eq, f1, f2, f3, f4]
  have g0 : bitop .or .u64 0 a = a := or0 (by omega) (by omega)
  have g1 : bitop .or .u64 (gshl .u64 a 8) b = a * 256 + b := orsh 8 (by omega) (by omega) (by omega) (by omega) (by omega)
  have g2 : bitop .or .u64 (gshl .u64 (a * 256 + b) 1) c = (a * 256 + b) * 2 + c := orsh 1 (by omega) (by omega) (by omega) (by omega) (by omega)
  have g3 : bitop .or .u64 (gshl .u64 ((a * 256 + b) * 2 + c) 10) d = ((a * 256 + b) * 2 + c) * 1024 + d := orsh 10 (by omega) (by omega) (by omega) (by omega) (by omega)
  rw [g0, g1, g2, g3, shl1 (by omega) (by omega), sgn21 (by omega) (by omega)]
  rfl
theorem enc_csrrw {α : Type} {rd rs : Int} (h1 : 0 ≤ rd ∧ rd < 32) (h2 : 0 ≤ rs ∧ rs < 32) (k : Int → Bool → R α) :
    s_ref3_Encode ⟨54, rd, rs, 0, 0, 832⟩ k = k (115 + 128 * rd + 4096 + 32768 * rs + 1048576 * 832) true := by
  have his : ∀ {β : Type} (k : Bool → R β), s_ref3_Is ⟨54, rd, rs, 0, 0, 832⟩ k = k true := fun k =>
    is3_ok (p1 := true) (p2 := true) (p3 := false) (p4 := true) (p5 := false) (fun _ => rfl) (fun _ => rfl) (r32 h1) (r32 h2) (.inl rfl) (.inr ⟨rfl, by simp, by simp⟩) (.inl ⟨rfl, rfl⟩) k
  unfold s_ref3_Encode p_z14
  rw [his]
  show k (bitop .or .u32 (bitop .or .u32 (bitop .or .u32 4211 (gshl .u32 (IntKind.u32.wrap rs) 15)) (gshl .u32 (IntKind.u32.wrap rd) 7)) 872415232) true = _
  have a1 : IntKind.u32.wrap rs = rs := w32_wrap ⟨by omega, by omega⟩
  have a2 : IntKind.u32.wrap rd = rd := w32_wrap ⟨by omega, by omega⟩
  have b1 : gshl .u32 rs 15 = rs * 32768 := shl32 15 (by omega) (by omega) (by omega)
  have b2 : gshl .u32 rd 7 = rd * 128 := shl32 7 (by omega) (by omega) (by omega)
  rw [a1, a2, b1, b2]
  have e0 : (4211 : Int) = bitop .or .u32 115 4096 := rfl
  have e : bitop .or .u32 (bitop .or .u32 (bitop .or .u32 4211 (rs * 32768)) (rd * 128)) 872415232 = bitop .or .u32 115 (bitop .or .u32 (rd * 128) (bitop .or .u32 4096 (bitop .or .u32 (rs * 32768) 872415232))) := by rw [e0]; ac_rfl
  rw [e, orS 20 (x := rs * 32768) (by omega) (by omega) (by omega) ⟨by omega, by omega⟩ (by omega)]
  rw [orS 15 (x := 4096) (by omega) (by omega) (by omega) ⟨by omega, by omega⟩ (by omega)]
  rw [orS 12 (x := rd * 128) (by omega) (by omega) (by omega) ⟨by omega, by omega⟩ (by omega)]
  rw [orS 7 (x := 115) (by omega) (by omega) (by omega) ⟨by omega, by omega⟩ (by omega)]
  congr 1
  omega
theorem is_csrrw {α : Type} {rd rs : Int} (h1 : 0 ≤ rd ∧ rd < 32) (h2 : 0 ≤ rs ∧ rs < 32) (k : Bool → R α) : s_insn_Is ⟨54, rd, rs, 0, 0, 832⟩ k = k true :=
  is_ok (c := 9) (f := ⟨true, true, true, false, 0, 0, 0⟩) (fun _ => rfl) rfl (fun _ => rfl) (.inl ⟨rfl, rfl⟩) (r32 h1) (r32 h2) (.inl rfl) (.inr ⟨rfl, by simp, by simp⟩) k
theorem dec_csrrw {α : Type} {rd rs : Int} (h1 : 0 ≤ rd ∧ rd < 32) (h2 : 0 ≤ rs ∧ rs < 32) (k : GInsn → Int → R α) :
    s_decode_Decode (115 + 128 * rd + 4096 + 32768 * rs + 1048576 * 832) k = k ⟨54, rd, rs, 0, 0, 832⟩ 0 := by
  generalize hw : 115 + 128 * rd + 4096 + 32768 * rs + 1048576 * 832 = w
  have hW : W32 w := ⟨by omega, by omega⟩
  have e1 : w / 128 % 32 = rd := by omega
  have e2 : w / 4096 % 8 = 1 := by omega
  have e3 : w / 32768 % 32 = rs := by omega
  have e5 : w % 128 = 115 := by omega
  have f1 : bitsS (IntKind.u64.wrap w) 20 12 = 832 := (bits32 hW 20 12 (by omega) (by omega) (by omega) (by omega)).trans (by show w / 1048576 % 4096 = 832; omega)
  refine dec_parts hW k (fun k' => ?_) (is_csrrw h1 h2)
  rw [e1, e2, e3]
  generalize w / 1048576 % 32 = r2
  generalize w / 33554432 % 128 = f7
  have a1 : s_decode_parts_insn ⟨w, rd, 1, rs, r2, f7⟩ k' = s_decode_parts_system ⟨w, rd, 1, rs, r2, f7⟩ k' := by
    unfold s_decode_parts_insn p_z1m
    rw [opcode_eq hW, e5]
    generalize @s_decode_parts_reckons α = Fr
    generalize @s_decode_parts_registers α = Fg
    generalize @s_decode_parts_system α = Fs
    generalize @s_decode_parts_immediate α = Fi
    generalize @s_word_Bits α = Fb
    generalize @s_word_Sext α = Fx
    rfl
  rw [a1]
  unfold s_decode_parts_system p_zp
  simp only [bits_eq, f1]
  rfl
end Go.Sh
