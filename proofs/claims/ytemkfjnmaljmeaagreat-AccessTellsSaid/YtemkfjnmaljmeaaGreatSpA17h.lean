/-
  The law AccessTells, told without the program.
-/
import Derived.Test.YtemkfjnmaljmeaaGreatSpA17g
import Derived.Test.YtemkfjnmaljmeaaGreatSpBoth12
set_option linter.unusedSimpArgs false
set_option linter.unusedVariables false
namespace Go.Sh
open Go
def rowOk (l : Bool × Addr × Nat × Nat × (Nat → Int × Int × Unit)) : Prop := ∀ i, i < l.2.2.1 → W64 (pA l.2.2.2.2 i) ∧ W64 (pB l.2.2.2.2 i)
noncomputable def sLoop {α : Type} : SgL_z3 α := fun s k => grd (s.v1 = 0 ∧ s.v0.2.2.1 ≤ 60 ∧ rowOk s.v0) (k ⟨putW s.v2 (pA s.v0.2.2.2.2) (pB s.v0.2.2.2.2) s.v0.2.2.1, putW s.v3 (pA s.v0.2.2.2.2) (pB s.v0.2.2.2.2) s.v0.2.2.1⟩)
abbrev stpB (s : S_z3) : Option (S_z3 ⊕ X_z3) := b_z3 sRCodeB sMWr sRWriteB s (fun s => some (.inl s)) (fun x => some (.inr x))
theorem round_both {l : Bool × Addr × Nat × Nat × (Nat → Int × Int × Unit)} (hl : l.2.2.1 ≤ 60) (hw : rowOk l) {j : Nat} (hj : j < l.2.2.1) (M G : Nat → Int) :
    stpB ⟨l, (j : Int), M, G⟩ = some (.inl ⟨l, ((j + 1 : Nat) : Int), writeS M (pA l.2.2.2.2 j) 8 (pB l.2.2.2.2 j), writeS G (pA l.2.2.2.2 j) 8 (pB l.2.2.2.2 j)⟩) := by
  obtain ⟨⟨a0, a1⟩, b0, b1⟩ := hw j hj
  have g1 : ltB (j : Int) (l.2.2.1 : Int) = true := by simp [ltB]; omega
  have g2 : (decide ((0 : Int) ≤ (j : Int)) && decide ((j : Int) < (l.2.2.1 : Int))) = true := by simp; omega
  have g3 : IntKind.i64.wrap ((j : Int) + 1) = ((j + 1 : Nat) : Int) := by rw [wrap_i64 (by omega) (by omega)]; omega
  have ga : (l.2.2.2.2 j).1 = pA l.2.2.2.2 j := rfl
  have gb : (l.2.2.2.2 j).2.1 = pB l.2.2.2.2 j := rfl
  unfold stpB b_z3 sRCodeB sMWr sRWriteB
  simp only [g1, g2, g3, Int.toNat_natCast, ga, gb, decide_eq_true a0, decide_eq_true a1, Bool.true_and, decide_eq_true b0, decide_eq_true b1, cond_true]
  by_cases hc : checkS (pA l.2.2.2.2 j) 8 = 0
  · simp only [hc, decide_eq_true, cond_true, beq_self_eq_true]
  · have h2 : (checkS (pA l.2.2.2.2 j) 8 == 0) = false := by simpa using hc
    simp only [h2, cond_false, writeS_off hc]
theorem loop_both {l : Bool × Addr × Nat × Nat × (Nat → Int × Int × Unit)} (hl : l.2.2.1 ≤ 60) (hw : rowOk l) (M G : Nat → Int) : ∀ (m j : Nat), j + m = l.2.2.1 →
    lps stpB (m + 1) ⟨l, (j : Int), putW M (pA l.2.2.2.2) (pB l.2.2.2.2) j, putW G (pA l.2.2.2.2) (pB l.2.2.2.2) j⟩ = some ⟨putW M (pA l.2.2.2.2) (pB l.2.2.2.2) l.2.2.1, putW G (pA l.2.2.2.2) (pB l.2.2.2.2) l.2.2.1⟩
  | 0, j, h => by
    have g1 : ltB (j : Int) (l.2.2.1 : Int) = false := by simp [ltB]; omega
    have hj : j = l.2.2.1 := by omega
    have : stpB ⟨l, (j : Int), putW M (pA l.2.2.2.2) (pB l.2.2.2.2) j, putW G (pA l.2.2.2.2) (pB l.2.2.2.2) j⟩ = some (.inr ⟨putW M (pA l.2.2.2.2) (pB l.2.2.2.2) j, putW G (pA l.2.2.2.2) (pB l.2.2.2.2) j⟩) := by
      unfold stpB b_z3
      simp only [g1, cond_false]
    simp only [lps, this]
    rw [hj]
  | m + 1, j, h => by
    have h1 := round_both hl hw (j := j) (by omega) (putW M (pA l.2.2.2.2) (pB l.2.2.2.2) j) (putW G (pA l.2.2.2.2) (pB l.2.2.2.2) j)
    rw [lps, h1]
    exact loop_both hl hw M G m (j + 1) (by omega)
theorem loopOk_both {α : Type} : LoopOk (α := α) stpB (fun (s : S_z3) (k : X_z3 → R α) => sLoop s (fun x => k x)) := by
  intro s k r h
  obtain ⟨⟨h1, h2, h3⟩, h4⟩ := grd_some h
  obtain ⟨l, i, M, G⟩ := s
  simp only at h1 h2 h3 h4
  subst h1
  exact ⟨_, _, loop_both h2 h3 M G l.2.2.1 0 (by omega), h4⟩
theorem and127 {a : Int} (ha : W64 a) : 0 ≤ bitop .and .u64 (gshr .u64 a 8) 127 ∧ bitop .and .u64 (gshr .u64 a 8) 127 < 128 := by
  have hw : W64 (gshr .u64 a 8) := by
    rw [gshr_u64 (by omega)]
    have e : (2 : Int) ^ (8 : Int).toNat = 256 := rfl
    rw [e]
    obtain ⟨h1, h2⟩ := ha
    exact ⟨by omega, by omega⟩
  rw [and_low hw (by omega) (by omega)]
  have h := byte_all (p := fun b => decide (0 ≤ bitop .and .u64 b 127) && decide (bitop .and .u64 b 127 < 128)) (by kernel_rfl) (b := gshr .u64 a 8 % 256) (by omega) (by omega)
  simpa using h
def frm (m : Nat → Int) (i : Int) : ByteArray := strOf (fun j => m ((0 + (i * 256).toNat) + j)) 256
def sFrm {α : Type} : Sg_zc α := fun m i k => cond (decide (0 ≤ i) && decide (i < 128)) (k (frm m i)) none
def sRFrm {α : Type} : Sg_zd α := fun m i k => cond (decide (0 ≤ i) && decide (i < 128)) (k (frm m i)) none
theorem frm_eq {α : Type} {i : Int} (h0 : 0 ≤ i) (h1 : i < 128) (m : Nat → Int) (k : ByteArray → R α) : p_zc m i k = k (frm m i) := by
  unfold p_zc frm
  have a1 : ltB i 0 = false := by simp [ltB]; omega
  have a2 : leB 128 i = false := by simp [leB]; omega
  have w1 : IntKind.i64.wrap (i * 256) = i * 256 := wrap_i64 (by omega) (by omega)
  have w2 : IntKind.i64.wrap (i + 1) = i + 1 := wrap_i64 (by omega) (by omega)
  have w3 : IntKind.i64.wrap ((i + 1) * 256) = (i + 1) * 256 := wrap_i64 (by omega) (by omega)
  have q1 : (decide (0 ≤ (i + 1) * 256) && decide ((i + 1) * 256 ≤ 32768)) = true := by simp; omega
  have q2 : (decide (0 ≤ i * 256) && decide (i * 256 ≤ (i + 1) * 256)) = true := by simp; omega
  have q3 : Nat.beq 32768 (i * 256).toNat = false := by
    cases hb : Nat.beq 32768 (i * 256).toNat
    · rfl
    · have := Nat.eq_of_beq_eq_true hb
      omega
  have q5 : ((i + 1) * 256).toNat - (i * 256).toNat = 256 := by omega
  have q4 : decide ((0 + (i * 256).toNat) + 256 ≤ 32768) = true := decide_eq_true (by omega)
  dsimp only
  simp only [a1, a2, w1, w2, w3, q1, q2, q3, q5, q4, cond_true, cond_false]
theorem rfrm_eq {α : Type} {i : Int} (h0 : 0 ≤ i) (h1 : i < 128) (m : Nat → Int) (k : ByteArray → R α) : p_zd m i k = k (frm m i) := frm_eq h0 h1 m k
theorem fr_some {α : Type} {i : Int} {x : R α} {r : α} (h : cond (decide (0 ≤ i) && decide (i < 128)) x none = some r) : (0 ≤ i ∧ i < 128) ∧ x = some r := by
  cases hb : (decide (0 ≤ i) && decide (i < 128)) <;> rw [hb] at h
  · cases h
  · exact ⟨by simpa using hb, h⟩
noncomputable def sLike {α : Type} : Sg_z16 α := fun b r a k => grd (Rb b r ∧ W64 a) (k (nB b) (nR r) true)
theorem like_eq {α : Type} {b : GBus} {r : GRBus} (h : Rb b r) {a : Int} (ha : W64 a) (k : GBus → GRBus → Bool → R α) : p_z16 sFrm sRFrm b r a k = k (nB b) (nR r) true := by
  unfold p_z16 sFrm sRFrm
  have e0 := strOf_is (h.outp 0 (by omega))
  have e3 := strOf_is (h.outp 3 (by omega))
  obtain ⟨i0, i1⟩ := and127 ha
  have w : IntKind.i64.wrap (bitop .and .u64 (gshr .u64 a 8) 127) = bitop .and .u64 (gshr .u64 a 8) 127 := wrap_i64 (by omega) (by omega)
  have q : (decide (0 ≤ bitop .and .u64 (gshr .u64 a 8) 127) && decide (bitop .and .u64 (gshr .u64 a 8) 127 < 128)) = true := by simp; exact ⟨i0, i1⟩
  dsimp only
  simp only [e0, e3, beq_self_eq_true, Bool.not_true, cond_false, cond_true, GN, gN_self, natself', h.time, h.alarm, h.m, w, q]
  rfl
abbrev inpS : ByteArray := ByteArray.extract (ByteArray.mk #[105, 110, 112, 117, 116]) 0 (Int.toNat (pickmx false ((ByteArray.size (ByteArray.mk #[105, 110, 112, 117, 116]) : Nat) : Int) 64))
def busI (m : Nat → Int) : GBus := GBus.mk m 0 18446744073709551615 (upd (upd (upd (fun _ => (GPort.mk (Row.mk (ByteArray.size inpS) (bytesAt inpS)) (Row.mk 0 fun _ => 0) 5)) 1 (GPort.mk (Row.mk 0 fun _ => 0) (Row.mk 0 fun _ => 0) 0)) 2 (GPort.mk (Row.mk 0 fun _ => 0) (Row.mk 0 fun _ => 0) 0)) 3 (GPort.mk (Row.mk 0 fun _ => 0) (Row.mk 0 fun _ => 0) 0))
def rbusI (m : Nat → Int) : GRBus := GRBus.mk m 0 18446744073709551615 (upd (upd (upd (fun _ => .empty ++ inpS) 1 .empty) 2 .empty) 3 .empty) (upd (fun _ => 0) 0 5) (upd (upd (upd (fun _ => .empty) 1 .empty) 2 .empty) 3 .empty) false
abbrev memL (l : Bool × Addr × Nat × Nat × (Nat → Int × Int × Unit)) : Nat → Int := putW (fun _ => 0) (pA l.2.2.2.2) (pB l.2.2.2.2) l.2.2.1
noncomputable def sBoth17 {α : Type} : Sg_z15 α := fun l k => grd (l.2.2.1 ≤ 60 ∧ rowOk l) (k (busI (memL l)) (rbusI (memL l)))
theorem both17_eq {α : Type} {l : Bool × Addr × Nat × Nat × (Nat → Int × Int × Unit)} (hl : l.2.2.1 ≤ 60) (hw : rowOk l) (k : GBus → GRBus → R α) : p_z15 sLoop l k = k (busI (memL l)) (rbusI (memL l)) := by
  unfold p_z15 sLoop
  rw [grd_pos ⟨rfl, hl, hw⟩]
  kernel_rfl
theorem rowIs0 : RowIs (Row.mk 0 fun _ => 0) .empty := ⟨rfl, fun i hi => absurd hi (by show ¬ i < 0; omega)⟩
theorem busI_rel {m : Nat → Int} (hm : ByteF m) : Rb (busI m) (rbusI m) where
  m := rfl
  time := rfl
  alarm := rfl
  inp i hi := by
    have : i = 0 ∨ i = 1 ∨ i = 2 ∨ i = 3 := by omega
    rcases this with rfl | rfl | rfl | rfl
    · refine ⟨?_, fun i hi => ?_⟩
      · show ByteArray.size inpS = (ByteArray.empty ++ inpS).size
        rw [ByteArray.size_append]; rfl
      · show bytesAt inpS i = bytesAt (ByteArray.empty ++ inpS) i
        rw [append_bytes (by have : i < ByteArray.size inpS := hi; show i < 0 + _; omega), if_neg (by show ¬ i < 0; omega)]
        rfl
    · exact rowIs0
    · exact rowIs0
    · exact rowIs0
  outp i hi := by
    have : i = 0 ∨ i = 1 ∨ i = 2 ∨ i = 3 := by omega
    rcases this with rfl | rfl | rfl | rfl <;> exact rowIs0
  typed i hi := by
    have : i = 0 ∨ i = 1 ∨ i = 2 ∨ i = 3 := by omega
    rcases this with rfl | rfl | rfl | rfl <;> rfl
  few i hi := by
    have : i = 0 ∨ i = 1 ∨ i = 2 ∨ i = 3 := by omega
    rcases this with rfl | rfl | rfl | rfl <;> exact Nat.zero_le _
  byte := hm
  bare := rfl
def sDoK {α : Type} : Sg_z5 α := fun b s a n kind value level v k => cond (decide (0 ≤ a) && (decide (a < 18446744073709551616) && (Nat.ble (b.ports 0).outp.n 64 && (Nat.ble (b.ports 1).outp.n 64 && (Nat.ble (b.ports 2).outp.n 64 && Nat.ble (b.ports 3).outp.n 64)))))
  (k (doB b s a n kind value level v).1 (doB b s a n kind value level v).2.1 (doB b s a n kind value level v).2.2.1 (doB b s a n kind value level v).2.2.2) none
theorem doK_some {α : Type} {b : GBus} {s : GState} {a n kind value level : Int} {v : Bool} {k : GBus → Int → GFault → Bool → R α} {r : α} (h : sDoK b s a n kind value level v k = some r) : (W64 a ∧ Few b) ∧ k (doB b s a n kind value level v).1 (doB b s a n kind value level v).2.1 (doB b s a n kind value level v).2.2.1 (doB b s a n kind value level v).2.2.2 = some r := by
  unfold sDoK at h
  cases hb : (decide (0 ≤ a) && (decide (a < 18446744073709551616) && (Nat.ble (b.ports 0).outp.n 64 && (Nat.ble (b.ports 1).outp.n 64 && (Nat.ble (b.ports 2).outp.n 64 && Nat.ble (b.ports 3).outp.n 64))))) <;> rw [hb] at h
  · cases h
  · simp only [Bool.and_eq_true, decide_eq_true_eq, Nat.ble_eq] at hb
    obtain ⟨h1, h2, h3, h4, h5, h6⟩ := hb
    refine ⟨⟨⟨h1, h2⟩, fun i hi => ?_⟩, h⟩
    have : i = 0 ∨ i = 1 ∨ i = 2 ∨ i = 3 := by omega
    rcases this with rfl | rfl | rfl | rfl <;> assumption
theorem doK_eq {α : Type} {b : GBus} {a : Int} (ha : W64 a) (hb : Few b) (s : GState) (n kind value level : Int) (v : Bool) (k : GBus → Int → GFault → Bool → R α) : sDoK b s a n kind value level v k = k (doB b s a n kind value level v).1 (doB b s a n kind value level v).2.1 (doB b s a n kind value level v).2.2.1 (doB b s a n kind value level v).2.2.2 := by
  unfold sDoK
  have : (decide (0 ≤ a) && (decide (a < 18446744073709551616) && (Nat.ble (b.ports 0).outp.n 64 && (Nat.ble (b.ports 1).outp.n 64 && (Nat.ble (b.ports 2).outp.n 64 && Nat.ble (b.ports 3).outp.n 64))))) = true := by
    simp only [Bool.and_eq_true, decide_eq_true_eq, Nat.ble_eq]
    exact ⟨ha.1, ha.2, hb 0 (by omega), hb 1 (by omega), hb 2 (by omega), hb 3 (by omega)⟩
  rw [this]; rfl
theorem w64_le {a : Int} (h : 0 ≤ a ∧ a ≤ 18446744073709551615) : W64 a := ⟨h.1, by omega⟩
def sKnown17 {α : Type} : Sg_z1i α := fun k => k true
def sFew17 {α : Type} : Sg_z1m α := fun l k => k (leB ((l.2.2.1 : Nat) : Int) 60)
noncomputable def sTells17 {α : Type} : Sg_z1r α := fun l _ a _ kind value _ _ k => grd (rowOk l ∧ W64 a ∧ 0 ≤ kind ∧ W64 value) (k true)
theorem mod3 {kind : Int} (h : 0 ≤ kind) : K3 (IntKind.i64.wrap (Int.tmod kind 3)) := by
  rw [Int.tmod_eq_emod_of_nonneg h, wrap_i64 (by omega) (by omega)]
  have : 0 ≤ kind % 3 ∧ kind % 3 < 3 := by omega
  show kind % 3 = 0 ∨ kind % 3 = 1 ∨ kind % 3 = 2
  omega
theorem accR_at {r : GRBus} {s : GState} {a n kind value level : Int} {v : Bool} (ha : W64 a) : W64 (accR r s a n kind value level v false).2.at_ := by
  unfold accR
  have ht : W64 (trX r.m s a kind level v false).to := transA_w64 ha
  split
  · exact zero_w64
  split
  · exact zero_w64
  split
  · exact zero_w64
  unfold atR
  split
  · exact ht
  split
  · split <;> exact ht
  · split <;> exact ht
theorem tells17_eq {α : Type} {l : Bool × Addr × Nat × Nat × (Nat → Int × Int × Unit)} (hw : rowOk l) (s : GState) {a : Int} (ha : W64 a) (n : Int) {kind : Int} (hk : 0 ≤ kind) {value : Int} (hv : W64 value) (user v : Bool) (k : Bool → R α) :
    p_z1r sKnown17 sFew17 sBoth17 sClean sDoK sRAcc sLike l s a n kind value user v k = k true := by
  unfold p_z1r sKnown17 sFew17
  simp only [Bool.not_true, cond_false]
  by_cases hl : l.2.2.1 ≤ 60
  case neg =>
    have : leB ((l.2.2.1 : Nat) : Int) 60 = false := by simp [leB]; omega
    rw [this]; rfl
  have hl2 : leB ((l.2.2.1 : Nat) : Int) 60 = true := by simp only [leB_true]; omega
  simp only [hl2, Bool.not_true, cond_false]
  unfold sBoth17
  rw [grd_pos ⟨hl, hw⟩]
  have hm : ByteF (memL l) := putW_byte' zero_byte _ fun i hi => (hw i hi).2
  have hR := busI_rel hm
  unfold sClean
  have hC := cleanW_w s
  have hK := mod3 hk
  have key : ∀ level : Int, (sDoK (nB (busI (memL l))) (cleanW s) a n (IntKind.i64.wrap (Int.tmod kind 3)) value level v fun y10 r11 r12 r13 =>
      sRAcc (nR (rbusI (memL l))) (cleanW s) a n (IntKind.i64.wrap (Int.tmod kind 3)) value level v false fun y16 r17 =>
      cond (r11 == r17.v) (cond ((r12.Cause == r17.f.Cause) && ((r12.Value == r17.f.Value) && ((r12.Place == r17.f.Place) && ((r12.GVA == r17.f.GVA) && true)))) (cond (r13 == r17.ok)
        (gN (y10.ports 0).inp.n (y10.ports 0).inp.n (gN (y10.ports 0).outp.n (y10.ports 0).outp.n (gN (y10.ports 1).inp.n (y10.ports 1).inp.n (gN (y10.ports 1).outp.n (y10.ports 1).outp.n (gN (y10.ports 2).inp.n (y10.ports 2).inp.n (gN (y10.ports 2).outp.n (y10.ports 2).outp.n (gN (y10.ports 3).inp.n (y10.ports 3).inp.n (gN (y10.ports 3).outp.n (y10.ports 3).outp.n
          (sLike (nB y10) (nR y16) r17.at_ fun _ _ r23 => k r23))))))))) (k false)) (k false)) (k false)) = k true := by
    intro level
    have hR2 := hR.norm
    rw [doK_eq ha hR2.few]
    unfold sRAcc
    rw [grd_pos ⟨hR2.m ▸ hR2.byte, ha, hv, hR2.fewR, hC, hK, transA_w64 ha⟩]
    obtain ⟨q1, q2⟩ := acc_rel hR2 (cleanW s) a n (IntKind.i64.wrap (Int.tmod kind 3)) hv level v
    have hat : W64 (accR (nR (rbusI (memL l))) (cleanW s) a n (IntKind.i64.wrap (Int.tmod kind 3)) value level v false).2.at_ := accR_at ha
    generalize doB (nB (busI (memL l))) (cleanW s) a n (IntKind.i64.wrap (Int.tmod kind 3)) value level v = D at q1 q2 ⊢
    generalize accR (nR (rbusI (memL l))) (cleanW s) a n (IntKind.i64.wrap (Int.tmod kind 3)) value level v false = E at q1 q2 hat ⊢
    rw [q2.v, q2.f, q2.ok]
    simp only [GN, gN_self, beq_self_eq_true, cond_true]
    unfold sLike
    rw [grd_pos ⟨q1.norm, hat⟩]
    rfl
  dsimp only
  cases user
  · have := key 1
    simp only [GN, gN_self] at this ⊢
    exact this
  · have := key 0
    simp only [GN, gN_self] at this ⊢
    exact this
end Go.Sh
