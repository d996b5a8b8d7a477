/-
  The document's first walk, whole.
-/
import Derived.Test.YtemkfjnmaljmeaaGreatSpR12b
set_option linter.unusedSimpArgs false
set_option linter.unusedVariables false
namespace Go.Sh
open Go
theorem FirstOk.g {T : Int × Int} {last : Int} {y : GFault} {kind e fr : Int} (h : T.2 = 3) : FirstOk T last y kind e fr false ⟨c3 20 21 23 kind, y.Value, IntKind.u64.wrap (last.tdiv 4), y.GVA⟩ :=
  ⟨fun h0 => by omega, fun h0 => by omega, fun _ => ⟨rfl, rfl⟩, fun h0 => by omega, by omega⟩
theorem FirstOk.b {T : Int × Int} {last : Int} {y : GFault} {kind e fr : Int} (h : T.2 = 4) : FirstOk T last y kind e fr false ⟨c3 1 5 7 kind, y.Value, y.Place, y.GVA⟩ :=
  ⟨fun h0 => by omega, fun h0 => by omega, fun h0 => by omega, fun _ => ⟨rfl, rfl⟩, by omega⟩
theorem FirstOk.p {T : Int × Int} {last : Int} {y : GFault} {kind e fr : Int} (h : T.2 = 1) : FirstOk T last y kind e fr false ⟨c3 12 13 15 kind, y.Value, y.Place, y.GVA⟩ :=
  ⟨fun h0 => by omega, fun _ => ⟨rfl, rfl⟩, fun h0 => by omega, fun h0 => by omega, by omega⟩
theorem FirstOk.z {T : Int × Int} {last : Int} {y : GFault} {kind e fr : Int} (h : T.2 = 0) (h1 : W64 e) (h2 : e % 256 = T.1 % 256) (h3 : W64 T.1) (h4 : fr = frameS T.1) : FirstOk T last y kind e fr true y :=
  ⟨fun _ => ⟨rfl, h1, h2, h3, h4, rfl⟩, fun h0 => by omega, fun h0 => by omega, fun h0 => by omega, by omega⟩
set_option maxHeartbeats 4000000 in
theorem rFirst_w {f : Nat → Int} (hf : ByteF f) {a : GAsking} (hr : 0 ≤ a.Root ∧ a.Root < 256) {at_ : Int} (ha : W64 at_) (hl : at_ < 65536) {kind : Int} (hk : K3 kind) (y2 : GFault) :
    ∃ w : Int × Int × Bool × GFault × Bool × Nat × (Nat → Int), (∀ {α : Type} (y0 : Int) (y1 : GEntry) (y3 : Bool) (k : Int → Int → Bool → Int → GEntry → GFault → Bool → Bool → Nat → (Nat → Int) → R α), p_z1e sRGuest sRGF sRBad sRCode sRRead sRIsW sRPage sRLeafW sRFrame f a at_ kind y0 y1 y2 y3 k = k w.1 w.2.1 w.2.2.1 y0 y1 w.2.2.2.1 y3 w.2.2.2.2.1 w.2.2.2.2.2.1 w.2.2.2.2.2.2) ∧ (w.2.2.2.2.2.1 ≤ 6 ∧ (w.2.2.2.2.1 = false → 0 < w.2.2.2.2.2.1)) ∧
      FirstOk (thr (rdr f a.Second a.Host) a.Root at_) (lastR (rdr f a.Second a.Host) a.Root at_) y2 kind w.1 w.2.1 w.2.2.1 w.2.2.2.1 := by
  have hbig : leB 65536 at_ = false := by simp [leB]; omega
  obtain ⟨⟨l0, l1⟩, m0, m1⟩ := low4 ha
  have c1 : bitsS at_ 12 4 = bitop .and .u64 (gshr .u64 at_ 12) 15 := rfl
  have c2 : bitsS at_ 8 4 = bitop .and .u64 (gshr .u64 at_ 8) 15 := rfl
  unfold p_z1e thr lastR
  simp only [sRGuest, sRGF, sRBad, sRPage, sRFrame, grd_pos hk, c1, c2, hbig, cond_false]
  generalize bitop .and .u64 (gshr .u64 at_ 12) 15 = hi at *
  generalize bitop .and .u64 (gshr .u64 at_ 8) 15 = lo at *
  have wlo : IntKind.i64.wrap lo = lo := wrap_i64 (by omega) (by omega)
  have whi : IntKind.i64.wrap hi = hi := wrap_i64 (by omega) (by omega)
  have wlu : IntKind.u64.wrap lo = lo := wrap_u64 (by omega) (by omega)
  have k1 : K3 1 := .inr (.inl rfl)
  have pw : W64 (placeS a.Root hi) := by rw [placeS_eq hr.1 hr.2 m0 m1]; exact ⟨by omega, by omega⟩
  have g1 := (gkR_spec hf (a := a) pw k1 false).1
  simp only [placeR hr.1 hr.2 m0 m1, wlo, whi, grd_pos (show ByteF f ∧ W64 (placeS a.Root hi) ∧ K3 1 from ⟨hf, pw, k1⟩), Bool.false_eq_true, if_false]
  generalize gkR f a (placeS a.Root hi) 1 false = G1 at g1 ⊢
  obtain ⟨nl1, n1, tf1⟩ := G1
  simp only at g1 ⊢
  have e11 : ((1 : Int) == 1) = true := rfl
  have e21 : ((2 : Int) == 1) = false := rfl
  have e22 : ((2 : Int) == 2) = true := rfl
  have e01 : ((0 : Int) == 1) = false := rfl
  have e02 : ((0 : Int) == 2) = false := rfl
  have n00 : ((0 : Int) != 0) = false := rfl
  have n30 : ((3 : Int) != 0) = true := rfl
  have n40 : ((4 : Int) != 0) = true := rfl
  have hn1 : (nl1 = true) ∨ (nl1 = false ∧ n1 = 0) ∨ (nl1 = false ∧ n1 ≠ 0) := by cases nl1 <;> by_cases n1 = 0 <;> simp_all
  have r1 : (decide (n1 * 8 ≤ 140737488355328) && decide (n1 ≤ 4611686018427387904)) = true := room_ok (by omega)
  have r1' : (decide ((n1 + 1) * 8 ≤ 140737488355328) && decide (n1 + 1 ≤ 4611686018427387904)) = true := room_ok (by omega)
  rcases rdr_eq (f := f) (sec := a.Second) (host := a.Host) hr.1 hr.2 m0 m1 with ⟨q1, q2⟩ | ⟨q1, q2⟩ | ⟨q1, q2, q3, q4⟩ | ⟨q1, q2, q3, q4⟩
  · simp only [q1, q2, e11, n30, cond_true, zle]
    rcases hn1 with rfl | ⟨rfl, rfl⟩ | ⟨rfl, hn⟩
    · exact ⟨(_, _, _, _, _, _, _), fun _ _ _ _ => rfl, (by refine ⟨by (try dsimp only); omega, fun h => ?_⟩; first | (cases h; done) | ((try dsimp only at h ⊢); first | (cases h; done) | omega)), .g rfl⟩
    · exact ⟨(_, _, _, _, _, _, _), fun _ _ _ _ => rfl, (by refine ⟨by (try dsimp only); omega, fun h => ?_⟩; first | (cases h; done) | ((try dsimp only at h ⊢); first | (cases h; done) | omega)), .g rfl⟩
    · simp only [nb1 hn, r1, Nat.beq_refl, cond_true, cond_false]
      exact ⟨(_, _, _, _, _, _, _), fun _ _ _ _ => rfl, (by refine ⟨by (try dsimp only); omega, fun h => ?_⟩; first | (cases h; done) | ((try dsimp only at h ⊢); first | (cases h; done) | omega)), .g rfl⟩
  · simp only [q1, q2, e21, e22, n40, cond_true, cond_false, zle]
    rcases hn1 with rfl | ⟨rfl, rfl⟩ | ⟨rfl, hn⟩
    · exact ⟨(_, _, _, _, _, _, _), fun _ _ _ _ => rfl, (by refine ⟨by (try dsimp only); omega, fun h => ?_⟩; first | (cases h; done) | ((try dsimp only at h ⊢); first | (cases h; done) | omega)), .b rfl⟩
    · exact ⟨(_, _, _, _, _, _, _), fun _ _ _ _ => rfl, (by refine ⟨by (try dsimp only); omega, fun h => ?_⟩; first | (cases h; done) | ((try dsimp only at h ⊢); first | (cases h; done) | omega)), .b rfl⟩
    · simp only [nb1 hn, r1, Nat.beq_refl, cond_true, cond_false]
      exact ⟨(_, _, _, _, _, _, _), fun _ _ _ _ => rfl, (by refine ⟨by (try dsimp only); omega, fun h => ?_⟩; first | (cases h; done) | ((try dsimp only at h ⊢); first | (cases h; done) | omega)), .b rfl⟩
  · have q5 : (checkS (secondS f a.Second a.Host (placeS a.Root hi) 1).1 8 != 0) = true := by simpa using q3
    simp only [q1, q4, sRCode, grd_pos q2, q5, e01, e02, n40, cond_true, cond_false, zle]
    rcases hn1 with rfl | ⟨rfl, rfl⟩ | ⟨rfl, hn⟩
    · exact ⟨(_, _, _, _, _, _, _), fun _ _ _ _ => rfl, (by refine ⟨by (try dsimp only); omega, fun h => ?_⟩; first | (cases h; done) | ((try dsimp only at h ⊢); first | (cases h; done) | omega)), .b rfl⟩
    · exact ⟨(_, _, _, _, _, _, _), fun _ _ _ _ => rfl, (by refine ⟨by (try dsimp only); omega, fun h => ?_⟩; first | (cases h; done) | ((try dsimp only at h ⊢); first | (cases h; done) | omega)), .b rfl⟩
    · simp only [nb1 hn, r1, Nat.beq_refl, cond_true, cond_false]
      exact ⟨(_, _, _, _, _, _, _), fun _ _ _ _ => rfl, (by refine ⟨by (try dsimp only); omega, fun h => ?_⟩; first | (cases h; done) | ((try dsimp only at h ⊢); first | (cases h; done) | omega)), .b rfl⟩
  · have q5 : (checkS (secondS f a.Second a.Host (placeS a.Root hi) 1).1 8 != 0) = false := by simpa using q3
    have he := readS_w64 f (secondS f a.Second a.Host (placeS a.Root hi) 1).1 8
    simp only [q1, q4, sRCode, sRRead, grd_pos q2, grd_pos (show ByteF f ∧ 0 ≤ (secondS f a.Second a.Host (placeS a.Root hi) 1).1 ∧ checkS (secondS f a.Second a.Host (placeS a.Root hi) 1).1 8 = 0 from ⟨hf, q2.1, q3⟩), q5, e01, e02, n00, cond_true, cond_false, zle]
    generalize readS f (secondS f a.Second a.Host (placeS a.Root hi) 1).1 8 = e at he ⊢
    generalize IntKind.i64.wrap (gshr .u64 (secondS f a.Second a.Host (placeS a.Root hi) 1).1 8) = tb
    simp only [sRIsW, sRLeafW, grd_pos he]
    cases h3 : isS e
    case false =>
      simp only [Bool.not_false, cond_true]
      rcases hn1 with rfl | ⟨rfl, rfl⟩ | ⟨rfl, hn⟩
      · exact ⟨(_, _, _, _, _, _, _), fun _ _ _ _ => rfl, (by refine ⟨by (try dsimp only); omega, fun h => ?_⟩; first | (cases h; done) | ((try dsimp only at h ⊢); first | (cases h; done) | omega)), .p rfl⟩
      · exact ⟨(_, _, _, _, _, _, _), fun _ _ _ _ => rfl, (by refine ⟨by (try dsimp only); omega, fun h => ?_⟩; first | (cases h; done) | ((try dsimp only at h ⊢); first | (cases h; done) | omega)), .p rfl⟩
      · simp only [nb1 hn, r1, r1', Nat.beq_refl, cond_true, cond_false, zle]
        exact ⟨(_, _, _, _, _, _, _), fun _ _ _ _ => rfl, (by refine ⟨by (try dsimp only); omega, fun h => ?_⟩; first | (cases h; done) | ((try dsimp only at h ⊢); first | (cases h; done) | omega)), .p rfl⟩
    simp only [Bool.not_true, cond_false]
    have hlt := isS_lt he h3
    cases h4 : leafS e
    case true =>
      simp only [Bool.not_true, cond_false, cond_true]
      have b1 : bitsS e 8 4 = e / 256 % 16 := (bits4 he).2
      have b2 : bitop .and .i64 (frameS e) 15 = e / 256 % 16 := by
        rw [frameS_eq he]
        have h := byte_all (p := fun b => bitop .and .i64 b 15 == b % 16) (by kernel_rfl) (b := e / 256 % 256) (by omega) (by omega)
        simp only [beq_iff_eq] at h
        rw [h]; omega
      rw [b1, b2]
      cases h5 : (e / 256 % 16 != 0)
      case true =>
        simp only [cond_true]
        rcases hn1 with rfl | ⟨rfl, rfl⟩ | ⟨rfl, hn⟩
        · exact ⟨(_, _, _, _, _, _, _), fun _ _ _ _ => rfl, (by refine ⟨by (try dsimp only); omega, fun h => ?_⟩; first | (cases h; done) | ((try dsimp only at h ⊢); first | (cases h; done) | omega)), .p rfl⟩
        · exact ⟨(_, _, _, _, _, _, _), fun _ _ _ _ => rfl, (by refine ⟨by (try dsimp only); omega, fun h => ?_⟩; first | (cases h; done) | ((try dsimp only at h ⊢); first | (cases h; done) | omega)), .p rfl⟩
        · simp only [nb1 hn, r1, r1', Nat.beq_refl, cond_true, cond_false, zle]
          exact ⟨(_, _, _, _, _, _, _), fun _ _ _ _ => rfl, (by refine ⟨by (try dsimp only); omega, fun h => ?_⟩; first | (cases h; done) | ((try dsimp only at h ⊢); first | (cases h; done) | omega)), .p rfl⟩
      simp only [cond_false]
      have hz : e / 256 % 16 = 0 := by simpa using h5
      obtain ⟨s1, s2, s3⟩ := set_low he.1 hlt hz l0 l1
      rw [s1, s2, s3]
      have z1 : W64 (e + lo * 256) := ⟨by omega, by omega⟩
      have z2 : e % 256 = (e + lo * 256) % 256 := by omega
      rcases hn1 with rfl | ⟨rfl, rfl⟩ | ⟨rfl, hn⟩
      · exact ⟨(_, _, _, _, _, _, _), fun _ _ _ _ => rfl, (by refine ⟨by (try dsimp only); omega, fun h => ?_⟩; first | (cases h; done) | ((try dsimp only at h ⊢); first | (cases h; done) | omega)), .z rfl he z2 z1 rfl⟩
      · exact ⟨(_, _, _, _, _, _, _), fun _ _ _ _ => rfl, (by refine ⟨by (try dsimp only); omega, fun h => ?_⟩; first | (cases h; done) | ((try dsimp only at h ⊢); first | (cases h; done) | omega)), .z rfl he z2 z1 rfl⟩
      · simp only [nb1 hn, r1, r1', Nat.beq_refl, cond_true, cond_false, zle]
        exact ⟨(_, _, _, _, _, _, _), fun _ _ _ _ => rfl, (by refine ⟨by (try dsimp only); omega, fun h => ?_⟩; first | (cases h; done) | ((try dsimp only at h ⊢); first | (cases h; done) | omega)), .z rfl he z2 z1 rfl⟩
    simp only [Bool.not_false, cond_true, cond_false]
    obtain ⟨f0, f1⟩ := frameS_bd e
    have pw2 : W64 (placeS (frameS e) lo) := by rw [placeS_eq f0 f1 l0 l1]; exact ⟨by omega, by omega⟩
    have g2 := (gkR_spec hf (a := a) pw2 k1 false).1
    simp only [placeR f0 f1 l0 l1, grd_pos (show ByteF f ∧ W64 (placeS (frameS e) lo) ∧ K3 1 from ⟨hf, pw2, k1⟩), Bool.false_eq_true, if_false]
    generalize gkR f a (placeS (frameS e) lo) 1 false = G2 at g2 ⊢
    obtain ⟨nl2, n2, tf2⟩ := G2
    simp only at g2 ⊢
    have hn2 : (nl2 = true) ∨ (nl2 = false ∧ n2 = 0) ∨ (nl2 = false ∧ n2 ≠ 0) := by cases nl2 <;> by_cases n2 = 0 <;> simp_all
    have s1 : (decide ((1 + n2) * 8 ≤ 140737488355328) && decide (1 + n2 ≤ 4611686018427387904)) = true := room_ok (by omega)
    have s2 : (decide ((1 + n2 + 1) * 8 ≤ 140737488355328) && decide (1 + n2 + 1 ≤ 4611686018427387904)) = true := room_ok (by omega)
    have s3 : (decide ((n1 + 1 + n2) * 8 ≤ 140737488355328) && decide (n1 + 1 + n2 ≤ 4611686018427387904)) = true := room_ok (by omega)
    have s4 : (decide ((n1 + 1 + n2 + 1) * 8 ≤ 140737488355328) && decide (n1 + 1 + n2 + 1 ≤ 4611686018427387904)) = true := room_ok (by omega)
    have s5 : (decide ((n1 + 1 + 1) * 8 ≤ 140737488355328) && decide (n1 + 1 + 1 ≤ 4611686018427387904)) = true := room_ok (by omega)
    rcases rdr_eq (f := f) (sec := a.Second) (host := a.Host) f0 f1 l0 l1 with ⟨q1, q2⟩ | ⟨q1, q2⟩ | ⟨q1, q2, q3, q4⟩ | ⟨q1, q2, q3, q4⟩
    · simp only [q1, q2, e11, n30, cond_true, zle]
      rcases hn1 with rfl | ⟨rfl, rfl⟩ | ⟨rfl, hn⟩ <;> rcases hn2 with rfl | ⟨rfl, rfl⟩ | ⟨rfl, hm⟩ <;> (try have hn := hn) <;> simp only [nb1, *, ne_eq, not_false_eq_true, Nat.beq_refl, cond_true, cond_false, zle] <;> exact ⟨(_, _, _, _, _, _, _), fun _ _ _ _ => rfl, (by refine ⟨by (try dsimp only); omega, fun h => ?_⟩; first | (cases h; done) | ((try dsimp only at h ⊢); first | (cases h; done) | omega)), .g rfl⟩
    · simp only [q1, q2, e21, e22, n40, cond_true, cond_false, zle]
      rcases hn1 with rfl | ⟨rfl, rfl⟩ | ⟨rfl, hn⟩ <;> rcases hn2 with rfl | ⟨rfl, rfl⟩ | ⟨rfl, hm⟩ <;> (try have hn := hn) <;> simp only [nb1, *, ne_eq, not_false_eq_true, Nat.beq_refl, cond_true, cond_false, zle] <;> exact ⟨(_, _, _, _, _, _, _), fun _ _ _ _ => rfl, (by refine ⟨by (try dsimp only); omega, fun h => ?_⟩; first | (cases h; done) | ((try dsimp only at h ⊢); first | (cases h; done) | omega)), .b rfl⟩
    · have q5 : (checkS (secondS f a.Second a.Host (placeS (frameS e) lo) 1).1 8 != 0) = true := by simpa using q3
      simp only [q1, q4, grd_pos q2, q5, e01, e02, n40, cond_true, cond_false, zle]
      rcases hn1 with rfl | ⟨rfl, rfl⟩ | ⟨rfl, hn⟩ <;> rcases hn2 with rfl | ⟨rfl, rfl⟩ | ⟨rfl, hm⟩ <;> (try have hn := hn) <;> simp only [nb1, *, ne_eq, not_false_eq_true, Nat.beq_refl, cond_true, cond_false, zle] <;> exact ⟨(_, _, _, _, _, _, _), fun _ _ _ _ => rfl, (by refine ⟨by (try dsimp only); omega, fun h => ?_⟩; first | (cases h; done) | ((try dsimp only at h ⊢); first | (cases h; done) | omega)), .b rfl⟩
    · have q5 : (checkS (secondS f a.Second a.Host (placeS (frameS e) lo) 1).1 8 != 0) = false := by simpa using q3
      have he2 := readS_w64 f (secondS f a.Second a.Host (placeS (frameS e) lo) 1).1 8
      simp only [q1, q4, grd_pos q2, grd_pos (show ByteF f ∧ 0 ≤ (secondS f a.Second a.Host (placeS (frameS e) lo) 1).1 ∧ checkS (secondS f a.Second a.Host (placeS (frameS e) lo) 1).1 8 = 0 from ⟨hf, q2.1, q3⟩), q5, e01, e02, n00, cond_true, cond_false, zle]
      generalize readS f (secondS f a.Second a.Host (placeS (frameS e) lo) 1).1 8 = e2 at he2 ⊢
      generalize IntKind.i64.wrap (gshr .u64 (secondS f a.Second a.Host (placeS (frameS e) lo) 1).1 8) = tb2
      simp only [grd_pos he2]
      cases h7 : leafS e2
      case false =>
        cases h8 : isS e2 <;> simp only [Bool.not_true, Bool.not_false, cond_true, cond_false] <;>
          rcases hn1 with rfl | ⟨rfl, rfl⟩ | ⟨rfl, hn⟩ <;> rcases hn2 with rfl | ⟨rfl, rfl⟩ | ⟨rfl, hm⟩ <;> (try have hn := hn) <;> simp only [nb1, *, ne_eq, not_false_eq_true, Nat.beq_refl, cond_true, cond_false, zle] <;> exact ⟨(_, _, _, _, _, _, _), fun _ _ _ _ => rfl, (by refine ⟨by (try dsimp only); omega, fun h => ?_⟩; first | (cases h; done) | ((try dsimp only at h ⊢); first | (cases h; done) | omega)), .p rfl⟩
      have h8 : isS e2 = true := by unfold leafS at h7; simp only [Bool.and_eq_true] at h7; exact h7.1
      simp only [h8, Bool.not_true, cond_true, cond_false]
      rcases hn1 with rfl | ⟨rfl, rfl⟩ | ⟨rfl, hn⟩ <;> rcases hn2 with rfl | ⟨rfl, rfl⟩ | ⟨rfl, hm⟩ <;> (try have hn := hn) <;> simp only [nb1, *, ne_eq, not_false_eq_true, Nat.beq_refl, cond_true, cond_false, zle] <;> exact ⟨(_, _, _, _, _, _, _), fun _ _ _ _ => rfl, (by refine ⟨by (try dsimp only); omega, fun h => ?_⟩; first | (cases h; done) | ((try dsimp only at h ⊢); first | (cases h; done) | omega)), .z rfl he2 rfl he2 rfl⟩
end Go.Sh
