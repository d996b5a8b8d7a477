/-
  The document's walks through two tables tell what the program's do.
-/
import Derived.Test.YtemkfjnmaljmeaaGreatSpR12
set_option linter.unusedSimpArgs false
set_option linter.unusedVariables false
namespace Go.Sh
open Go
theorem rWalk_w {f : Nat → Int} (hf : ByteF f) {at_ : Int} (ha : W64 at_) (root : Int) : ∃ w : Int × Bool × Nat × (Nat → Int), (w.2.2.1 ≤ 2 ∧ (w.2.1 = false → 0 < w.2.2.1)) ∧ ((walkS f root at_).2 = 0 → w.1 = frameS (walkS f root at_).1) ∧
    ∀ {α : Type} (k : Int → Int → Int → Bool → Nat → (Nat → Int) → R α), p_z1d sREntry sRIsW sRLeafW sRFrame f root at_ k = k (walkS f root at_).1 w.1 (walkS f root at_).2 w.2.1 w.2.2.1 w.2.2.2 := by
  obtain ⟨fr, nl, n, tf, h1, h2, h3⟩ := rWalk_ex hf ha root
  exact ⟨(fr, nl, n, tf), h1, h2, h3⟩
open Classical in
noncomputable def wkR (f : Nat → Int) (root at_ : Int) : Int × Bool × Nat × (Nat → Int) := if h : ByteF f ∧ W64 at_ then Classical.choose (rWalk_w h.1 h.2 root) else (0, true, 0, fun _ => 0)
theorem wkR_spec {f : Nat → Int} (hf : ByteF f) {at_ : Int} (ha : W64 at_) (root : Int) : ((wkR f root at_).2.2.1 ≤ 2 ∧ ((wkR f root at_).2.1 = false → 0 < (wkR f root at_).2.2.1)) ∧ ((walkS f root at_).2 = 0 → (wkR f root at_).1 = frameS (walkS f root at_).1) ∧
    ∀ {α : Type} (k : Int → Int → Int → Bool → Nat → (Nat → Int) → R α), p_z1d sREntry sRIsW sRLeafW sRFrame f root at_ k = k (walkS f root at_).1 (wkR f root at_).1 (walkS f root at_).2 (wkR f root at_).2.1 (wkR f root at_).2.2.1 (wkR f root at_).2.2.2 := by
  unfold wkR
  rw [dif_pos ⟨hf, ha⟩]
  exact Classical.choose_spec (rWalk_w hf ha root)
noncomputable def sRWalk {α : Type} : Sg_z1d α := fun f root at_ k => grd (ByteF f ∧ W64 at_) (k (walkS f root at_).1 (wkR f root at_).1 (walkS f root at_).2 (wkR f root at_).2.1 (wkR f root at_).2.2.1 (wkR f root at_).2.2.2)
abbrev K3 (kind : Int) : Prop := kind = 0 ∨ kind = 1 ∨ kind = 2
theorem leafBits_bd (e : Int) : 0 ≤ leafBits e ∧ leafBits e < 256 := by
  have h0 : zextS e 8 = bitop .and .u64 e 255 := rfl
  have h1 : bitop .and .u64 e 255 = ((BitVec.ofInt 64 e &&& BitVec.ofInt 64 255).toNat : Int) % 18446744073709551616 := by
    show IntKind.u64.wrap _ = _
    rw [wrap_u64_mod]; rfl
  have h2 : (BitVec.ofInt 64 e &&& BitVec.ofInt 64 255).toNat ≤ 255 := by
    rw [BitVec.toNat_and]
    exact Nat.le_trans Nat.and_le_right (by decide)
  unfold leafBits
  rw [h0, h1]
  rw [wrap_i64 (by omega) (by omega)]
  omega
theorem rGuest_w {f : Nat → Int} (hf : ByteF f) {a : GAsking} {place : Int} (hp : W64 place) {kind : Int} (hk : K3 kind) (exec : Bool) : ∃ w : Bool × Nat × (Nat → Int), (w.2.1 ≤ 2 ∧ (w.1 = false → 0 < w.2.1)) ∧
    ∀ {α : Type} (k : Int → Int → Int → Bool → Nat → (Nat → Int) → R α), p_zm sRWalk sRmay f a place kind exec k = k (secondS f a.Second a.Host place (if exec then 0 else kind)).1 (secondS f a.Second a.Host place (if exec then 0 else kind)).2.1 (secondS f a.Second a.Host place (if exec then 0 else kind)).2.2 w.1 w.2.1 w.2.2 := by
  unfold p_zm secondS sRWalk sRmay
  have lb := leafBits_bd (walkS f a.Host place).1
  have e1 : IntKind.i64.wrap (bitop .and .u64 (walkS f a.Host place).1 255) = leafBits (walkS f a.Host place).1 := rfl
  have e2 : ∀ fr, bitop .or .u64 (gshl .u64 (IntKind.u64.wrap fr) 8) (bitop .and .u64 place 255) = joinS fr place := fun _ => rfl
  simp only [e1, e2, grd_pos (show ByteF f ∧ W64 place from ⟨hf, hp⟩), grd_pos (show (0 ≤ leafBits (walkS f a.Host place).1 ∧ leafBits (walkS f a.Host place).1 < 256) ∧ (kind = 0 ∨ kind = 1 ∨ kind = 2) from ⟨lb, hk⟩), Nat.beq_refl]
  obtain ⟨w1, w2, _⟩ := wkR_spec hf hp a.Host
  have big : leB 65536 place = true → (walkS f a.Host place) = (0, 1) := fun h => by
    unfold walkS thr; rw [h]; rfl
  cases h1 : leB 65536 place
  case true =>
    rw [big h1]
    cases h2 : a.Second
    · exact ⟨(_, _, _), (by refine ⟨by (try dsimp only); omega, fun h => ?_⟩; first | (cases h; done) | ((try dsimp only at h ⊢); first | (cases h; done) | omega)), fun k => rfl⟩
    · exact ⟨(_, _, _), (by refine ⟨by (try dsimp only); omega, fun h => ?_⟩; first | (cases h; done) | ((try dsimp only at h ⊢); first | (cases h; done) | omega)), fun k => rfl⟩
  cases h2 : a.Second
  case false => exact ⟨(_, _, _), (by refine ⟨by (try dsimp only); omega, fun h => ?_⟩; first | (cases h; done) | ((try dsimp only at h ⊢); first | (cases h; done) | omega)), fun k => rfl⟩
  simp only [cond_false, cond_true, Bool.not_true]
  cases h3 : ((walkS f a.Host place).2 != 0)
  case true =>
    cases h4 : (wkR f a.Host place).2.1
    · exact ⟨(false, (wkR f a.Host place).2.2.1, (wkR f a.Host place).2.2.2), ⟨w1.1, fun _ => w1.2 h4⟩, fun k => rfl⟩
    · exact ⟨(_, _, _), (by refine ⟨by (try dsimp only); omega, fun h => ?_⟩; first | (cases h; done) | ((try dsimp only at h ⊢); first | (cases h; done) | omega)), fun k => rfl⟩
  have hz : (walkS f a.Host place).2 = 0 := by simpa using h3
  rw [w2 hz]
  simp only [cond_false]
  cases h5 : mayS (leafBits (walkS f a.Host place).1) (if exec then 0 else kind) true false false
  · cases h4 : (wkR f a.Host place).2.1
    · exact ⟨(false, (wkR f a.Host place).2.2.1, (wkR f a.Host place).2.2.2), ⟨w1.1, fun _ => w1.2 h4⟩, fun k => rfl⟩
    · exact ⟨(_, _, _), (by refine ⟨by (try dsimp only); omega, fun h => ?_⟩; first | (cases h; done) | ((try dsimp only at h ⊢); first | (cases h; done) | omega)), fun k => rfl⟩
  · cases h4 : (wkR f a.Host place).2.1
    · exact ⟨(false, (wkR f a.Host place).2.2.1, (wkR f a.Host place).2.2.2), ⟨w1.1, fun _ => w1.2 h4⟩, fun k => rfl⟩
    · exact ⟨(_, _, _), (by refine ⟨by (try dsimp only); omega, fun h => ?_⟩; first | (cases h; done) | ((try dsimp only at h ⊢); first | (cases h; done) | omega)), fun k => rfl⟩
open Classical in
noncomputable def gkR (f : Nat → Int) (a : GAsking) (place kind : Int) (exec : Bool) : Bool × Nat × (Nat → Int) := if h : ByteF f ∧ W64 place ∧ K3 kind then Classical.choose (rGuest_w h.1 (a := a) h.2.1 h.2.2 exec) else (true, 0, fun _ => 0)
theorem gkR_spec {f : Nat → Int} (hf : ByteF f) {a : GAsking} {place : Int} (hp : W64 place) {kind : Int} (hk : K3 kind) (exec : Bool) : ((gkR f a place kind exec).2.1 ≤ 2 ∧ ((gkR f a place kind exec).1 = false → 0 < (gkR f a place kind exec).2.1)) ∧
    ∀ {α : Type} (k : Int → Int → Int → Bool → Nat → (Nat → Int) → R α), p_zm sRWalk sRmay f a place kind exec k = k (secondS f a.Second a.Host place (if exec then 0 else kind)).1 (secondS f a.Second a.Host place (if exec then 0 else kind)).2.1 (secondS f a.Second a.Host place (if exec then 0 else kind)).2.2 (gkR f a place kind exec).1 (gkR f a place kind exec).2.1 (gkR f a place kind exec).2.2 := by
  unfold gkR
  rw [dif_pos ⟨hf, hp, hk⟩]
  exact Classical.choose_spec (rGuest_w hf (a := a) hp hk exec)
noncomputable def sRGuest {α : Type} : Sg_zm α := fun f a place kind exec k => grd (ByteF f ∧ W64 place ∧ K3 kind) (k (secondS f a.Second a.Host place (if exec then 0 else kind)).1 (secondS f a.Second a.Host place (if exec then 0 else kind)).2.1 (secondS f a.Second a.Host place (if exec then 0 else kind)).2.2 (gkR f a place kind exec).1 (gkR f a place kind exec).2.1 (gkR f a place kind exec).2.2)
theorem rC3 {kind a b c : Int} (hk : K3 kind) : (decide (0 ≤ kind) && decide (kind < 3)) = true ∧ decide (kind.toNat < 3) = true ∧ upd (upd (upd (fun _ => (0 : Int)) 0 a) 1 b) 2 c kind.toNat = c3 a b c kind := by
  rcases hk with rfl | rfl | rfl <;> exact ⟨rfl, rfl, rfl⟩
theorem rPage_eq {α : Type} {kind : Int} (hk : K3 kind) (k : Int → R α) : p_za kind k = k (c3 12 13 15 kind) := by
  unfold p_za
  obtain ⟨h1, h2, h3⟩ := rC3 (a := 12) (b := 13) (c := 15) hk
  rw [h1, h2, h3]; rfl
theorem rGF_eq {α : Type} {kind : Int} (hk : K3 kind) (k : Int → R α) : p_z9 kind k = k (c3 20 21 23 kind) := by
  unfold p_z9
  obtain ⟨h1, h2, h3⟩ := rC3 (a := 20) (b := 21) (c := 23) hk
  rw [h1, h2, h3]; rfl
theorem rBad_eq {α : Type} {kind : Int} (hk : K3 kind) (k : Int → R α) : p_z2 kind k = k (c3 1 5 7 kind) := by
  unfold p_z2
  obtain ⟨h1, h2, h3⟩ := rC3 (a := 1) (b := 5) (c := 7) hk
  rw [h1, h2, h3]; rfl
noncomputable def sRPage {α : Type} : Sg_za α := fun kind k => grd (K3 kind) (k (c3 12 13 15 kind))
noncomputable def sRGF {α : Type} : Sg_z9 α := fun kind k => grd (K3 kind) (k (c3 20 21 23 kind))
noncomputable def sRBad {α : Type} : Sg_z2 α := fun kind k => grd (K3 kind) (k (c3 1 5 7 kind))
theorem walkS_code (f : Nat → Int) (root at_ : Int) : (walkS f root at_).2 = 0 ∨ (walkS f root at_).2 = 1 ∨ (walkS f root at_).2 = 2 := by
  have hw : ∀ fr ix, (wrd f fr ix).2 = 0 ∨ (wrd f fr ix).2 = 2 := fun fr ix => by
    unfold wrd
    cases entryOk fr ix
    · exact .inr rfl
    · exact .inl rfl
  unfold walkS thr
  cases leB 65536 at_ <;> simp only [cond_true, cond_false]
  · rcases hw root (IntKind.i64.wrap (bitsS at_ 12 4)) with h | h
    · rw [h]
      have h0 : ((0 : Int) != 0) = false := rfl
      simp only [h0, cond_false]
      generalize (wrd f root (IntKind.i64.wrap (bitsS at_ 12 4))).1 = e
      cases isS e <;> simp only [Bool.not_true, Bool.not_false, cond_true, cond_false]
      · simp
      cases leafS e <;> simp only [Bool.not_true, Bool.not_false, cond_true, cond_false]
      · rcases hw (frameS e) (IntKind.i64.wrap (bitsS at_ 8 4)) with h2 | h2
        · rw [h2]
          simp only [h0, cond_false]
          generalize (wrd f (frameS e) (IntKind.i64.wrap (bitsS at_ 8 4))).1 = e2
          cases isS e2 <;> simp only [Bool.not_true, Bool.not_false, cond_true, cond_false]
          · simp
          cases leafS e2 <;> simp only [Bool.not_true, Bool.not_false, cond_true, cond_false]
          · simp
          · simp
        · rw [h2]; simp
      · cases (bitsS e 8 4 != 0) <;> simp only [cond_true, cond_false]
        · simp
        · simp
    · rw [h]; simp
  · simp
theorem secondS_code (f : Nat → Int) (sec : Bool) (host place kind : Int) : (secondS f sec host place kind).2.2 = 0 ∨ (secondS f sec host place kind).2.2 = 1 ∨ (secondS f sec host place kind).2.2 = 2 := by
  unfold secondS
  cases sec <;> simp only [Bool.not_true, Bool.not_false, cond_true, cond_false]
  · cases leB 65536 place
    · simp
    · simp
  · cases h : ((walkS f host place).2 != 0) <;> simp only [cond_true, cond_false]
    · cases mayS (leafBits (walkS f host place).1) kind true false false
      · simp
      · simp
    · exact walkS_code f host place
theorem frameS_bd (e : Int) : 0 ≤ frameS e ∧ frameS e < 256 := by
  have h0 : frameS e = IntKind.i64.wrap (bitop .and .u64 (gshr .u64 e 8) 255) := rfl
  have h1 := leafBits_bd (gshr .u64 e 8)
  have h2 : leafBits (gshr .u64 e 8) = IntKind.i64.wrap (bitop .and .u64 (gshr .u64 e 8) 255) := rfl
  rw [h0, ← h2]; exact h1
theorem placeS_eq {fr ix : Int} (h0 : 0 ≤ fr) (h1 : fr < 256) (h2 : 0 ≤ ix) (h3 : ix < 16) : placeS fr ix = fr * 256 + ix * 8 := by
  unfold placeS
  rw [wrap_i64 (n := fr * 256) (by omega) (by omega), wrap_i64 (n := ix * 8) (by omega) (by omega), wrap_i64 (by omega) (by omega)]
  exact wrap_u64 (by omega) (by omega)
theorem second_place {f : Nat → Int} {sec : Bool} {host place kind : Int} (h0 : 0 ≤ place) (h1 : place < 65536) (hc : (secondS f sec host place kind).2.2 = 0) : ∃ fr, 0 ≤ fr ∧ fr < 256 ∧ (secondS f sec host place kind).1 = fr * 256 + place % 256 := by
  have hb : leB 65536 place = false := by simp [leB]; omega
  revert hc
  unfold secondS
  cases sec <;> simp only [Bool.not_true, Bool.not_false, cond_true, cond_false, hb]
  · intro _
    exact ⟨place / 256, by omega, by omega, by omega⟩
  · cases h : ((walkS f host place).2 != 0) <;> simp only [cond_true, cond_false]
    · cases mayS (leafBits (walkS f host place).1) kind true false false
      · intro h; simp at h
      · intro _
        obtain ⟨q0, q1⟩ := frameS_bd (walkS f host place).1
        exact ⟨frameS (walkS f host place).1, q0, q1, joinS_eq q0 (by omega) ⟨h0, by omega⟩⟩
    · intro hc
      rw [hc] at h; simp at h
theorem rdr_eq {f : Nat → Int} {sec : Bool} {host fr ix : Int} (h0 : 0 ≤ fr) (h1 : fr < 256) (h2 : 0 ≤ ix) (h3 : ix < 16) :
    ((secondS f sec host (placeS fr ix) 1).2.2 = 1 ∧ rdr f sec host fr ix = (0, 3)) ∨ ((secondS f sec host (placeS fr ix) 1).2.2 = 2 ∧ rdr f sec host fr ix = (0, 4)) ∨
    ((secondS f sec host (placeS fr ix) 1).2.2 = 0 ∧ W64 (secondS f sec host (placeS fr ix) 1).1 ∧ checkS (secondS f sec host (placeS fr ix) 1).1 8 ≠ 0 ∧ rdr f sec host fr ix = (0, 4)) ∨
    ((secondS f sec host (placeS fr ix) 1).2.2 = 0 ∧ W64 (secondS f sec host (placeS fr ix) 1).1 ∧ checkS (secondS f sec host (placeS fr ix) 1).1 8 = 0 ∧ rdr f sec host fr ix = (readS f (secondS f sec host (placeS fr ix) 1).1 8, 0)) := by
  have hp := placeS_eq h0 h1 h2 h3
  have sp := second_place (f := f) (sec := sec) (host := host) (place := placeS fr ix) (kind := 1) (by omega) (by omega)
  unfold rdr
  rcases secondS_code f sec host (placeS fr ix) 1 with h | h | h
  · obtain ⟨g, g0, g1, g2⟩ := sp h
    generalize (secondS f sec host (placeS fr ix) 1) = S at *
    obtain ⟨p, l, c⟩ := S
    simp only at h g2 ⊢
    subst h
    have e0 : ((0 : Int) != 0) = false := rfl
    simp only [e0, cond_false]
    have hm : placeS fr ix % 256 = ix * 8 := by omega
    rw [hm] at g2
    have e1 : p.tdiv 256 = g := by rw [Int.tdiv_eq_ediv_of_nonneg (by omega)]; omega
    have e2 : IntKind.u64.wrap g = g := wrap_u64 (by omega) (by omega)
    have e3 : IntKind.i64.wrap g = g := wrap_i64 (by omega) (by omega)
    rw [e1, e2, e3]
    right; right
    have hw : W64 p := ⟨by omega, by omega⟩
    by_cases hg : g < 128
    · right
      have hok : entryOk g ix = true := by simp [entryOk, g0, hg, h2, h3]
      rw [hok]
      refine ⟨trivial, hw, check8 (by omega) (by omega), ?_⟩
      simp only [cond_true, entryV, hok]
      rw [g2]
    · left
      have hok : entryOk g ix = false := by simp [entryOk, g0, hg]
      rw [hok]
      refine ⟨trivial, hw, ?_, rfl⟩
      unfold checkS
      rw [if_neg (by omega), if_pos (by omega)]
      omega
  · left
    generalize (secondS f sec host (placeS fr ix) 1) = S at *
    obtain ⟨p, l, c⟩ := S
    simp only at h ⊢
    subst h
    simp
    rfl
  · right; left
    generalize (secondS f sec host (placeS fr ix) 1) = S at *
    obtain ⟨p, l, c⟩ := S
    simp only at h ⊢
    subst h
    simp
    rfl
structure FirstOk (T : Int × Int) (last : Int) (y : GFault) (kind e fr : Int) (ok : Bool) (c : GFault) : Prop where
  zero : T.2 = 0 → ok = true ∧ W64 e ∧ e % 256 = T.1 % 256 ∧ W64 T.1 ∧ fr = frameS T.1 ∧ c = y
  page : T.2 = 1 → ok = false ∧ c = ⟨c3 12 13 15 kind, y.Value, y.Place, y.GVA⟩
  guest : T.2 = 3 → ok = false ∧ c = ⟨c3 20 21 23 kind, y.Value, IntKind.u64.wrap (last.tdiv 4), y.GVA⟩
  bad : T.2 = 4 → ok = false ∧ c = ⟨c3 1 5 7 kind, y.Value, y.Place, y.GVA⟩
  codes : T.2 = 0 ∨ T.2 = 1 ∨ T.2 = 3 ∨ T.2 = 4
theorem room_ok {n : Nat} (h : n ≤ 20) : (decide (n * 8 ≤ 140737488355328) && decide (n ≤ 4611686018427387904)) = true := by
  simp only [Bool.and_eq_true, decide_eq_true_eq]; omega
theorem zle (n : Nat) : decide (0 + n ≤ n) = true := by simp
theorem nb1 {n : Nat} (h : n ≠ 0) : Nat.beq n 0 = false := beq_ne h
theorem placeR {fr ix : Int} (h0 : 0 ≤ fr) (h1 : fr < 256) (h2 : 0 ≤ ix) (h3 : ix < 16) : IntKind.u64.wrap (gshl .u64 (IntKind.u64.wrap fr) 8 + IntKind.u64.wrap (8 * ix)) = placeS fr ix := by
  rw [placeS_eq h0 h1 h2 h3, wrap_u64 (n := fr) (by omega) (by omega), wrap_u64 (n := 8 * ix) (by omega) (by omega), gshl_u64 (by omega) (by omega)]
  have : (2 : Int) ^ (8 : Int).toNat = 256 := rfl
  rw [this, Int.emod_eq_of_lt (by omega) (by omega), wrap_u64 (by omega) (by omega)]
  omega
end Go.Sh
