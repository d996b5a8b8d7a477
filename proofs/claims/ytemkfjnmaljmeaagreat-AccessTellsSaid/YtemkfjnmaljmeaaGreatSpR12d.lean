/-
  The document's translation, whole: it tells what the program's does.
-/
import Derived.Test.YtemkfjnmaljmeaaGreatSpR12c
set_option linter.unusedSimpArgs false
set_option linter.unusedVariables false
namespace Go.Sh
open Go
def toG (a : Asking) : GAsking := ⟨a.first, a.second, a.sum, a.mxr, a.asid, a.vmid, a.root, a.host⟩
def gE (e : Entry) : GEntry := ⟨e.valid, e.v, e.page, e.asid, e.vmid, e.frame, e.bits, e.host, e.guest⟩
def gF (f : Fault) : GFault := ⟨f.cause, f.value, f.place, f.gva⟩
abbrev CsrOk (c : Nat → Int) : Prop := ∀ i, i < 29 → W64 (c i)
theorem top_bit {v : Int} (h : W64 v) : (gshr .u64 v 63 == 1) = (bitop .and .u64 (gshr .u64 v 63) 1 == 1) := by
  rw [gshr_u64 (by omega)]
  have e : (2 : Int) ^ (63 : Int).toNat = 9223372036854775808 := rfl
  rw [e]
  obtain ⟨h0, h1⟩ := h
  have : v / 9223372036854775808 = 0 ∨ v / 9223372036854775808 = 1 := by omega
  rcases this with h | h <;> rw [h] <;> rfl
theorem rAsk_eq {α : Type} {s : GState} (hc : CsrOk s.C) (level : Int) (v : Bool) (k : GAsking → R α) : p_z1j p_z1l s level v k = k (toG (askS s.C level v)) := by
  unfold p_z1j askS toG
  have t15 := top_bit (hc 15 (by omega))
  have t21 := top_bit (hc 21 (by omega))
  have t28 := top_bit (hc 28 (by omega))
  have b : ∀ {i b : Int} {kk : Bool → R α}, 0 ≤ i → i < 29 → 0 ≤ b → b < 64 → p_z1l s i b kk = kk (bitop .and .u64 (gshr .u64 (s.C i.toNat) b) 1 == 1) := fun {i b kk} h0 h1 h2 h3 => by
    unfold p_z1l
    have e : IntKind.u64.wrap b = b := wrap_u64 h2 (by omega)
    have e1 : (decide (0 ≤ i) && decide (i < 29)) = true := by simp [h0, h1]
    have e2 : decide (i.toNat < 29) = true := by simp; omega
    have e3 : decide (b < 0) = false := by simp; omega
    simp only [e, e1, e2, e3, cond_true, cond_false]
  have q15 : bitS s.C 15 63 = (bitop .and .u64 (gshr .u64 (s.C 15) 63) 1 == 1) := rfl
  have q21 : bitS s.C 21 63 = (bitop .and .u64 (gshr .u64 (s.C 21) 63) 1 == 1) := rfl
  have q28 : bitS s.C 28 63 = (bitop .and .u64 (gshr .u64 (s.C 28) 63) 1 == 1) := rfl
  have r18 : bitS s.C 0 18 = (bitop .and .u64 (gshr .u64 (s.C (Int.toNat 0)) 18) 1 == 1) := rfl
  have r19 : bitS s.C 0 19 = (bitop .and .u64 (gshr .u64 (s.C (Int.toNat 0)) 19) 1 == 1) := rfl
  have s18 : bitS s.C 22 18 = (bitop .and .u64 (gshr .u64 (s.C (Int.toNat 22)) 18) 1 == 1) := rfl
  have s19 : bitS s.C 22 19 = (bitop .and .u64 (gshr .u64 (s.C (Int.toNat 22)) 19) 1 == 1) := rfl
  have a15 : onA s.C 15 = bif bitS s.C 15 63 then IntKind.i64.wrap (bitop .and .u64 (gshr .u64 (s.C 15) 16) 255) else 0 := rfl
  have a21 : onA s.C 21 = bif bitS s.C 21 63 then IntKind.i64.wrap (bitop .and .u64 (gshr .u64 (s.C 21) 16) 255) else 0 := rfl
  have a28 : onA s.C 28 = bif bitS s.C 28 63 then IntKind.i64.wrap (bitop .and .u64 (gshr .u64 (s.C 28) 16) 255) else 0 := rfl
  have sh0 : ∀ v, W64 v → gshr .u64 v 0 = v := fun v h => by rw [gshr_u64 (by omega)]; show v / 1 = v; omega
  have o15 : onR s.C 15 = bif bitS s.C 15 63 then IntKind.i64.wrap (bitop .and .u64 (s.C 15) 255) else 0 := by
    show (bif bitS s.C 15 63 then IntKind.i64.wrap (bitop .and .u64 (gshr .u64 (s.C 15) 0) 255) else 0) = _
    rw [sh0 _ (hc 15 (by omega))]
  have o21 : onR s.C 21 = bif bitS s.C 21 63 then IntKind.i64.wrap (bitop .and .u64 (s.C 21) 255) else 0 := by
    show (bif bitS s.C 21 63 then IntKind.i64.wrap (bitop .and .u64 (gshr .u64 (s.C 21) 0) 255) else 0) = _
    rw [sh0 _ (hc 21 (by omega))]
  have o28 : onR s.C 28 = bif bitS s.C 28 63 then IntKind.i64.wrap (bitop .and .u64 (s.C 28) 255) else 0 := by
    show (bif bitS s.C 28 63 then IntKind.i64.wrap (bitop .and .u64 (gshr .u64 (s.C 28) 0) 255) else 0) = _
    rw [sh0 _ (hc 28 (by omega))]
  rw [a15, a21, a28, o15, o21, o28, q15, q21, q28, r18, r19, s18, s19]
  simp only [t15, t21, t28, b (show (0 : Int) ≤ 0 by omega) (show (0 : Int) < 29 by omega) (show (0 : Int) ≤ 18 by omega) (show (18 : Int) < 64 by omega), b (show (0 : Int) ≤ 0 by omega) (show (0 : Int) < 29 by omega) (show (0 : Int) ≤ 19 by omega) (show (19 : Int) < 64 by omega),
    b (show (0 : Int) ≤ 22 by omega) (show (22 : Int) < 29 by omega) (show (0 : Int) ≤ 18 by omega) (show (18 : Int) < 64 by omega), b (show (0 : Int) ≤ 22 by omega) (show (22 : Int) < 29 by omega) (show (0 : Int) ≤ 19 by omega) (show (19 : Int) < 64 by omega)]
  generalize (bitop .and .u64 (gshr .u64 (s.C 15) 63) 1 == 1) = c1
  generalize (bitop .and .u64 (gshr .u64 (s.C 21) 63) 1 == 1) = c2
  generalize (bitop .and .u64 (gshr .u64 (s.C 28) 63) 1 == 1) = c3
  generalize (bitop .and .u64 (gshr .u64 (s.C (Int.toNat 0)) 18) 1 == 1) = c4
  generalize (bitop .and .u64 (gshr .u64 (s.C (Int.toNat 0)) 19) 1 == 1) = c5
  generalize (bitop .and .u64 (gshr .u64 (s.C (Int.toNat 22)) 18) 1 == 1) = c6
  generalize (bitop .and .u64 (gshr .u64 (s.C (Int.toNat 22)) 19) 1 == 1) = c7
  cases h : (level == 3) <;> cases v <;> cases c1 <;> cases c2 <;> cases c3 <;> cases c5 <;> cases c7 <;> rfl
noncomputable def sRAsk {α : Type} : Sg_z1j α := fun s level v k => grd (CsrOk s.C) (k (toG (askS s.C level v)))
theorem ask_off {c : Nat → Int} {level : Int} {v : Bool} : ((askS c level v).first = false → (askS c level v).asid = 0 ∧ (askS c level v).root = 0) ∧ ((askS c level v).second = false → (askS c level v).vmid = 0 ∧ (askS c level v).host = 0) := by
  unfold askS
  cases (level == 3) <;> cases v <;> simp only [Bool.not_true, Bool.not_false, cond_true, cond_false]
  · refine ⟨fun h => ?_, by simp⟩
    simp [onA, onR, h]
  · refine ⟨fun h => ?_, fun h => ?_⟩ <;> simp [onA, onR, h]
  · simp
  · simp
theorem z256 : (0 : Int) ≤ 0 ∧ (0 : Int) < 256 := by omega
theorem onR_bd (c : Nat → Int) (i : Int) : 0 ≤ onR c i ∧ onR c i < 256 := by
  unfold onR
  cases bitS c i 63
  · exact z256
  · have h := leafBits_bd (gshr .u64 (c i.toNat) 0)
    have e : leafBits (gshr .u64 (c i.toNat) 0) = IntKind.i64.wrap (bitsS (c i.toNat) 0 8) := rfl
    rw [e] at h
    exact h
theorem ask_root (c : Nat → Int) (level : Int) (v : Bool) : 0 ≤ (askS c level v).root ∧ (askS c level v).root < 256 := by
  unfold askS
  cases (level == 3) <;> cases v
  · exact onR_bd c 15
  · exact onR_bd c 28
  · exact z256
  · exact z256
def firstG (f : Nat → Int) (fst sec sum mxr : Bool) (root host at_ kind kx : Int) (v user : Bool) : Firsts :=
  bif !fst then ⟨at_, 255, noFault, true⟩ else
  bif ltB 1 (thr (rdr f sec host) root at_).2 then ⟨0, 255, ofS at_ kind v (IntKind.i64.wrap ((thr (rdr f sec host) root at_).2 - 2)) (lastR (rdr f sec host) root at_), false⟩ else
  bif (thr (rdr f sec host) root at_).2 == 1 then ⟨0, 255, pageS at_ kind v, false⟩ else
  bif !mayS (leafBits (thr (rdr f sec host) root at_).1) kx user sum mxr then ⟨0, 255, pageS at_ kind v, false⟩ else
  ⟨joinS (frameS (thr (rdr f sec host) root at_).1) at_, leafBits (thr (rdr f sec host) root at_).1, noFault, true⟩
def transG (f : Nat → Int) (a : Asking) (at_ kind kx : Int) (user v : Bool) : Trans :=
  bif offA a then
    (bif ltB at_ 65536 then ⟨at_, ⟨true, v, pageOf at_, 0, 0, pageOf at_, 255, 255, pageOf at_⟩, noFault, true⟩ else ⟨at_, ⟨true, v, 0, 0, 0, 0, 255, 255, 0⟩, noFault, true⟩) else
  bif leB 65536 at_ then ⟨0, noEntry, bif a.first then pageS at_ kind v else guestS at_ kind v at_, false⟩ else
  bif !(firstG f a.first a.second a.sum a.mxr a.root a.host at_ kind kx v user).ok then ⟨0, noEntry, (firstG f a.first a.second a.sum a.mxr a.root a.host at_ kind kx v user).fault, false⟩ else
  bif (secondS f a.second a.host (firstG f a.first a.second a.sum a.mxr a.root a.host at_ kind kx v user).place kx).2.2 != 0 then
    ⟨0, noEntry, ofS at_ kind v (secondS f a.second a.host (firstG f a.first a.second a.sum a.mxr a.root a.host at_ kind kx v user).place kx).2.2 (firstG f a.first a.second a.sum a.mxr a.root a.host at_ kind kx v user).place, false⟩ else
  ⟨(secondS f a.second a.host (firstG f a.first a.second a.sum a.mxr a.root a.host at_ kind kx v user).place kx).1,
    ⟨true, v, pageOf at_, a.asid, a.vmid, pageOf (secondS f a.second a.host (firstG f a.first a.second a.sum a.mxr a.root a.host at_ kind kx v user).place kx).1, (firstG f a.first a.second a.sum a.mxr a.root a.host at_ kind kx v user).leaf,
      (secondS f a.second a.host (firstG f a.first a.second a.sum a.mxr a.root a.host at_ kind kx v user).place kx).2.1, pageOf (firstG f a.first a.second a.sum a.mxr a.root a.host at_ kind kx v user).place⟩, noFault, true⟩
open Classical in
noncomputable def fkR (f : Nat → Int) (a : GAsking) (at_ kind : Int) (y2 : GFault) : Int × Int × Bool × GFault × Bool × Nat × (Nat → Int) :=
  if h : ByteF f ∧ (0 ≤ a.Root ∧ a.Root < 256) ∧ W64 at_ ∧ at_ < 65536 ∧ K3 kind then Classical.choose (rFirst_w h.1 h.2.1 h.2.2.1 h.2.2.2.1 h.2.2.2.2 y2) else (0, 0, false, y2, true, 0, fun _ => 0)
theorem fkR_spec {f : Nat → Int} (hf : ByteF f) {a : GAsking} (hr : 0 ≤ a.Root ∧ a.Root < 256) {at_ : Int} (ha : W64 at_) (hl : at_ < 65536) {kind : Int} (hk : K3 kind) (y2 : GFault) :
    (∀ {α : Type} (y0 : Int) (y1 : GEntry) (y3 : Bool) (k : Int → Int → Bool → Int → GEntry → GFault → Bool → Bool → Nat → (Nat → Int) → R α), p_z1e sRGuest sRGF sRBad sRCode sRRead sRIsW sRPage sRLeafW sRFrame f a at_ kind y0 y1 y2 y3 k = k (fkR f a at_ kind y2).1 (fkR f a at_ kind y2).2.1 (fkR f a at_ kind y2).2.2.1 y0 y1 (fkR f a at_ kind y2).2.2.2.1 y3 (fkR f a at_ kind y2).2.2.2.2.1 (fkR f a at_ kind y2).2.2.2.2.2.1 (fkR f a at_ kind y2).2.2.2.2.2.2) ∧
      ((fkR f a at_ kind y2).2.2.2.2.2.1 ≤ 6 ∧ ((fkR f a at_ kind y2).2.2.2.2.1 = false → 0 < (fkR f a at_ kind y2).2.2.2.2.2.1)) ∧ FirstOk (thr (rdr f a.Second a.Host) a.Root at_) (lastR (rdr f a.Second a.Host) a.Root at_) y2 kind (fkR f a at_ kind y2).1 (fkR f a at_ kind y2).2.1 (fkR f a at_ kind y2).2.2.1 (fkR f a at_ kind y2).2.2.2.1 := by
  unfold fkR
  rw [dif_pos ⟨hf, hr, ha, hl, hk⟩]
  exact Classical.choose_spec (rFirst_w hf hr ha hl hk y2)
noncomputable def sRFirst {α : Type} : Sg_z1e α := fun f a at_ kind y0 y1 y2 y3 k => grd (ByteF f ∧ (0 ≤ a.Root ∧ a.Root < 256) ∧ W64 at_ ∧ at_ < 65536 ∧ K3 kind)
  (k (fkR f a at_ kind y2).1 (fkR f a at_ kind y2).2.1 (fkR f a at_ kind y2).2.2.1 y0 y1 (fkR f a at_ kind y2).2.2.2.1 y3 (fkR f a at_ kind y2).2.2.2.2.1 (fkR f a at_ kind y2).2.2.2.2.2.1 (fkR f a at_ kind y2).2.2.2.2.2.2)
theorem place_w64 {fr a : Int} : W64 (joinS fr a) := bitop_u64 .or _ _
theorem offA_on {a : Asking} (h : a.first = true ∨ a.second = true) : offA a = false := by
  unfold offA
  rcases h with h | h <;> rw [h] <;> simp
theorem offA_1 {b sum mxr : Bool} {p q r s : Int} : offA ⟨true, b, sum, mxr, p, q, r, s⟩ = false := offA_on (.inl rfl)
theorem offA_2 {b sum mxr : Bool} {p q r s : Int} : offA ⟨b, true, sum, mxr, p, q, r, s⟩ = false := offA_on (.inr rfl)
theorem and255_low {a : Int} (h0 : 0 ≤ a) (h1 : a < 65536) : IntKind.i64.wrap (bitop .and .u64 (gshr .u64 a 8) 255) = pageOf a := by
  unfold pageOf
  rw [gshr_u64 (by omega)]
  have e : (2 : Int) ^ (8 : Int).toNat = 256 := rfl
  rw [e]
  have h := byte_all (p := fun b => bitop .and .u64 b 255 == b) (by kernel_rfl) (b := a / 256) (by omega) (by omega)
  simp only [beq_iff_eq] at h
  rw [h]
set_option maxHeartbeats 8000000 in
theorem rTrans_w {f : Nat → Int} (hf : ByteF f) {s : GState} (hc : CsrOk s.C) {at_ : Int} (ha : W64 at_) {kind : Int} (hk : K3 kind) (level : Int) (v exec : Bool) :
    ∃ w : Bool × Nat × (Nat → Int), (w.2.1 ≤ 10 ∧ (w.1 = false → 0 < w.2.1)) ∧ ∀ {α : Type} (k : Int → GEntry → GFault → Bool → Bool → Nat → (Nat → Int) → R α), p_zy sRAsk sRPage sRGF sRFirst sRmay sRGuest sRBad f s at_ kind level v exec k =
      k (transG f (askS s.C level v) at_ kind (if exec then 0 else kind) (level == 0) v).to (gE (transG f (askS s.C level v) at_ kind (if exec then 0 else kind) (level == 0) v).e) (gF (transG f (askS s.C level v) at_ kind (if exec then 0 else kind) (level == 0) v).f) (transG f (askS s.C level v) at_ kind (if exec then 0 else kind) (level == 0) v).ok w.1 w.2.1 w.2.2 := by
  unfold p_zy
  simp only [sRAsk, sRPage, sRGF, sRBad, grd_pos hc, grd_pos hk]
  obtain ⟨of1, of2⟩ := ask_off (c := s.C) (level := level) (v := v)
  have hr := ask_root s.C level v
  generalize askS s.C level v = A at *
  obtain ⟨first, second, sum, mxr, asid, vmid, root, host⟩ := A
  simp only [toG] at of1 of2 hr ⊢
  have tail : ∀ {place : Int}, W64 place → ∀ {leaf : Int}, ∃ w : Bool × Nat × (Nat → Int), (w.2.1 ≤ 2 ∧ (w.1 = false → 0 < w.2.1)) ∧ w = gkR f ⟨first, second, sum, mxr, asid, vmid, root, host⟩ place kind exec := fun hp _ => ⟨_, (gkR_spec hf hp hk exec).1, rfl⟩
  have c3z : (c3 12 13 15 kind) = (pageS at_ kind v).cause := rfl
  have n00 : ((0 : Int) != 0) = false := rfl
  cases hb : leB 65536 at_
  case true =>
    have hl : ltB at_ 65536 = false := by simp [leB, ltB] at *; omega
    cases first <;> cases second
    · have ho : offA ⟨false, false, sum, mxr, asid, vmid, root, host⟩ = true := by
        obtain ⟨o1, o2⟩ := of1 rfl
        obtain ⟨o3, o4⟩ := of2 rfl
        subst o1 o2 o3 o4
        simp [offA]
      obtain ⟨o1, o2⟩ := of1 rfl
      obtain ⟨o3, o4⟩ := of2 rfl
      subst o1 o3
      simp only [transG, ho, hl, hb, Bool.not_false, cond_true, cond_false, gE, gF, noFault]
      exact ⟨(_, _, _), (by refine ⟨by (try dsimp only); omega, fun h => ?_⟩; first | (cases h; done) | ((try dsimp only at h ⊢); first | (cases h; done) | omega | (have := f6.2 rfl; omega) | (have := g1.2 rfl; omega))), fun k => rfl⟩
    · simp only [transG, offA_2, hb, Bool.not_false, Bool.not_true, cond_true, cond_false, gE, gF, noEntry, guestS]
      exact ⟨(_, _, _), (by refine ⟨by (try dsimp only); omega, fun h => ?_⟩; first | (cases h; done) | ((try dsimp only at h ⊢); first | (cases h; done) | omega | (have := f6.2 rfl; omega) | (have := g1.2 rfl; omega))), fun k => rfl⟩
    · simp only [transG, offA_1, hb, Bool.not_false, Bool.not_true, cond_true, cond_false, gE, gF, noEntry, pageS]
      exact ⟨(_, _, _), (by refine ⟨by (try dsimp only); omega, fun h => ?_⟩; first | (cases h; done) | ((try dsimp only at h ⊢); first | (cases h; done) | omega | (have := f6.2 rfl; omega) | (have := g1.2 rfl; omega))), fun k => rfl⟩
    · simp only [transG, offA_1, hb, Bool.not_false, Bool.not_true, cond_true, cond_false, gE, gF, noEntry, pageS]
      exact ⟨(_, _, _), (by refine ⟨by (try dsimp only); omega, fun h => ?_⟩; first | (cases h; done) | ((try dsimp only at h ⊢); first | (cases h; done) | omega | (have := f6.2 rfl; omega) | (have := g1.2 rfl; omega))), fun k => rfl⟩
  have hlt : at_ < 65536 := by simp [leB] at hb; omega
  have hl : ltB at_ 65536 = true := by simp [ltB]; omega
  have pg := and255_low ha.1 hlt
  cases first
  case false =>
    cases second
    · obtain ⟨o1, o2⟩ := of1 rfl
      obtain ⟨o3, o4⟩ := of2 rfl
      have ho : offA ⟨false, false, sum, mxr, asid, vmid, root, host⟩ = true := by
        subst o1 o2 o3 o4
        simp [offA]
      subst o1 o3
      simp only [transG, ho, hl, Bool.not_false, cond_true, cond_false, gE, gF, noFault, pageOf]
      exact ⟨(_, _, _), (by refine ⟨by (try dsimp only); omega, fun h => ?_⟩; first | (cases h; done) | ((try dsimp only at h ⊢); first | (cases h; done) | omega | (have := f6.2 rfl; omega) | (have := g1.2 rfl; omega))), fun k => rfl⟩
    · have g1 := (gkR_spec hf (a := ⟨false, true, sum, mxr, asid, vmid, root, host⟩) ha hk exec).1
      simp only [transG, firstG, offA_2, hb, sRGuest, grd_pos (show ByteF f ∧ W64 at_ ∧ K3 kind from ⟨hf, ha, hk⟩), Bool.not_false, Bool.not_true, cond_true, cond_false, pg]
      generalize gkR f ⟨false, true, sum, mxr, asid, vmid, root, host⟩ at_ kind exec = G1 at g1 ⊢
      obtain ⟨nl1, n1, tf1⟩ := G1
      simp only at g1 ⊢
      have r1 : (decide (n1 * 8 ≤ 140737488355328) && decide (n1 ≤ 4611686018427387904)) = true := room_ok (by omega)
      have sc := secondS_code f true host at_ (if exec then 0 else kind)
      generalize secondS f true host at_ (if exec then 0 else kind) = S at sc ⊢
      obtain ⟨p, l, c⟩ := S
      simp only at sc ⊢
      rcases sc with rfl | rfl | rfl <;> cases nl1 <;> cases hnb : Nat.beq n1 0 <;>
        simp only [hnb, zle, r1, Nat.beq_refl, cond_true, cond_false, n00, gE, gF, noEntry, noFault, ofS, guestS, accessS] <;>
        first
          | exact ⟨(_, _, _), (by refine ⟨by (try dsimp only); omega, fun h => ?_⟩; first | (cases h; done) | ((try dsimp only at h ⊢); first | (cases h; done) | omega | (have := f6.2 rfl; omega) | (have := g1.2 rfl; omega))), fun k => rfl⟩
          | trace_state
  case true =>
    have fs := fkR_spec hf (a := ⟨true, second, sum, mxr, asid, vmid, root, host⟩) hr ha hlt hk ⟨0, at_, 0, v⟩
    obtain ⟨_, f6, fo⟩ := fs
    simp only [transG, firstG, offA_1, hb, sRFirst, grd_pos (show ByteF f ∧ (0 ≤ root ∧ root < 256) ∧ W64 at_ ∧ at_ < 65536 ∧ K3 kind from ⟨hf, hr, ha, hlt, hk⟩), Bool.not_true, cond_true, cond_false, pg]
    simp only at fo f6
    generalize fkR f ⟨true, second, sum, mxr, asid, vmid, root, host⟩ at_ kind ⟨0, at_, 0, v⟩ = W at fo f6 ⊢
    obtain ⟨e, fr, ok, c2, nl, n, tf⟩ := W
    simp only at fo f6 ⊢
    generalize hT : thr (rdr f second host) root at_ = T at fo ⊢
    obtain ⟨te, tc⟩ := T
    generalize lastR (rdr f second host) root at_ = last at fo ⊢
    have w33 : IntKind.i64.wrap (3 - 2) = 1 := rfl
    have w44 : IntKind.i64.wrap (4 - 2) = 2 := rfl
    have l13 : ltB 1 3 = true := rfl
    have l14 : ltB 1 4 = true := rfl
    have l11 : ltB 1 1 = false := rfl
    have l10 : ltB 1 0 = false := rfl
    have e11 : ((1 : Int) == 1) = true := rfl
    have e21 : ((2 : Int) == 1) = false := rfl
    have e01 : ((0 : Int) == 1) = false := rfl
    have r1 : (decide (n * 8 ≤ 140737488355328) && decide (n ≤ 4611686018427387904)) = true := room_ok (by omega)
    rcases fo.codes with h | h | h | h <;> simp only at h <;> subst h
    · obtain ⟨q1, q2, q3, q4, q5, q6⟩ := fo.zero rfl
      simp only at q3 q4 q5
      subst q1 q5 q6
      have lb : IntKind.i64.wrap (bitop .and .u64 e 255) = leafBits te := by
        have h1 : IntKind.i64.wrap (bitop .and .u64 e 255) = leafBits e := rfl
        rw [h1, leafBits_eq q2, leafBits_eq q4, q3]
      have jn : bitop .or .u64 (gshl .u64 (IntKind.u64.wrap (frameS te)) 8) (bitop .and .u64 at_ 255) = joinS (frameS te) at_ := rfl
      simp only [lb, jn, sRmay, grd_pos (show (0 ≤ leafBits te ∧ leafBits te < 256) ∧ (kind = 0 ∨ kind = 1 ∨ kind = 2) from ⟨leafBits_bd te, hk⟩), l10, e01, cond_false, cond_true]
      cases hm : mayS (leafBits te) (if exec then 0 else kind) (level == 0) sum mxr
      · simp only [Bool.not_false, Bool.not_true, cond_true, cond_false, gE, gF, noEntry, pageS]
        cases nl <;> simp only [Nat.beq_refl, cond_true, cond_false] <;> exact ⟨(_, _, _), (by refine ⟨by (try dsimp only); omega, fun h => ?_⟩; first | (cases h; done) | ((try dsimp only at h ⊢); first | (cases h; done) | omega | (have := f6.2 rfl; omega) | (have := g1.2 rfl; omega))), fun k => rfl⟩
      · have hw : W64 (joinS (frameS te) at_) := place_w64
        have g1 := (gkR_spec hf (a := ⟨true, second, sum, mxr, asid, vmid, root, host⟩) hw hk exec).1
        simp only [sRGuest, grd_pos (show ByteF f ∧ W64 (joinS (frameS te) at_) ∧ K3 kind from ⟨hf, hw, hk⟩), Bool.not_false, Bool.not_true, cond_true, cond_false]
        generalize gkR f ⟨true, second, sum, mxr, asid, vmid, root, host⟩ (joinS (frameS te) at_) kind exec = G1 at g1 ⊢
        obtain ⟨nl1, n1, tf1⟩ := G1
        simp only at g1 ⊢
        have r2 : (decide (n1 * 8 ≤ 140737488355328) && decide (n1 ≤ 4611686018427387904)) = true := room_ok (by omega)
        have r3 : (decide ((n + n1) * 8 ≤ 140737488355328) && decide (n + n1 ≤ 4611686018427387904)) = true := room_ok (by omega)
        have sc := secondS_code f second host (joinS (frameS te) at_) (if exec then 0 else kind)
        generalize secondS f second host (joinS (frameS te) at_) (if exec then 0 else kind) = S at sc ⊢
        obtain ⟨p, l, c⟩ := S
        simp only at sc ⊢
        rcases sc with rfl | rfl | rfl <;> cases nl <;> cases nl1 <;> cases hnb : Nat.beq n1 0 <;>
          simp only [hnb, zle, r1, r2, r3, Nat.beq_refl, cond_true, cond_false, n00, e11, e21, gE, gF, noEntry, noFault, ofS, guestS, accessS] <;>
          first
            | exact ⟨(_, _, _), (by refine ⟨by (try dsimp only); omega, fun h => ?_⟩; first | (cases h; done) | ((try dsimp only at h ⊢); first | (cases h; done) | omega | (have := f6.2 rfl; omega) | (have := g1.2 rfl; omega))), fun k => rfl⟩
            | trace_state
    · obtain ⟨q1, q2⟩ := fo.page rfl
      subst q1 q2
      simp only [l11, e11, Bool.not_false, cond_true, cond_false, gE, gF, noEntry, pageS]
      cases nl <;> simp only [Nat.beq_refl, cond_true, cond_false] <;> exact ⟨(_, _, _), (by refine ⟨by (try dsimp only); omega, fun h => ?_⟩; first | (cases h; done) | ((try dsimp only at h ⊢); first | (cases h; done) | omega | (have := f6.2 rfl; omega) | (have := g1.2 rfl; omega))), fun k => rfl⟩
    · obtain ⟨q1, q2⟩ := fo.guest rfl
      subst q1 q2
      simp only [l13, w33, ofS, e11, Bool.not_false, cond_true, cond_false, gE, gF, noEntry, guestS]
      cases nl <;> simp only [Nat.beq_refl, cond_true, cond_false] <;> exact ⟨(_, _, _), (by refine ⟨by (try dsimp only); omega, fun h => ?_⟩; first | (cases h; done) | ((try dsimp only at h ⊢); first | (cases h; done) | omega | (have := f6.2 rfl; omega) | (have := g1.2 rfl; omega))), fun k => rfl⟩
    · obtain ⟨q1, q2⟩ := fo.bad rfl
      subst q1 q2
      simp only [l14, w44, ofS, e21, Bool.not_false, cond_true, cond_false, gE, gF, noEntry, accessS]
      cases nl <;> simp only [Nat.beq_refl, cond_true, cond_false] <;> exact ⟨(_, _, _), (by refine ⟨by (try dsimp only); omega, fun h => ?_⟩; first | (cases h; done) | ((try dsimp only at h ⊢); first | (cases h; done) | omega | (have := f6.2 rfl; omega) | (have := g1.2 rfl; omega))), fun k => rfl⟩
end Go.Sh
