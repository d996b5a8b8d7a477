/-
  Accesses: the whole of them, and that they are alike.
-/
import Derived.Test.YtemkfjnmaljmeaaGreatSpA17f
set_option linter.unusedSimpArgs false
set_option linter.unusedVariables false
namespace Go.Sh
open Go
abbrev trO (m : Nat → Int) (s : GState) (a kind level : Int) (v : Bool) : Trans := transA m (askS s.C level v) a kind (level == 0) v
def doB (b : GBus) (s : GState) (a n kind value level : Int) (v : Bool) : GBus × Int × GFault × Bool :=
  if (alignedS a n kind v).2 = false then (nB b, 0, (alignedS a n kind v).1, false) else
  if (trO b.m s a kind level v).ok = false then (nB b, 0, gF (trO b.m s a kind level v).f, false) else
  (nB (atB (nB b) (trO b.m s a kind level v).to a n kind value v).1, (atB (nB b) (trO b.m s a kind level v).to a n kind value v).2)
theorem do_eq {α : Type} {b : GBus} (s : GState) {a : Int} (ha : W64 a) (hb : Few b) (n kind value level : Int) (v : Bool) (k : GBus → Int → GFault → Bool → R α) : p_z5 sAligned sTrans sAt b s a n kind value level v k = k (doB b s a n kind value level v).1 (doB b s a n kind value level v).2.1 (doB b s a n kind value level v).2.2.1 (doB b s a n kind value level v).2.2.2 := by
  unfold p_z5 doB sAligned sTrans sAt
  dsimp only
  simp only [GN, gN_self]
  rw [grd_pos ha]
  have hto : W64 (trO b.m s a kind level v).to := transA_w64 ha
  change (cond (!(alignedS a n kind v).2) (k (nB b) 0 (alignedS a n kind v).1 false) (cond (!(trO b.m s a kind level v).ok) (k (nB b) 0 (gF (trO b.m s a kind level v).f) false)
    (grd (W64 (trO b.m s a kind level v).to ∧ Few (nB b)) (k (nB (atB (nB b) (trO b.m s a kind level v).to a n kind value v).1) (atB (nB b) (trO b.m s a kind level v).to a n kind value v).2.1 (atB (nB b) (trO b.m s a kind level v).to a n kind value v).2.2.1 (atB (nB b) (trO b.m s a kind level v).to a n kind value v).2.2.2)))) = _
  rw [grd_pos ⟨hto, few_nB hb⟩]
  cases (alignedS a n kind v).2
  · rfl
  · cases (trO b.m s a kind level v).ok <;> rfl
noncomputable def sRMis {α : Type} : Sg_zz α := fun kind k => grd (K3 kind) (k ((upd (upd (upd (fun _ => 0) 0 0) 1 4) 2 6 : Nat → Int) (clampK kind)))
theorem rMis_eq {α : Type} {kind : Int} (hk : K3 kind) (k : Int → R α) : p_zz kind k = k ((upd (upd (upd (fun _ => 0) 0 0) 1 4) 2 6 : Nat → Int) (clampK kind)) := by
  rcases hk with rfl | rfl | rfl <;> rfl
theorem c3_clamp {kind : Int} (hk : K3 kind) : c3 1 5 7 kind = (upd (upd (upd (fun _ => 0) 0 1) 1 5) 2 7 : Nat → Int) (clampK kind) := by
  rcases hk with rfl | rfl | rfl <;> rfl
noncomputable def sRRd18 {α : Type} : Sg_zh α := fun r a n k => grd (ByteF r.m ∧ W64 a) (k (readR r a n).1 (readR r a n).2.1 (readR r a n).2.2)
abbrev FewR (r : GRBus) : Prop := ∀ i, i < 4 → (r.outp i).size ≤ 64
theorem few_nR {r : GRBus} (h : FewR r) : FewR (nR r) := fun i hi => by show (four r.outp i).size ≤ 64; rw [four_at _ _ hi]; exact h i hi
noncomputable def sRWr18 {α : Type} : Sg_zi α := fun r a n v k => grd (W64 a ∧ W64 v ∧ FewR r) (k (writeR r a n v).1 (writeR r a n v).2)
def rowT (x : Bool × Nat × (Nat → Int)) : Row := if x.1 = true then Row.mk 0 fun _ => 0 else Row.mk x.2.1 x.2.2
abbrev row0 : Row := Row.mk 0 fun _ => 0
abbrev trX (m : Nat → Int) (s : GState) (a kind level : Int) (v exec : Bool) : Trans := transG m (askS s.C level v) a kind (if exec then 0 else kind) (level == 0) v
def atR (r : GRBus) (to a n kind value : Int) (v : Bool) (T : Row) : GRBus × GDone :=
  if kind = 0 ∧ r.bare = false ∧ Dev to then (nR r, ⟨0, badF a kind v, false, to, T⟩) else
  if kind = 2 then (if (writeR (nR r) to n value).2 = true then (nR (writeR (nR r) to n value).1, ⟨0, okF, true, to, T⟩) else (nR (writeR (nR r) to n value).1, ⟨0, badF a kind v, false, to, T⟩)) else
  if (readR (nR r) to n).2.2 = true then (nR (readR (nR r) to n).1, ⟨(readR (nR r) to n).2.1, okF, true, to, T⟩) else (nR (readR (nR r) to n).1, ⟨0, badF a kind v, false, to, T⟩)
noncomputable def accR (r : GRBus) (s : GState) (a n kind value level : Int) (v exec : Bool) : GRBus × GDone :=
  if ¬ N4 n then (nR r, ⟨0, badF a kind v, false, 0, row0⟩) else
  if a % n ≠ 0 then (nR r, ⟨0, misF a kind v, false, 0, row0⟩) else
  if (trX r.m s a kind level v exec).ok = false then (nR r, ⟨0, gF (trX r.m s a kind level v exec).f, false, 0, rowT (tkR r.m s a kind level v exec)⟩) else
  atR r (trX r.m s a kind level v exec).to a n kind value v (rowT (tkR r.m s a kind level v exec))
noncomputable def sRAcc {α : Type} : Sg_z14 α := fun r s a n kind value level v exec k => grd (ByteF r.m ∧ W64 a ∧ W64 value ∧ FewR r ∧ CsrOk s.C ∧ K3 kind ∧ W64 (trX r.m s a kind level v exec).to) (k (accR r s a n kind value level v exec).1 (accR r s a n kind value level v exec).2)
theorem gP_self {α : Type} {n : Nat} (h : 0 < n) (k : R α) : gP n n k = k := by
  unfold gP
  rw [Nat.beq_refl, Nat.blt_eq.mpr h]; rfl
noncomputable def TLc {α : Type} (r : GRBus) (to a n kind value : Int) (v : Bool) (T : Row) (k : GRBus → GDone → R α) : R α :=
  cond (kind == 2) (sRWr18 (nR r) to n value fun y b => cond (!b) (sRBad kind fun c => k (nR y) ⟨0, ⟨c, a, 0, v⟩, false, to, T⟩) (k (nR y) ⟨0, okF, true, to, T⟩))
    (sRRd18 (nR r) to n fun y x b => cond (!b) (sRBad kind fun c => k (nR y) ⟨0, ⟨c, a, 0, v⟩, false, to, T⟩) (k (nR y) ⟨x, okF, true, to, T⟩))
noncomputable def ATc {α : Type} (r : GRBus) (to a n kind value : Int) (v : Bool) (T : Row) (k : GRBus → GDone → R α) : R α :=
  cond (kind == 0) (cond (!r.bare) (cond (leB 61440 to) (cond (ltB to 62720) (sRBad kind fun c => k (nR r) ⟨0, ⟨c, a, 0, v⟩, false, to, T⟩) (TLc r to a n kind value v T k)) (TLc r to a n kind value v T k)) (TLc r to a n kind value v T k)) (TLc r to a n kind value v T k)
theorem ATc_eq {α : Type} {r : GRBus} {to a n kind value : Int} {v : Bool} (T : Row) (k : GRBus → GDone → R α) (hk : K3 kind) (hf : ByteF r.m) (hto : W64 to) (hv : W64 value) (hr : FewR r) : ATc r to a n kind value v T k = k (atR r to a n kind value v T).1 (atR r to a n kind value v T).2 := by
  have hb : ∀ k' : Int → R α, sRBad kind k' = k' ((upd (upd (upd (fun _ => 0) 0 1) 1 5) 2 7 : Nat → Int) (clampK kind)) := fun k' => by
    unfold sRBad; rw [grd_pos hk, c3_clamp hk]
  have tail : TLc r to a n kind value v T k = k (if kind = 2 then (if (writeR (nR r) to n value).2 = true then (nR (writeR (nR r) to n value).1, (⟨0, okF, true, to, T⟩ : GDone)) else (nR (writeR (nR r) to n value).1, ⟨0, badF a kind v, false, to, T⟩)) else
      if (readR (nR r) to n).2.2 = true then (nR (readR (nR r) to n).1, ⟨(readR (nR r) to n).2.1, okF, true, to, T⟩) else (nR (readR (nR r) to n).1, ⟨0, badF a kind v, false, to, T⟩)).1
      (if kind = 2 then (if (writeR (nR r) to n value).2 = true then (nR (writeR (nR r) to n value).1, (⟨0, okF, true, to, T⟩ : GDone)) else (nR (writeR (nR r) to n value).1, ⟨0, badF a kind v, false, to, T⟩)) else
      if (readR (nR r) to n).2.2 = true then (nR (readR (nR r) to n).1, ⟨(readR (nR r) to n).2.1, okF, true, to, T⟩) else (nR (readR (nR r) to n).1, ⟨0, badF a kind v, false, to, T⟩)).2 := by
    unfold TLc sRWr18 sRRd18
    rw [grd_pos ⟨hto, hv, few_nR hr⟩, grd_pos (show ByteF (nR r).m ∧ W64 to from ⟨hf, hto⟩)]
    simp only [hb]
    generalize writeR (nR r) to n value = W
    generalize readR (nR r) to n = Q
    obtain ⟨W1, W2⟩ := W
    obtain ⟨Q1, Q2, Q3⟩ := Q
    dsimp only
    by_cases h2 : kind = 2
    · have e : (kind == 2) = true := by simpa using h2
      rw [e, if_pos h2]
      cases W2 <;> rfl
    · have e : (kind == 2) = false := by simpa using h2
      rw [e, if_neg h2]
      cases Q3 <;> rfl
  unfold ATc atR
  by_cases hd : kind = 0 ∧ r.bare = false ∧ Dev to
  · obtain ⟨h0, hbr, h1, h2⟩ := hd
    have e : (kind == 0) = true := by simpa using h0
    have e2 : leB 61440 to = true := by simp only [leB_true]; exact h1
    have e3 : ltB to 62720 = true := by simp only [ltB_true]; exact h2
    rw [e, e2, e3, hbr, if_pos ⟨h0, rfl, h1, h2⟩, hb]; rfl
  · rw [if_neg hd, ← tail]
    cases e : (kind == 0) <;> cases e1 : r.bare <;> cases e2 : leB 61440 to <;> cases e3 : ltB to 62720 <;> first | rfl | (exfalso; apply hd; simp only [leB_true, ltB_true, beq_iff_eq] at e e2 e3; exact ⟨e, e1, e2, e3⟩)
noncomputable def ACc {α : Type} (r : GRBus) (s : GState) (a n kind value level : Int) (v exec : Bool) (k : GRBus → GDone → R α) : R α :=
  cond (decide (IntKind.u64.wrap n = 0)) none (cond (Int.tmod a (IntKind.u64.wrap n) != 0) (sRMis kind fun c => k (nR r) ⟨0, ⟨c, a, 0, v⟩, false, 0, row0⟩)
    (sRTrans r.m s a kind level v exec fun to _ f ok nl n' tf => cond nl
      (cond (!ok) (k (nR r) ⟨0, f, false, 0, row0⟩) (ATc r to a n kind value v row0 k))
      (cond (!ok) (gP n' n' (k (nR r) ⟨0, f, false, 0, Row.mk n' tf⟩)) (ATc r to a n kind value v (Row.mk n' tf) fun y d => gP n' n' (k y d)))))
theorem acc_copy {α : Type} {r : GRBus} {s : GState} {a n kind value level : Int} {v exec : Bool} (hn : N4 n) (k : GRBus → GDone → R α) : p_z14 sRBad sRMis sRTrans sRWr18 sRRd18 r s a n kind value level v exec k = ACc r s a n kind value level v exec k := by
  rcases hn with rfl | rfl | rfl | rfl <;> rfl
theorem acc_eq {α : Type} {r : GRBus} {s : GState} {a n kind value level : Int} {v exec : Bool} (hf : ByteF r.m) (ha : W64 a) (hv : W64 value) (hr : FewR r) (hc : CsrOk s.C) (hk : K3 kind) (hto : W64 (trX r.m s a kind level v exec).to) (k : GRBus → GDone → R α) :
    p_z14 sRBad sRMis sRTrans sRWr18 sRRd18 r s a n kind value level v exec k = k (accR r s a n kind value level v exec).1 (accR r s a n kind value level v exec).2 := by
  have hb : ∀ k' : Int → R α, sRBad kind k' = k' ((upd (upd (upd (fun _ => 0) 0 1) 1 5) 2 7 : Nat → Int) (clampK kind)) := fun k' => by
    unfold sRBad; rw [grd_pos hk, c3_clamp hk]
  by_cases hn : N4 n
  · rw [acc_copy hn]
    unfold ACc accR sRMis sRTrans
    rw [if_neg (show ¬ ¬ N4 n from fun e => e hn), grd_pos hk, grd_pos ⟨hf, hc, ha, hk⟩]
    have hw : IntKind.u64.wrap n = n ∧ 0 < n := by rcases hn with rfl | rfl | rfl | rfl <;> exact ⟨rfl, by omega⟩
    rw [hw.1, decide_eq_false (show ¬ n = 0 by omega), Int.tmod_eq_emod_of_nonneg ha.1, cond_false]
    by_cases e : a % n = 0
    · have e1 : (a % n != 0) = false := by simpa using e
      rw [e1, if_neg (show ¬ a % n ≠ 0 from fun h => h e), cond_false]
      have ts := (tkR_spec hf (s := s) hc ha hk level v exec).1
      change cond (tkR r.m s a kind level v exec).1 (cond (!(trX r.m s a kind level v exec).ok) (k (nR r) ⟨0, gF (trX r.m s a kind level v exec).f, false, 0, row0⟩) (ATc r (trX r.m s a kind level v exec).to a n kind value v row0 k))
        (cond (!(trX r.m s a kind level v exec).ok) (gP (tkR r.m s a kind level v exec).2.1 (tkR r.m s a kind level v exec).2.1 (k (nR r) ⟨0, gF (trX r.m s a kind level v exec).f, false, 0, Row.mk (tkR r.m s a kind level v exec).2.1 (tkR r.m s a kind level v exec).2.2⟩))
          (ATc r (trX r.m s a kind level v exec).to a n kind value v (Row.mk (tkR r.m s a kind level v exec).2.1 (tkR r.m s a kind level v exec).2.2) fun y d => gP (tkR r.m s a kind level v exec).2.1 (tkR r.m s a kind level v exec).2.1 (k y d))) = _
      rw [ATc_eq _ k hk hf hto hv hr, ATc_eq _ _ hk hf hto hv hr]
      generalize tkR r.m s a kind level v exec = X at ts ⊢
      obtain ⟨nl, n', tf⟩ := X
      cases nl
      · have hp := ts.2 rfl
        simp only [gP_self hp, rowT, cond_false]
        cases (trX r.m s a kind level v exec).ok <;> rfl
      · simp only [rowT, cond_true]
        cases (trX r.m s a kind level v exec).ok <;> rfl
    · have e1 : (a % n != 0) = true := by simpa using e
      rw [e1, if_pos e]; rfl
  · obtain ⟨e1, e2, e3, e4⟩ := n4_ne hn
    unfold p_z14 accR
    dsimp only
    rw [if_pos hn, e1, e2, e3, e4, hb]; rfl
structure DoneAs (x : Int × GFault × Bool) (d : GDone) : Prop where
  v : x.1 = d.v
  f : x.2.1 = d.f
  ok : x.2.2 = d.ok
theorem at_rel {b : GBus} {r : GRBus} (h : Rb b r) (to a n kind : Int) {value : Int} (hv : W64 value) (v : Bool) (T : Row) : Rb (atB b to a n kind value v).1 (atR r to a n kind value v T).1 ∧ DoneAs (atB b to a n kind value v).2 (atR r to a n kind value v T).2 := by
  obtain ⟨w1, w2⟩ := write_rel h.norm to n hv
  obtain ⟨q1, q2⟩ := read_rel h.norm to n
  unfold atB atR
  by_cases hd : kind = 0 ∧ Dev to
  · rw [if_pos hd, if_pos ⟨hd.1, h.bare, hd.2⟩]; exact ⟨h.norm, rfl, rfl, rfl⟩
  have hd2 : ¬ (kind = 0 ∧ r.bare = false ∧ Dev to) := fun e => hd ⟨e.1, e.2.2⟩
  rw [if_neg hd, if_neg hd2]
  by_cases h2 : kind = 2
  · rw [if_pos h2, if_pos h2, w2]
    cases (writeR (nR r) to n value).2
    · exact ⟨w1.norm, rfl, rfl, rfl⟩
    · exact ⟨w1.norm, rfl, rfl, rfl⟩
  · rw [if_neg h2, if_neg h2, q2]
    cases (readR (nR r) to n).2.2
    · exact ⟨q1.norm, rfl, rfl, rfl⟩
    · exact ⟨q1.norm, rfl, rfl, rfl⟩
theorem acc_rel {b : GBus} {r : GRBus} (h : Rb b r) (s : GState) (a n kind : Int) {value : Int} (hv : W64 value) (level : Int) (v : Bool) : Rb (doB b s a n kind value level v).1 (accR r s a n kind value level v false).1 ∧ DoneAs (doB b s a n kind value level v).2 (accR r s a n kind value level v false).2 := by
  unfold doB accR alignedS
  by_cases hn : N4 n
  · have hn2 : ¬ ¬ N4 n := fun e => e hn
    rw [if_neg hn2, if_neg hn2]
    by_cases e : a % n ≠ 0
    · rw [if_pos e, if_pos e, if_pos rfl]; exact ⟨h.norm, rfl, rfl, rfl⟩
    · rw [if_neg e, if_neg e, if_neg (by simp)]
      have hT : trX r.m s a kind level v false = trO b.m s a kind level v := by rw [h.m]; rfl
      rw [hT]
      by_cases ho : (trO b.m s a kind level v).ok = false
      · rw [if_pos ho, if_pos ho]; exact ⟨h.norm, rfl, rfl, rfl⟩
      · rw [if_neg ho, if_neg ho]
        obtain ⟨a1, a2⟩ := at_rel h.normL (trO b.m s a kind level v).to a n kind hv v (rowT (tkR r.m s a kind level v false))
        exact ⟨a1.normL, a2⟩
  · rw [if_pos hn, if_pos hn, if_pos rfl]; exact ⟨h.norm, rfl, rfl, rfl⟩
end Go.Sh
