/-
  Accesses: the program's and the document's.
-/
import Derived.Test.YtemkfjnmaljmeaaGreatSpA17e
set_option linter.unusedSimpArgs false
set_option linter.unusedVariables false
namespace Go.Sh
open Go
theorem bif_ind {β : Type} {P : β → Prop} (b : Bool) {x y : β} (hx : P x) (hy : P y) : P (bif b then x else y) := by cases b <;> assumption
theorem second_w64 {g : Nat → Int} {s : Bool} {h p k : Int} (hp : W64 p) : W64 (secondS g s h p k).1 := by
  unfold secondS
  exact bif_ind (P := fun x : Int × Int × Int => W64 x.1) _ (bif_ind (P := fun x : Int × Int × Int => W64 x.1) _ zero_w64 hp) (bif_ind (P := fun x : Int × Int × Int => W64 x.1) _ zero_w64 (bif_ind (P := fun x : Int × Int × Int => W64 x.1) _ zero_w64 place_w64))
theorem first_w64 {f : Nat → Int} {fst sec sum mxr : Bool} {root host a kind : Int} {v user : Bool} (ha : W64 a) : W64 (firstS f fst sec sum mxr root host a kind v user).place := by
  unfold firstS
  exact bif_ind (P := fun x : Firsts => W64 x.place) _ ha (bif_ind (P := fun x : Firsts => W64 x.place) _ zero_w64 (bif_ind (P := fun x : Firsts => W64 x.place) _ zero_w64 (bif_ind (P := fun x : Firsts => W64 x.place) _ zero_w64 place_w64)))
theorem transA_w64 {f : Nat → Int} {A : Asking} {a kind : Int} {user v : Bool} (ha : W64 a) : W64 (transA f A a kind user v).to := by
  unfold transA
  exact bif_ind (P := fun x : Trans => W64 x.to) _ (bif_ind (P := fun x : Trans => W64 x.to) _ ha ha) (bif_ind (P := fun x : Trans => W64 x.to) _ zero_w64 (bif_ind (P := fun x : Trans => W64 x.to) _ zero_w64 (bif_ind (P := fun x : Trans => W64 x.to) _ zero_w64 (second_w64 (first_w64 ha)))))
def clampK (x : Int) : Nat := if x ≤ 0 then 0 else if x = 1 then 1 else 2
def sCause {α : Type} : Sg_zt α := fun x f k => k (f (clampK x))
theorem cause_eq {α : Type} (x : Int) (f : Nat → Int) (k : Int → R α) : p_zt x f k = sCause x f k := by
  unfold p_zt sCause clampK pickmx
  dsimp only
  by_cases h0 : x ≤ 0
  · rw [if_pos h0]
    by_cases h : x < 0
    · rw [if_pos h]; rfl
    · have : x = 0 := by omega
      subst this; rfl
  · rw [if_neg h0, if_neg (show ¬ x < 0 by omega)]
    by_cases h1 : x = 1
    · subst h1; rfl
    · rw [if_neg h1]
      by_cases h2 : 2 < x
      · rw [if_pos h2]; rfl
      · have : x = 2 := by omega
        subst this; rfl
def badF (at_ kind : Int) (v : Bool) : GFault := ⟨(upd (upd (upd (fun _ => 0) 0 1) 1 5) 2 7 : Nat → Int) (clampK kind), at_, 0, v⟩
def misF (at_ kind : Int) (v : Bool) : GFault := ⟨(upd (upd (upd (fun _ => 0) 0 0) 1 4) 2 6 : Nat → Int) (clampK kind), at_, 0, v⟩
abbrev okF : GFault := ⟨0, 0, 0, false⟩
def sBad {α : Type} : Sg_zn α := fun a kind v k => k (badF a kind v)
theorem bad_eq {α : Type} (a kind : Int) (v : Bool) (k : GFault → R α) : p_zn sCause a kind v k = sBad a kind v k := rfl
abbrev N4 (n : Int) : Prop := n = 1 ∨ n = 2 ∨ n = 4 ∨ n = 8
def alignedS (a n kind : Int) (v : Bool) : GFault × Bool :=
  if ¬ N4 n then (badF a kind v, false) else if a % n ≠ 0 then (misF a kind v, false) else (okF, true)
noncomputable def sAligned {α : Type} : Sg_zl α := fun a n kind v k => grd (W64 a) (k (alignedS a n kind v).1 (alignedS a n kind v).2)
theorem n4_ne {n : Int} (h : ¬ N4 n) : (n != 1) = true ∧ (n != 2) = true ∧ (n != 4) = true ∧ (n != 8) = true := by
  refine ⟨?_, ?_, ?_, ?_⟩ <;> simp only [bne_iff_ne, ne_eq] <;> intro e <;> exact h (by omega)
theorem aligned_eq {α : Type} {a : Int} (ha : W64 a) (n kind : Int) (v : Bool) (k : GFault → Bool → R α) : p_zl sBad sCause a n kind v k = k (alignedS a n kind v).1 (alignedS a n kind v).2 := by
  unfold p_zl alignedS
  dsimp only
  by_cases hn : N4 n
  · rw [if_neg (fun e => e hn)]
    have key : ∀ m : Int, 0 < m → (Int.tmod a m != 0) = decide (a % m ≠ 0) := fun m hm => by
      rw [Int.tmod_eq_emod_of_nonneg ha.1]
      by_cases e : a % m = 0
      · rw [e]; rfl
      · have h1 : (a % m != 0) = true := by simpa using e
        rw [h1, decide_eq_true e]
    have fin : ∀ m : Int, 0 < m → IntKind.u64.wrap m = m → (cond (decide (IntKind.u64.wrap m = 0)) none (cond (Int.tmod a (IntKind.u64.wrap m) != 0) (sCause kind (upd (upd (upd (fun _ => 0) 0 0) 1 4) 2 6) fun r9 => k (GFault.mk r9 a 0 v) false) (k okF true)) : R α) =
        k (if a % m ≠ 0 then (misF a kind v, false) else (okF, true)).1 (if a % m ≠ 0 then (misF a kind v, false) else (okF, true)).2 := fun m hm hw => by
      rw [hw, key m hm, decide_eq_false (show ¬ m = 0 by omega)]
      by_cases e : a % m ≠ 0
      · rw [if_pos e, decide_eq_true e]; rfl
      · rw [if_neg e, decide_eq_false e]; rfl
    rcases hn with rfl | rfl | rfl | rfl
    · exact fin 1 (by omega) rfl
    · exact fin 2 (by omega) rfl
    · exact fin 4 (by omega) rfl
    · exact fin 8 (by omega) rfl
  · obtain ⟨e1, e2, e3, e4⟩ := n4_ne hn
    rw [if_pos hn, e1, e2, e3, e4]; rfl
abbrev Dev (place : Int) : Prop := 61440 ≤ place ∧ place < 62720
abbrev Few (b : GBus) : Prop := ∀ i, i < 4 → (b.ports i).outp.n ≤ 64
theorem few_nB {b : GBus} (h : Few b) : Few (nB b) := fun i hi => by rw [four_ports, four_at _ _ hi]; exact h i hi
noncomputable def sBRd {α : Type} : Sg_zu α := fun b a n k => grd (W64 a) (k (readB b a n).1 (readB b a n).2.1 (readB b a n).2.2)
noncomputable def sBWr {α : Type} : Sg_zv α := fun b a n v k => grd (W64 a ∧ Few b) (k (writeB b a n v).1 (writeB b a n v).2)
def atB (b : GBus) (place a n kind value : Int) (v : Bool) : GBus × Int × GFault × Bool :=
  if kind = 0 ∧ Dev place then (nB b, 0, badF a kind v, false) else
  if kind = 2 then (if (writeB (nB b) place n value).2 = true then (nB (writeB (nB b) place n value).1, 0, okF, true) else (nB (writeB (nB b) place n value).1, 0, badF a kind v, false)) else
  if (readB (nB b) place n).2.2 = true then (nB (readB (nB b) place n).1, (readB (nB b) place n).2.1, okF, true) else (nB (readB (nB b) place n).1, 0, badF a kind v, false)
noncomputable def sAt {α : Type} : Sg_zf α := fun b place a n kind value v k => grd (W64 place ∧ Few b) (k (atB b place a n kind value v).1 (atB b place a n kind value v).2.1 (atB b place a n kind value v).2.2.1 (atB b place a n kind value v).2.2.2)
theorem at_eq {α : Type} {b : GBus} {place : Int} (hp : W64 place) (hb : Few b) (a n kind value : Int) (v : Bool) (k : GBus → Int → GFault → Bool → R α) : p_zf sBad sBWr sBRd b place a n kind value v k = k (atB b place a n kind value v).1 (atB b place a n kind value v).2.1 (atB b place a n kind value v).2.2.1 (atB b place a n kind value v).2.2.2 := by
  unfold p_zf atB sBWr sBRd sBad
  dsimp only
  simp only [GN, gN_self]
  have e1 : W64 place ∧ Few (nB b) := ⟨hp, few_nB hb⟩
  change (cond (kind == 0) (cond (leB 61440 place) (cond (ltB place 62720) (k (nB b) 0 (badF a kind v) false)
      (cond (kind == 2) (grd (W64 place ∧ Few (nB b)) (cond (!(writeB (nB b) place n value).2) (k (nB (writeB (nB b) place n value).1) 0 (badF a kind v) false) (k (nB (writeB (nB b) place n value).1) 0 okF true)))
        (grd (W64 place) (cond (!(readB (nB b) place n).2.2) (k (nB (readB (nB b) place n).1) 0 (badF a kind v) false) (k (nB (readB (nB b) place n).1) (readB (nB b) place n).2.1 okF true)))))
      (cond (kind == 2) (grd (W64 place ∧ Few (nB b)) (cond (!(writeB (nB b) place n value).2) (k (nB (writeB (nB b) place n value).1) 0 (badF a kind v) false) (k (nB (writeB (nB b) place n value).1) 0 okF true)))
        (grd (W64 place) (cond (!(readB (nB b) place n).2.2) (k (nB (readB (nB b) place n).1) 0 (badF a kind v) false) (k (nB (readB (nB b) place n).1) (readB (nB b) place n).2.1 okF true)))))
      (cond (kind == 2) (grd (W64 place ∧ Few (nB b)) (cond (!(writeB (nB b) place n value).2) (k (nB (writeB (nB b) place n value).1) 0 (badF a kind v) false) (k (nB (writeB (nB b) place n value).1) 0 okF true)))
        (grd (W64 place) (cond (!(readB (nB b) place n).2.2) (k (nB (readB (nB b) place n).1) 0 (badF a kind v) false) (k (nB (readB (nB b) place n).1) (readB (nB b) place n).2.1 okF true))))) = _
  rw [grd_pos e1, grd_pos hp]
  generalize writeB (nB b) place n value = W
  generalize readB (nB b) place n = Q
  obtain ⟨W1, W2⟩ := W
  obtain ⟨Q1, Q2, Q3⟩ := Q
  dsimp only
  have tail : (cond (kind == 2) (cond (!W2) (k (nB W1) 0 (badF a kind v) false) (k (nB W1) 0 okF true)) (cond (!Q3) (k (nB Q1) 0 (badF a kind v) false) (k (nB Q1) Q2 okF true)) : R α) =
      k (if kind = 2 then (if W2 = true then (nB W1, (0 : Int), okF, true) else (nB W1, 0, badF a kind v, false)) else if Q3 = true then (nB Q1, Q2, okF, true) else (nB Q1, 0, badF a kind v, false)).1
        (if kind = 2 then (if W2 = true then (nB W1, (0 : Int), okF, true) else (nB W1, 0, badF a kind v, false)) else if Q3 = true then (nB Q1, Q2, okF, true) else (nB Q1, 0, badF a kind v, false)).2.1
        (if kind = 2 then (if W2 = true then (nB W1, (0 : Int), okF, true) else (nB W1, 0, badF a kind v, false)) else if Q3 = true then (nB Q1, Q2, okF, true) else (nB Q1, 0, badF a kind v, false)).2.2.1
        (if kind = 2 then (if W2 = true then (nB W1, (0 : Int), okF, true) else (nB W1, 0, badF a kind v, false)) else if Q3 = true then (nB Q1, Q2, okF, true) else (nB Q1, 0, badF a kind v, false)).2.2.2 := by
    by_cases h2 : kind = 2
    · have e : (kind == 2) = true := by simpa using h2
      rw [e, if_pos h2]
      cases W2 <;> rfl
    · have e : (kind == 2) = false := by simpa using h2
      rw [e, if_neg h2]
      cases Q3 <;> rfl
  by_cases hd : kind = 0 ∧ Dev place
  · obtain ⟨h0, h1, h2⟩ := hd
    have e : (kind == 0) = true := by simpa using h0
    have e2 : leB 61440 place = true := by simp only [leB_true]; exact h1
    have e3 : ltB place 62720 = true := by simp only [ltB_true]; exact h2
    rw [e, e2, e3, if_pos ⟨h0, h1, h2⟩]; rfl
  · rw [if_neg hd, ← tail]
    cases e : (kind == 0) <;> cases e2 : leB 61440 place <;> cases e3 : ltB place 62720 <;> first | rfl | (exfalso; apply hd; simp only [leB_true, ltB_true, beq_iff_eq] at e e2 e3; exact ⟨e, e2, e3⟩)
end Go.Sh
