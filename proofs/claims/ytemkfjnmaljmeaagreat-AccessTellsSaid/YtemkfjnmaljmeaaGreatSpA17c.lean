/-
  The document's bus, told; and what it has to do with the program's.
-/
import Derived.Test.YtemkfjnmaljmeaaGreatSpA17b
set_option linter.unusedSimpArgs false
set_option linter.unusedVariables false
namespace Go.Sh
open Go
theorem toList_loop_length (s : ByteArray) : ∀ (d i : Nat) (r : List UInt8), s.size - i = d → (ByteArray.toList.loop s i r).length = d + r.length := by
  intro d
  induction d with
  | zero =>
    intro i r h
    rw [ByteArray.toList.loop, if_neg (by omega)]
    simp
  | succ d ih =>
    intro i r h
    rw [ByteArray.toList.loop, if_pos (by omega), ih _ _ (by omega)]
    simp; omega
theorem toList_length (s : ByteArray) : (ByteArray.toList s).length = s.size := by
  show (ByteArray.toList.loop s 0 []).length = _
  rw [toList_loop_length s s.size 0 [] (by omega)]
  rfl
theorem emptyB {s : ByteArray} (h : s.size = 0) : s = ByteArray.mk #[] := by
  apply ByteArray.ext
  apply Array.eq_empty_of_size_eq_zero
  exact h
theorem toListB (s : ByteArray) : (ByteArray.toList s == ByteArray.toList (ByteArray.mk #[])) = decide (s.size = 0) := by
  by_cases h : s.size = 0
  · rw [emptyB h]
    simp
    rfl
  · rw [decide_eq_false h]
    have : ByteArray.toList s ≠ ByteArray.toList (ByteArray.mk #[]) := fun e => h (by
      have e2 := congrArg List.length e
      rw [toList_length, toList_length] at e2
      exact e2)
    simpa using this
theorem bytesAt_get {s : ByteArray} {i : Nat} (h : i < s.size) : bytesAt s i = ((s[i]'h).toNat : Int) := by
  unfold bytesAt
  rw [getElem?_pos s i h]
  rfl
theorem byteExt {s t : ByteArray} (hn : s.size = t.size) (h : ∀ i, i < s.size → bytesAt s i = bytesAt t i) : s = t := by
  apply ByteArray.ext
  apply Array.ext hn
  intro i h1 h2
  have := h i h1
  rw [bytesAt_get h1, bytesAt_get h2] at this
  have e : (s[i]'h1).toNat = (t[i]'h2).toNat := by omega
  exact UInt8.toNat_inj.1 e
theorem extract_size (s : ByteArray) (a b : Nat) : (s.extract a b).size = min b s.size - a := by simp
theorem extract_bytes {s : ByteArray} {a b i : Nat} (h : i < min b s.size - a) : bytesAt (s.extract a b) i = bytesAt s (a + i) := by
  have h1 : i < (s.extract a b).size := by rw [extract_size]; exact h
  have h2 : a + i < s.size := by omega
  rw [bytesAt_get h1, bytesAt_get h2]
  congr 2
  simp [ByteArray.getElem_eq_getElem_data]
theorem append_bytes {s t : ByteArray} {i : Nat} (h : i < s.size + t.size) : bytesAt (s ++ t) i = if i < s.size then bytesAt s i else bytesAt t (i - s.size) := by
  have h1 : i < (s ++ t).size := by simpa using h
  rw [bytesAt_get h1]
  by_cases hi : i < s.size
  · rw [if_pos hi, bytesAt_get hi]
    congr 2
    simp only [ByteArray.getElem_eq_getElem_data, ByteArray.data_append]
    exact Array.getElem_append_left hi
  · rw [if_neg hi, bytesAt_get (by omega)]
    congr 2
    simp only [ByteArray.getElem_eq_getElem_data, ByteArray.data_append]
    exact Array.getElem_append_right (by exact Nat.le_of_not_lt hi)
def RowIs (r : Row) (s : ByteArray) : Prop := r.n = s.size ∧ ∀ i, i < r.n → r.f i = bytesAt s i
theorem strOf_is {r : Row} {s : ByteArray} (h : RowIs r s) : strOf r.f r.n = s := by
  apply byteExt
  · rw [strOf_size, h.1]
  · intro i hi
    rw [strOf_size] at hi
    have hb := bytesAt_bd s i
    rw [← h.2 i hi] at hb ⊢
    exact bytesAt_strOf hi hb.1 hb.2
theorem tail_is {r : Row} {s : ByteArray} (h : RowIs r s) (hn : r.n ≠ 0) : RowIs (tailR r) (s.extract 1 s.size) := by
  refine ⟨?_, fun i hi => ?_⟩
  · show r.n - 1 = _
    rw [extract_size, h.1]; omega
  · have hi : i < r.n - 1 := hi
    have := h.1
    rw [extract_bytes (by omega)]
    exact h.2 _ (by omega)
def one1 (c : Int) : ByteArray := strOf (fun i => (upd (fun _ => (0 : Int)) 0 c) (0 + i)) 1
def pushS (s : ByteArray) (c : Int) : ByteArray := if 64 < (s ++ one1 c).size then (s ++ one1 c).extract 1 (s ++ one1 c).size else s ++ one1 c
theorem one1_size (c : Int) : (one1 c).size = 1 := strOf_size _ _
theorem one1_at {c : Int} (h0 : 0 ≤ c) (h1 : c < 256) : bytesAt (one1 c) 0 = c := bytesAt_strOf (f := fun i => (upd (fun _ => (0 : Int)) 0 c) (0 + i)) (by omega) h0 h1
theorem pushS_size (s : ByteArray) (c : Int) : (s ++ one1 c).size = s.size + 1 := by
  rw [ByteArray.size_append, one1_size]
theorem push_is {r : Row} {s : ByteArray} (h : RowIs r s) (hn : r.n ≤ 64) {c : Int} (h0 : 0 ≤ c) (h1 : c < 256) : RowIs (pushR r c) (pushS s c) := by
  have hs := pushS_size s c
  have hr := h.1
  have hat : ∀ i, i < s.size + 1 → bytesAt (s ++ one1 c) i = (bif Nat.blt i r.n then r.f i else (upd (fun _ => (0 : Int)) 0 c) (0 + (i - r.n))) := by
    intro i hi
    rw [append_bytes (by rw [one1_size]; omega)]
    by_cases e : i < s.size
    · rw [if_pos e]
      have : Nat.blt i r.n = true := by simpa [Nat.blt_eq] using (by omega : i < r.n)
      rw [this]
      exact (h.2 i (by omega)).symm
    · rw [if_neg e]
      have : Nat.blt i r.n = false := by
        apply Bool.eq_false_iff.2
        intro hh
        have : i < r.n := by simpa [Nat.blt_eq] using hh
        omega
      have e2 : i - r.n = 0 := by omega
      have e3 : i - s.size = 0 := by omega
      rw [this, e2, e3, one1_at h0 h1]
      rfl
  by_cases e : r.n = 64
  · have e1 : 64 < (s ++ one1 c).size := by omega
    unfold pushS pushR
    rw [if_pos e1]
    refine ⟨?_, fun i hi => ?_⟩
    · show r.n + 1 - (r.n + 1 - 64) = _
      rw [extract_size]; omega
    · have hi : i < r.n + 1 - (r.n + 1 - 64) := hi
      have ee : r.n + 1 - 64 = 1 := by omega
      rw [extract_bytes (by omega), hat _ (by omega)]
      show (bif Nat.blt (r.n + 1 - 64 + i) r.n then r.f (r.n + 1 - 64 + i) else (upd (fun _ => (0 : Int)) 0 c) (0 + (r.n + 1 - 64 + i - r.n))) = _
      rw [ee]
  · have e1 : ¬ 64 < (s ++ one1 c).size := by omega
    unfold pushS pushR
    rw [if_neg e1]
    have ee : r.n + 1 - 64 = 0 := by omega
    refine ⟨?_, fun i hi => ?_⟩
    · show r.n + 1 - (r.n + 1 - 64) = _
      omega
    · have hi : i < r.n + 1 - (r.n + 1 - 64) := hi
      rw [hat _ (by omega)]
      show (bif Nat.blt (r.n + 1 - 64 + i) r.n then r.f (r.n + 1 - 64 + i) else (upd (fun _ => (0 : Int)) 0 c) (0 + (r.n + 1 - 64 + i - r.n))) = _
      rw [ee, Nat.zero_add]
theorem pushR_n {r : Row} (c : Int) : (pushR r c).n ≤ 64 := by show r.n + 1 - (r.n + 1 - 64) ≤ 64; omega
end Go.Sh
