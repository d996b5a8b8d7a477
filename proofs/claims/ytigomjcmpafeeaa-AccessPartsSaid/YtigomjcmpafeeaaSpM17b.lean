/-
  The law AccessMis, told without the program.
-/
import Derived.Test.YtigomjcmpafeeaaSpM17
set_option linter.unusedSimpArgs false
set_option linter.unusedVariables false
namespace Go.Sh
open Go
set_option linter.unusedSimpArgs false
theorem alignS_mis {A K kk : Int} {v : Bool} (hK : K = 2 ∨ K = 4 ∨ K = 8) (h : ¬ A.tmod (IntKind.u64.wrap K) = 0) : alignS A K kk v = (⟨c3 0 4 6 kk, A, 0, v⟩, false) := by
  have hb : (A.tmod (IntKind.u64.wrap K) != 0) = true := by simpa using h
  unfold alignS
  rw [hb]
  rcases hK with rfl | rfl | rfl <;> rfl
theorem alignS_3 {A kk : Int} {v : Bool} : alignS A 3 kk v = (accessS A kk v, false) := rfl
theorem or1 {a : Int} (h : W64 a) : W64 (bitop .or .u64 a 1) ∧ bitop .or .u64 a 1 % 2 = 1 := by
  refine ⟨bitop_u64 _ _ _, ?_⟩
  rw [bitop_or h.1 h.2 (by omega) (by omega)]
  have e : (1 : Int).toNat = 1 := rfl
  rw [e]
  have := Nat.testBit_or a.toNat 1 0
  simp only [Nat.testBit_zero] at this
  have h2 : decide ((a.toNat ||| 1) % 2 = 1) = true := by rw [this]; simp
  have := of_decide_eq_true h2
  omega
theorem shl2 {n a : Int} (h : 0 ≤ n) (ha : W64 a) (ho : a % 2 = 1) :
    (gshl .i64 2 (IntKind.u64.wrap (n.tmod 3)) = 2 ∨ gshl .i64 2 (IntKind.u64.wrap (n.tmod 3)) = 4 ∨ gshl .i64 2 (IntKind.u64.wrap (n.tmod 3)) = 8) ∧
    IntKind.u64.wrap (gshl .i64 2 (IntKind.u64.wrap (n.tmod 3))) = gshl .i64 2 (IntKind.u64.wrap (n.tmod 3)) ∧
    ¬ a.tmod (IntKind.u64.wrap (gshl .i64 2 (IntKind.u64.wrap (n.tmod 3)))) = 0 := by
  rw [Int.tmod_eq_emod_of_nonneg h]
  have h0 := ha.1
  have : n % 3 = 0 ∨ n % 3 = 1 ∨ n % 3 = 2 := by omega
  have e0 : gshl .i64 2 (IntKind.u64.wrap 0) = 2 := by decide +kernel
  have e1 : gshl .i64 2 (IntKind.u64.wrap 1) = 4 := by decide +kernel
  have e2 : gshl .i64 2 (IntKind.u64.wrap 2) = 8 := by decide +kernel
  have w0 : IntKind.u64.wrap 2 = 2 := by decide +kernel
  have w1 : IntKind.u64.wrap 4 = 4 := by decide +kernel
  have w2 : IntKind.u64.wrap 8 = 8 := by decide +kernel
  rcases this with h | h | h <;> rw [h]
  · rw [e0, w0, Int.tmod_eq_emod_of_nonneg h0]; exact ⟨.inl rfl, rfl, by omega⟩
  · rw [e1, w1, Int.tmod_eq_emod_of_nonneg h0]; exact ⟨.inr (.inl rfl), rfl, by omega⟩
  · rw [e2, w2, Int.tmod_eq_emod_of_nonneg h0]; exact ⟨.inr (.inr rfl), rfl, by omega⟩
def sKnown17 {α : Type} : Sg_law17_known α := fun k => k true
noncomputable def sAlignNo {α : Type} : Sg_access_Aligned_no α := fun a n kind v k => grd ((alignS a n kind v).2 = false) (k (gF (alignS a n kind v).1))
theorem mis_eq {s : GState} {at_ n kind : Int} (ha : W64 at_) (hn : 0 ≤ n) (hk : 0 ≤ kind) (v : Bool) {α : Type} (k : Bool → R α) : p_law17_AccessMis sKnown17 sAlignNo s at_ n kind v k = k true := by
  unfold p_law17_AccessMis sKnown17 sAlignNo
  dsimp only
  obtain ⟨ho, ho2⟩ := or1 ha
  obtain ⟨hs, hs2, hs3⟩ := shl2 hn ho ho2
  have k3 := kind3 hk
  have hn3 : decide (IntKind.u64.wrap (n.tmod 3) < 0) = false := by
    have := (wrap_u64_bd (n.tmod 3)).1
    simp; omega
  have ht : kind.tmod 3 = IntKind.i64.wrap (kind.tmod 3) := by
    have e : kind.tmod 3 = kind % 3 := Int.tmod_eq_emod_of_nonneg hk
    rw [e, wrap_i64 (by omega) (by omega)]
  rw [← ht] at k3 ⊢
  generalize kind.tmod 3 = kk at k3 ⊢
  simp only [hn3, Bool.not_true, cond_false]
  generalize gshl .i64 2 (IntKind.u64.wrap (n.tmod 3)) = K at hs hs3 ⊢
  generalize bitop .or .u64 at_ 1 = A at hs3 ⊢
  obtain ⟨r1, r2, r3⟩ := rC3 (a := 0) (b := 4) (c := 6) k3
  obtain ⟨_, _, r4⟩ := rC3 (a := 1) (b := 5) (c := 7) k3
  simp only [alignS_mis hs hs3, alignS_3, grd_pos trivial, r1, r2, r3, r4, gF, accessS, beq_self_eq_true, Bool.and_self, cond_true]
noncomputable def sMis {α : Type} : Sg_law17_AccessMis α := fun _ at_ n kind _ k => grd (W64 at_ ∧ 0 ≤ n ∧ 0 ≤ kind) (k true)
end Go.Sh
