/-
  The law AccessMis: its contract.
-/
import Derived.Test.YtigomjcmpafeeaaFnM17
import Derived.Test.YtigomjcmpafeeaaSpM17b
import Derived.Test.YtigomjcmpafeeaaFnAccess
set_option linter.unusedSimpArgs false
set_option linter.unusedVariables false
namespace Go.Proofs.Ytigomjcmpafeeaa
open Go Go.Sh Go.Proofs
theorem d_law17_known {α : Type} {I : Imm} : OrcOk (α := α) Try.prog I 36 (.pure (ad_law17_known sKnown17)) := by
  refine orc_le c_sallyportlaw17_known fun args k r hk => ?_
  unfold ad_law17_known at hk
  split at hk <;> try (cases hk; done)
  unfold sKnown17 at hk
  unfold trueF
  exact hk
theorem d_access_Aligned_no {α : Type} {I : Imm} : OrcOk (α := α) Try.prog I 78 (.pure (ad_access_Aligned_no sAlignNo)) := by
  refine orc_le c_access_Aligned fun args k r hk => ?_
  unfold ad_access_Aligned_no at hk
  split at hk <;> try (cases hk; done)
  obtain ⟨x0, rfl, hk0⟩ := decI_spec hk
  obtain ⟨x1, rfl, hk1⟩ := decI_spec hk0
  obtain ⟨x2, rfl, hk2⟩ := decI_spec hk1
  obtain ⟨x3, rfl, hk3⟩ := decB_spec hk2
  unfold sAlignNo at hk3
  obtain ⟨h1, h2⟩ := grd_some hk3
  unfold alignF
  dsimp only
  rw [h1]
  exact h2
theorem c_sallyportlaw17_AccessMis {α : Type} {I : Imm} : OrcOk (α := α) Try.prog I 12 (.pure (ad_law17_AccessMis sMis)) := by
  refine orc_le (mk_law17_AccessMis d_law17_known c_mem_New d_access_Aligned_no) fun args k r hk => le_law17_AccessMis (fun x0 x1 x2 x3 x4 k r h => ?_) hk
  unfold sMis at h
  obtain ⟨⟨h1, h3, h4⟩, h2⟩ := grd_some h
  rw [mis_eq h1 h3 h4]
  exact h2
end Go.Proofs.Ytigomjcmpafeeaa
