/-
  The law sallyportlaw24.ConfigTells answers true at every input (of every configuration the first error and where; windows, owners: as the document's), and the arguments read as before. No condition.
-/
import Derived.Test.YtgagmgcljkhboaaRows
import Derived.Test.YtgagmgcljkhboaaFnC24u
import Derived.Test.YtgagmgcljkhboaaSkC
import Derived.ProofKit
set_option linter.unusedSimpArgs false
set_option linter.unusedVariables false
namespace Go.Proofs.Ytgagmgcljkhboaa.configTells
open Go Go.Sh Go.ChangeShapes Go.WideShapes Go.ChangeAt Go.RowKit
set_option linter.unusedVariables false
theorem own : ownKnob Try.prog.godebug = none := by kernel_rfl
abbrev tds : List TD := [.st [.sl (.st [.sl (.int .i64), .str, .int .u64, .str]), .int .i64, .sl (.int .i64)], .int .i64]
theorem shapes : tdAll Try.prog Try.f3.params.toList tds = true := by kernel_rfl
theorem told (xs : tdVals tds) (hT : tdFits tds xs) : (ad_law24_ConfigTells sTellsC) (tdSvs tds xs) (fun x => some x) = some (.bool true) := by
  obtain ⟨⟨G, q, T, _⟩, x, _⟩ := xs
  simp only [tdFits, TD.Fit] at hT
  obtain ⟨⟨h1, h2, h3, _⟩, _⟩ := hT
  have hc : CfgOk ⟨G, q, T⟩ := by
    refine ⟨⟨Nat.le_trans h1.2.1 h1.2.2.1, fun g hg => ?_⟩, Nat.le_trans h3.2.1 h3.2.2.1⟩
    have h5 := (h1.2.2.2 g hg).1
    exact Nat.le_trans h5.2.1 h5.2.2.1
  exact dif_pos hc
set_option maxRecDepth 100000 in
theorem lifted (os : Os) (started : os.Started) (H : Type) (enc : TypeId × Value → H) :
    ReturnsInHanded {} Try.checked os 3 .any (Rows.configTellsSpec.pre6 enc Try.prog Try.f3 Rows.configTellsRow.domain false) (Rows.configTellsSpec.post enc Try.prog Try.f3 false true false false) := by
  refine returnsInHanded_of_change (C := Try.checked) own started (by kernel_rfl) Try.func3
    (ChangeSpec.witness6 (enc := enc) (C := Try.checked) false ⟨#[], #[.agg #[.slice none 0 0, .int .i64 0, .slice none 0 0], .int .i64 0], []⟩ 8 (by kernel_rfl) (by kernel_rfl) (by kernel_rfl) (by kernel_rfl)) ?_
  intro W base args ds gs before hval0 hW hcnd _
  have hW' := hW
  obtain ⟨p, q, hA, hV, rfl, hfz, hnd⟩ := hW
  obtain ⟨rfl, rfl⟩ := trodVars_none hV
  simp only [List.append_nil] at hW'
  obtain ⟨xs, hT, hargs, hwf⟩ := open_args shapes hA (fun j t v hj hv => hval0 j t v (by simpa using hj) (by simpa using hv))
  have hd : ∃ d0 d1, ds = [d0, d1] := by
    rw [Try.params3] at hA
    obtain ⟨v0, vs0, d0, ds0, p0, q0, _, rfl, _, _, r0⟩ := trodAll_cons hA
    obtain ⟨v1, vs1, d1, ds1, p1, q1, _, rfl, _, _, r1⟩ := trodAll_cons r0
    obtain ⟨_, rfl, _⟩ := trodAll_nil r1
    exact ⟨d0, d1, rfl⟩
  obtain ⟨d0, d1, hds⟩ := hd
  have e : args = ((tdSvs tds xs).map (val noPl)).toArray := by apply Array.toList_inj.1; rw [hargs]
  subst e
  refine (law_of (fun _ => c_sallyportlaw24_ConfigTells) (told xs hT) W hwf).mono fun e0 W' ⟨he, hg⟩ => ?_
  subst he
  have hA2 : DataW.TrodAll enc Try.prog W 0 (fun _ => true) true Try.f3.params.toList ((tdSvs tds xs).map (val noPl)).toArray.toList ds p := hA
  subst hds
  exact ⟨_, rfl, law_end (tb := 4) rfl hW' hA2 rfl rfl rfl rfl Try.underlying4 (by kernel_rfl) (by kernel_rfl) (by kernel_rfl) (by kernel_rfl) hg⟩

theorem over : Rows.configTellsRow.holds Try.pinned (OpenSpec.ofChange Rows.configTellsSpec) :=
  OpenClaim.holds_of_wide 3 Try.f3 rfl rfl rfl rfl rfl rfl rfl ⟨rfl, rfl, rfl, rfl, rfl⟩ rfl rfl rfl rfl rfl (by kernel_rfl) Try.func3 (by kernel_rfl)
    (of_decide_eq_true (by kernel_rfl)) (by unfold Func.isWrapper; first | (rw [if_pos (by decide +kernel)]; kernel_rfl) | (rw [if_neg (by decide +kernel)]; exact ⟨rfl, rfl⟩))
    (fun os started H enc _ => lifted os started H enc)

/-- The statement. -/
theorem proved : Rows.ConfigTellsSaid :=
  over
#print axioms proved
end Go.Proofs.Ytgagmgcljkhboaa.configTells
