/-
  The law sallyportlaw12.TwoBoth answers true at every input (through both tables a page leads where the second one leads the frame of the first one), and the arguments read as before. No condition.
-/
import Derived.Test.YtigomjcmpafeeaaRows
import Derived.Test.YtigomjcmpafeeaaFnBoth
import Derived.Test.YtigomjcmpafeeaaSk24
import Derived.ProofKit
set_option linter.unusedSimpArgs false
set_option linter.unusedVariables false
namespace Go.Proofs.Ytigomjcmpafeeaa.twoBoth
open Go Go.Sh Go.ChangeShapes Go.WideShapes Go.ChangeAt Go.RowKit
set_option linter.unusedVariables false
theorem own : ownKnob Try.prog.godebug = none := by kernel_rfl
abbrev tds : List TD := [.int .u8, .int .u8, .int .u8, .int .u8, .int .u8]
theorem shapes : tdAll Try.prog Try.f8.params.toList tds = true := by kernel_rfl
theorem told (xs : tdVals tds) (hT : tdFits tds xs) : twoBothF (tdSvs tds xs) (fun x => some x) = some (.bool true) := by
  obtain ⟨page, guest, host, at_, kind, _⟩ := xs
  simp only [tdFits, TD.Fit] at hT
  obtain ⟨h1, h2, h3, h4, h5, _⟩ := hT
  exact if_pos ⟨(bounds_u8 h1).1, (bounds_u8 h2).1, (bounds_u8 h3).1, ⟨(bounds_u8 h4).1, by have := (bounds_u8 h4).2; omega⟩, (bounds_u8 h5).1⟩
set_option maxRecDepth 100000 in
theorem lifted (os : Os) (started : os.Started) (H : Type) (enc : TypeId × Value → H) :
    ReturnsInHanded {} Try.checked os 8 .any (Rows.twoBothSpec.pre6 enc Try.prog Try.f8 Rows.twoBothRow.domain false) (Rows.twoBothSpec.post enc Try.prog Try.f8 false true false false) := by
  refine returnsInHanded_of_change (C := Try.checked) own started (by kernel_rfl) Try.func8
    (ChangeSpec.witness6 (enc := enc) (C := Try.checked) false ⟨#[], #[.int .u8 0, .int .u8 0, .int .u8 0, .int .u8 0, .int .u8 0], []⟩ 8 (by kernel_rfl) (by kernel_rfl) (by kernel_rfl) (by kernel_rfl)) ?_
  intro W base args ds gs before hval0 hW hcnd _
  have hW' := hW
  obtain ⟨p, q, hA, hV, rfl, hfz, hnd⟩ := hW
  obtain ⟨rfl, rfl⟩ := trodVars_none hV
  simp only [List.append_nil] at hW'
  obtain ⟨xs, hT, hargs, hwf⟩ := open_args shapes hA (fun j t v hj hv => hval0 j t v (by simpa using hj) (by simpa using hv))
  have hd : ∃ d0 d1 d2 d3 d4, ds = [d0, d1, d2, d3, d4] := by
    rw [Try.params8] at hA
    obtain ⟨v0, vs0, d0, ds0, p0, q0, _, rfl, _, _, r0⟩ := trodAll_cons hA
    obtain ⟨v1, vs1, d1, ds1, p1, q1, _, rfl, _, _, r1⟩ := trodAll_cons r0
    obtain ⟨v2, vs2, d2, ds2, p2, q2, _, rfl, _, _, r2⟩ := trodAll_cons r1
    obtain ⟨v3, vs3, d3, ds3, p3, q3, _, rfl, _, _, r3⟩ := trodAll_cons r2
    obtain ⟨v4, vs4, d4, ds4, p4, q4, _, rfl, _, _, r4⟩ := trodAll_cons r3
    obtain ⟨_, rfl, _⟩ := trodAll_nil r4
    exact ⟨d0, d1, d2, d3, d4, rfl⟩
  obtain ⟨d0, d1, d2, d3, d4, hds⟩ := hd
  have e : args = ((tdSvs tds xs).map (val noPl)).toArray := by apply Array.toList_inj.1; rw [hargs]
  subst e
  refine (law_of (fun _ => c_sallyportlaw12_TwoBoth) (told xs hT) W hwf).mono fun e0 W' ⟨he, hg⟩ => ?_
  subst he
  have hA2 : DataW.TrodAll enc Try.prog W 0 (fun _ => true) true Try.f8.params.toList ((tdSvs tds xs).map (val noPl)).toArray.toList ds p := hA
  subst hds
  exact ⟨_, rfl, law_end (tb := 4) rfl hW' hA2 rfl rfl rfl rfl Try.underlying4 (by kernel_rfl) (by kernel_rfl) (by kernel_rfl) (by kernel_rfl) hg⟩

theorem over : Rows.twoBothRow.holds Try.pinned (OpenSpec.ofChange Rows.twoBothSpec) :=
  OpenClaim.holds_of_wide 8 Try.f8 rfl rfl rfl rfl rfl rfl rfl ⟨rfl, rfl, rfl, rfl, rfl⟩ rfl rfl rfl rfl rfl (by kernel_rfl) Try.func8 (by kernel_rfl)
    (of_decide_eq_true (by kernel_rfl)) (by unfold Func.isWrapper; first | (rw [if_pos (by decide +kernel)]; kernel_rfl) | (rw [if_neg (by decide +kernel)]; exact ⟨rfl, rfl⟩))
    (fun os started H enc _ => lifted os started H enc)

/-- The statement. -/
theorem proved : Rows.TwoBothSaid :=
  over
#print axioms proved
end Go.Proofs.Ytigomjcmpafeeaa.twoBoth
