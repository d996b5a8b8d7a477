/-
  The law sallyportlaw12.TwoOwn answers true at every input (with a second table a place leads to frames that this names alone), and the arguments read as before. No condition.
-/
import Derived.Test.YtigomjcmpafeeaaRows
import Derived.Test.YtigomjcmpafeeaaFnOwn
import Derived.Test.YtigomjcmpafeeaaSk24
import Derived.ProofKit
set_option linter.unusedSimpArgs false
set_option linter.unusedVariables false
namespace Go.Proofs.Ytigomjcmpafeeaa.twoOwn
open Go Go.Sh Go.ChangeShapes Go.WideShapes Go.ChangeAt Go.RowKit
set_option linter.unusedVariables false
theorem own : ownKnob Try.prog.godebug = none := by kernel_rfl
abbrev tds : List TD := [.sl (.int .u8), .int .u64, .int .u8, .bool]
theorem shapes : tdAll Try.prog Try.f7.params.toList tds = true := by kernel_rfl
theorem told (xs : tdVals tds) (hT : tdFits tds xs) : twoOwnF (tdSvs tds xs) (fun x => some x) = some (.bool true) := by
  obtain ⟨⟨nl, a, len, cap, f⟩, at_, kind, user, _⟩ := xs
  simp only [tdFits, TD.Fit] at hT
  obtain ⟨⟨h1, h2, h3, h4⟩, h5, h6, _⟩ := hT
  refine if_pos ?_
  refine ⟨⟨(bounds_u64 h5).1, by have := (bounds_u64 h5).2; omega⟩, (bounds_u8 h6).1, fun i hi => ⟨(bounds_u8 (h4 i hi)).1, by have := (bounds_u8 (h4 i hi)).2; omega⟩⟩
set_option maxRecDepth 100000 in
theorem lifted (os : Os) (started : os.Started) (H : Type) (enc : TypeId × Value → H) :
    ReturnsInHanded {} Try.checked os 7 .any (Rows.twoOwnSpec.pre6 enc Try.prog Try.f7 Rows.twoOwnRow.domain false) (Rows.twoOwnSpec.post enc Try.prog Try.f7 false true false false) := by
  refine returnsInHanded_of_change (C := Try.checked) own started (by kernel_rfl) Try.func7
    (ChangeSpec.witness6 (enc := enc) (C := Try.checked) false ⟨#[], #[.slice none 0 0, .int .u64 0, .int .u8 0, .bool false], []⟩ 8 (by kernel_rfl) (by kernel_rfl) (by kernel_rfl) (by kernel_rfl)) ?_
  intro W base args ds gs before hval0 hW hcnd _
  have hW' := hW
  obtain ⟨p, q, hA, hV, rfl, hfz, hnd⟩ := hW
  obtain ⟨rfl, rfl⟩ := trodVars_none hV
  simp only [List.append_nil] at hW'
  obtain ⟨xs, hT, hargs, hwf⟩ := open_args shapes hA (fun j t v hj hv => hval0 j t v (by simpa using hj) (by simpa using hv))
  have hd : ∃ d0 d1 d2 d3, ds = [d0, d1, d2, d3] := by
    rw [Try.params7] at hA
    obtain ⟨v0, vs0, d0, ds0, p0, q0, _, rfl, _, _, r0⟩ := trodAll_cons hA
    obtain ⟨v1, vs1, d1, ds1, p1, q1, _, rfl, _, _, r1⟩ := trodAll_cons r0
    obtain ⟨v2, vs2, d2, ds2, p2, q2, _, rfl, _, _, r2⟩ := trodAll_cons r1
    obtain ⟨v3, vs3, d3, ds3, p3, q3, _, rfl, _, _, r3⟩ := trodAll_cons r2
    obtain ⟨_, rfl, _⟩ := trodAll_nil r3
    exact ⟨d0, d1, d2, d3, rfl⟩
  obtain ⟨d0, d1, d2, d3, hds⟩ := hd
  have e : args = ((tdSvs tds xs).map (val noPl)).toArray := by apply Array.toList_inj.1; rw [hargs]
  subst e
  refine (law_of (fun _ => c_sallyportlaw12_TwoOwn) (told xs hT) W hwf).mono fun e0 W' ⟨he, hg⟩ => ?_
  subst he
  have hA2 : DataW.TrodAll enc Try.prog W 0 (fun _ => true) true Try.f7.params.toList ((tdSvs tds xs).map (val noPl)).toArray.toList ds p := hA
  subst hds
  exact ⟨_, rfl, law_end (tb := 4) rfl hW' hA2 rfl rfl rfl rfl Try.underlying4 (by kernel_rfl) (by kernel_rfl) (by kernel_rfl) (by kernel_rfl) hg⟩

theorem over : Rows.twoOwnRow.holds Try.pinned (OpenSpec.ofChange Rows.twoOwnSpec) :=
  OpenClaim.holds_of_wide 7 Try.f7 rfl rfl rfl rfl rfl rfl rfl ⟨rfl, rfl, rfl, rfl, rfl⟩ rfl rfl rfl rfl rfl (by kernel_rfl) Try.func7 (by kernel_rfl)
    (of_decide_eq_true (by kernel_rfl)) (by unfold Func.isWrapper; first | (rw [if_pos (by decide +kernel)]; kernel_rfl) | (rw [if_neg (by decide +kernel)]; exact ⟨rfl, rfl⟩))
    (fun os started H enc _ => lifted os started H enc)

/-- The statement. -/
theorem proved : Rows.TwoOwnSaid :=
  over
#print axioms proved
end Go.Proofs.Ytigomjcmpafeeaa.twoOwn
