/-
  The law sallyportlaw12.TwoKept answers true at every input (a translation that is kept lets be what a new one lets be), and the arguments read as before. No condition.
-/
import Derived.Test.YtigomjcmpafeeaaRows
import Derived.Test.YtigomjcmpafeeaaFnT12b
import Derived.Test.YtigomjcmpafeeaaSkC
import Derived.ProofKit
set_option linter.unusedSimpArgs false
set_option linter.unusedVariables false
namespace Go.Proofs.Ytigomjcmpafeeaa.twoKept
open Go Go.Sh Go.ChangeShapes Go.WideShapes Go.ChangeAt Go.RowKit
set_option linter.unusedVariables false
theorem own : ownKnob Try.prog.godebug = none := by kernel_rfl
abbrev tds : List TD := [.sl (.st [.int .u64, .int .u64]), .st [.ints 32 .u64, .int .u64, .int .i64, .bool, .ints 29 .u64, .int .u64], .int .u64, .int .u64, .int .u8, .int .u8, .bool, .bool]
theorem shapes : tdAll Try.prog Try.f6.params.toList tds = true := by kernel_rfl
theorem told (xs : tdVals tds) (hT : tdFits tds xs) : (ad_law12_TwoKept sKept) (tdSvs tds xs) (fun x => some x) = some (.bool true) := by
  obtain ⟨l, st, at_, o, kind, kind2, user, v, _⟩ := xs
  simp only [tdFits, TD.Fit] at hT
  obtain ⟨hl, _, h2, h3, h4, h5, _⟩ := hT
  have hw : rowOk l := by
    intro i hi
    obtain ⟨h6, h7, _⟩ := hl.2.2.2 i hi
    exact ⟨w64_le (bounds_u64 h6), w64_le (bounds_u64 h7)⟩
  exact grd_pos ⟨hw, ⟨w64_le (bounds_u64 h2), w64_le (bounds_u64 h3)⟩, (bounds_u8 h4).1, (bounds_u8 h5).1⟩ _
set_option maxRecDepth 100000 in
theorem lifted (os : Os) (started : os.Started) (H : Type) (enc : TypeId × Value → H) :
    ReturnsInHanded {} Try.checked os 6 .any (Rows.twoKeptSpec.pre6 enc Try.prog Try.f6 Rows.twoKeptRow.domain false) (Rows.twoKeptSpec.post enc Try.prog Try.f6 false true false false) := by
  refine returnsInHanded_of_change (C := Try.checked) own started (by kernel_rfl) Try.func6
    (ChangeSpec.witness6 (enc := enc) (C := Try.checked) false ⟨#[], #[.slice none 0 0, .agg (Array.replicate 32 (.int .u64 0) ++ #[.int .u64 0, .int .i64 0, .bool false] ++ Array.replicate 29 (.int .u64 0) ++ #[.int .u64 0]), .int .u64 0, .int .u64 0, .int .u8 0, .int .u8 0, .bool false, .bool false], []⟩ 8 (by kernel_rfl) (by kernel_rfl) (by kernel_rfl) (by kernel_rfl)) ?_
  intro W base args ds gs before hval0 hW hcnd _
  have hW' := hW
  obtain ⟨p, q, hA, hV, rfl, hfz, hnd⟩ := hW
  obtain ⟨rfl, rfl⟩ := trodVars_none hV
  simp only [List.append_nil] at hW'
  obtain ⟨xs, hT, hargs, hwf⟩ := open_args shapes hA (fun j t v hj hv => hval0 j t v (by simpa using hj) (by simpa using hv))
  have hd : ∃ d0 d1 d2 d3 d4 d5 d6 d7, ds = [d0, d1, d2, d3, d4, d5, d6, d7] := by
    rw [Try.params6] at hA
    obtain ⟨v0, vs0, d0, ds0, p0, q0, _, rfl, _, _, r0⟩ := trodAll_cons hA
    obtain ⟨v1, vs1, d1, ds1, p1, q1, _, rfl, _, _, r1⟩ := trodAll_cons r0
    obtain ⟨v2, vs2, d2, ds2, p2, q2, _, rfl, _, _, r2⟩ := trodAll_cons r1
    obtain ⟨v3, vs3, d3, ds3, p3, q3, _, rfl, _, _, r3⟩ := trodAll_cons r2
    obtain ⟨v4, vs4, d4, ds4, p4, q4, _, rfl, _, _, r4⟩ := trodAll_cons r3
    obtain ⟨v5, vs5, d5, ds5, p5, q5, _, rfl, _, _, r5⟩ := trodAll_cons r4
    obtain ⟨v6, vs6, d6, ds6, p6, q6, _, rfl, _, _, r6⟩ := trodAll_cons r5
    obtain ⟨v7, vs7, d7, ds7, p7, q7, _, rfl, _, _, r7⟩ := trodAll_cons r6
    obtain ⟨_, rfl, _⟩ := trodAll_nil r7
    exact ⟨d0, d1, d2, d3, d4, d5, d6, d7, rfl⟩
  obtain ⟨d0, d1, d2, d3, d4, d5, d6, d7, hds⟩ := hd
  have e : args = ((tdSvs tds xs).map (val noPl)).toArray := by apply Array.toList_inj.1; rw [hargs]
  subst e
  refine (law_of (fun _ => c_sallyportlaw12_TwoKept) (told xs hT) W hwf).mono fun e0 W' ⟨he, hg⟩ => ?_
  subst he
  have hA2 : DataW.TrodAll enc Try.prog W 0 (fun _ => true) true Try.f6.params.toList ((tdSvs tds xs).map (val noPl)).toArray.toList ds p := hA
  subst hds
  exact ⟨_, rfl, law_end (tb := 4) rfl hW' hA2 rfl rfl rfl rfl Try.underlying4 (by kernel_rfl) (by kernel_rfl) (by kernel_rfl) (by kernel_rfl) hg⟩

theorem over : Rows.twoKeptRow.holds Try.pinned (OpenSpec.ofChange Rows.twoKeptSpec) :=
  OpenClaim.holds_of_wide 6 Try.f6 rfl rfl rfl rfl rfl rfl rfl ⟨rfl, rfl, rfl, rfl, rfl⟩ rfl rfl rfl rfl rfl (by kernel_rfl) Try.func6 (by kernel_rfl)
    (of_decide_eq_true (by kernel_rfl)) (by unfold Func.isWrapper; first | (rw [if_pos (by decide +kernel)]; kernel_rfl) | (rw [if_neg (by decide +kernel)]; exact ⟨rfl, rfl⟩))
    (fun os started H enc _ => lifted os started H enc)

/-- The statement. -/
theorem proved : Rows.TwoKeptSaid :=
  over
#print axioms proved
end Go.Proofs.Ytigomjcmpafeeaa.twoKept
