/-
  The law sallyportlaw17.AccessPlain answers true at every input (without tables what is written is read, of each size; beyond memory and devices nothing is), and the arguments read as before. No condition.
-/
import Derived.Test.YthcpbmgbehidlaaRows
import Derived.Test.YthcpbmgbehidlaaTnP17b
import Derived.Test.YthcpbmgbehidlaaSkC
import Derived.ProofKit
set_option linter.unusedSimpArgs false
set_option linter.unusedVariables false
namespace Go.Proofs.Ythcpbmgbehidlaa.accessPlain
open Go Go.Sh Go.ChangeShapes Go.WideShapes Go.ChangeAt Go.RowKit
set_option linter.unusedVariables false
theorem own : ownKnob Try.prog.godebug = none := by kernel_rfl
abbrev tds : List TD := [.int .u64, .int .u8, .int .u64]
theorem shapes : tdAll Try.prog Try.f5.params.toList tds = true := by kernel_rfl
theorem told (xs : tdVals tds) (hT : tdFits tds xs) : (ad_zw sPlain17) (tdSvs tds xs) (fun x => some x) = some (.bool true) := by
  obtain ⟨a, n, v, _⟩ := xs
  simp only [tdFits, TD.Fit] at hT
  obtain ⟨h1, h2, h3, _⟩ := hT
  exact grd_pos ⟨⟨(bounds_u64 h1).1, by have := (bounds_u64 h1).2; omega⟩, ⟨(bounds_u8 h2).1, by have := (bounds_u8 h2).2; omega⟩, ⟨(bounds_u64 h3).1, by have := (bounds_u64 h3).2; omega⟩⟩ _
set_option maxRecDepth 100000 in
theorem lifted (os : Os) (started : os.Started) (H : Type) (enc : TypeId × Value → H) :
    ReturnsInHanded {} Try.checked os 5 .any (Rows.accessPlainSpec.pre6 enc Try.prog Try.f5 Rows.accessPlainRow.domain false) (Rows.accessPlainSpec.post enc Try.prog Try.f5 false true false false) := by
  refine returnsInHanded_of_change (C := Try.checked) own started (by kernel_rfl) Try.func5
    (ChangeSpec.witness6 (enc := enc) (C := Try.checked) false ⟨#[], #[.int .u64 0, .int .u8 0, .int .u64 0], []⟩ 8 (by kernel_rfl) (by kernel_rfl) (by kernel_rfl) (by kernel_rfl)) ?_
  intro W base args ds gs before hval0 hW hcnd _
  have hW' := hW
  obtain ⟨p, q, hA, hV, rfl, hfz, hnd⟩ := hW
  obtain ⟨rfl, rfl⟩ := trodVars_none hV
  simp only [List.append_nil] at hW'
  obtain ⟨xs, hT, hargs, hwf⟩ := open_args shapes hA (fun j t v hj hv => hval0 j t v (by simpa using hj) (by simpa using hv))
  have hd : ∃ d0 d1 d2, ds = [d0, d1, d2] := by
    rw [Try.params5] at hA
    obtain ⟨v0, vs0, d0, ds0, p0, q0, _, rfl, _, _, r0⟩ := trodAll_cons hA
    obtain ⟨v1, vs1, d1, ds1, p1, q1, _, rfl, _, _, r1⟩ := trodAll_cons r0
    obtain ⟨v2, vs2, d2, ds2, p2, q2, _, rfl, _, _, r2⟩ := trodAll_cons r1
    obtain ⟨_, rfl, _⟩ := trodAll_nil r2
    exact ⟨d0, d1, d2, rfl⟩
  obtain ⟨d0, d1, d2, hds⟩ := hd
  have e : args = ((tdSvs tds xs).map (val noPl)).toArray := by apply Array.toList_inj.1; rw [hargs]
  subst e
  refine (law_of (fun _ => c_z3h) (told xs hT) W hwf).mono fun e0 W' ⟨he, hg⟩ => ?_
  subst he
  have hA2 : DataW.TrodAll enc Try.prog W 0 (fun _ => true) true Try.f5.params.toList ((tdSvs tds xs).map (val noPl)).toArray.toList ds p := hA
  subst hds
  exact ⟨_, rfl, law_end (tb := 4) rfl hW' hA2 rfl rfl rfl rfl Try.underlying4 (by kernel_rfl) (by kernel_rfl) (by kernel_rfl) (by kernel_rfl) hg⟩
theorem over : Rows.accessPlainRow.holds Try.pinned (OpenSpec.ofChange Rows.accessPlainSpec) :=
  OpenClaim.holds_of_wide 5 Try.f5 rfl rfl rfl rfl rfl rfl rfl ⟨rfl, rfl, rfl, rfl, rfl⟩ rfl rfl rfl rfl rfl (by kernel_rfl) Try.func5 (by kernel_rfl)
    (of_decide_eq_true (by kernel_rfl)) (by unfold Func.isWrapper; first | (rw [if_pos (by decide +kernel)]; kernel_rfl) | (rw [if_neg (by decide +kernel)]; exact ⟨rfl, rfl⟩))
    (fun os started H enc _ => lifted os started H enc)
theorem proved : Rows.AccessPlainSaid :=
  over
#print axioms proved
end Go.Proofs.Ythcpbmgbehidlaa.accessPlain
