/-
  The law sallyportlaw19.IsaCounts answers true at every input (a loop that counts down ends with what it must, in as many steps as it must), and the arguments read as before. No condition.
-/
import Derived.Test.YtepdlgehceipjaaGreatRows
import Derived.Test.YtepdlgehceipjaaGreatInCounts
import Derived.Test.YtepdlgehceipjaaGreatGnFcA
import Derived.Test.YtepdlgehceipjaaGreatGnFcB
import Derived.Test.YtepdlgehceipjaaGreatGnFcC
import Derived.Test.YtepdlgehceipjaaGreatGnFcD
import Derived.Test.YtepdlgehceipjaaGreatSkC
import Derived.ProofKit
set_option linter.unusedSimpArgs false
set_option linter.unusedVariables false
namespace Go.Proofs.YtepdlgehceipjaaGreat.isaCounts
open Go Go.Sh Go.ChangeShapes Go.WideShapes Go.ChangeAt Go.RowKit
set_option linter.unusedVariables false
theorem own : ownKnob Tryz.prog.godebug=none:=by kernel_rfl
abbrev tds : List TD:=[.int .u8]
theorem shapes : tdAll Tryz.prog Tryz.f4.params.toList tds=true:=by kernel_rfl
theorem told (xs:tdVals tds) (hT:tdFits tds xs):(ad_z32 sCounts) (tdSvs tds xs) (fun x=>some x)=some (.bool true):=by
  obtain ⟨n,_⟩:=xs
  simp only [tdFits,TD.Fit] at hT
  obtain ⟨hn,_⟩:=hT
  exact countsT n (bounds_u8 hn)
set_option maxRecDepth 100000 in
theorem lifted (os:Os) (started:os.Started) (H:Type) (enc:TypeId × Value→H):
    ReturnsInHanded {} Tryz.checked os 4 .any (Rows.isaCountsSpec.pre6 enc Tryz.prog Tryz.f4 Rows.isaCountsRow.domain false) (Rows.isaCountsSpec.post enc Tryz.prog Tryz.f4 false true false false):=by
  refine returnsInHanded_of_change (C:=Tryz.checked) own started (by kernel_rfl) Tryz.func4
    (ChangeSpec.witness6 (enc:=enc) (C:=Tryz.checked) false ⟨#[],#[.int .u8 0],[]⟩ 8 (by kernel_rfl) (by kernel_rfl) (by kernel_rfl) (by kernel_rfl)) ?_
  intro W base args ds gs before hval0 hW hcnd _
  have hW':=hW
  obtain ⟨p,q,hA,hV,rfl,hfz,hnd⟩:=hW
  obtain ⟨rfl,rfl⟩:=trodVars_none hV
  simp only [List.append_nil] at hW'
  obtain ⟨xs,hT,hargs,hwf⟩:=open_args shapes hA (fun j t v hj hv=>hval0 j t v (by simpa using hj) (by simpa using hv))
  have hd:∃d0,ds=[d0]:=by
    rw [Tryz.params4] at hA
    obtain ⟨v0,vs0,d0,ds0,p0,q0,_,rfl,_,_,r0⟩:=trodAll_cons hA
    obtain ⟨_,rfl,_⟩:=trodAll_nil r0
    exact ⟨d0,rfl⟩
  obtain ⟨d0,hds⟩:=hd
  have e:args=((tdSvs tds xs).map (val noPl)).toArray:=by apply Array.toList_inj.1; rw [hargs]
  subst e
  refine (law_of (fun _=>c_z98) (told xs hT) W hwf).mono fun e0 W' ⟨he,hg⟩=>?_
  subst he
  have hA2:DataW.TrodAll enc Tryz.prog W 0 (fun _=>true) true Tryz.f4.params.toList ((tdSvs tds xs).map (val noPl)).toArray.toList ds p:=hA
  subst hds
  exact ⟨_,rfl,law_end (tb:=4) rfl hW' hA2 rfl rfl rfl rfl Tryz.underlying4 (by kernel_rfl) (by kernel_rfl) (by kernel_rfl) (by kernel_rfl) hg⟩
theorem rf_9 : ((Rows.isaCountsRow.inPlace==Tryz.prog.inPlace 4):Bool)=true:=by kernel_rfl
theorem rf_10 : ((Rows.isaCountsRow.unfollowed==Tryz.prog.unfollowed 4):Bool)=true:=by kernel_rfl
theorem rf_11 : ((Rows.isaCountsRow.recurses==Tryz.prog.recurses 4):Bool)=true:=by kernel_rfl
theorem rf_12 : ((Rows.isaCountsRow.named==Tryz.prog.varsNamed 4):Bool)=true:=by kernel_rfl
theorem and2 {a b:Bool} (h1:a=true) (h2:b=true):(a && b)=true:=by rw [h1,h2]; rfl
theorem closedFacts : joinedFacts Tryz.prog 4 Tryz.f4 Rows.isaCountsSpec Rows.isaCountsRow=true:=by
  unfold joinedFacts
  exact and2 (and2 (and2 (and2 (and2 (and2 (and2 (and2 (and2 (and2 (and2 (and2 (and2 (and2 (and2 (and2 (and2 (and2 (and2 (and2 (and2 (and2 (and2 (and2 (and2 (and2 (and2 (and2 (and2 (and2 (and2 ((by kernel_rfl)) fc_1) fc_2) (by kernel_rfl)) (by kernel_rfl)) (by kernel_rfl)) (by kernel_rfl)) (by kernel_rfl)) (by kernel_rfl)) rf_9) rf_10) rf_11) rf_12) (by kernel_rfl)) (by kernel_rfl)) (by kernel_rfl)) (by kernel_rfl)) (by kernel_rfl)) (by kernel_rfl)) (by kernel_rfl)) (by kernel_rfl)) (by kernel_rfl)) fc_22) (by kernel_rfl)) fc_24) fc_25) fc_26) fc_27) (by kernel_rfl)) (by kernel_rfl)) (by kernel_rfl)) (by kernel_rfl)
theorem over : Rows.isaCountsRow.holds Tryz.pinned (OpenSpec.ofChange Rows.isaCountsSpec):=
  OpenClaim.holds_of_wide 4 Tryz.f4 rfl rfl rfl rfl rfl rfl rfl ⟨rfl,rfl,rfl,rfl,rfl⟩ rfl rfl rfl rfl rfl (by kernel_rfl) Tryz.func4 closedFacts
    (of_decide_eq_true (by kernel_rfl)) (by unfold Func.isWrapper; first | (rw [if_pos (by decide+kernel)]; kernel_rfl) | (rw [if_neg (by decide+kernel)]; exact ⟨rfl,rfl⟩))
    (fun os started H enc _=>lifted os started H enc)
theorem proved : Rows.IsaCountsSaid:=
  over
#print axioms proved
end Go.Proofs.YtepdlgehceipjaaGreat.isaCounts
