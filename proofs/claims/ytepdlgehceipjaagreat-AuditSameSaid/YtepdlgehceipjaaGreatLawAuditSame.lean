/-
  The law sallyportlaw23.AuditSame answers true at every input (of every two rows of retirements the first place at which they are unlike), and the arguments read as before. No condition.
-/
import Derived.Test.YtepdlgehceipjaaGreatRows
import Derived.Test.YtepdlgehceipjaaGreatInAudit
import Derived.Test.YtepdlgehceipjaaGreatGnFcA
import Derived.Test.YtepdlgehceipjaaGreatGnFcB
import Derived.Test.YtepdlgehceipjaaGreatGnFcC
import Derived.Test.YtepdlgehceipjaaGreatGnFcD
import Derived.Test.YtepdlgehceipjaaGreatSkC
import Derived.ProofKit
set_option linter.unusedSimpArgs false
set_option linter.unusedVariables false
namespace Go.Proofs.YtepdlgehceipjaaGreat.auditSame
open Go Go.Sh Go.ChangeShapes Go.WideShapes Go.ChangeAt Go.RowKit
set_option linter.unusedVariables false
theorem own : ownKnob Tryz.prog.godebug=none:=by kernel_rfl
abbrev tds : List TD:=[.sl (.st [.int .u64,.int .u32,.int .i64,.int .u64,.bool,.st [.int .u64,.int .u64,.int .u64,.bool],.int .i64,.bool,.bool]),.sl (.st [.int .u64,.int .u32,.int .i64,.int .u64,.bool,.st [.int .u64,.int .u64,.int .u64,.bool],.int .i64,.bool,.bool])]
theorem shapes : tdAll Tryz.prog Tryz.f7.params.toList tds=true:=by kernel_rfl
theorem told (xs:tdVals tds) (hT:tdFits tds xs):(ad_z1f sAudit) (tdSvs tds xs) (fun x=>some x)=some (.bool true):=by
  obtain ⟨a,b,_⟩:=xs
  exact rfl
set_option maxRecDepth 100000 in
theorem lifted (os:Os) (started:os.Started) (H:Type) (enc:TypeId × Value→H):
    ReturnsInHanded {} Tryz.checked os 7 .any (Rows.auditSameSpec.pre6 enc Tryz.prog Tryz.f7 Rows.auditSameRow.domain false) (Rows.auditSameSpec.post enc Tryz.prog Tryz.f7 false true false false):=by
  refine returnsInHanded_of_change (C:=Tryz.checked) own started (by kernel_rfl) Tryz.func7
    (ChangeSpec.witness6 (enc:=enc) (C:=Tryz.checked) false ⟨#[],#[.slice none 0 0,.slice none 0 0],[]⟩ 8 (by kernel_rfl) (by kernel_rfl) (by kernel_rfl) (by kernel_rfl)) ?_
  intro W base args ds gs before hval0 hW hcnd _
  have hW':=hW
  obtain ⟨p,q,hA,hV,rfl,hfz,hnd⟩:=hW
  obtain ⟨rfl,rfl⟩:=trodVars_none hV
  simp only [List.append_nil] at hW'
  obtain ⟨xs,hT,hargs,hwf⟩:=open_args shapes hA (fun j t v hj hv=>hval0 j t v (by simpa using hj) (by simpa using hv))
  have hd:∃d0 d1,ds=[d0,d1]:=by
    rw [Tryz.params7] at hA
    obtain ⟨v0,vs0,d0,ds0,p0,q0,_,rfl,_,_,r0⟩:=trodAll_cons hA
    obtain ⟨v1,vs1,d1,ds1,p1,q1,_,rfl,_,_,r1⟩:=trodAll_cons r0
    obtain ⟨_,rfl,_⟩:=trodAll_nil r1
    exact ⟨d0,d1,rfl⟩
  obtain ⟨d0,d1,hds⟩:=hd
  have e:args=((tdSvs tds xs).map (val noPl)).toArray:=by apply Array.toList_inj.1; rw [hargs]
  subst e
  refine (law_of (fun _=>c_z5q) (told xs hT) W hwf).mono fun e0 W' ⟨he,hg⟩=>?_
  subst he
  have hA2:DataW.TrodAll enc Tryz.prog W 0 (fun _=>true) true Tryz.f7.params.toList ((tdSvs tds xs).map (val noPl)).toArray.toList ds p:=hA
  subst hds
  exact ⟨_,rfl,law_end (tb:=4) rfl hW' hA2 rfl rfl rfl rfl Tryz.underlying4 (by kernel_rfl) (by kernel_rfl) (by kernel_rfl) (by kernel_rfl) hg⟩
theorem rf_9 : ((Rows.auditSameRow.inPlace==Tryz.prog.inPlace 7):Bool)=true:=by kernel_rfl
theorem rf_10 : ((Rows.auditSameRow.unfollowed==Tryz.prog.unfollowed 7):Bool)=true:=by kernel_rfl
theorem rf_11 : ((Rows.auditSameRow.recurses==Tryz.prog.recurses 7):Bool)=true:=by kernel_rfl
theorem rf_12 : ((Rows.auditSameRow.named==Tryz.prog.varsNamed 7):Bool)=true:=by kernel_rfl
theorem and2 {a b:Bool} (h1:a=true) (h2:b=true):(a && b)=true:=by rw [h1,h2]; rfl
theorem closedFacts : joinedFacts Tryz.prog 7 Tryz.f7 Rows.auditSameSpec Rows.auditSameRow=true:=by
  unfold joinedFacts
  exact and2 (and2 (and2 (and2 (and2 (and2 (and2 (and2 (and2 (and2 (and2 (and2 (and2 (and2 (and2 (and2 (and2 (and2 (and2 (and2 (and2 (and2 (and2 (and2 (and2 (and2 (and2 (and2 (and2 (and2 (and2 ((by kernel_rfl)) fc_1) fc_2) (by kernel_rfl)) (by kernel_rfl)) (by kernel_rfl)) (by kernel_rfl)) (by kernel_rfl)) (by kernel_rfl)) rf_9) rf_10) rf_11) rf_12) (by kernel_rfl)) (by kernel_rfl)) (by kernel_rfl)) (by kernel_rfl)) (by kernel_rfl)) (by kernel_rfl)) (by kernel_rfl)) (by kernel_rfl)) (by kernel_rfl)) fc_22) (by kernel_rfl)) fc_24) fc_25) fc_26) fc_27) (by kernel_rfl)) (by kernel_rfl)) (by kernel_rfl)) (by kernel_rfl)
theorem over : Rows.auditSameRow.holds Tryz.pinned (OpenSpec.ofChange Rows.auditSameSpec):=
  OpenClaim.holds_of_wide 7 Tryz.f7 rfl rfl rfl rfl rfl rfl rfl ⟨rfl,rfl,rfl,rfl,rfl⟩ rfl rfl rfl rfl rfl (by kernel_rfl) Tryz.func7 closedFacts
    (of_decide_eq_true (by kernel_rfl)) (by unfold Func.isWrapper; first | (rw [if_pos (by decide+kernel)]; kernel_rfl) | (rw [if_neg (by decide+kernel)]; exact ⟨rfl,rfl⟩))
    (fun os started H enc _=>lifted os started H enc)
theorem proved : Rows.AuditSameSaid:=
  over
#print axioms proved
end Go.Proofs.YtepdlgehceipjaaGreat.auditSame
