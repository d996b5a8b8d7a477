/-
  The law sallyportlaw27.SoloSameness answers true at every input (states that differ in the host's tables alone are the same to a guest; in anything else they aren't), and the arguments read as before. No condition.
-/
import Derived.Test.YtodnffhcbhlifaaGreatRows
import Derived.Test.YtodnffhcbhlifaaGreatVnSameness
import Derived.Test.YtodnffhcbhlifaaGreatGnFcA
import Derived.Test.YtodnffhcbhlifaaGreatGnFcB
import Derived.Test.YtodnffhcbhlifaaGreatGnFcC
import Derived.Test.YtodnffhcbhlifaaGreatGnFcD
import Derived.Test.YtodnffhcbhlifaaGreatSkC
import Derived.ProofKit
set_option linter.unusedSimpArgs false
set_option linter.unusedVariables false
namespace Go.Proofs.YtodnffhcbhlifaaGreat.soloSameness
open Go Go.Sh Go.ChangeShapes Go.WideShapes Go.ChangeAt Go.RowKit
set_option linter.unusedVariables false
theorem own : ownKnob Tryz.prog.godebug=none:=by kernel_rfl
abbrev tds : List TD:=[.st [.ints 32 .u64,.int .u64,.int .i64,.bool,.ints 29 .u64,.int .u64],.int .u8,.int .u64]
theorem shapes : tdAll Tryz.prog Tryz.f3.params.toList tds=true:=by kernel_rfl
theorem told (xs:tdVals tds) (hT:tdFits tds xs):(ad_z1x sSame) (tdSvs tds xs) (fun x=>some x)=some (.bool true):=by
  obtain ⟨st,n,v,_⟩:=xs
  simp only [tdFits,TD.Fit] at hT
  obtain ⟨_,hn,_⟩:=hT
  exact grd_pos (bounds_u8 hn) _
set_option maxRecDepth 100000 in
theorem lifted (os:Os) (started:os.Started) (H:Type) (enc:TypeId × Value→H):
    ReturnsInHanded {} Tryz.checked os 3 .any (Rows.soloSamenessSpec.pre6 enc Tryz.prog Tryz.f3 Rows.soloSamenessRow.domain false) (Rows.soloSamenessSpec.post enc Tryz.prog Tryz.f3 false true false false):=by
  refine returnsInHanded_of_change (C:=Tryz.checked) own started (by kernel_rfl) Tryz.func3
    (ChangeSpec.witness6 (enc:=enc) (C:=Tryz.checked) false ⟨#[],#[.agg (Array.replicate 32 (.int .u64 0)++ #[.int .u64 0,.int .i64 0,.bool false]++ Array.replicate 29 (.int .u64 0)++ #[.int .u64 0]),.int .u8 0,.int .u64 0],[]⟩ 8 (by kernel_rfl) (by kernel_rfl) (by kernel_rfl) (by kernel_rfl)) ?_
  intro W base args ds gs before hval0 hW hcnd _
  have hW':=hW
  obtain ⟨p,q,hA,hV,rfl,hfz,hnd⟩:=hW
  obtain ⟨rfl,rfl⟩:=trodVars_none hV
  simp only [List.append_nil] at hW'
  obtain ⟨xs,hT,hargs,hwf⟩:=open_args shapes hA (fun j t v hj hv=>hval0 j t v (by simpa using hj) (by simpa using hv))
  have hd:∃d0 d1 d2,ds=[d0,d1,d2]:=by
    rw [Tryz.params3] at hA
    obtain ⟨v0,vs0,d0,ds0,p0,q0,_,rfl,_,_,r0⟩:=trodAll_cons hA
    obtain ⟨v1,vs1,d1,ds1,p1,q1,_,rfl,_,_,r1⟩:=trodAll_cons r0
    obtain ⟨v2,vs2,d2,ds2,p2,q2,_,rfl,_,_,r2⟩:=trodAll_cons r1
    obtain ⟨_,rfl,_⟩:=trodAll_nil r2
    exact ⟨d0,d1,d2,rfl⟩
  obtain ⟨d0,d1,d2,hds⟩:=hd
  have e:args=((tdSvs tds xs).map (val noPl)).toArray:=by apply Array.toList_inj.1; rw [hargs]
  subst e
  refine (law_of (fun _=>c_z72) (told xs hT) W hwf).mono fun e0 W' ⟨he,hg⟩=>?_
  subst he
  have hA2:DataW.TrodAll enc Tryz.prog W 0 (fun _=>true) true Tryz.f3.params.toList ((tdSvs tds xs).map (val noPl)).toArray.toList ds p:=hA
  subst hds
  exact ⟨_,rfl,law_end (tb:=4) rfl hW' hA2 rfl rfl rfl rfl Tryz.underlying4 (by kernel_rfl) (by kernel_rfl) (by kernel_rfl) (by kernel_rfl) hg⟩
theorem rf_9 : ((Rows.soloSamenessRow.inPlace==Tryz.prog.inPlace 3):Bool)=true:=by kernel_rfl
theorem rf_10 : ((Rows.soloSamenessRow.unfollowed==Tryz.prog.unfollowed 3):Bool)=true:=by kernel_rfl
theorem rf_11 : ((Rows.soloSamenessRow.recurses==Tryz.prog.recurses 3):Bool)=true:=by kernel_rfl
theorem rf_12 : ((Rows.soloSamenessRow.named==Tryz.prog.varsNamed 3):Bool)=true:=by kernel_rfl
theorem and2 {a b:Bool} (h1:a=true) (h2:b=true):(a && b)=true:=by rw [h1,h2]; rfl
theorem closedFacts : joinedFacts Tryz.prog 3 Tryz.f3 Rows.soloSamenessSpec Rows.soloSamenessRow=true:=by
  unfold joinedFacts
  exact and2 (and2 (and2 (and2 (and2 (and2 (and2 (and2 (and2 (and2 (and2 (and2 (and2 (and2 (and2 (and2 (and2 (and2 (and2 (and2 (and2 (and2 (and2 (and2 (and2 (and2 (and2 (and2 (and2 (and2 (and2 ((by kernel_rfl)) fc_1) fc_2) (by kernel_rfl)) (by kernel_rfl)) (by kernel_rfl)) (by kernel_rfl)) (by kernel_rfl)) (by kernel_rfl)) rf_9) rf_10) rf_11) rf_12) (by kernel_rfl)) (by kernel_rfl)) (by kernel_rfl)) (by kernel_rfl)) (by kernel_rfl)) (by kernel_rfl)) (by kernel_rfl)) (by kernel_rfl)) (by kernel_rfl)) fc_22) (by kernel_rfl)) fc_24) fc_25) fc_26) fc_27) (by kernel_rfl)) (by kernel_rfl)) (by kernel_rfl)) (by kernel_rfl)
theorem over : Rows.soloSamenessRow.holds Tryz.pinned (OpenSpec.ofChange Rows.soloSamenessSpec):=
  OpenClaim.holds_of_wide 3 Tryz.f3 rfl rfl rfl rfl rfl rfl rfl ⟨rfl,rfl,rfl,rfl,rfl⟩ rfl rfl rfl rfl rfl (by kernel_rfl) Tryz.func3 closedFacts
    (of_decide_eq_true (by kernel_rfl)) (by unfold Func.isWrapper; first | (rw [if_pos (by decide+kernel)]; kernel_rfl) | (rw [if_neg (by decide+kernel)]; exact ⟨rfl,rfl⟩))
    (fun os started H enc _=>lifted os started H enc)
theorem proved : Rows.SoloSamenessSaid:=
  over
#print axioms proved
end Go.Proofs.YtodnffhcbhlifaaGreat.soloSameness
