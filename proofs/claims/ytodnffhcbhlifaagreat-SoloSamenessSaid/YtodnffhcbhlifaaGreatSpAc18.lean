/-
  The program's bus and its accesses, told.
-/
import Derived.Test.YtodnffhcbhlifaaGreatSpB18
import Derived.Test.YtodnffhcbhlifaaGreatSpMemLaw
namespace Go.Sh
open Go
set_option linter.unusedSimpArgs false
set_option linter.unusedVariables false
noncomputable def grd {α:Type} (p:Prop) (x:R α):R α:=@ite _ p (Classical.propDecidable p) x none
theorem grd_some {α:Type} {p:Prop} {x:R α} {r:α} (h:grd p x=some r):p∧x=some r:=by
  unfold grd at h
  split at h
  · exact ⟨by assumption,h⟩
  · cases h
theorem grd_pos {α:Type} {p:Prop} (h:p) (x:R α):grd p x=x:=by unfold grd; exact if_pos h
theorem z0 : decide ((0:Int)≤0)=true:=rfl
theorem z1 : decide ((0:Int)≤1)=true:=rfl
def clampK (x:Int):Nat:=if x≤0 then 0 else if x=1 then 1 else 2
def sCause {α:Type}:Sg_z10 α:=fun x f k=>k (f (clampK x))
theorem cause_eq {α:Type} (x:Int) (f:Nat→Int) (k:Int→R α):p_z10 x f k=sCause x f k:=by
  unfold p_z10 sCause clampK pickmx
  dsimp only
  by_cases h0:x≤0
  · rw [if_pos h0]
    by_cases h:x < 0
    · rw [if_pos h]; rfl
    · have:x=0:=by omega
      subst this; rfl
  · rw [if_neg h0,if_neg (show ¬ x < 0 by omega)]
    by_cases h1:x=1
    · subst h1; rfl
    · rw [if_neg h1]
      by_cases h2:2 < x
      · rw [if_pos h2]; rfl
      · have:x=2:=by omega
        subst this; rfl
def badF (at_ kind:Int) (v:Bool):GFault:=⟨(upd (upd (upd (fun _=>0) 0 1) 1 5) 2 7:Nat→Int) (clampK kind),at_,0,v⟩
def sBad {α:Type}:Sg_z1w α:=fun a kind v k=>k (badF a kind v)
theorem bad_eq {α:Type} (a kind:Int) (v:Bool) (k:GFault→R α):p_z1w sCause a kind v k=sBad a kind v k:=rfl
end Go.Sh
