/-
  What the functions of Walk come to, told without the program.
-/
import Derived.Test.YtodnffhcbhlifaaGreatSpPte
set_option linter.unusedSimpArgs false
set_option linter.unusedVariables false
namespace Go.Sh
open Go
set_option linter.unusedSimpArgs false
def entryOk (frame index:Int):Bool:=decide (0≤frame) && (decide (frame < 128) && (decide (0≤index) && decide (index < 16)))
def entryV (f:Nat→Int) (frame index:Int):Int:=bif entryOk frame index then readS f (frame * 256+ index * 8) 8 else 0
def entryF {α:Type}:FF α:=fun args σ k=>match args with
  | [p,.int .i64 frame,.int .i64 index]=>withMem σ p fun _ _ _ _ f=>k (.tuple [.int .u64 (entryV f frame index),.bool (entryOk frame index)]) σ
  | _=>none
theorem entry_facts {frame index:Int} (h:entryOk frame index=true):0≤frame∧frame < 128∧0≤index∧index < 16∧IntKind.i64.wrap (IntKind.i64.wrap (frame * 256)+ IntKind.i64.wrap (index * 8))=frame * 256+ index * 8∧IntKind.u64.wrap (frame * 256+ index * 8)=frame * 256+ index * 8:=by
  simp only [entryOk,Bool.and_eq_true,decide_eq_true_eq] at h
  obtain ⟨h1,h2,h3,h4⟩:=h
  have e1:IntKind.i64.wrap (frame * 256)=frame * 256:=wrap_i64 (by omega) (by omega)
  have e2:IntKind.i64.wrap (index * 8)=index * 8:=wrap_i64 (by omega) (by omega)
  exact ⟨h1,h2,h3,h4,by rw [e1,e2]; exact wrap_i64 (by omega) (by omega),wrap_u64 (by omega) (by omega)⟩
theorem u2_0 {β:Type} (f:Nat→β) (a b:β):upd (upd f 0 a) 1 b (Int.toNat 0)=a:=rfl
theorem u2_1 {β:Type} (f:Nat→β) (a b:β):upd (upd f 0 a) 1 b (Int.toNat (IntKind.i64.wrap (0+ 1)))=b:=rfl
def thr (rd:Int→Int→Int × Int) (root at_:Int):Int × Int:=
  bif leB 65536 at_ then (0,1) else
  bif (rd root (IntKind.i64.wrap (bitsS at_ 12 4))).2 !=0 then (0,(rd root (IntKind.i64.wrap (bitsS at_ 12 4))).2) else
  bif !isS (rd root (IntKind.i64.wrap (bitsS at_ 12 4))).1 then (0,1) else
  bif !leafS (rd root (IntKind.i64.wrap (bitsS at_ 12 4))).1 then
    (bif (rd (frameS (rd root (IntKind.i64.wrap (bitsS at_ 12 4))).1) (IntKind.i64.wrap (bitsS at_ 8 4))).2 !=0 then (0,(rd (frameS (rd root (IntKind.i64.wrap (bitsS at_ 12 4))).1) (IntKind.i64.wrap (bitsS at_ 8 4))).2) else
    bif !isS (rd (frameS (rd root (IntKind.i64.wrap (bitsS at_ 12 4))).1) (IntKind.i64.wrap (bitsS at_ 8 4))).1 then (0,1) else
    bif !leafS (rd (frameS (rd root (IntKind.i64.wrap (bitsS at_ 12 4))).1) (IntKind.i64.wrap (bitsS at_ 8 4))).1 then (0,1) else
    ((rd (frameS (rd root (IntKind.i64.wrap (bitsS at_ 12 4))).1) (IntKind.i64.wrap (bitsS at_ 8 4))).1,0)) else
  bif bitsS (rd root (IntKind.i64.wrap (bitsS at_ 12 4))).1 8 4 !=0 then (0,1) else
  (setS (rd root (IntKind.i64.wrap (bitsS at_ 12 4))).1 8 4 (bitsS at_ 8 4),0)
def wrd (f:Nat→Int) (frame index:Int):Int × Int:=bif entryOk frame index then (entryV f frame index,0) else (0,2)
def walkS (f:Nat→Int) (root at_:Int):Int × Int:=thr (wrd f) root at_
def walkF {α:Type}:FF α:=fun args σ k=>match args with
  | [p,.int .i64 root,.int .u64 at_]=>withMem σ p fun _ _ _ _ f=>k (.tuple [.int .u64 (walkS f root at_).1,.int .i64 (walkS f root at_).2]) σ
  | _=>none
end Go.Sh
