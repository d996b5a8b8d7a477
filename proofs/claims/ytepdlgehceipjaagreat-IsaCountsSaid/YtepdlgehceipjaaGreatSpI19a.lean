/-
  isa.Clean and the document's Clean, plainly; the law IsaBegins.
-/
import Derived.Test.YtepdlgehceipjaaGreatSpS19
namespace Go.Sh
open Go
set_option linter.unusedVariables false
set_option linter.unusedSimpArgs false
def mI : Nat→Int:=fun i=>match i with
  | 0=>824641853866
  | 1=>15775231
  | 2=>544
  | 3=>1632
  | 4=>18446744073709551612
  | 5=>18446744073709551615
  | 6=>18446744073709551612
  | 7=>18446744073709551615
  | 8=>18446744073709551615
  | 9=>18446744073709551615
  | 10=>18446744073709551612
  | 11=>18446744073709551615
  | 12=>18446744073709551612
  | 13=>18446744073709551615
  | 14=>18446744073709551615
  | 15=>9223372036871487743
  | 16=>7340992
  | 17=>45567
  | 18=>1088
  | 19=>1088
  | 20=>18446744073709551615
  | 21=>9223372036871487743
  | 22=>786722
  | 23=>18446744073709551612
  | 24=>18446744073709551615
  | 25=>18446744073709551612
  | 26=>18446744073709551615
  | 27=>18446744073709551615
  | 28=>9223372036871487743
  | _=>0
abbrev tMpp (v:Int):Bool:=bitop .and .u64 (gshr .u64 v 11) 3==2
abbrev oz (m v:Int):Int:=bitop .or .u64 (bitop .andNot .u64 0 m) v
def setN (f:Nat→Int) (g:Nat→Int):Nat→(Nat→Int)
  | 0=>f
  | n+ 1=>upd (setN f g n) n (g n)
def gC (C:Nat→Int) (v0:Int):Nat→Int:=fun i=>match i with
  | 0=>oz (mI 0) v0
  | i+ 1=>oz (mI (i+ 1)) (bitop .and .u64 (C (i+ 1)) (mI (i+ 1)))
def cSt (s:GState) (l:Int) (v:Bool) (v0:Int):GState:=GState.mk (upd s.X 0 0) (bitop .andNot .u64 s.PC 3) l v (setN (fun _=>0) (gC s.C v0) 29) s.Done
def isaC (s:GState):GState:=cSt s (cond (s.Level !=0) (cond (s.Level !=1) 3 s.Level) s.Level) (cond (s.Level !=0) (cond (s.Level !=1) false s.V) s.V)
  (cond (tMpp (bitop .and .u64 (s.C 0) (mI 0))) (bitop .or .u64 (bitop .andNot .u64 (bitop .and .u64 (s.C 0) (mI 0)) 6144) 0) (bitop .and .u64 (s.C 0) (mI 0)))
set_option maxRecDepth 100000 in
theorem known19_eq {α:Type} (k:Bool→R α):s_law19_known k=k true:=by kernel_rfl
end Go.Sh
