/-
  What the functions of Pte come to, told without the program.
-/
import Derived.Test.YtodnffhcbhlifaaGreatSpMem
set_option linter.unusedSimpArgs false
set_option linter.unusedVariables false
namespace Go.Sh
open Go
set_option linter.unusedSimpArgs false
def hasS (b m:Int):Bool:=bitop .and .i64 b m==m
def whoS (b kind:Int) (user sum:Bool):Bool:=if user then hasS b 16 else (!hasS b 16 || (sum && kind !=0))
def mayS (b kind:Int) (user sum mxr:Bool):Bool:=
  hasS b 64 && (whoS b kind user sum && (decide (0≤kind) && (decide (kind≤2) && (if kind=0 then hasS b 8 else if kind=1 then (hasS b 2 || (mxr && hasS b 8)) else hasS b 132))))
def mayF {α:Type}:FP α:=fun args k=>match args with
  | [.int .i64 b,.int .i64 kind,.bool user,.bool sum,.bool mxr]=>k (.bool (mayS b kind user sum mxr))
  | _=>none
theorem upd3_0 {β:Type} (f:Nat→β) (a b c:β):upd (upd (upd f 0 a) 1 b) 2 c 0=a:=rfl
theorem upd3_1 {β:Type} (f:Nat→β) (a b c:β):upd (upd (upd f 0 a) 1 b) 2 c 1=b:=rfl
theorem upd3_2 {β:Type} (f:Nat→β) (a b c:β):upd (upd (upd f 0 a) 1 b) 2 c 2=c:=rfl
theorem kinds (kind:Int):kind < 0∨kind=0∨kind=1∨kind=2∨2 < kind:=by omega
def isS (e:Int):Bool:=(bitop .and .u64 e 1 !=0) && (((bitop .and .u64 e 4==0) || (bitop .and .u64 e 2 !=0)) && ((bitop .and .u64 e 32==0) && (gshr .u64 e 16==0)))
def isF {α:Type}:FP α:=fun args k=>match args with
  | [.int .u64 e]=>k (.bool (isS e))
  | _=>none
def leafS (e:Int):Bool:=isS e && (bitop .and .u64 e 10 !=0)
def leafF {α:Type}:FP α:=fun args k=>match args with
  | [.int .u64 e]=>k (.bool (leafS e))
  | _=>none
def frameS (e:Int):Int:=IntKind.i64.wrap (bitsS e 8 8)
def frameF {α:Type}:FP α:=fun args k=>match args with
  | [.int .u64 e]=>k (.int .i64 (frameS e))
  | _=>none
end Go.Sh
