/-
  What the functions of Word come to, told without the program.
-/
import Derived.Test.YtodnffhcbhlifaaGreatSkC
set_option linter.unusedSimpArgs false
set_option linter.unusedVariables false
namespace Go.Sh
open Go
set_option linter.unusedSimpArgs false
theorem u64w_1 : IntKind.u64.wrap 1=1:=rfl
theorem u64w_2 : IntKind.u64.wrap 2=2:=rfl
theorem u64w_4 : IntKind.u64.wrap 4=4:=rfl
theorem u64w_8 : IntKind.u64.wrap 8=8:=rfl
theorem strOf_size (f:Nat→Int) (n:Nat):(strOf f n).size=n:=by simp [strOf,strOfNums,ByteArray.size]
def clamp (b:Int):Int:=pickmx false (pickmx true b 1) 64
theorem clamp_eq (b:Int):clamp b=if b < 1 then 1 else if 64 < b then 64 else b:=by
  have h1:clamp b=if 64 < (if b < 1 then 1 else b) then 64 else (if b < 1 then 1 else b):=rfl
  rw [h1]
  by_cases h:b < 1<;>simp [h]
theorem clamp_bd (b:Int):1≤clamp b∧clamp b≤64:=by rw [clamp_eq]; (repeat' split)<;>omega
def maskS (b:Int):Int:=if 64≤b then 18446744073709551615 else IntKind.u64.wrap (gshl .u64 1 b - 1)
def maskF {α:Type}:FP α:=fun args k=>match args with
  | [.int .i64 b]=>cond (decide (b < 0)) none (k (.int .u64 (maskS b)))
  | _=>none
def zextS (v b:Int):Int:=bitop .and .u64 v (maskS (clamp b))
def zextF {α:Type}:FP α:=fun args k=>match args with
  | [.int .u64 v,.int .i64 b]=>k (.int .u64 (zextS v b))
  | _=>none
def loS (lo:Int):Int:=pickmx false (pickmx true lo 0) 63
def nS (lo n:Int):Int:=pickmx false (pickmx true n 0) (IntKind.i64.wrap (64 - loS lo))
theorem loS_eq (b:Int):loS b=if b < 0 then 0 else if 63 < b then 63 else b:=by
  have h1:loS b=if 63 < (if b < 0 then 0 else b) then 63 else (if b < 0 then 0 else b):=rfl
  rw [h1]
  by_cases h:b < 0<;>simp [h]
theorem loS_bd (b:Int):0≤loS b∧loS b≤63:=by rw [loS_eq]; (repeat' split)<;>omega
theorem nS_eq (lo n:Int):nS lo n=if 64 - loS lo < (if n < 0 then 0 else n) then 64 - loS lo else (if n < 0 then 0 else n):=by
  have hb:=loS_bd lo
  have e:IntKind.i64.wrap (64 - loS lo)=64 - loS lo:=wrap_i64 (by omega) (by omega)
  have h1:nS lo n=if IntKind.i64.wrap (64 - loS lo) < (if n < 0 then 0 else n) then IntKind.i64.wrap (64 - loS lo) else (if n < 0 then 0 else n):=rfl
  rw [h1,e]
theorem nS_bd (lo n:Int):0≤nS lo n∧nS lo n≤64:=by have:=loS_bd lo; rw [nS_eq]; (repeat' split)<;>omega
def partF {α:Type}:FP α:=fun args k=>match args with
  | [.int .i64 lo,.int .i64 n]=>k (.tuple [.int .i64 (loS lo),.int .i64 (nS lo n)])
  | _=>none
def bitsS (v lo n:Int):Int:=bitop .and .u64 (gshr .u64 v (loS lo)) (maskS (nS lo n))
def bitsF {α:Type}:FP α:=fun args k=>match args with
  | [.int .u64 v,.int .i64 lo,.int .i64 n]=>k (.int .u64 (bitsS v lo n))
  | _=>none
def setS (v lo n x:Int):Int:=bitop .or .u64 (bitop .andNot .u64 v (gshl .u64 (maskS (nS lo n)) (loS lo))) (gshl .u64 (bitop .and .u64 x (maskS (nS lo n))) (loS lo))
def setF {α:Type}:FP α:=fun args k=>match args with
  | [.int .u64 v,.int .i64 lo,.int .i64 n,.int .u64 x]=>k (.int .u64 (setS v lo n x))
  | _=>none
def bitS (c:Nat→Int) (i:Int) (b:Int):Bool:=bitsS (c i.toNat) b 1==1
def bitF {α:Type}:FP α:=fun args k=>match args with
  | [.agg [.ints .u64 32 _,.int .u64 _,.int .i64 _,.bool _,.ints .u64 29 c,.int .u64 _],.int .i64 i,.int .i64 b]=>cond (decide (0≤i) && decide (i < 29)) (k (.bool (bitS c i b))) none
  | _=>none
end Go.Sh
