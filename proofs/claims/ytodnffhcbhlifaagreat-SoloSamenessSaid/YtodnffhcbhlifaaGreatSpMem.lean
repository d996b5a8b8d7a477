/-
  What the functions of Mem come to, told without the program.
-/
import Derived.Test.YtodnffhcbhlifaaGreatSpWord
set_option linter.unusedSimpArgs false
set_option linter.unusedVariables false
namespace Go.Sh
open Go
set_option linter.unusedSimpArgs false
def orChain (g:Nat→Int):Int:=
  bitop .or .u64 (bitop .or .u64 (bitop .or .u64 (bitop .or .u64 (bitop .or .u64 (bitop .or .u64 (bitop .or .u64 (bitop .or .u64 0 (gshl .u64 (IntKind.u64.wrap (g 0)) 0)) (gshl .u64 (IntKind.u64.wrap (g 1)) 8)) (gshl .u64 (IntKind.u64.wrap (g 2)) 16)) (gshl .u64 (IntKind.u64.wrap (g 3)) 24)) (gshl .u64 (IntKind.u64.wrap (g 4)) 32)) (gshl .u64 (IntKind.u64.wrap (g 5)) 40)) (gshl .u64 (IntKind.u64.wrap (g 6)) 48)) (gshl .u64 (IntKind.u64.wrap (g 7)) 56)
def c8 (n:Int):Int:=pickmx false (pickmx true n 0) 8
theorem c8_eq (n:Int):c8 n=if n < 0 then 0 else if 8 < n then 8 else n:=by
  have h1:c8 n=if 8 < (if n < 0 then 0 else n) then 8 else (if n < 0 then 0 else n):=rfl
  rw [h1]
  by_cases h:n < 0<;>simp [h]
theorem c8_bd (n:Int):0≤c8 n∧c8 n≤8:=by rw [c8_eq]; (repeat' split)<;>omega
def getS (s:ByteArray) (n:Int):Int:=orChain (cpy (fun _=>0) (bytesAt (s.extract 0 s.size)) 0 (Nat.min (s.extract 0 s.size).size (c8 n).toNat))
def getF {α:Type}:FP α:=fun args k=>match args with
  | [.str s,.int .i64 at_,.int .i64 n]=>cond (decide (at_=0) && (decide (0 < s.size) && decide ((s.size:Int)≤9223372036854775807))) (k (.int .u64 (getS s n))) none
  | _=>none
def bytesS (v n:Int):ByteArray:=strOf (fun i=>IntKind.u8.wrap (gshr .u64 v (8 * (i:Int)))) (c8 n).toNat
def bytesF {α:Type}:FP α:=fun args k=>match args with
  | [.int .u64 v,.int .i64 n]=>k (.str (bytesS v n))
  | _=>none
theorem strOf_congr {f g:Nat→Int} {n:Nat} (h:∀i,i < n→f i=g i):strOf f n=strOf g n:=by
  unfold strOf; congr 1; apply List.map_congr_left; intro i hi; exact h i (List.mem_range.1 hi)
def checkS (at_ n:Int):Int:=if (n ≠ 1∧n ≠ 2∧n ≠ 4∧n ≠ 8)∨at_ % n ≠ 0 then 61 else if 32768≤at_ then 60 else 0
def checkF {α:Type}:FP α:=fun args k=>match args with
  | [.int .u64 at_,.int .i64 n]=>cond (decide (0≤at_)) (k (.int .i64 (checkS at_ n))) none
  | _=>none
theorem checkS_zero {at_ n:Int} (hc:checkS at_ n=0):(n=1∨n=2∨n=4∨n=8)∧at_ % n=0∧at_ < 32768:=by
  unfold checkS at hc
  split at hc
  · simp at hc
  · split at hc
    · simp at hc
    · omega
theorem check_facts {at_ n:Int} (h0:0≤at_) (hc:checkS at_ n=0):1≤n∧n≤8∧at_+ n≤32768∧IntKind.u64.wrap n=n∧IntKind.u64.wrap (at_+ IntKind.u64.wrap n)=at_+ n:=by
  obtain ⟨h1,h2,h3⟩:=checkS_zero hc
  have h4:1≤n∧n≤8∧at_+ n≤32768:=by rcases h1 with rfl | rfl | rfl | rfl<;>omega
  have e:IntKind.u64.wrap n=n:=wrap_u64 (by omega) (by omega)
  exact ⟨h4.1,h4.2.1,h4.2.2,e,by rw [e]; exact wrap_u64 (by omega) (by omega)⟩
def readS (f:Nat→Int) (at_ n:Int):Int:=if checkS at_ n=0 then getS (strOf (fun i=>f (at_.toNat+ i)) n.toNat) n else 0
def readF {α:Type}:FF α:=fun args σ k=>match args with
  | [p,.int .u64 at_,.int .i64 n]=>withMem σ p fun _ _ _ _ f=>cond (decide (0≤at_)) (k (.tuple [.int .u64 (readS f at_ n),.int .i64 (checkS at_ n)]) σ) none
  | _=>none
def writeS (f:Nat→Int) (at_ n v:Int):Nat→Int:=if checkS at_ n=0 then cpy f (bytesAt (bytesS v n)) at_.toNat n.toNat else f
def writeF {α:Type}:FF α:=fun args σ k=>match args with
  | [p,.int .u64 at_,.int .i64 n,.int .u64 v]=>withMem σ p fun b b1 g0 g1 f=>cond (decide (0≤at_)) (k (.int .i64 (checkS at_ n)) ⟨σ.next,[(b1,byO g1 (writeS f at_ n v))]++ σ.blocks⟩) none
  | _=>none
theorem bytesS_size (v n:Int):(bytesS v n).size=(c8 n).toNat:=strOf_size _ _
theorem c8_same {n:Int} (h0:1≤n) (h1:n≤8):c8 n=n:=by rw [c8_eq,if_neg (by omega),if_neg (by omega)]
def newF {α:Type}:FF α:=fun args σ k=>match args with
  | []=>k (.ptr (σ.next+ 1) []) ⟨σ.next+ 2,[(σ.next+ 1,memO σ.next none),(σ.next,byO none fun _=>0)]++ σ.blocks⟩
  | _=>none
end Go.Sh
