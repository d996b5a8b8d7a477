/-
  Two memories that are given the same words.
-/
import Derived.Test.YtemkfjnmaljmeaaGreatSpR12d
set_option linter.unusedSimpArgs false
set_option linter.unusedVariables false
namespace Go.Sh
open Go
def putW (M : Nat → Int) (fa fb : Nat → Int) : Nat → (Nat → Int)
  | 0 => M
  | n + 1 => writeS (putW M fa fb n) (fa n) 8 (fb n)
theorem putW_byte' {M fa fb : Nat → Int} (hM : ByteF M) : ∀ n, (∀ i, i < n → W64 (fb i)) → ByteF (putW M fa fb n)
  | 0, _ => hM
  | n + 1, hb => writeS_byte (putW_byte' hM n fun i hi => hb i (by omega)) _ _ (hb n (by omega))
def pA (f : Nat → Int × Int × Unit) (i : Nat) : Int := (f i).1
def pB (f : Nat → Int × Int × Unit) (i : Nat) : Int := (f i).2.1
def sRCodeB {α : Type} : Sg_z7 α := fun _ a n k => cond (decide (0 ≤ a) && decide (a < 18446744073709551616)) (k (checkS a n)) none
def sRWriteB {α : Type} : Sg_zk α := fun f a n v k => cond (decide (0 ≤ a) && (decide (0 ≤ v) && (decide (v < 18446744073709551616) && decide (checkS a n = 0)))) (k (writeS f a n v)) none
end Go.Sh
