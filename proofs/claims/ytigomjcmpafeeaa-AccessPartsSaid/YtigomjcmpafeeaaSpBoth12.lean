/-
  Two memories that are given the same words.
-/
import Derived.Test.YtigomjcmpafeeaaSpR12d
set_option linter.unusedSimpArgs false
set_option linter.unusedVariables false
namespace Go.Sh
open Go

abbrev DPut : TD := .st [.int .u64, .int .u64]
/-- Memory behind some words. -/
def putW (M : Nat → Int) (fa fb : Nat → Int) : Nat → (Nat → Int)
  | 0 => M
  | n + 1 => writeS (putW M fa fb n) (fa n) 8 (fb n)
theorem putW_byte {M fa fb : Nat → Int} (hM : ByteF M) (hb : ∀ i, W64 (fb i)) : ∀ n, ByteF (putW M fa fb n)
  | 0 => hM
  | n + 1 => writeS_byte (putW_byte hM hb n) _ _ (hb n)
theorem putW_byte' {M fa fb : Nat → Int} (hM : ByteF M) : ∀ n, (∀ i, i < n → W64 (fb i)) → ByteF (putW M fa fb n)
  | 0, _ => hM
  | n + 1, hb => writeS_byte (putW_byte' hM n fun i hi => hb i (by omega)) _ _ (hb n (by omega))
def pA (f : Nat → Int × Int × Unit) (i : Nat) : Int := (f i).1
def pB (f : Nat → Int × Int × Unit) (i : Nat) : Int := (f i).2.1
def sRCodeB {α : Type} : Sg_ref1_Mem_Code α := fun _ a n k => cond (decide (0 ≤ a) && decide (a < 18446744073709551616)) (k (checkS a n)) none
def sRWriteB {α : Type} : Sg_ref1_Mem_Write α := fun f a n v k => cond (decide (0 ≤ a) && (decide (0 ≤ v) && (decide (v < 18446744073709551616) && decide (checkS a n = 0)))) (k (writeS f a n v)) none
/-- The loop that gives the words. -/
def bothLL {α : Type} : LF α := fun env σ k => match getE env 6, getE env 0, getE env 4, getE env 5 with
  | some (.int .i64 i), some (.vslc (.st [.int .u64, .int .u64]) nl a len cap f), some p, some q => withMem σ p fun b b1 _ g1 M => withMem σ q fun c c1 _ g3 G =>
    bif ((i == 0) && leB (len : Int) 60) && ((Nat.beq b 1 && Nat.beq b1 0) && (Nat.beq c 3 && Nat.beq c1 2)) then
      cond (allB (fun i => decide (0 ≤ pA f i) && (decide (pA f i < 18446744073709551616) && (decide (0 ≤ pB f i) && decide (pB f i < 18446744073709551616)))) (List.range len))
      (k (.exit 0) [(6, .int .i64 len), (0, .vslc (.st [.int .u64, .int .u64]) nl a len cap f), (4, .ptr 1 []), (5, .ptr 3 [])] ⟨σ.next, [(0, byO g1 (putW M (pA f) (pB f) len)), (2, byO g3 (putW G (pA f) (pB f) len))] ++ σ.blocks⟩) none else none
  | _, _, _, _ => none
end Go.Sh
