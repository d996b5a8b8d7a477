/-
  What the functions of Own come to, told without the program.
-/
import Derived.Test.YtigomjcmpafeeaaSpTwo
import Derived.Test.YtigomjcmpafeeaaSpOwnLaw
set_option linter.unusedSimpArgs false
set_option linter.unusedVariables false
namespace Go.Sh
open Go
set_option linter.unusedSimpArgs false
def rmakeF {α : Type} : FP α := fun args k => match args with
  | [.int .i64 frame, .int .i64 b] => k (.int .u64 (rmakeS frame b))
  | _ => none
def ownE (f : Nat → Int) (j : Nat) : Int := rmakeS (IntKind.i64.wrap ((f j).tmod 128)) 223
/-- The loop: a word for each frame. -/
def ownL {α : Type} : LF α := fun env σ k => match getE env 10, getE env 0, getE env 9, getE env 1, getE env 2, getE env 3 with
  | some (.int .i64 i), some (.vslc (.int .u8) nl a len cap f), some p, some v1, some v2, some v3 => withMem σ p fun b b1 g0 g1 M =>
    bif ((i == 0) && leB (len : Int) 16) && (Nat.beq b 1 && Nat.beq b1 0) then k (.exit 0) [(10, .int .i64 len), (0, .vslc (.int .u8) nl a len cap f), (9, .ptr 1 []), (1, v1), (2, v2), (3, v3)] ⟨σ.next, [(0, byO g1 (putsM M (ownE f) len))] ++ σ.blocks⟩ else none
  | _, _, _, _, _, _ => none
def bytesTo (f : Nat → Int) (n : Nat) : Prop := ∀ i, i < n → 0 ≤ f i ∧ f i < 256
open Classical in
/-- The law's function answers true. -/
noncomputable def twoOwnF {α : Type} : FP α := fun args k => match args with
  | [.vslc (.int .u8) _ _ len _ f, .int .u64 at_, .int .u8 kind, .bool _] => if W64 at_ ∧ 0 ≤ kind ∧ bytesTo f len then k (.bool true) else none
  | _ => none
theorem ownE_eq {f : Nat → Int} {i : Nat} (h0 : 0 ≤ f i) (h1 : f i < 256) : ownE f i = (f i % 128) * 256 + 223 := by
  unfold ownE
  rw [Int.tmod_eq_emod_of_nonneg h0, wrap_i64 (by omega) (by omega)]
  exact rmakeS_eq (by omega) (by omega) (by omega) (by omega)
theorem own_ask0 : askS (upd (fun _ => 0) (Int.toNat 21) 9223372036855103489) 0 true = ownA := by kernel_rfl
theorem own_ask1 : askS (upd (fun _ => 0) (Int.toNat 21) 9223372036855103489) 1 true = ownA := by kernel_rfl
end Go.Sh
