/-
  A part of the proof: ShD.
-/
import Derived.Test.YtcoicmgdjkabaaaShC
import Derived.Test.YtcoicmgdjkabaaaSh12
namespace Go.Proofs.Ytcoicmgdjkabaaa
open Go Go.Sh Go.Proofs

def O8 {α : Type} : ORC α := (11, .pure doF) :: (12, .pure rdoF) :: (13, .pure takF) :: (14, .pure takF) :: (15, .pure csrF) :: (16, .pure csrF) :: (17, .pure extF) :: (18, .pure rextF) :: (19, .pure halfF) :: []
theorem O8_ok {α : Type} {I : Imm} : OOk (α := α) Try.prog I O8 := .cons c11 (.cons c12 (.cons c13 (.cons c14 (.cons c15 (.cons c16 (.cons c17 (.cons c18 (.cons c19 .nil))))))))
def knownF {α : Type} : FP α := fun args _ k => match args with
  | [] => k (.bool true)
  | _ => none
def endsT (x : R Ans) : Bool := match x with | some (.bool true, _) => true | _ => false
theorem endsT_spec {x : R Ans} (h : endsT x = true) : EndsV x (.bool true) := by
  unfold endsT at h; split at h
  · exact ⟨_, rfl⟩
  · cases h
theorem known_run : endsT (bodyK te O8 1 Try.f10 [] emp ans) = true := by kernel_rfl
set_option maxRecDepth 100000 in
theorem c10 {α : Type} {I : Imm} : OrcOk (α := α) Try.prog I 10 (.pure knownF) := by
  refine orc_plain te_ok O8_ok 1 Try.func10 (by kernel_rfl) (by kernel_rfl) ?_
  intro args h k r hk
  unfold knownF at hk
  split at hk <;> try (simp at hk; done)
  refine ⟨_, hk, by simp [Wf], by simp [Wf], ?_⟩
  clear hk
  exact endsT_spec known_run

def O9 {α : Type} : ORC α := (10, .pure knownF) :: O8
theorem O9_ok {α : Type} {I : Imm} : OOk (α := α) Try.prog I O9 := .cons c10 O8_ok
end Go.Proofs.Ytcoicmgdjkabaaa
