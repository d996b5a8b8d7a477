/-
  Frames for contracts over memory: laying the given blocks, telling what is left; a memory of bytes behind a pointer.
-/
import Derived.Test.YtigomjcmpafeeaaSk22
set_option linter.unusedSimpArgs false
set_option linter.unusedVariables false
namespace Go.Sh
open Go

section
variable {α : Type} {P : Program} {I : Imm}

def AllL {β : Type} (p : β → Prop) : List β → Prop
  | [] => True
  | x :: l => p x ∧ AllL p l
theorem allL_iff {β : Type} {p : β → Prop} : ∀ {l : List β}, AllL p l ↔ ∀ x ∈ l, p x
  | [] => by simp [AllL]
  | x :: l => by simp [AllL, allL_iff (l := l)]

theorem lay_mk {rl : List Nat} {os : List SObj} {args0 args : List SV} {σ : Heap} (h1 : rl.length = os.length) (h2 : rl.Nodup) (h3 : args0.map (ren (rnm rl 0 [])) = args)
    (h4 : AllL (fun y => σ.get (rnm rl 0 [] y.1) = some (renO (rnm rl 0 []) y.2)) (enumO 0 os)) (h5 : AllL (Ids (fun i => i < os.length)) args0) (h6 : AllL (OIds (fun i => i < os.length)) os) : Lay rl os args0 args σ :=
  ⟨h1, h2, h3, allL_iff.1 h4, allL_iff.1 h5, allL_iff.1 h6⟩

def Told (σ1 : Heap) (y : Nat × SObj) : Prop := match y.2 with
  | .dead => True
  | o => σ1.get y.1 = some o
def KeptO (bl : List (Nat × SObj)) (σ1 : Heap) (y : Nat × SObj) : Prop := inK y.1 bl = true ∨ σ1.get y.1 = some y.2

/-- A run ends so: the value, what is told of the blocks; no new block is told. -/
def EndsK (x : R Ans) (v : SV) (bl : List (Nat × SObj)) (os : List SObj) : Prop :=
  ∃ v0 σ1, x = some (v0, σ1) ∧ v0 = v ∧ AllL (Told σ1) bl ∧ AllL (KeptO bl σ1) (enumO 0 os)

theorem told_of {σ1 : Heap} {y : Nat × SObj} (h : Told σ1 y) (o : SObj) (ho : y.2.live = some o) : σ1.get y.1 = some o := by
  obtain ⟨i, ob⟩ := y
  cases ob with
  | cells g v => simp only [SObj.live, Option.some.injEq] at ho; subst ho; exact h
  | map es => simp only [SObj.live, Option.some.injEq] at ho; subst ho; exact h
  | dead => cases ho

theorem ends_keep {x : R Ans} {v : SV} {rl : List Nat} {os : List SObj} {σ : Heap} {k : SV → Heap → R α} {r : α} {bl : List (Nat × SObj)} (h : EndsK x v bl os) (hv : Ids (fun i => i < os.length) v) (hb : AllL (fun y => y.1 < os.length ∧ OIds (fun i => i < os.length) y.2) bl)
    (hk : k (ren (rnm rl σ.next []) v) ⟨σ.next, (bl.map fun x => (rnm rl σ.next [] x.1, renO (rnm rl σ.next []) x.2)) ++ σ.blocks⟩ = some r) :
    Ends x fun v0 σ1 => ∃ nw bl, Pub rl os σ v0 σ1 nw bl ∧ k (ren (rnm rl σ.next nw) v0) ⟨σ.next + nw.length, (bl.map fun x => (rnm rl σ.next nw x.1, renO (rnm rl σ.next nw) x.2)) ++ σ.blocks⟩ = some r := by
  obtain ⟨v0, σ1, rfl, rfl, h1, h2⟩ := h
  refine ⟨_, _, rfl, [], bl, ⟨by simp, by simp, hv.mono fun _ h => .inl h, fun y hy => ?_, fun y hy => told_of (allL_iff.1 h1 y hy), allL_iff.1 h2⟩, hk⟩
  obtain ⟨h3, h4⟩ := allL_iff.1 hb y hy
  exact ⟨.inl h3, h4.mono fun _ h => .inl h⟩

/-- .. with new blocks nw. -/
def EndsN (x : R Ans) (v : SV) (nw : List Nat) (bl : List (Nat × SObj)) (os : List SObj) : Prop :=
  ∃ v0 σ1, x = some (v0, σ1) ∧ v0 = v ∧ AllL (fun i => os.length ≤ i ∧ i < σ1.next) nw ∧ AllL (Told σ1) bl ∧ AllL (KeptO bl σ1) (enumO 0 os)
theorem ends_new {x : R Ans} {v : SV} {rl nw : List Nat} {os : List SObj} {σ : Heap} {k : SV → Heap → R α} {r : α} {bl : List (Nat × SObj)} (h : EndsN x v nw bl os) (hn : nw.Nodup) (hv : Ids (fun i => i < os.length ∨ i ∈ nw) v) (hb : AllL (fun y => (y.1 < os.length ∨ y.1 ∈ nw) ∧ OIds (fun i => i < os.length ∨ i ∈ nw) y.2) bl)
    (hk : k (ren (rnm rl σ.next nw) v) ⟨σ.next + nw.length, (bl.map fun x => (rnm rl σ.next nw x.1, renO (rnm rl σ.next nw) x.2)) ++ σ.blocks⟩ = some r) :
    Ends x fun v0 σ1 => ∃ nw bl, Pub rl os σ v0 σ1 nw bl ∧ k (ren (rnm rl σ.next nw) v0) ⟨σ.next + nw.length, (bl.map fun x => (rnm rl σ.next nw x.1, renO (rnm rl σ.next nw) x.2)) ++ σ.blocks⟩ = some r := by
  obtain ⟨v0, σ1, rfl, rfl, h0, h1, h2⟩ := h
  exact ⟨_, _, rfl, nw, bl, ⟨hn, allL_iff.1 h0, hv, allL_iff.1 hb, fun y hy => told_of (allL_iff.1 h1 y hy), allL_iff.1 h2⟩, hk⟩

/-! ### A memory behind a pointer: a struct that holds a row of 32768 bytes alone -/
abbrev memO (b1 : Nat) (g0 : Option Nat) : SObj := .cells g0 (.agg [.slc b1 [] 1 0 32768 (some 32768)])
abbrev byO (g1 : Option Nat) (f : Nat → Int) : SObj := .cells g1 (.ints .u8 32768 f)
def withMem (σ : Heap) (p : SV) (k : Nat → Nat → Option Nat → Option Nat → (Nat → Int) → R α) : R α :=
  match p with
  | .ptr b [] => match σ.get b with
    | some (.cells g0 (.agg [.slc b1 [] sz off len (some cap)])) => bif (Nat.beq sz 1 && Nat.beq off 0) && (Nat.beq len 32768 && Nat.beq cap 32768) then match σ.get b1 with
      | some (.cells g1 (.ints .u8 m f)) => bif Nat.beq m 32768 && !Nat.beq b b1 then k b b1 g0 g1 f else none
      | _ => none else none
    | _ => none
  | _ => none
theorem withMem_spec {σ : Heap} {p : SV} {k : Nat → Nat → Option Nat → Option Nat → (Nat → Int) → R α} {r : α} (h : withMem σ p k = some r) :
    ∃ b b1 g0 g1 f, p = .ptr b [] ∧ σ.get b = some (memO b1 g0) ∧ σ.get b1 = some (byO g1 f) ∧ b ≠ b1 ∧ k b b1 g0 g1 f = some r := by
  unfold withMem at h
  split at h <;> try (simp at h; done)
  rename_i b
  split at h <;> try (simp at h; done)
  rename_i g0 b1 sz off len cap h0
  obtain ⟨h1, h2⟩ := bif_some h
  split at h2 <;> try (simp at h2; done)
  rename_i g1 m f h3
  obtain ⟨h4, h5⟩ := bif_some h2
  simp only [Bool.and_eq_true, Nat.beq_eq, Bool.not_eq_true'] at h1 h4
  obtain ⟨⟨rfl, rfl⟩, rfl, rfl⟩ := h1
  obtain ⟨rfl, h4⟩ := h4
  exact ⟨b, b1, g0, g1, f, rfl, h0, h3, fun e => by subst e; simp at h4, h5⟩
theorem nodup2 {a b : Nat} (h : a ≠ b) : [a, b].Nodup := by simp [h]
end
end Go.Sh
